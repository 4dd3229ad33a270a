/- Types of this seat as kinds. -/
import Derived.Test.YtkojnaebkgekaaaBase
set_option linter.unusedVariables false
set_option linter.unusedSimpArgs false
namespace Go.Proofs.Ytkojnaebkgekaaa
open Go.RowKit Go.Proofs.YtkojnaebkgekaaaW.PrintWords
/-! #### struct type 25 -/
structure Verdict where
  f0 : Int
  f1 : Int
def zVerdict : Verdict := ⟨(0 : Int), (0 : Int)⟩
def kVerdict : Kd Verdict := Kd.iso (Kd.pair (Kd.int .i64) (Kd.int .u64)) (fun x : Verdict => (x.f0, x.f1))
theorem kVerdict_open {w : World} {x : Verdict} {cs : List Value} (h : kVerdict.K w x cs) : cs = [.int .i64 x.f0, .int .u64 x.f1] := by
  obtain ⟨_, _, rfl, rfl, rfl⟩ := h
  exact rfl
theorem kVerdict_openM {w : World} {base : Nat} {ok : Nat → Prop} {x : Verdict} {cs : List Value} (h : kVerdict.M w base ok x cs) : cs = [.int .i64 x.f0, .int .u64 x.f1] := by
  obtain ⟨_, _, rfl, rfl, rfl⟩ := h
  exact rfl
theorem kVerdict_mk (w : World) (x : Verdict)  : kVerdict.K w x [.int .i64 x.f0, .int .u64 x.f1] := ⟨[.int .i64 x.f0], [.int .u64 x.f1], rfl, rfl, rfl⟩
theorem kVerdict_mkM (w : World) (base : Nat) (ok : Nat → Prop) (x : Verdict)  : kVerdict.M w base ok x [.int .i64 x.f0, .int .u64 x.f1] := ⟨[.int .i64 x.f0], [.int .u64 x.f1], rfl, rfl, rfl⟩


/-! #### struct type 63 -/
structure Call where
  f0 : ByteArray
  f1 : Int
def zCall : Call := ⟨(⟨#[]⟩ : ByteArray), (0 : Int)⟩
def kCall : Kd Call := Kd.iso (Kd.pair Kd.string (Kd.int .u64)) (fun x : Call => (x.f0, x.f1))
theorem kCall_open {w : World} {x : Call} {cs : List Value} (h : kCall.K w x cs) : cs = [.string x.f0, .int .u64 x.f1] := by
  obtain ⟨_, _, rfl, rfl, rfl⟩ := h
  exact rfl
theorem kCall_openM {w : World} {base : Nat} {ok : Nat → Prop} {x : Call} {cs : List Value} (h : kCall.M w base ok x cs) : cs = [.string x.f0, .int .u64 x.f1] := by
  obtain ⟨_, _, rfl, rfl, rfl⟩ := h
  exact rfl
theorem kCall_mk (w : World) (x : Call)  : kCall.K w x [.string x.f0, .int .u64 x.f1] := ⟨[.string x.f0], [.int .u64 x.f1], rfl, rfl, rfl⟩
theorem kCall_mkM (w : World) (base : Nat) (ok : Nat → Prop) (x : Call)  : kCall.M w base ok x [.string x.f0, .int .u64 x.f1] := ⟨[.string x.f0], [.int .u64 x.f1], rfl, rfl, rfl⟩




/-! #### struct type 44, nested in itself -/
structure Expr where
  f0 : Int
  f1 : (List Expr)
  f2 : Int
  f3 : Int
  f4 : Int
  f5 : Int
def zExpr : Expr := ⟨(0 : Int), ([] : List Expr), (0 : Int), (0 : Int), (0 : Int), (0 : Int)⟩
def FExpr (d : Kd Expr) : Kd Expr := Kd.iso (Kd.pair (Kd.int .i64) (Kd.pair (Kd.slice 44 d) (Kd.pair (Kd.int .i64) (Kd.pair (Kd.int .u64) (Kd.pair (Kd.int .i64) (Kd.int .u64)))))) (fun x : Expr => (x.f0, x.f1, x.f2, x.f3, x.f4, x.f5))
theorem monoExpr : Kd.Mono FExpr := Kd.mono_iso _ (Kd.mono_pair (Kd.mono_const _) (Kd.mono_pair (Kd.mono_slice 44 Kd.mono_id) (Kd.mono_pair (Kd.mono_const _) (Kd.mono_pair (Kd.mono_const _) (Kd.mono_pair (Kd.mono_const _) (Kd.mono_const _))))))
theorem subExpr : Kd.Sub FExpr [44] := Kd.sub_iso _ (Kd.sub_pair (Kd.sub_const _ (by decide)) (Kd.sub_pair (Kd.sub_slice 44 (by decide) Kd.sub_id) (Kd.sub_pair (Kd.sub_const _ (by decide)) (Kd.sub_pair (Kd.sub_const _ (by decide)) (Kd.sub_pair (Kd.sub_const _ (by decide)) (Kd.sub_const _ (by decide)))))))
theorem szExpr : ∀ n, (Kd.upto FExpr 6 [44] n).sz = 6 := Kd.upto_sz (fun _ => rfl)
def kExpr : Kd Expr := Kd.fix FExpr 6 [44] szExpr (Kd.upto_E subExpr)
theorem kExpr_open {w : World} {x : Expr} {cs : List Value} (h : kExpr.K w x cs) : ∃ A1 c1, cs = [.int .i64 x.f0, .slice A1 x.f1.length c1, .int .i64 x.f2, .int .u64 x.f3, .int .i64 x.f4, .int .u64 x.f5] ∧ x.f1.length ≤ c1 ∧ kExpr.C w A1 x.f1.length x.f1 := by
  obtain ⟨n, h⟩ := h
  cases n with
  | zero => exact h.elim
  | succ n =>
    obtain ⟨_, _, rfl, rfl, ⟨_, _, rfl, ⟨A1, c1, rfl, l1, g1⟩, ⟨_, _, rfl, rfl, ⟨_, _, rfl, rfl, ⟨_, _, rfl, rfl, rfl⟩⟩⟩⟩⟩ := h
    exact ⟨A1, c1, rfl, l1, Kd.fix_C g1⟩
theorem kExpr_openM {w : World} {base : Nat} {ok : Nat → Prop} {x : Expr} {cs : List Value} (h : kExpr.M w base ok x cs) : ∃ v1, cs = [.int .i64 x.f0, v1, .int .i64 x.f2, .int .u64 x.f3, .int .i64 x.f4, .int .u64 x.f5] ∧ kExpr.R 44 w base ok v1 x.f1 := by
  obtain ⟨n, h⟩ := h
  cases n with
  | zero => exact h.elim
  | succ n =>
    obtain ⟨_, _, rfl, rfl, ⟨_, _, rfl, ⟨v1, rfl, g1⟩, ⟨_, _, rfl, rfl, ⟨_, _, rfl, rfl, ⟨_, _, rfl, rfl, rfl⟩⟩⟩⟩⟩ := h
    exact ⟨v1, rfl, Kd.fix_R g1⟩
theorem kExpr_mk (w : World) (x : Expr) {A1 : Option Addr} {c1 : Nat} (l1 : x.f1.length ≤ c1) (g1 : kExpr.C w A1 x.f1.length x.f1) : kExpr.K w x [.int .i64 x.f0, .slice A1 x.f1.length c1, .int .i64 x.f2, .int .u64 x.f3, .int .i64 x.f4, .int .u64 x.f5] := by
  obtain ⟨n1, q1⟩ := Kd.fix_C_back monoExpr g1
  have r1 := Kd.upto_C_le monoExpr szExpr (show n1 ≤ n1 by omega) q1
  exact ⟨n1 + 1, ⟨[.int .i64 x.f0], [.slice A1 x.f1.length c1, .int .i64 x.f2, .int .u64 x.f3, .int .i64 x.f4, .int .u64 x.f5], rfl, rfl, ⟨[.slice A1 x.f1.length c1], [.int .i64 x.f2, .int .u64 x.f3, .int .i64 x.f4, .int .u64 x.f5], rfl, ⟨A1, c1, rfl, l1, r1⟩, ⟨[.int .i64 x.f2], [.int .u64 x.f3, .int .i64 x.f4, .int .u64 x.f5], rfl, rfl, ⟨[.int .u64 x.f3], [.int .i64 x.f4, .int .u64 x.f5], rfl, rfl, ⟨[.int .i64 x.f4], [.int .u64 x.f5], rfl, rfl, rfl⟩⟩⟩⟩⟩⟩
theorem kExpr_mkM (w : World) (base : Nat) (ok : Nat → Prop) (x : Expr) {v1 : Value} (g1 : kExpr.R 44 w base ok v1 x.f1) : kExpr.M w base ok x [.int .i64 x.f0, v1, .int .i64 x.f2, .int .u64 x.f3, .int .i64 x.f4, .int .u64 x.f5] := by
  obtain ⟨n1, q1⟩ := Kd.fix_R_back monoExpr g1
  have r1 := Kd.upto_R_le monoExpr szExpr (show n1 ≤ n1 by omega) q1
  exact ⟨n1 + 1, ⟨[.int .i64 x.f0], [v1, .int .i64 x.f2, .int .u64 x.f3, .int .i64 x.f4, .int .u64 x.f5], rfl, rfl, ⟨[v1], [.int .i64 x.f2, .int .u64 x.f3, .int .i64 x.f4, .int .u64 x.f5], rfl, ⟨v1, rfl, r1⟩, ⟨[.int .i64 x.f2], [.int .u64 x.f3, .int .i64 x.f4, .int .u64 x.f5], rfl, rfl, ⟨[.int .u64 x.f3], [.int .i64 x.f4, .int .u64 x.f5], rfl, rfl, ⟨[.int .i64 x.f4], [.int .u64 x.f5], rfl, rfl, rfl⟩⟩⟩⟩⟩⟩


/-! #### struct type 46 -/
structure Rule where
  f0 : (List Call)
  f1 : Expr
  f2 : Verdict
def zRule : Rule := ⟨([] : List Call), zExpr, zVerdict⟩
def kRule : Kd Rule := Kd.iso (Kd.pair (Kd.slice 63 kCall) (Kd.pair kExpr kVerdict)) (fun x : Rule => (x.f0, x.f1, x.f2))
theorem kRule_open {w : World} {x : Rule} {cs : List Value} (h : kRule.K w x cs) : ∃ A0 c0 A2 c2, cs = [.slice A0 x.f0.length c0, .int .i64 x.f1.f0, .slice A2 x.f1.f1.length c2, .int .i64 x.f1.f2, .int .u64 x.f1.f3, .int .i64 x.f1.f4, .int .u64 x.f1.f5, .int .i64 x.f2.f0, .int .u64 x.f2.f1] ∧ x.f0.length ≤ c0 ∧ kCall.C w A0 x.f0.length x.f0 ∧ x.f1.f1.length ≤ c2 ∧ kExpr.C w A2 x.f1.f1.length x.f1.f1 := by
  obtain ⟨_, _, rfl, ⟨A0, c0, rfl, l0, g0⟩, ⟨_, _, rfl, s1, s7⟩⟩ := h
  obtain ⟨A2, c2, rfl, l2, g2⟩ := kExpr_open s1
  obtain rfl := kVerdict_open s7
  exact ⟨A0, c0, A2, c2, rfl, l0, g0, l2, g2⟩
theorem kRule_openM {w : World} {base : Nat} {ok : Nat → Prop} {x : Rule} {cs : List Value} (h : kRule.M w base ok x cs) : ∃ v0 v2, cs = [v0, .int .i64 x.f1.f0, v2, .int .i64 x.f1.f2, .int .u64 x.f1.f3, .int .i64 x.f1.f4, .int .u64 x.f1.f5, .int .i64 x.f2.f0, .int .u64 x.f2.f1] ∧ kCall.R 63 w base ok v0 x.f0 ∧ kExpr.R 44 w base ok v2 x.f1.f1 := by
  obtain ⟨_, _, rfl, ⟨v0, rfl, g0⟩, ⟨_, _, rfl, s1, s7⟩⟩ := h
  obtain ⟨v2, rfl, g2⟩ := kExpr_openM s1
  obtain rfl := kVerdict_openM s7
  exact ⟨v0, v2, rfl, g0, g2⟩
theorem kRule_mk (w : World) (x : Rule) {A0 : Option Addr} {c0 : Nat} (l0 : x.f0.length ≤ c0) (g0 : kCall.C w A0 x.f0.length x.f0) {A2 : Option Addr} {c2 : Nat} (l2 : x.f1.f1.length ≤ c2) (g2 : kExpr.C w A2 x.f1.f1.length x.f1.f1) : kRule.K w x [.slice A0 x.f0.length c0, .int .i64 x.f1.f0, .slice A2 x.f1.f1.length c2, .int .i64 x.f1.f2, .int .u64 x.f1.f3, .int .i64 x.f1.f4, .int .u64 x.f1.f5, .int .i64 x.f2.f0, .int .u64 x.f2.f1] := ⟨[.slice A0 x.f0.length c0], [.int .i64 x.f1.f0, .slice A2 x.f1.f1.length c2, .int .i64 x.f1.f2, .int .u64 x.f1.f3, .int .i64 x.f1.f4, .int .u64 x.f1.f5, .int .i64 x.f2.f0, .int .u64 x.f2.f1], rfl, ⟨A0, c0, rfl, l0, g0⟩, ⟨[.int .i64 x.f1.f0, .slice A2 x.f1.f1.length c2, .int .i64 x.f1.f2, .int .u64 x.f1.f3, .int .i64 x.f1.f4, .int .u64 x.f1.f5], [.int .i64 x.f2.f0, .int .u64 x.f2.f1], rfl, (kExpr_mk w x.f1 l2 g2), (kVerdict_mk w x.f2 )⟩⟩
theorem kRule_mkM (w : World) (base : Nat) (ok : Nat → Prop) (x : Rule) {v0 : Value} (g0 : kCall.R 63 w base ok v0 x.f0) {v2 : Value} (g2 : kExpr.R 44 w base ok v2 x.f1.f1) : kRule.M w base ok x [v0, .int .i64 x.f1.f0, v2, .int .i64 x.f1.f2, .int .u64 x.f1.f3, .int .i64 x.f1.f4, .int .u64 x.f1.f5, .int .i64 x.f2.f0, .int .u64 x.f2.f1] := ⟨[v0], [.int .i64 x.f1.f0, v2, .int .i64 x.f1.f2, .int .u64 x.f1.f3, .int .i64 x.f1.f4, .int .u64 x.f1.f5, .int .i64 x.f2.f0, .int .u64 x.f2.f1], rfl, ⟨v0, rfl, g0⟩, ⟨[.int .i64 x.f1.f0, v2, .int .i64 x.f1.f2, .int .u64 x.f1.f3, .int .i64 x.f1.f4, .int .u64 x.f1.f5], [.int .i64 x.f2.f0, .int .u64 x.f2.f1], rfl, (kExpr_mkM w base ok x.f1 g2), (kVerdict_mkM w base ok x.f2 )⟩⟩




/-! #### struct type 28 -/
structure Policy where
  f0 : ByteArray
  f1 : Verdict
  f2 : Verdict
  f3 : (List Rule)
def zPolicy : Policy := ⟨(⟨#[]⟩ : ByteArray), zVerdict, zVerdict, ([] : List Rule)⟩
def kPolicy : Kd Policy := Kd.iso (Kd.pair Kd.string (Kd.pair kVerdict (Kd.pair kVerdict (Kd.slice 46 kRule)))) (fun x : Policy => (x.f0, x.f1, x.f2, x.f3))
theorem kPolicy_open {w : World} {x : Policy} {cs : List Value} (h : kPolicy.K w x cs) : ∃ A5 c5, cs = [.string x.f0, .int .i64 x.f1.f0, .int .u64 x.f1.f1, .int .i64 x.f2.f0, .int .u64 x.f2.f1, .slice A5 x.f3.length c5] ∧ x.f3.length ≤ c5 ∧ kRule.C w A5 x.f3.length x.f3 := by
  obtain ⟨_, _, rfl, rfl, ⟨_, _, rfl, s1, ⟨_, _, rfl, s3, ⟨A5, c5, rfl, l5, g5⟩⟩⟩⟩ := h
  obtain rfl := kVerdict_open s1
  obtain rfl := kVerdict_open s3
  exact ⟨A5, c5, rfl, l5, g5⟩
theorem kPolicy_openM {w : World} {base : Nat} {ok : Nat → Prop} {x : Policy} {cs : List Value} (h : kPolicy.M w base ok x cs) : ∃ v5, cs = [.string x.f0, .int .i64 x.f1.f0, .int .u64 x.f1.f1, .int .i64 x.f2.f0, .int .u64 x.f2.f1, v5] ∧ kRule.R 46 w base ok v5 x.f3 := by
  obtain ⟨_, _, rfl, rfl, ⟨_, _, rfl, s1, ⟨_, _, rfl, s3, ⟨v5, rfl, g5⟩⟩⟩⟩ := h
  obtain rfl := kVerdict_openM s1
  obtain rfl := kVerdict_openM s3
  exact ⟨v5, rfl, g5⟩
theorem kPolicy_mk (w : World) (x : Policy) {A5 : Option Addr} {c5 : Nat} (l5 : x.f3.length ≤ c5) (g5 : kRule.C w A5 x.f3.length x.f3) : kPolicy.K w x [.string x.f0, .int .i64 x.f1.f0, .int .u64 x.f1.f1, .int .i64 x.f2.f0, .int .u64 x.f2.f1, .slice A5 x.f3.length c5] := ⟨[.string x.f0], [.int .i64 x.f1.f0, .int .u64 x.f1.f1, .int .i64 x.f2.f0, .int .u64 x.f2.f1, .slice A5 x.f3.length c5], rfl, rfl, ⟨[.int .i64 x.f1.f0, .int .u64 x.f1.f1], [.int .i64 x.f2.f0, .int .u64 x.f2.f1, .slice A5 x.f3.length c5], rfl, (kVerdict_mk w x.f1 ), ⟨[.int .i64 x.f2.f0, .int .u64 x.f2.f1], [.slice A5 x.f3.length c5], rfl, (kVerdict_mk w x.f2 ), ⟨A5, c5, rfl, l5, g5⟩⟩⟩⟩
theorem kPolicy_mkM (w : World) (base : Nat) (ok : Nat → Prop) (x : Policy) {v5 : Value} (g5 : kRule.R 46 w base ok v5 x.f3) : kPolicy.M w base ok x [.string x.f0, .int .i64 x.f1.f0, .int .u64 x.f1.f1, .int .i64 x.f2.f0, .int .u64 x.f2.f1, v5] := ⟨[.string x.f0], [.int .i64 x.f1.f0, .int .u64 x.f1.f1, .int .i64 x.f2.f0, .int .u64 x.f2.f1, v5], rfl, rfl, ⟨[.int .i64 x.f1.f0, .int .u64 x.f1.f1], [.int .i64 x.f2.f0, .int .u64 x.f2.f1, v5], rfl, (kVerdict_mkM w base ok x.f1 ), ⟨[.int .i64 x.f2.f0, .int .u64 x.f2.f1], [v5], rfl, (kVerdict_mkM w base ok x.f2 ), ⟨v5, rfl, g5⟩⟩⟩⟩


/-! #### struct type 105 -/
structure Named where
  f0 : ByteArray
  f1 : Int
def zNamed : Named := ⟨(⟨#[]⟩ : ByteArray), (0 : Int)⟩
def kNamed : Kd Named := Kd.iso (Kd.pair Kd.string (Kd.int .u32)) (fun x : Named => (x.f0, x.f1))
theorem kNamed_open {w : World} {x : Named} {cs : List Value} (h : kNamed.K w x cs) : cs = [.string x.f0, .int .u32 x.f1] := by
  obtain ⟨_, _, rfl, rfl, rfl⟩ := h
  exact rfl
theorem kNamed_openM {w : World} {base : Nat} {ok : Nat → Prop} {x : Named} {cs : List Value} (h : kNamed.M w base ok x cs) : cs = [.string x.f0, .int .u32 x.f1] := by
  obtain ⟨_, _, rfl, rfl, rfl⟩ := h
  exact rfl
theorem kNamed_mk (w : World) (x : Named)  : kNamed.K w x [.string x.f0, .int .u32 x.f1] := ⟨[.string x.f0], [.int .u32 x.f1], rfl, rfl, rfl⟩
theorem kNamed_mkM (w : World) (base : Nat) (ok : Nat → Prop) (x : Named)  : kNamed.M w base ok x [.string x.f0, .int .u32 x.f1] := ⟨[.string x.f0], [.int .u32 x.f1], rfl, rfl, rfl⟩


/-! #### struct type 109 -/
structure RNamed where
  f0 : ByteArray
  f1 : Int
def zRNamed : RNamed := ⟨(⟨#[]⟩ : ByteArray), (0 : Int)⟩
def kRNamed : Kd RNamed := Kd.iso (Kd.pair Kd.string (Kd.int .u32)) (fun x : RNamed => (x.f0, x.f1))
theorem kRNamed_open {w : World} {x : RNamed} {cs : List Value} (h : kRNamed.K w x cs) : cs = [.string x.f0, .int .u32 x.f1] := by
  obtain ⟨_, _, rfl, rfl, rfl⟩ := h
  exact rfl
theorem kRNamed_openM {w : World} {base : Nat} {ok : Nat → Prop} {x : RNamed} {cs : List Value} (h : kRNamed.M w base ok x cs) : cs = [.string x.f0, .int .u32 x.f1] := by
  obtain ⟨_, _, rfl, rfl, rfl⟩ := h
  exact rfl
theorem kRNamed_mk (w : World) (x : RNamed)  : kRNamed.K w x [.string x.f0, .int .u32 x.f1] := ⟨[.string x.f0], [.int .u32 x.f1], rfl, rfl, rfl⟩
theorem kRNamed_mkM (w : World) (base : Nat) (ok : Nat → Prop) (x : RNamed)  : kRNamed.M w base ok x [.string x.f0, .int .u32 x.f1] := ⟨[.string x.f0], [.int .u32 x.f1], rfl, rfl, rfl⟩


/-! #### struct type 152 -/
structure Row where
  f0 : Int
  f1 : Int
  f2 : Bool
def zRow : Row := ⟨(0 : Int), (0 : Int), false⟩
def kRow : Kd Row := Kd.iso (Kd.pair (Kd.int .i64) (Kd.pair (Kd.int .u32) Kd.bool)) (fun x : Row => (x.f0, x.f1, x.f2))
theorem kRow_open {w : World} {x : Row} {cs : List Value} (h : kRow.K w x cs) : cs = [.int .i64 x.f0, .int .u32 x.f1, .bool x.f2] := by
  obtain ⟨_, _, rfl, rfl, ⟨_, _, rfl, rfl, rfl⟩⟩ := h
  exact rfl
theorem kRow_openM {w : World} {base : Nat} {ok : Nat → Prop} {x : Row} {cs : List Value} (h : kRow.M w base ok x cs) : cs = [.int .i64 x.f0, .int .u32 x.f1, .bool x.f2] := by
  obtain ⟨_, _, rfl, rfl, ⟨_, _, rfl, rfl, rfl⟩⟩ := h
  exact rfl
theorem kRow_mk (w : World) (x : Row)  : kRow.K w x [.int .i64 x.f0, .int .u32 x.f1, .bool x.f2] := ⟨[.int .i64 x.f0], [.int .u32 x.f1, .bool x.f2], rfl, rfl, ⟨[.int .u32 x.f1], [.bool x.f2], rfl, rfl, rfl⟩⟩
theorem kRow_mkM (w : World) (base : Nat) (ok : Nat → Prop) (x : Row)  : kRow.M w base ok x [.int .i64 x.f0, .int .u32 x.f1, .bool x.f2] := ⟨[.int .i64 x.f0], [.int .u32 x.f1, .bool x.f2], rfl, rfl, ⟨[.int .u32 x.f1], [.bool x.f2], rfl, rfl, rfl⟩⟩


/-! #### struct type 115 -/
structure Action where
  f0 : Int
  f1 : Int
def zAction : Action := ⟨(0 : Int), (0 : Int)⟩
def kAction : Kd Action := Kd.iso (Kd.pair (Kd.int .i64) (Kd.int .u16)) (fun x : Action => (x.f0, x.f1))
theorem kAction_open {w : World} {x : Action} {cs : List Value} (h : kAction.K w x cs) : cs = [.int .i64 x.f0, .int .u16 x.f1] := by
  obtain ⟨_, _, rfl, rfl, rfl⟩ := h
  exact rfl
theorem kAction_openM {w : World} {base : Nat} {ok : Nat → Prop} {x : Action} {cs : List Value} (h : kAction.M w base ok x cs) : cs = [.int .i64 x.f0, .int .u16 x.f1] := by
  obtain ⟨_, _, rfl, rfl, rfl⟩ := h
  exact rfl
theorem kAction_mk (w : World) (x : Action)  : kAction.K w x [.int .i64 x.f0, .int .u16 x.f1] := ⟨[.int .i64 x.f0], [.int .u16 x.f1], rfl, rfl, rfl⟩
theorem kAction_mkM (w : World) (base : Nat) (ok : Nat → Prop) (x : Action)  : kAction.M w base ok x [.int .i64 x.f0, .int .u16 x.f1] := ⟨[.int .i64 x.f0], [.int .u16 x.f1], rfl, rfl, rfl⟩


/-! #### struct type 205 -/
structure Token where
  f0 : Int
  f1 : ByteArray
  f2 : Int
  f3 : Int
def zToken : Token := ⟨(0 : Int), (⟨#[]⟩ : ByteArray), (0 : Int), (0 : Int)⟩
def kToken : Kd Token := Kd.iso (Kd.pair (Kd.int .i64) (Kd.pair Kd.string (Kd.pair (Kd.int .u64) (Kd.int .i64)))) (fun x : Token => (x.f0, x.f1, x.f2, x.f3))
theorem kToken_open {w : World} {x : Token} {cs : List Value} (h : kToken.K w x cs) : cs = [.int .i64 x.f0, .string x.f1, .int .u64 x.f2, .int .i64 x.f3] := by
  obtain ⟨_, _, rfl, rfl, ⟨_, _, rfl, rfl, ⟨_, _, rfl, rfl, rfl⟩⟩⟩ := h
  exact rfl
theorem kToken_openM {w : World} {base : Nat} {ok : Nat → Prop} {x : Token} {cs : List Value} (h : kToken.M w base ok x cs) : cs = [.int .i64 x.f0, .string x.f1, .int .u64 x.f2, .int .i64 x.f3] := by
  obtain ⟨_, _, rfl, rfl, ⟨_, _, rfl, rfl, ⟨_, _, rfl, rfl, rfl⟩⟩⟩ := h
  exact rfl
theorem kToken_mk (w : World) (x : Token)  : kToken.K w x [.int .i64 x.f0, .string x.f1, .int .u64 x.f2, .int .i64 x.f3] := ⟨[.int .i64 x.f0], [.string x.f1, .int .u64 x.f2, .int .i64 x.f3], rfl, rfl, ⟨[.string x.f1], [.int .u64 x.f2, .int .i64 x.f3], rfl, rfl, ⟨[.int .u64 x.f2], [.int .i64 x.f3], rfl, rfl, rfl⟩⟩⟩
theorem kToken_mkM (w : World) (base : Nat) (ok : Nat → Prop) (x : Token)  : kToken.M w base ok x [.int .i64 x.f0, .string x.f1, .int .u64 x.f2, .int .i64 x.f3] := ⟨[.int .i64 x.f0], [.string x.f1, .int .u64 x.f2, .int .i64 x.f3], rfl, rfl, ⟨[.string x.f1], [.int .u64 x.f2, .int .i64 x.f3], rfl, rfl, ⟨[.int .u64 x.f2], [.int .i64 x.f3], rfl, rfl, rfl⟩⟩⟩


theorem at_Verdict {w : World} {A : Option Addr} {n : Nat} {xs : List Verdict} (h : Kd.C kVerdict w A n xs) (hp : 0 < xs.length) : ∃ b o, A = some ⟨b, o, none⟩ ∧ b < w.heap.size ∧ ∀ (i : Nat) (x : Verdict), xs[i]? = some x → w.cell? ⟨b, o + i * 2, none⟩ = some (.int .i64 x.f0) ∧ w.cell? ⟨b, o + i * 2 + 1, none⟩ = some (.int .u64 x.f1) := by
  obtain ⟨b, o, e, hb, hc⟩ := C_at (d := kVerdict) (by decide) h hp
  refine ⟨b, o, e, hb, fun i x hi => ?_⟩
  obtain ⟨c, _, hK, hc⟩ := hc i x hi
  have hc : ∀ j u, c[j]? = some u → w.cell? ⟨b, o + i * 2 + j, none⟩ = some u := hc
  obtain rfl := kVerdict_open hK
  exact ⟨hc 0 _ rfl, hc 1 _ rfl⟩
theorem at_Call {w : World} {A : Option Addr} {n : Nat} {xs : List Call} (h : Kd.C kCall w A n xs) (hp : 0 < xs.length) : ∃ b o, A = some ⟨b, o, none⟩ ∧ b < w.heap.size ∧ ∀ (i : Nat) (x : Call), xs[i]? = some x → w.cell? ⟨b, o + i * 2, none⟩ = some (.string x.f0) ∧ w.cell? ⟨b, o + i * 2 + 1, none⟩ = some (.int .u64 x.f1) := by
  obtain ⟨b, o, e, hb, hc⟩ := C_at (d := kCall) (by decide) h hp
  refine ⟨b, o, e, hb, fun i x hi => ?_⟩
  obtain ⟨c, _, hK, hc⟩ := hc i x hi
  have hc : ∀ j u, c[j]? = some u → w.cell? ⟨b, o + i * 2 + j, none⟩ = some u := hc
  obtain rfl := kCall_open hK
  exact ⟨hc 0 _ rfl, hc 1 _ rfl⟩
theorem at_Expr {w : World} {A : Option Addr} {n : Nat} {xs : List Expr} (h : Kd.C kExpr w A n xs) (hp : 0 < xs.length) : ∃ b o, A = some ⟨b, o, none⟩ ∧ b < w.heap.size ∧ ∀ (i : Nat) (x : Expr), xs[i]? = some x → ∃ A1 c1, w.cell? ⟨b, o + i * 6, none⟩ = some (.int .i64 x.f0) ∧ w.cell? ⟨b, o + i * 6 + 1, none⟩ = some (.slice A1 x.f1.length c1) ∧ w.cell? ⟨b, o + i * 6 + 2, none⟩ = some (.int .i64 x.f2) ∧ w.cell? ⟨b, o + i * 6 + 3, none⟩ = some (.int .u64 x.f3) ∧ w.cell? ⟨b, o + i * 6 + 4, none⟩ = some (.int .i64 x.f4) ∧ w.cell? ⟨b, o + i * 6 + 5, none⟩ = some (.int .u64 x.f5) ∧ x.f1.length ≤ c1 ∧ kExpr.C w A1 x.f1.length x.f1 := by
  obtain ⟨b, o, e, hb, hc⟩ := C_at (d := kExpr) (by decide) h hp
  refine ⟨b, o, e, hb, fun i x hi => ?_⟩
  obtain ⟨c, _, hK, hc⟩ := hc i x hi
  have hc : ∀ j u, c[j]? = some u → w.cell? ⟨b, o + i * 6 + j, none⟩ = some u := hc
  obtain ⟨A1, c1, rfl, hr⟩ := kExpr_open hK
  exact ⟨A1, c1, hc 0 _ rfl, hc 1 _ rfl, hc 2 _ rfl, hc 3 _ rfl, hc 4 _ rfl, hc 5 _ rfl, hr⟩
theorem at_Rule {w : World} {A : Option Addr} {n : Nat} {xs : List Rule} (h : Kd.C kRule w A n xs) (hp : 0 < xs.length) : ∃ b o, A = some ⟨b, o, none⟩ ∧ b < w.heap.size ∧ ∀ (i : Nat) (x : Rule), xs[i]? = some x → ∃ A0 c0 A2 c2, w.cell? ⟨b, o + i * 9, none⟩ = some (.slice A0 x.f0.length c0) ∧ w.cell? ⟨b, o + i * 9 + 1, none⟩ = some (.int .i64 x.f1.f0) ∧ w.cell? ⟨b, o + i * 9 + 2, none⟩ = some (.slice A2 x.f1.f1.length c2) ∧ w.cell? ⟨b, o + i * 9 + 3, none⟩ = some (.int .i64 x.f1.f2) ∧ w.cell? ⟨b, o + i * 9 + 4, none⟩ = some (.int .u64 x.f1.f3) ∧ w.cell? ⟨b, o + i * 9 + 5, none⟩ = some (.int .i64 x.f1.f4) ∧ w.cell? ⟨b, o + i * 9 + 6, none⟩ = some (.int .u64 x.f1.f5) ∧ w.cell? ⟨b, o + i * 9 + 7, none⟩ = some (.int .i64 x.f2.f0) ∧ w.cell? ⟨b, o + i * 9 + 8, none⟩ = some (.int .u64 x.f2.f1) ∧ x.f0.length ≤ c0 ∧ kCall.C w A0 x.f0.length x.f0 ∧ x.f1.f1.length ≤ c2 ∧ kExpr.C w A2 x.f1.f1.length x.f1.f1 := by
  obtain ⟨b, o, e, hb, hc⟩ := C_at (d := kRule) (by decide) h hp
  refine ⟨b, o, e, hb, fun i x hi => ?_⟩
  obtain ⟨c, _, hK, hc⟩ := hc i x hi
  have hc : ∀ j u, c[j]? = some u → w.cell? ⟨b, o + i * 9 + j, none⟩ = some u := hc
  obtain ⟨A0, c0, A2, c2, rfl, hr⟩ := kRule_open hK
  exact ⟨A0, c0, A2, c2, hc 0 _ rfl, hc 1 _ rfl, hc 2 _ rfl, hc 3 _ rfl, hc 4 _ rfl, hc 5 _ rfl, hc 6 _ rfl, hc 7 _ rfl, hc 8 _ rfl, hr⟩
theorem at_Policy {w : World} {A : Option Addr} {n : Nat} {xs : List Policy} (h : Kd.C kPolicy w A n xs) (hp : 0 < xs.length) : ∃ b o, A = some ⟨b, o, none⟩ ∧ b < w.heap.size ∧ ∀ (i : Nat) (x : Policy), xs[i]? = some x → ∃ A5 c5, w.cell? ⟨b, o + i * 6, none⟩ = some (.string x.f0) ∧ w.cell? ⟨b, o + i * 6 + 1, none⟩ = some (.int .i64 x.f1.f0) ∧ w.cell? ⟨b, o + i * 6 + 2, none⟩ = some (.int .u64 x.f1.f1) ∧ w.cell? ⟨b, o + i * 6 + 3, none⟩ = some (.int .i64 x.f2.f0) ∧ w.cell? ⟨b, o + i * 6 + 4, none⟩ = some (.int .u64 x.f2.f1) ∧ w.cell? ⟨b, o + i * 6 + 5, none⟩ = some (.slice A5 x.f3.length c5) ∧ x.f3.length ≤ c5 ∧ kRule.C w A5 x.f3.length x.f3 := by
  obtain ⟨b, o, e, hb, hc⟩ := C_at (d := kPolicy) (by decide) h hp
  refine ⟨b, o, e, hb, fun i x hi => ?_⟩
  obtain ⟨c, _, hK, hc⟩ := hc i x hi
  have hc : ∀ j u, c[j]? = some u → w.cell? ⟨b, o + i * 6 + j, none⟩ = some u := hc
  obtain ⟨A5, c5, rfl, hr⟩ := kPolicy_open hK
  exact ⟨A5, c5, hc 0 _ rfl, hc 1 _ rfl, hc 2 _ rfl, hc 3 _ rfl, hc 4 _ rfl, hc 5 _ rfl, hr⟩
theorem at_Named {w : World} {A : Option Addr} {n : Nat} {xs : List Named} (h : Kd.C kNamed w A n xs) (hp : 0 < xs.length) : ∃ b o, A = some ⟨b, o, none⟩ ∧ b < w.heap.size ∧ ∀ (i : Nat) (x : Named), xs[i]? = some x → w.cell? ⟨b, o + i * 2, none⟩ = some (.string x.f0) ∧ w.cell? ⟨b, o + i * 2 + 1, none⟩ = some (.int .u32 x.f1) := by
  obtain ⟨b, o, e, hb, hc⟩ := C_at (d := kNamed) (by decide) h hp
  refine ⟨b, o, e, hb, fun i x hi => ?_⟩
  obtain ⟨c, _, hK, hc⟩ := hc i x hi
  have hc : ∀ j u, c[j]? = some u → w.cell? ⟨b, o + i * 2 + j, none⟩ = some u := hc
  obtain rfl := kNamed_open hK
  exact ⟨hc 0 _ rfl, hc 1 _ rfl⟩
theorem at_RNamed {w : World} {A : Option Addr} {n : Nat} {xs : List RNamed} (h : Kd.C kRNamed w A n xs) (hp : 0 < xs.length) : ∃ b o, A = some ⟨b, o, none⟩ ∧ b < w.heap.size ∧ ∀ (i : Nat) (x : RNamed), xs[i]? = some x → w.cell? ⟨b, o + i * 2, none⟩ = some (.string x.f0) ∧ w.cell? ⟨b, o + i * 2 + 1, none⟩ = some (.int .u32 x.f1) := by
  obtain ⟨b, o, e, hb, hc⟩ := C_at (d := kRNamed) (by decide) h hp
  refine ⟨b, o, e, hb, fun i x hi => ?_⟩
  obtain ⟨c, _, hK, hc⟩ := hc i x hi
  have hc : ∀ j u, c[j]? = some u → w.cell? ⟨b, o + i * 2 + j, none⟩ = some u := hc
  obtain rfl := kRNamed_open hK
  exact ⟨hc 0 _ rfl, hc 1 _ rfl⟩
theorem at_Row {w : World} {A : Option Addr} {n : Nat} {xs : List Row} (h : Kd.C kRow w A n xs) (hp : 0 < xs.length) : ∃ b o, A = some ⟨b, o, none⟩ ∧ b < w.heap.size ∧ ∀ (i : Nat) (x : Row), xs[i]? = some x → w.cell? ⟨b, o + i * 3, none⟩ = some (.int .i64 x.f0) ∧ w.cell? ⟨b, o + i * 3 + 1, none⟩ = some (.int .u32 x.f1) ∧ w.cell? ⟨b, o + i * 3 + 2, none⟩ = some (.bool x.f2) := by
  obtain ⟨b, o, e, hb, hc⟩ := C_at (d := kRow) (by decide) h hp
  refine ⟨b, o, e, hb, fun i x hi => ?_⟩
  obtain ⟨c, _, hK, hc⟩ := hc i x hi
  have hc : ∀ j u, c[j]? = some u → w.cell? ⟨b, o + i * 3 + j, none⟩ = some u := hc
  obtain rfl := kRow_open hK
  exact ⟨hc 0 _ rfl, hc 1 _ rfl, hc 2 _ rfl⟩
theorem at_Action {w : World} {A : Option Addr} {n : Nat} {xs : List Action} (h : Kd.C kAction w A n xs) (hp : 0 < xs.length) : ∃ b o, A = some ⟨b, o, none⟩ ∧ b < w.heap.size ∧ ∀ (i : Nat) (x : Action), xs[i]? = some x → w.cell? ⟨b, o + i * 2, none⟩ = some (.int .i64 x.f0) ∧ w.cell? ⟨b, o + i * 2 + 1, none⟩ = some (.int .u16 x.f1) := by
  obtain ⟨b, o, e, hb, hc⟩ := C_at (d := kAction) (by decide) h hp
  refine ⟨b, o, e, hb, fun i x hi => ?_⟩
  obtain ⟨c, _, hK, hc⟩ := hc i x hi
  have hc : ∀ j u, c[j]? = some u → w.cell? ⟨b, o + i * 2 + j, none⟩ = some u := hc
  obtain rfl := kAction_open hK
  exact ⟨hc 0 _ rfl, hc 1 _ rfl⟩
theorem at_Token {w : World} {A : Option Addr} {n : Nat} {xs : List Token} (h : Kd.C kToken w A n xs) (hp : 0 < xs.length) : ∃ b o, A = some ⟨b, o, none⟩ ∧ b < w.heap.size ∧ ∀ (i : Nat) (x : Token), xs[i]? = some x → w.cell? ⟨b, o + i * 4, none⟩ = some (.int .i64 x.f0) ∧ w.cell? ⟨b, o + i * 4 + 1, none⟩ = some (.string x.f1) ∧ w.cell? ⟨b, o + i * 4 + 2, none⟩ = some (.int .u64 x.f2) ∧ w.cell? ⟨b, o + i * 4 + 3, none⟩ = some (.int .i64 x.f3) := by
  obtain ⟨b, o, e, hb, hc⟩ := C_at (d := kToken) (by decide) h hp
  refine ⟨b, o, e, hb, fun i x hi => ?_⟩
  obtain ⟨c, _, hK, hc⟩ := hc i x hi
  have hc : ∀ j u, c[j]? = some u → w.cell? ⟨b, o + i * 4 + j, none⟩ = some u := hc
  obtain rfl := kToken_open hK
  exact ⟨hc 0 _ rfl, hc 1 _ rfl, hc 2 _ rfl, hc 3 _ rfl⟩
end Go.Proofs.Ytkojnaebkgekaaa
