/- Layer 7's actions and names, as the program has them. -/
import Derived.Test.YtkojnaebkgekaaaTypes
set_option linter.unusedVariables false
set_option linter.unusedSimpArgs false
namespace Go.Proofs.Ytkojnaebkgekaaa
open Go.RowKit Go.Proofs.YtkojnaebkgekaaaW.PrintWords

/-! ### secdata -/
def rowsL : List Row := [⟨1, 2147483648, false⟩, ⟨2, 0, false⟩, ⟨3, 196608, true⟩, ⟨4, 327680, true⟩, ⟨5, 2143289344, false⟩, ⟨6, 2146435072, true⟩, ⟨7, 2147221504, false⟩, ⟨8, 2147418112, false⟩]
def Row.cells (x : Row) : List Value := [.int .i64 x.f0, .int .u32 x.f1, .bool x.f2]
theorem rows_calls (w : World) :
    Calls Try.prog 82 #[] w fun e w' => ∃ A c, e = .returned (.slice A rowsL.length c) ∧ rowsL.length ≤ c ∧ kRow.C w' A rowsL.length rowsL ∧ Below w.heap.size w w' := by
  go_enter Try.func82, Try.ntmps82
  go_wp2
  go_returns
  refine ⟨_, 8, rfl, Nat.le_refl _, C_lit (enc := Row.cells) w _ _ rowsL (fun w x => kRow_mk w x) (fun _ => rfl) rfl (by decide), by go_grown⟩
def rowIs (a : Action) (x : Row) : Bool := x.f0 == a.f0 && (x.f2 || a.f1 == 0)
/-- secdata.Code. -/
def codeS (a : Action) : Int × Int :=
  match rowsL.find? (rowIs a) with
  | some x => (bits .or .u32 x.f1 a.f1, 0)
  | none => (0, 23)
def Action.cells (a : Action) : List Value := [.int .i64 a.f0, .int .u16 a.f1]
theorem codeS_at {a : Action} {k : Nat} (hk : k < rowsL.length) (h0 : (rowsL.take k).any (rowIs a) = false) (h : rowIs a rowsL[k] = true) : codeS a = (bits .or .u32 rowsL[k].f1 a.f1, 0) := by
  unfold codeS
  rw [find_at hk h0 h]
theorem codeS_no {a : Action} (h0 : rowsL.any (rowIs a) = false) : codeS a = (0, 23) := by
  unfold codeS
  rw [find_no h0]
set_option maxHeartbeats 400000 in
theorem code_calls (a : Action) (w : World) (h0 : 0 ≤ a.f1) (h1 : a.f1 < 65536) : Calls Try.prog 53 #[.agg #[.int .i64 a.f0, .int .u16 a.f1]] w (Ret (.tuple #[.int .u32 (codeS a).1, .int .i64 (codeS a).2]) w) := by
  go_enter Try.func53, Try.ntmps53
  go_wp2_with (go_at_call 82; refine (rows_calls _).mono ?_; rintro e w1 ⟨A, c, rfl, hc, hC, hb⟩; have HC := Lib.hid hC; clear hC; have HB := Lib.hid hb; obtain ⟨hcell1, hfr1⟩ := bcell hb; have HBw := Lib.hid (bl_call (bl_alloc (Below.refl _ _) (Nat.le_refl _) _) (by simp) hb); have hsz1 := hb.size; simp at hsz1; clear hb)
  have hm : rowsL.length ≤ 8 := by decide
  go_loopw [5, 8] (fun v i wr => ∃ k : Nat, k ≤ rowsL.length ∧ i = .int .i64 k ∧ (rowsL.take k).any (rowIs a) = false ∧ Hid (Below w1.heap.size w1 wr)) (fun _ i _ => rowsL.length - (intOf i).toNat)
  case atStart => exact ⟨0, Nat.zero_le _, rfl, by simp, Lib.hid (Below.refl _ _)⟩
  case round =>
    obtain ⟨k, hk, rfl, hno, HR⟩ := hrel
    have HN := Lib.hid hno
    clear hno
    obtain ⟨hcellr, hfrr⟩ := bcell HR.out
    have hszr := HR.out.size
    have hz : w.heap.size < wr.heap.size := by omega
    have hz1 : w.heap.size < w1.heap.size := by omega
    by_cases hlt : k < rowsL.length
    · obtain ⟨b, o, rfl, hb, hat⟩ := at_Row HC.out (by omega)
      obtain ⟨hx0, hx1, hx2⟩ := hat k _ (List.getElem?_eq_getElem hlt)
      generalize hx : rowsL[k] = x at *
      have HX := Lib.hid hx
      have HAT := Lib.hid hat
      clear hat hx
      go_wp2
      · go_returns
        have hr : rowIs a rowsL[k] = true := by rw [HX.out]; simp [rowIs, *]
        exact ⟨by rw [codeS_at hlt HN.out hr, HX.out]; rfl, by have := bl_call HBw.out HBw.out.size HR.out; go_grown⟩
      · go_returns
        have hr : rowIs a rowsL[k] = true := by rw [HX.out]; simp_all [rowIs]
        exact ⟨by rw [codeS_at hlt HN.out hr, HX.out]; rfl, by have := bl_call HBw.out HBw.out.size HR.out; go_grown⟩
      · go_roundw
        case rel =>
          have hr : rowIs a rowsL[k] = false := by rw [HX.out]; simp_all [rowIs]
          exact ⟨k + 1, by omega, by go_num, any_snoc hlt HN.out hr, Lib.hid (by have := HR.out; go_grown)⟩
        case measure => simp [intOf]; omega
      · go_roundw
        case rel =>
          have hr : rowIs a rowsL[k] = false := by rw [HX.out]; simp_all [rowIs]
          exact ⟨k + 1, by omega, by go_num, any_snoc hlt HN.out hr, Lib.hid (by have := HR.out; go_grown)⟩
        case measure => simp [intOf]; omega
    · have he : k = rowsL.length := by omega
      have hno := HN.out
      rw [he, List.take_length] at hno
      have HN2 := Lib.hid hno
      clear hno he
      go_wp2
      go_returns
      exact ⟨by rw [codeS_no HN2.out]; rfl, by have := bl_call HBw.out HBw.out.size HR.out; go_grown⟩

/-! ### sem.Action -/
def actS (v : Verdict) : Int × Bool :=
  if v.f1 > 65535 || (v.f0 == 4 && v.f1 > 4095) then (0, false)
  else ((codeS ⟨v.f0, v.f1⟩).1, (codeS ⟨v.f0, v.f1⟩).2 == 0)
def Verdict.cells (v : Verdict) : List Value := [.int .i64 v.f0, .int .u64 v.f1]
set_option maxHeartbeats 400000 in
theorem act_calls (v : Verdict) (w : World) (h0 : 0 ≤ v.f1) (h1 : v.f1 < 18446744073709551616) : Calls Try.prog 24 #[.agg #[.int .i64 v.f0, .int .u64 v.f1]] w (Ret (.tuple #[.int .u32 (actS v).1, .bool (actS v).2]) w) := by
  go_enter Try.func24, Try.ntmps24
  by_cases c1 : 65535 < v.f1
  · go_wp2
    go_returns
    exact ⟨by rw [show actS v = (0, false) by simp [actS, c1]]; rfl, by go_grown⟩
  · by_cases c2 : v.f0 = 4 ∧ 4095 < v.f1
    · obtain ⟨c2, c3⟩ := c2
      go_wp2
      go_returns
      exact ⟨by rw [show actS v = (0, false) by simp [actS, c2, c3]]; rfl, by go_grown⟩
    · have hs : actS v = ((codeS ⟨v.f0, v.f1⟩).1, (codeS ⟨v.f0, v.f1⟩).2 == 0) := by
        unfold actS
        rw [if_neg]
        simp
        omega
      have HS := Lib.hid hs
      clear hs
      by_cases c3 : v.f0 = 4
      · have c4 : v.f1 ≤ 4095 := by omega
        go_wp2_with (go_at_call 53; refine (code_calls ⟨_, v.f1⟩ _ (by dsimp only; omega) (by dsimp only; omega)).mono ?_; rintro e w1 ⟨rfl, hb⟩; have HB := Lib.hid hb; clear hb)
        go_returns
        exact ⟨by rw [HS.out, c3]; rfl, by have := bl_call (bl_alloc (Below.refl _ _) (Nat.le_refl _) _) (by simp) HB.out; go_grown⟩
      · go_wp2_with (go_at_call 53; refine (code_calls ⟨_, v.f1⟩ _ (by dsimp only; omega) (by dsimp only; omega)).mono ?_; rintro e w1 ⟨rfl, hb⟩; have HB := Lib.hid hb; clear hb)
        go_returns
        exact ⟨by rw [HS.out]; rfl, by have := bl_call (bl_alloc (Below.refl _ _) (Nat.le_refl _) _) (by simp) HB.out; go_grown⟩

/-! ### Names -/
def seq (a b : ByteArray) : Bool := a.toList == b.toList
theorem num1_calls (x : Named) (p : Addr) (s : ByteArray) (w : World) (hp0 : p.block < w.heap.size) (hp : w.cell? p = some (.string s)) :
    Calls Try.prog 52 #[.agg #[.string x.f0, .int .u32 x.f1], .pointer (some p)] w (Ret (.bool (seq x.f0 s)) w) := by
  go_enter Try.func52, Try.ntmps52
  go_wp2
  go_returns
  exact ⟨rfl, by go_grown⟩
def Named.cells (x : Named) : List Value := [.string x.f0, .int .u32 x.f1]
set_option maxHeartbeats 400000 in
theorem idxN_calls (A : Option Addr) (c : Nat) (l : List Named) (f : Nat) (caps : Array Value) (p : Named → Bool) (w : World) (hf : Body Try.prog f) (hl : kNamed.C w A l.length l)
    (H : ∀ x ∈ l, ∀ W, Below w.heap.size w W → Calls Try.prog f (#[.agg #[.string x.f0, .int .u32 x.f1]] ++ caps) W (Ret (.bool (p x)) W)) :
    Calls Try.prog 51 #[.slice A l.length c, .func (.func f) #[] caps] w (Ret (.int .i64 (idx p l)) w) := by
  have hm := Kd.C_max hl
  have HC := Lib.hid hl
  have HF := Lib.hid H
  have hff := hf.run
  clear hl H hf
  go_enter Try.func51, Try.ntmps51
  go_wp2
  go_loopw [5, 8] (fun v i wr => ∃ k : Nat, k ≤ l.length ∧ i = .int .i64 k ∧ (l.take k).any p = false ∧ Hid (Below w.heap.size w wr)) (fun _ i _ => l.length - (intOf i).toNat)
  case atStart => exact ⟨0, Nat.zero_le _, rfl, by simp, Lib.hid (Below.refl _ _)⟩
  case round =>
    obtain ⟨k, hk, rfl, hno, HR⟩ := hrel
    have HN := Lib.hid hno
    clear hno
    by_cases hlt : k < l.length
    · obtain ⟨b, o, rfl, hb, hat⟩ := at_Named (Kd.C_below HC.out HR.out) (by omega)
      obtain ⟨hx0, hx1⟩ := hat k _ (List.getElem?_eq_getElem hlt)
      have HAT := Lib.hid hat
      have HFx := Lib.hid (HF.out l[k] (List.getElem_mem _) wr HR.out)
      clear hat
      go_wp2_with fail
      refine (HFx.out).mono ?_
      rintro e w2 ⟨rfl, hb2⟩
      have HB2 := Lib.hid hb2
      clear hb2
      by_cases hp : p l[k] = true
      · go_wp2
        go_returns
        exact ⟨by rw [idx_at hlt HN.out hp]; rfl, by have := bl_call HR.out HR.out.size HB2.out; go_grown⟩
      · have hp' : p l[k] = false := by simpa using hp
        go_wp2
        go_roundw
        case rel => exact ⟨k + 1, by omega, by go_num, any_snoc hlt HN.out hp', Lib.hid (by have := bl_call HR.out HR.out.size HB2.out; go_grown)⟩
        case measure => simp [intOf]; omega
    · have he : k = l.length := by omega
      have hno := HN.out
      rw [he, List.take_length] at hno
      have HN2 := Lib.hid hno
      clear hno he
      go_wp2
      go_returns
      exact ⟨by rw [idx_no HN2.out]; rfl, by have := HR.out; go_grown⟩
end Go.Proofs.Ytkojnaebkgekaaa
