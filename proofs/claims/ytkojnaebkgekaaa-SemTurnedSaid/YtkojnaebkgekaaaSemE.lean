/- Layer 7: relations, and whether expressions hold. -/
import Derived.Test.YtkojnaebkgekaaaSemD
import Derived.Test.YtkojnaebkgekaaaAppW
import Derived.Deep.RegionLaw
import Derived.Deep.RegionWith
import Derived.StillTailTactics
import Derived.Deep.RegionHeld3
set_option linter.unusedVariables false
set_option linter.unusedSimpArgs false
namespace Go.Proofs.Ytkojnaebkgekaaa
open Go.RowKit Go.Proofs.YtkojnaebkgekaaaW.PrintWords

/-- A call that leaves the world as it is. -/
def Pure (v : Value) (w : World) (e : Ending) (w' : World) : Prop := e = .returned v ∧ w' = w
theorem oeq_calls (o : Int) (w : World) : Calls Try.prog 68 #[.int .i64 o] w (Pure (.bool (o == 0)) w) := by
  go_enter Try.func68, Try.ntmps68
  go_wp2
  go_returns
  exact ⟨rfl, rfl⟩
theorem one_calls' (o : Int) (w : World) : Calls Try.prog 69 #[.int .i64 o] w (Pure (.bool (o != 0)) w) := by
  go_enter Try.func69, Try.ntmps69
  go_wp2
  go_returns
  exact ⟨by simp [bne], rfl⟩
theorem olt_calls (o : Int) (w : World) : Calls Try.prog 70 #[.int .i64 o] w (Pure (.bool (decide (o < 0))) w) := by
  go_enter Try.func70, Try.ntmps70
  go_wp2
  go_returns
  exact ⟨rfl, rfl⟩
theorem ole_calls (o : Int) (w : World) : Calls Try.prog 71 #[.int .i64 o] w (Pure (.bool (decide (o ≤ 0))) w) := by
  go_enter Try.func71, Try.ntmps71
  go_wp2
  go_returns
  exact ⟨rfl, rfl⟩
theorem ogt_calls (o : Int) (w : World) : Calls Try.prog 72 #[.int .i64 o] w (Pure (.bool (decide (0 < o))) w) := by
  go_enter Try.func72, Try.ntmps72
  go_wp2
  go_returns
  exact ⟨rfl, rfl⟩
theorem oge_calls (o : Int) (w : World) : Calls Try.prog 73 #[.int .i64 o] w (Pure (.bool (decide (0 ≤ o))) w) := by
  go_enter Try.func73, Try.ntmps73
  go_wp2
  go_returns
  exact ⟨rfl, rfl⟩
theorem nan_calls (o : Int) (w : World) : Calls Try.prog 120 #[.int .u64 o] w (Pure (.bool false) w) := by
  go_enter Try.func120, Try.ntmps120
  go_wp2
  go_returns
  exact ⟨by simp, rfl⟩
def cmpS (x y : Int) : Int := if x < y then -1 else if y < x then 1 else 0
theorem cmp_calls (x y : Int) (w : World) : Calls Try.prog 78 #[.int .u64 x, .int .u64 y] w (Pure (.int .i64 (cmpS x y)) w) := by
  go_enter Try.func78, Try.ntmps78
  go_wp2_with (go_at_call 120; refine (nan_calls _ _).mono ?_; rintro e w1 ⟨rfl, rfl⟩)
  all_goals (go_returns; refine ⟨ret_int ?_, rfl⟩; simp_all [cmpS])
  all_goals rw [if_neg (by omega), if_neg (by omega)]

def relL : List (Int × Value) := [(1, .func (.func 68) #[] #[]), (2, .func (.func 69) #[] #[]), (3, .func (.func 70) #[] #[]), (4, .func (.func 71) #[] #[]), (5, .func (.func 72) #[] #[]), (6, .func (.func 73) #[] #[])]
abbrev kRel : Int → Value := Value.int .i64
theorem huRel : Try.prog.underlying 91 = some (.map 42 141) := Try.underlying91
theorem keyRel : KeyOk Try.prog 42 kRel := keyOk_int Try.underlying42
theorem rels_calls (w : World) : Calls Try.prog 39 #[] w fun e w' => ∃ r, e = .returned (.map (some r)) ∧ IsMap kRel id w' r relL ∧ Below w.heap.size w w' := by
  have hmm := @run_makeMap Try.prog
  have i1 : (Instr.mapUpdate 91 (.map (some w.heap.size)) (.int .i64 1) (.func (.func 68) #[] #[])).run Try.prog (w.alloc (.map #[] 0)) = .ok () (w.alloc (mapObj kRel id (relL.take 1))) := run_insert_alloc (kenc := kRel) (venc := id) huRel keyRel w [] 1 _ rfl
  have i2 : (Instr.mapUpdate 91 (.map (some w.heap.size)) (.int .i64 2) (.func (.func 69) #[] #[])).run Try.prog (w.alloc (mapObj kRel id (relL.take 1))) = .ok () (w.alloc (mapObj kRel id (relL.take 2))) := run_insert_alloc (kenc := kRel) (venc := id) huRel keyRel w (relL.take 1) 2 _ rfl
  have i3 : (Instr.mapUpdate 91 (.map (some w.heap.size)) (.int .i64 3) (.func (.func 70) #[] #[])).run Try.prog (w.alloc (mapObj kRel id (relL.take 2))) = .ok () (w.alloc (mapObj kRel id (relL.take 3))) := run_insert_alloc (kenc := kRel) (venc := id) huRel keyRel w (relL.take 2) 3 _ rfl
  have i4 : (Instr.mapUpdate 91 (.map (some w.heap.size)) (.int .i64 4) (.func (.func 71) #[] #[])).run Try.prog (w.alloc (mapObj kRel id (relL.take 3))) = .ok () (w.alloc (mapObj kRel id (relL.take 4))) := run_insert_alloc (kenc := kRel) (venc := id) huRel keyRel w (relL.take 3) 4 _ rfl
  have i5 : (Instr.mapUpdate 91 (.map (some w.heap.size)) (.int .i64 5) (.func (.func 72) #[] #[])).run Try.prog (w.alloc (mapObj kRel id (relL.take 4))) = .ok () (w.alloc (mapObj kRel id (relL.take 5))) := run_insert_alloc (kenc := kRel) (venc := id) huRel keyRel w (relL.take 4) 5 _ rfl
  have i6 : (Instr.mapUpdate 91 (.map (some w.heap.size)) (.int .i64 6) (.func (.func 73) #[] #[])).run Try.prog (w.alloc (mapObj kRel id (relL.take 5))) = .ok () (w.alloc (mapObj kRel id relL)) := run_insert_alloc (kenc := kRel) (venc := id) huRel keyRel w (relL.take 5) 6 _ rfl
  go_enter Try.func39, Try.ntmps39
  go_wp2
  go_returns
  exact ⟨_, rfl, IsMap.alloc w relL, by go_grown⟩

/-! ### Expressions looked through -/
set_option maxHeartbeats 400000 in
theorem idxE_calls (A : Option Addr) (c : Nat) (l : List Expr) (f : Nat) (first caps : Array Value) (p : Expr → Bool) (w : World) (hf : Body Try.prog f) (hl : kExpr.C w A l.length l)
    (H : ∀ x ∈ l, ∀ (A1 : Option Addr) (c1 : Nat) (W : World), Below w.heap.size w W → kExpr.C W A1 x.f1.length x.f1 →
      Calls Try.prog f (first ++ #[.agg #[.int .i64 x.f0, .slice A1 x.f1.length c1, .int .i64 x.f2, .int .u64 x.f3, .int .i64 x.f4, .int .u64 x.f5]] ++ caps) W (Ret (.bool (p x)) W)) :
    Calls Try.prog 119 #[.slice A l.length c, .func (.func f) first caps] w (Ret (.int .i64 (idx p l)) w) := by
  have hm := Kd.C_max hl
  have HC := Lib.hid hl
  have HF := Lib.hid H
  have hff := hf.run
  clear hl H hf
  go_enter Try.func119, Try.ntmps119
  go_wp2
  go_loopw [5, 8] (fun v i wr => ∃ k : Nat, k ≤ l.length ∧ i = .int .i64 k ∧ (l.take k).any p = false ∧ Hid (Below w.heap.size w wr)) (fun _ i _ => l.length - (intOf i).toNat)
  case atStart => exact ⟨0, Nat.zero_le _, rfl, by simp, Lib.hid (Below.refl _ _)⟩
  case round =>
    obtain ⟨k, hk, rfl, hno, HR⟩ := hrel
    have HN := Lib.hid hno
    clear hno
    by_cases hlt : k < l.length
    · obtain ⟨b, o, rfl, hb, hat⟩ := at_Expr (Kd.C_below HC.out HR.out) (by omega)
      obtain ⟨A1, c1, hx0, hx1, hx2, hx3, hx4, hx5, hl1, hC1⟩ := hat k _ (List.getElem?_eq_getElem hlt)
      have HFx := Lib.hid (HF.out l[k] (List.getElem_mem _) A1 c1 wr HR.out hC1)
      clear hat hC1
      go_wp2_with fail
      refine (HFx.out).mono ?_
      rintro e w2 ⟨rfl, hb2⟩
      have HB2 := Lib.hid hb2
      clear hb2
      by_cases hp : p l[k] = true
      · go_wp2
        go_returns
        exact ⟨by rw [idx_at hlt HN.out hp]; rfl, by have := bl_call HR.out HR.out.size HB2.out; go_grown⟩
      · have hp' : p l[k] = false := by simpa using hp
        go_wp2
        go_roundw
        case rel => exact ⟨k + 1, by omega, by go_num, any_snoc hlt HN.out hp', Lib.hid (by have := bl_call HR.out HR.out.size HB2.out; go_grown)⟩
        case measure => simp [intOf]; omega
    · have he : k = l.length := by omega
      have hno := HN.out
      rw [he, List.take_length] at hno
      have HN2 := Lib.hid hno
      clear hno he
      go_wp2
      go_returns
      exact ⟨by rw [idx_no HN2.out]; rfl, by have := HR.out; go_grown⟩
theorem idx_any {α : Type} (p : α → Bool) (l : List α) : decide (0 ≤ idx p l) = l.any p := by
  unfold idx
  cases h : l.findIdx? p with
  | none =>
    rw [List.findIdx?_eq_none_iff] at h
    have : l.any p = false := by rw [List.any_eq_false]; intro x hx; simp [h x hx]
    rw [this]
    decide
  | some k =>
    obtain ⟨hk, hp, _⟩ := List.findIdx?_eq_some_iff_getElem.1 h
    have : l.any p = true := by rw [List.any_eq_true]; exact ⟨_, List.getElem_mem hk, hp⟩
    rw [this]
    simp
theorem conE_calls (A : Option Addr) (c : Nat) (l : List Expr) (f : Nat) (first caps : Array Value) (p : Expr → Bool) (w : World) (hf : Body Try.prog f) (hl : kExpr.C w A l.length l)
    (H : ∀ x ∈ l, ∀ (A1 : Option Addr) (c1 : Nat) (W : World), Below w.heap.size w W → kExpr.C W A1 x.f1.length x.f1 →
      Calls Try.prog f (first ++ #[.agg #[.int .i64 x.f0, .slice A1 x.f1.length c1, .int .i64 x.f2, .int .u64 x.f3, .int .i64 x.f4, .int .u64 x.f5]] ++ caps) W (Ret (.bool (p x)) W)) :
    Calls Try.prog 75 #[.slice A l.length c, .func (.func f) first caps] w (Ret (.bool (l.any p)) w) := by
  have HX := Lib.hid (idxE_calls A c l f first caps p w hf hl H)
  clear hf hl H
  go_enter Try.func75, Try.ntmps75
  go_wp2_with (go_at_call 119; refine (HX.out).mono ?_; rintro e w1 ⟨rfl, hb⟩; have HB := Lib.hid hb; clear hb)
  go_returns
  exact ⟨by rw [← idx_any]; rfl, HB.out⟩

/-! ### Data, and what is held against them -/
structure Data where
  nr : Int
  arch : Int
  ip : Int
  a0 : Int
  a1 : Int
  a2 : Int
  a3 : Int
  a4 : Int
  a5 : Int
deriving DecidableEq, Inhabited
def Data.field (d : Data) (f : Int) : Int := [d.a0, d.a1, d.a2, d.a3, d.a4, d.a5, d.ip].getD f.toNat 0
theorem infoU64 : (Try.prog.info? 23).map (fun i => (i.zero, i.size, i.bytes)) = some (some (.int .u64 0), 1, 8) := by kernel_rfl
set_option maxHeartbeats 400000 in
theorem clone_calls (ad : Addr) (c : Nat) (xs : List Int) (w : World) (hl : (Kd.int .u64).C w (some ad) xs.length xs) (hs : xs.length ≤ 1000) :
    Calls Try.prog 77 #[.slice (some ad) xs.length c] w fun e w' => ∃ v, e = .returned v ∧ (Kd.int .u64).R 23 w' w.heap.size (fun _ => True) v xs ∧ Below w.heap.size w w' := by
  have HC := Lib.hid hl
  have hnn := fun W => Lib.run_eql_slice_nil (P := Try.prog) W 146 23 (some ad) xs.length c 0 0 Try.underlying146
  clear hl
  go_enter Try.func77, Try.ntmps77
  go_wp2_with (at_builtin; refine Kd.R_append_rows (Kd.int .u64) (Rr := (Kd.int .u64).K (w.alloc (.cells #[] 23))) (w0 := w) w.heap.size rfl (.tmp 5) (.tmp 6) 146 23 (.int .u64 0) 8 rfl Try.underlying146 infoU64 rfl (by decide) (by omega) (.slice (some ⟨w.heap.size, 0, none⟩) 0 0) [] xs (some ad) xs.length c (fun _ => True) (fun _ => False) ?h1 ?h2 (R_empty _ _ _ _ (Nat.le_refl _)) (Kd.C_alloc HC.out _) (fun _ _ h => h) (fun _ h => h.elim) (fun _ _ => trivial) ?hB ?hb ?hl ?_; (case h1 => rfl); (case h2 => rfl); (case hB => go_grown); (case hb => simp); (case hl => simp; omega); intro v1 w1 ho hb hg hat; have HO := Lib.hid ho; have HB := Lib.hid hb; clear ho hb hg hat)
  go_returns
  exact ⟨_, rfl, by simpa using HO.out, HB.out⟩

/-! ### holds -/
mutual
def okE : Expr → Bool
  | ⟨op, l, field, mask, rel, value⟩ => oneS op l.length field mask rel value == 0 && okL l
def okL : List Expr → Bool
  | [] => true
  | e :: r => okE e && okL r
end
def relS (rel o : Int) : Bool := if rel == 1 then o == 0 else if rel == 2 then o != 0 else if rel == 3 then decide (o < 0) else if rel == 4 then decide (o ≤ 0) else if rel == 5 then decide (0 < o) else decide (0 ≤ o)
mutual
def holdsS (d : Data) : Expr → Bool
  | ⟨op, l, field, mask, rel, value⟩ =>
    if op == 3 then !holdsFst d l
    else if op == 4 then holdsAll d l
    else if op == 5 then holdsAny d l
    else if op == 6 then relS rel (cmpS (bits .and .u64 (d.field field) mask) value)
    else op == 1
def holdsFst (d : Data) : List Expr → Bool
  | [] => false
  | e :: _ => holdsS d e
def holdsAll (d : Data) : List Expr → Bool
  | [] => true
  | e :: r => holdsS d e && holdsAll d r
def holdsAny (d : Data) : List Expr → Bool
  | [] => false
  | e :: r => holdsS d e || holdsAny d r
end
theorem holdsAll_eq (d : Data) (l : List Expr) : holdsAll d l = l.all (holdsS d) := by
  induction l with
  | nil => rfl
  | cons e r ih => rw [holdsAll, ih]; rfl
theorem holdsAny_eq (d : Data) (l : List Expr) : holdsAny d l = l.any (holdsS d) := by
  induction l with
  | nil => rfl
  | cons e r ih => rw [holdsAny, ih]; rfl
theorem okL_mem {l : List Expr} (h : okL l = true) : ∀ e ∈ l, okE e = true := by
  induction l with
  | nil => simp
  | cons a r ih =>
    rw [okL, Bool.and_eq_true] at h
    intro e he
    rcases List.mem_cons.1 he with rfl | he
    · exact h.1
    · exact ih h.2 e he
theorem okE_one {e : Expr} (h : okE e = true) : oneS e.f0 e.f1.length e.f2 e.f3 e.f4 e.f5 = 0 ∧ okL e.f1 = true := by
  cases e
  rw [okE, Bool.and_eq_true, beq_iff_eq] at h
  exact h
def askCells (d : Data) (r : Nat) : Array Value := #[.int .u32 d.nr, .int .u32 d.arch, .int .u64 d.ip, .int .u64 d.a0, .int .u64 d.a1, .int .u64 d.a2, .int .u64 d.a3, .int .u64 d.a4, .int .u64 d.a5, .map (some r)]
def exCells (e : Expr) (A : Option Addr) (c : Nat) : Array Value := #[.int .i64 e.f0, .slice A e.f1.length c, .int .i64 e.f2, .int .u64 e.f3, .int .i64 e.f4, .int .u64 e.f5]
/-- What holds answers of an expression. -/
def HoldsAt (e : Expr) : Prop := ∀ (d : Data) (r : Nat) (A : Option Addr) (c : Nat) (w : World), IsMap kRel id w r relL → kExpr.C w A e.f1.length e.f1 → Calls Try.prog 43 #[.agg (askCells d r), .agg (exCells e A c)] w (Ret (.bool (holdsS d e)) w)

set_option maxHeartbeats 1000000 in
set_option maxRecDepth 100000 in
theorem holds_not (e : Expr) (IH : ∀ x ∈ e.f1, HoldsAt x) (hop : e.f0 = 3) (hn : 0 < e.f1.length) : HoldsAt e := by
  intro d r A c w hr hA
  have HIH := Lib.hid IH
  have HC := Lib.hid hA
  have HR := Lib.hid hr
  have HS : Hid (holdsS d e = !holdsS d e.f1[0]) := Lib.hid (by
    obtain ⟨op, l, f, m, rl, v⟩ := e
    simp only at hop hn
    rw [holdsS, if_pos (by simp [hop])]
    cases l with
    | nil => simp at hn
    | cons x r => rfl)
  obtain ⟨b, o, rfl, hb, hat⟩ := at_Expr hA hn
  obtain ⟨A1, c1, hx0, hx1, hx2, hx3, hx4, hx5, hl1, hC1⟩ := hat 0 _ (List.getElem?_eq_getElem hn)
  have HC1 := Lib.hid hC1
  simp only [Nat.zero_mul, Nat.add_zero] at hx0 hx1 hx2 hx3 hx4 hx5
  clear hat hC1 hA hr IH
  unfold exCells askCells
  rw [hop]
  clear hop
  go_enter Try.func43, Try.ntmps43
  go_wp2
  go_region_with (go_at_call 43; refine (HIH.out e.f1[0] (List.getElem_mem _) d r A1 c1 _ ?hm ?hc).mono ?_; (case hm => exact IsMap.below HR.out (by go_grown)); (case hc => exact Kd.C_below HC1.out (by go_grown)); rintro e' w1 ⟨rfl, hb1⟩; have HB1 := Lib.hid (bl_call (by go_grown : Below w.heap.size w _) (by simp; try omega) hb1); clear hb1)
  all_goals (go_wp2; go_returns; exact ⟨by rw [HS.out]; rfl, HB1.out⟩)

theorem body_holds : Body Try.prog 43 := ⟨fun _ _ => by kernel_rfl⟩
theorem body_holds1 : Body Try.prog 76 := ⟨fun _ _ => by kernel_rfl⟩
set_option maxHeartbeats 1000000 in
theorem holds1_calls (x : Expr) (hx : HoldsAt x) (d : Data) (r b : Nat) (A : Option Addr) (c : Nat) (w : World) (hb : b < w.heap.size) (hr : IsMap kRel id w r relL) (X : Box w b (askCells d r)) (hA : kExpr.C w A x.f1.length x.f1) :
    Calls Try.prog 76 #[.agg (exCells x A c), .pointer (some ⟨b, 0, none⟩)] w (Ret (.bool (!holdsS d x)) w) := by
  have HC := Lib.hid hA
  have HR := Lib.hid hr
  have HX := Lib.hid hx
  have x0 := X 0 _ rfl
  have x1 := X 1 _ rfl
  have x2 := X 2 _ rfl
  have x3 := X 3 _ rfl
  have x4 := X 4 _ rfl
  have x5 := X 5 _ rfl
  have x6 := X 6 _ rfl
  have x7 := X 7 _ rfl
  have x8 := X 8 _ rfl
  have x9 := X 9 _ rfl
  clear hA hr hx
  unfold exCells
  go_enter Try.func76, Try.ntmps76
  go_wp2_with (go_at_call 43; refine (HX.out d r A c _ ?hm ?hc).mono ?_; (case hm => exact IsMap.below HR.out (by go_grown)); (case hc => exact Kd.C_below HC.out (by go_grown)); rintro e' w1 ⟨rfl, hb1⟩; have HB1 := Lib.hid (bl_call (by go_grown : Below w.heap.size w _) (by simp; try omega) hb1); clear hb1)
  go_returns
  exact ⟨rfl, HB1.out⟩
set_option maxHeartbeats 1000000 in
set_option maxRecDepth 100000 in
theorem holds_and (e : Expr) (IH : ∀ x ∈ e.f1, HoldsAt x) (hop : e.f0 = 4) : HoldsAt e := by
  intro d r A c w hr hA
  have HIH := Lib.hid IH
  have HC := Lib.hid hA
  have HR := Lib.hid hr
  have HS : Hid (holdsS d e = !(e.f1.any fun x => !holdsS d x)) := Lib.hid (by
    obtain ⟨op, l, f, m, rl, v⟩ := e
    simp only at hop
    rw [holdsS, if_neg (by simp [hop]), if_pos (by simp [hop]), holdsAll_eq, List.all_eq_not_any_not])
  clear hA hr IH
  unfold exCells askCells
  rw [hop]
  clear hop
  go_enter Try.func43, Try.ntmps43
  go_wp2_with fail
  refine (conE_calls A c e.f1 76 #[] #[.pointer (some ⟨w.heap.size, 0, none⟩)] (fun x => !holdsS d x) _ body_holds1 (Kd.C_below HC.out (by go_grown)) ?_).mono ?_
  · intro x hx A1 c1 W hW hC1
    have hb0 : Below w.heap.size w W := bl_call (by go_grown : Below w.heap.size w _) (by simp; try omega) hW
    refine holds1_calls x (HIH.out x hx) d r w.heap.size A1 c1 W ?_ (IsMap.below HR.out hb0) ?_ hC1
    · have := hW.size; simp at this; omega
    · exact ((Box.new w (askCells d r) _).alloc _).below hW
  · rintro e' w1 ⟨rfl, hb1⟩
    have HB1 := Lib.hid (bl_call (by go_grown : Below w.heap.size w _) (by simp; try omega) hb1)
    clear hb1
    go_wp2
    go_returns
    exact ⟨by rw [HS.out]; rfl, HB1.out⟩
set_option maxHeartbeats 1000000 in
set_option maxRecDepth 100000 in
theorem holds_or (e : Expr) (IH : ∀ x ∈ e.f1, HoldsAt x) (hop : e.f0 = 5) : HoldsAt e := by
  intro d r A c w hr hA
  have HIH := Lib.hid IH
  have HC := Lib.hid hA
  have HR := Lib.hid hr
  have HS : Hid (holdsS d e = e.f1.any (holdsS d)) := Lib.hid (by
    obtain ⟨op, l, f, m, rl, v⟩ := e
    simp only at hop
    rw [holdsS, if_neg (by simp [hop]), if_neg (by simp [hop]), if_pos (by simp [hop]), holdsAny_eq])
  clear hA hr IH
  unfold exCells askCells
  rw [hop]
  clear hop
  go_enter Try.func43, Try.ntmps43
  go_wp2_with fail
  refine (conE_calls A c e.f1 43 #[.agg (askCells d r)] #[] (holdsS d) _ body_holds (Kd.C_below HC.out (by go_grown)) ?_).mono ?_
  · intro x hx A1 c1 W hW hC1
    have hb0 : Below w.heap.size w W := bl_call (by go_grown : Below w.heap.size w _) (by simp; try omega) hW
    exact HIH.out x hx d r A1 c1 W (IsMap.below HR.out hb0) hC1
  · rintro e' w1 ⟨rfl, hb1⟩
    have HB1 := Lib.hid (bl_call (by go_grown : Below w.heap.size w _) (by simp; try omega) hb1)
    clear hb1
    go_wp2
    go_returns
    exact ⟨by rw [HS.out]; rfl, HB1.out⟩
set_option maxHeartbeats 1000000 in
set_option maxRecDepth 100000 in
theorem holds_const (e : Expr) (hop : e.f0 = 1 ∨ e.f0 = 2) : HoldsAt e := by
  intro d r A c w hr hA
  have HS : Hid (holdsS d e = (e.f0 == 1)) := Lib.hid (by
    obtain ⟨op, l, f, m, rl, v⟩ := e
    simp only at hop
    rw [holdsS, if_neg (by simp; omega), if_neg (by simp; omega), if_neg (by simp; omega), if_neg (by simp; omega)])
  clear hA hr
  unfold exCells askCells
  rcases hop with hop | hop
  · rw [hop] at HS ⊢
    clear hop
    go_enter Try.func43, Try.ntmps43
    go_wp2
    go_returns
    exact ⟨by rw [HS.out]; rfl, by go_grown⟩
  · rw [hop] at HS ⊢
    clear hop
    go_enter Try.func43, Try.ntmps43
    go_wp2
    go_returns
    exact ⟨by rw [HS.out]; rfl, by go_grown⟩
end Go.Proofs.Ytkojnaebkgekaaa
