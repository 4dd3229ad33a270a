/- Layer 7: Holds, Eval. -/
import Derived.Test.YtkojnaebkgekaaaSemD
import Derived.Test.YtkojnaebkgekaaaSemF
import Derived.Test.YtkojnaebkgekaaaRowW
set_option linter.unusedVariables false
set_option linter.unusedSimpArgs false
namespace Go.Proofs.Ytkojnaebkgekaaa
open Go.RowKit Go.Proofs.YtkojnaebkgekaaaW.PrintWords
set_option maxHeartbeats 400000 in
theorem idxC_calls (A : Option Addr) (c : Nat) (l : List Call) (f : Nat) (first caps : Array Value) (p : Call → Bool) (w : World) (hf : Body Try.prog f) (hl : kCall.C w A l.length l)
    (H : ∀ x ∈ l, ∀ (W : World), Below w.heap.size w W →
      Calls Try.prog f (first ++ #[.agg #[.string x.f0, .int .u64 x.f1]] ++ caps) W (Ret (.bool (p x)) W)) :
    Calls Try.prog 74 #[.slice A l.length c, .func (.func f) first caps] w (Ret (.int .i64 (idx p l)) w) := by
  have hm := Kd.C_max hl
  have HC := Lib.hid hl
  have HF := Lib.hid H
  have hff := hf.run
  clear hl H hf
  go_enter Try.func74, Try.ntmps74
  go_wp2
  go_loopw [5, 8] (fun v i wr => ∃ k : Nat, k ≤ l.length ∧ i = .int .i64 k ∧ (l.take k).any p = false ∧ Hid (Below w.heap.size w wr)) (fun _ i _ => l.length - (intOf i).toNat)
  case atStart => exact ⟨0, Nat.zero_le _, rfl, by simp, Lib.hid (Below.refl _ _)⟩
  case round =>
    obtain ⟨k, hk, rfl, hno, HR⟩ := hrel
    have HN := Lib.hid hno
    clear hno
    by_cases hlt : k < l.length
    · obtain ⟨b, o, rfl, hb, hat⟩ := at_Call (Kd.C_below HC.out HR.out) (by omega)
      obtain ⟨hx0, hx1⟩ := hat k _ (List.getElem?_eq_getElem hlt)
      have HFx := Lib.hid (HF.out l[k] (List.getElem_mem _) wr HR.out)
      clear hat
      go_wp2_with fail
      refine (HFx.out).mono ?_
      rintro e w2 ⟨rfl, hb2⟩
      have HB2 := Lib.hid hb2
      clear hb2
      by_cases hp : p l[k] = true
      · go_wp2
        go_returns
        exact ⟨by rw [idx_at hlt HN.out hp]; rfl, by have := bl_call HR.out HR.out.size HB2.out; go_grown⟩
      · have hp' : p l[k] = false := by simpa using hp
        go_wp2
        go_roundw
        case rel => exact ⟨k + 1, by omega, by go_num, any_snoc hlt HN.out hp', Lib.hid (by have := bl_call HR.out HR.out.size HB2.out; go_grown)⟩
        case measure => simp [intOf]; omega
    · have he : k = l.length := by omega
      have hno := HN.out
      rw [he, List.take_length] at hno
      have HN2 := Lib.hid hno
      clear hno he
      go_wp2
      go_returns
      exact ⟨by rw [idx_no HN2.out]; rfl, by have := HR.out; go_grown⟩
theorem conC_calls (A : Option Addr) (c : Nat) (l : List Call) (f : Nat) (first caps : Array Value) (p : Call → Bool) (w : World) (hf : Body Try.prog f) (hl : kCall.C w A l.length l)
    (H : ∀ x ∈ l, ∀ (W : World), Below w.heap.size w W →
      Calls Try.prog f (first ++ #[.agg #[.string x.f0, .int .u64 x.f1]] ++ caps) W (Ret (.bool (p x)) W)) :
    Calls Try.prog 40 #[.slice A l.length c, .func (.func f) first caps] w (Ret (.bool (l.any p)) w) := by
  have HX := Lib.hid (idxC_calls A c l f first caps p w hf hl H)
  clear hf hl H
  go_enter Try.func40, Try.ntmps40
  go_wp2_with (go_at_call 74; refine (HX.out).mono ?_; rintro e w1 ⟨rfl, hb⟩; have HB := Lib.hid hb; clear hb)
  go_returns
  exact ⟨by rw [← idx_any]; rfl, HB.out⟩

theorem body_eval1 : Body Try.prog 41 := ⟨fun _ _ => by kernel_rfl⟩
/-- Is a call's number the one that data ask for? -/
def nrIs (arch : ByteArray) (d : Data) (c : Call) : Bool := (callNr arch c).1 == d.nr
theorem eval1_calls (c : Call) (hc : c.wf) (arch : ByteArray) (d : Data) (b1 b2 : Nat) (w : World) (h1 : w.cell? ⟨b1, 0, none⟩ = some (.string arch)) (h2 : w.cell? ⟨b2, 0, none⟩ = some (.int .u32 d.nr)) (l1 : b1 < w.heap.size) (l2 : b2 < w.heap.size) :
    Calls Try.prog 41 (#[] ++ #[.agg #[.string c.f0, .int .u64 c.f1]] ++ #[.pointer (some ⟨b1, 0, none⟩), .pointer (some ⟨b2, 0, none⟩)]) w (Ret (.bool (nrIs arch d c)) w) := by
  obtain ⟨nm, nr⟩ := c
  obtain ⟨h0, h3⟩ := hc
  show Calls Try.prog 41 #[.agg #[.string nm, .int .u64 nr], .pointer (some ⟨b1, 0, none⟩), .pointer (some ⟨b2, 0, none⟩)] w _
  go_enter Try.func41, Try.ntmps41
  go_wp2_with (go_at_call 42; refine (cnum_calls arch nm nr _ h0 h3).mono ?_; rintro e w1 ⟨rfl, hb⟩; have hn2 : w1.cell? ⟨b2, 0, none⟩ = some (.int .u32 d.nr) := ((hb.cell (p := ⟨b2, 0, none⟩) (by simp; omega)).trans (by rw [World.cell?_alloc_lt _ _ _ (by simpa using l2)]; exact h2)); have HB := Lib.hid hb; clear hb)
  go_returns
  exact ⟨rfl, bl_call (below_alloc (Below.refl _ _) _) (by simp) HB.out⟩
def holdsTop (d : Data) (e : Expr) : Bool := exprS e == 0 && holdsS d e
theorem okL_within : ∀ (l : List Expr) (d : Int), (∀ x ∈ l, withinS x d = 0 → okE x = true) → withinL l d = 0 → okL l = true
  | [], _, _, _ => rfl
  | e :: r, d, h, hw => by
    rw [withinL] at hw
    by_cases h0 : withinS e d = 0
    · rw [if_neg (by simp [h0])] at hw
      rw [okL, h e (by simp) h0, okL_within r d (fun x hx => h x (by simp [hx])) hw]
      rfl
    · rw [if_pos (by simp [h0])] at hw
      exact absurd hw h0
/-- An expression that may be is right in each of its parts. -/
theorem ok_within : ∀ (n : Nat) (e : Expr) (d : Int), SizeOf.sizeOf e ≤ n → withinS e d = 0 → okE e = true := by
  intro n
  induction n with
  | zero =>
    intro e d hs
    obtain ⟨op, l, f, m, rl, v⟩ := e
    have := Expr.mk.sizeOf_spec op l f m rl v
    omega
  | succ n ih =>
    intro e d hs h
    have hsz : ∀ x ∈ e.f1, SizeOf.sizeOf x ≤ n := fun x hx => by have := sizeOf_args hx; omega
    obtain ⟨op, l, f, m, rl, v⟩ := e
    rw [withinS] at h
    by_cases hd : d > 200
    · rw [if_pos hd] at h
      cases h
    · rw [if_neg hd] at h
      by_cases h1 : oneS op l.length f m rl v = 0
      · rw [if_neg (by simp [h1])] at h
        rw [okE, h1, okL_within l (d + 1) (fun x hx hw => ih x _ (hsz x hx) hw) h]
        rfl
      · rw [if_pos (by simp [h1])] at h
        exact absurd h h1
def Data.arr (d : Data) : Array Value := #[.int .u32 d.nr, .int .u32 d.arch, .int .u64 d.ip, .int .u64 d.a0, .int .u64 d.a1, .int .u64 d.a2, .int .u64 d.a3, .int .u64 d.a4, .int .u64 d.a5]
theorem Box.drew {w : World} {b : Nat} {cs : Array Value} (h : Box w b cs) : Box w.drew b cs := h.below (below_drew (Below.refl _ _))
set_option maxHeartbeats 4000000 in
theorem Holds_calls (e : Expr) (d : Data) (A : Option Addr) (c : Nat) (w : World) (hA : kExpr.C w A e.f1.length e.f1) :
    Calls Try.prog 15 #[.agg (exCells e A c), .agg d.arr] w (Ret (.bool (holdsTop d e)) w) := by
  have HC := Lib.hid hA
  clear hA
  unfold exCells Data.arr
  go_enter Try.func15, Try.ntmps15
  by_cases h0 : exprS e = 0
  · have HH := Lib.hid (holds_ok _ e (Nat.le_refl _) (ok_within _ e 0 (Nat.le_refl _) h0))
    go_wp2
    go_region_with (first | (go_at_call 17; refine (expr_calls e A c _ ?hc).mono ?_; (case hc => exact Kd.C_drew (Kd.C_alloc (Kd.C_alloc HC.out _) _)); rintro en w1 ⟨rfl, hb1⟩; (try rw [h0]); have XE1 := Lib.hid (Box.upto (Box.drew (Box.alloc (Box.new w #[.int .i64 e.f0, .slice A e.f1.length c, .int .i64 e.f2, .int .u64 e.f3, .int .i64 e.f4, .int .u64 e.f5] 44) (.cells #[.int .u32 d.nr, .int .u32 d.arch, .int .u64 d.ip, .int .u64 d.a0, .int .u64 d.a1, .int .u64 d.a2, .int .u64 d.a3, .int .u64 d.a4, .int .u64 d.a5] 32))) hb1 (by show w.heap.size < _; simp; omega) : Box w1 w.heap.size #[.int .i64 e.f0, .slice A e.f1.length c, .int .i64 e.f2, .int .u64 e.f3, .int .i64 e.f4, .int .u64 e.f5]); have XD1 := Lib.hid (Box.upto (Box.drew (Box.new (w.alloc (.cells #[.int .i64 e.f0, .slice A e.f1.length c, .int .i64 e.f2, .int .u64 e.f3, .int .i64 e.f4, .int .u64 e.f5] 44)) #[.int .u32 d.nr, .int .u32 d.arch, .int .u64 d.ip, .int .u64 d.a0, .int .u64 d.a1, .int .u64 d.a2, .int .u64 d.a3, .int .u64 d.a4, .int .u64 d.a5] 32)) hb1 (by simp) : Box w1 (w.alloc (.cells #[.int .i64 e.f0, .slice A e.f1.length c, .int .i64 e.f2, .int .u64 e.f3, .int .i64 e.f4, .int .u64 e.f5] 44)).heap.size #[.int .u32 d.nr, .int .u32 d.arch, .int .u64 d.ip, .int .u64 d.a0, .int .u64 d.a1, .int .u64 d.a2, .int .u64 d.a3, .int .u64 d.a4, .int .u64 d.a5]); simp only [World.alloc, Array.size_push] at XD1; have HC1 := Lib.hid (Kd.C_below (Kd.C_drew (Kd.C_alloc (Kd.C_alloc HC.out _) _)) hb1); have HB1 := Lib.hid (bl_call (below_drew (below_alloc (below_alloc (Below.refl _ _) _) _)) (by simp; omega) hb1 : Below w.heap.size w w1); have X1 := XE1.out; have Y1 := XD1.out; have e10 := X1 0 _ rfl; have e11 := X1 1 _ rfl; have e12 := X1 2 _ rfl; have e13 := X1 3 _ rfl; have e14 := X1 4 _ rfl; have e15 := X1 5 _ rfl; have d10 := Y1 0 _ rfl; have d11 := Y1 1 _ rfl; have d12 := Y1 2 _ rfl; have d13 := Y1 3 _ rfl; have d14 := Y1 4 _ rfl; have d15 := Y1 5 _ rfl; have d16 := Y1 6 _ rfl; have d17 := Y1 7 _ rfl; have d18 := Y1 8 _ rfl; clear X1 Y1; clear hb1) | (go_at_call 39; refine (rels_calls _).mono ?_; rintro en w2 ⟨r, rfl, hm2, hb2⟩; have XE2 := Lib.hid (XE1.out.below hb2); have XD2 := Lib.hid (XD1.out.below hb2); have HC2 := Lib.hid (Kd.C_below HC1.out hb2); have HB2 := Lib.hid (bl_call HB1.out HB1.out.size hb2); have HM2 := Lib.hid hm2; have X2 := XE2.out; have Y2 := XD2.out; have e20 := X2 0 _ rfl; have e21 := X2 1 _ rfl; have e22 := X2 2 _ rfl; have e23 := X2 3 _ rfl; have e24 := X2 4 _ rfl; have e25 := X2 5 _ rfl; have d20 := Y2 0 _ rfl; have d21 := Y2 1 _ rfl; have d22 := Y2 2 _ rfl; have d23 := Y2 3 _ rfl; have d24 := Y2 4 _ rfl; have d25 := Y2 5 _ rfl; have d26 := Y2 6 _ rfl; have d27 := Y2 7 _ rfl; have d28 := Y2 8 _ rfl; clear X2 Y2; clear hb2 hm2) | (go_at_call 43; refine (HH.out d r A c _ HM2.out HC2.out).mono ?_; rintro en w3 ⟨rfl, hb3⟩; have HB3 := Lib.hid (bl_call HB2.out HB2.out.size hb3); clear hb3))
    all_goals go_wp2
    all_goals (go_returns; exact ⟨by simp [Act.put, Act.eval, holdsTop, h0], HB3.out⟩)
  · have he0 : (exprS e == 0) = false := by simpa using h0
    go_wp2
    go_region_with (first | (go_at_call 17; refine (expr_calls e A c _ ?hc).mono ?_; (case hc => exact Kd.C_drew (Kd.C_alloc (Kd.C_alloc HC.out _) _)); rintro en w1 ⟨rfl, hb1⟩; (try rw [h0]); have XE1 := Lib.hid (Box.upto (Box.drew (Box.alloc (Box.new w #[.int .i64 e.f0, .slice A e.f1.length c, .int .i64 e.f2, .int .u64 e.f3, .int .i64 e.f4, .int .u64 e.f5] 44) (.cells #[.int .u32 d.nr, .int .u32 d.arch, .int .u64 d.ip, .int .u64 d.a0, .int .u64 d.a1, .int .u64 d.a2, .int .u64 d.a3, .int .u64 d.a4, .int .u64 d.a5] 32))) hb1 (by show w.heap.size < _; simp; omega) : Box w1 w.heap.size #[.int .i64 e.f0, .slice A e.f1.length c, .int .i64 e.f2, .int .u64 e.f3, .int .i64 e.f4, .int .u64 e.f5]); have XD1 := Lib.hid (Box.upto (Box.drew (Box.new (w.alloc (.cells #[.int .i64 e.f0, .slice A e.f1.length c, .int .i64 e.f2, .int .u64 e.f3, .int .i64 e.f4, .int .u64 e.f5] 44)) #[.int .u32 d.nr, .int .u32 d.arch, .int .u64 d.ip, .int .u64 d.a0, .int .u64 d.a1, .int .u64 d.a2, .int .u64 d.a3, .int .u64 d.a4, .int .u64 d.a5] 32)) hb1 (by simp) : Box w1 (w.alloc (.cells #[.int .i64 e.f0, .slice A e.f1.length c, .int .i64 e.f2, .int .u64 e.f3, .int .i64 e.f4, .int .u64 e.f5] 44)).heap.size #[.int .u32 d.nr, .int .u32 d.arch, .int .u64 d.ip, .int .u64 d.a0, .int .u64 d.a1, .int .u64 d.a2, .int .u64 d.a3, .int .u64 d.a4, .int .u64 d.a5]); simp only [World.alloc, Array.size_push] at XD1; have HC1 := Lib.hid (Kd.C_below (Kd.C_drew (Kd.C_alloc (Kd.C_alloc HC.out _) _)) hb1); have HB1 := Lib.hid (bl_call (below_drew (below_alloc (below_alloc (Below.refl _ _) _) _)) (by simp; omega) hb1 : Below w.heap.size w w1); have X1 := XE1.out; have Y1 := XD1.out; have e10 := X1 0 _ rfl; have e11 := X1 1 _ rfl; have e12 := X1 2 _ rfl; have e13 := X1 3 _ rfl; have e14 := X1 4 _ rfl; have e15 := X1 5 _ rfl; have d10 := Y1 0 _ rfl; have d11 := Y1 1 _ rfl; have d12 := Y1 2 _ rfl; have d13 := Y1 3 _ rfl; have d14 := Y1 4 _ rfl; have d15 := Y1 5 _ rfl; have d16 := Y1 6 _ rfl; have d17 := Y1 7 _ rfl; have d18 := Y1 8 _ rfl; clear X1 Y1; clear hb1))
    all_goals go_wp2
    all_goals (go_returns; exact ⟨by simp [Act.put, Act.eval, holdsTop, h0], HB1.out⟩)
/-! ### Eval -/
def evalRules (arch : ByteArray) (d : Data) : List Rule → Verdict → Verdict
  | [], v => v
  | x :: r, v => if x.f0.any (nrIs arch d) && holdsS d x.f1 then x.f2 else evalRules arch d r v
def evalS (p : Policy) (d : Data) : Int :=
  if (checkS p).1 != 0 then 0 else if d.arch != (archS p.f0).1 then (actS p.f1).1 else (actS (evalRules p.f0 d p.f3 p.f2)).1
def polArr (p : Policy) (A : Option Addr) (c : Nat) : Array Value := #[.string p.f0, .int .i64 p.f1.f0, .int .u64 p.f1.f1, .int .i64 p.f2.f0, .int .u64 p.f2.f1, .slice A p.f3.length c]
end Go.Proofs.Ytkojnaebkgekaaa
