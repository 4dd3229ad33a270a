/- Layer 6's reader (the document's): its state, and its smallest methods. -/
import Derived.Test.YtkojnaebkgekaaaTypes
import Derived.Test.YtkojnaebkgekaaaMapW
import Derived.Deep.QuietTactic
import Derived.BigQuiet
import Derived.Deep.RegionLaw
import Derived.Deep.RegionWith
import Derived.StillTailTactics
import Derived.Tactics
import Derived.KernelRfl
set_option linter.unusedVariables false
set_option linter.unusedSimpArgs false
namespace Go.Proofs.Ytkojnaebkgekaaa
open Go.RowKit Go.Proofs.YtkojnaebkgekaaaW.PrintWords
/-- A reader: the tokens, the error and its place behind them, where it stands, how deep, the first error, its place. -/
structure Rd where
  l : List Token
  e : Int
  p : Int
  a : Int
  d : Int
  x : Int
  b : Int
abbrev tRd : Nat := 210
def Rd.cells (s : Rd) (A : Option Addr) (c : Nat) : Array Value := #[.slice A s.l.length c, .int .i64 s.e, .int .i64 s.p, .int .i64 s.a, .int .i64 s.d, .int .i64 s.x, .int .i64 s.b]
/-- The reader lies in block g of W; its tokens lie in w0, of which all is as it was. -/
def RdAt (w0 W : World) (g : Nat) (s : Rd) : Prop := ∃ A c, kToken.C w0 A s.l.length s.l ∧ w0.heap.size ≤ g ∧ Below w0.heap.size w0 W ∧ W.heap[g]? = some (.cells (s.cells A c) tRd (0, 0))
theorem heap_cell {W : World} {g : Nat} {cs : Array Value} {t : TypeId} {fr : Nat × Nat} (h : W.heap[g]? = some (.cells cs t fr)) : ∀ j u, cs[j]? = some u → W.cell? ⟨g, j, none⟩ = some u := by
  intro j u hu
  simp only [World.cell?, h]
  simpa using hu
theorem heap_lt {W : World} {g : Nat} {o : Obj} (h : W.heap[g]? = some o) : g < W.heap.size := by
  obtain ⟨h, _⟩ := Array.getElem?_eq_some_iff.1 h
  exact h
theorem heap_thaw {W : World} {g : Nat} {cs : Array Value} {t : TypeId} (h : W.heap[g]? = some (.cells cs t (0, 0))) : ∀ j, W.frozen? ⟨g, j, none⟩ = false := by
  intro j
  simp [World.frozen?, h]
theorem results_c {P : Program} {fn : Func} {p : Tmp} {ty : TypeId} (h : fn.results = #[.cell p ty]) (tmps : Array Value) (w : World) (g : Nat) (t : TypeId) (cs : Array Value) (fr : Nat × Nat) (d : TypeDesc)
    (hp : tmps.getD p undef = .pointer (some ⟨g, 0, none⟩)) (hg : w.heap[g]? = some (.cells cs t fr))
    (hu : P.underlying ty = some d) (hd : (match d with | .struct _ | .array _ _ => true | _ => false) = true) (hi : (P.info? ty).map (·.size) = some cs.size) :
    (results fn tmps).run P w = .ok (.agg cs) w := by
  have hp' : tmps[p]?.getD undef = .pointer (some ⟨g, 0, none⟩) := by simpa using hp
  simp [results, h, hp', asAddr, run_loadVar_row w g t ty cs fr d hg hu hd hi]
def failsS (s : Rd) (e at_ : Int) : Rd := if s.x = 0 then { s with x := e, b := at_ } else s
def tokV (t : Token) : Value := .agg #[.int .i64 t.f0, .string t.f1, .int .u64 t.f2, .int .i64 t.f3]
/-- What a method does: it answers v, leaves the reader at s', and all other memory as it was. -/
def Did (w0 W : World) (g : Nat) (v : Value) (s' : Rd) (e : Ending) (W' : World) : Prop := e = .returned v ∧ RdAt w0 W' g s' ∧ KeepBut W W' g none
theorem RdAt.drewN {w0 W : World} {g : Nat} {s : Rd} (h : RdAt w0 W g s) (n : Nat) : RdAt w0 (W.drewN n) g s := by
  obtain ⟨A, c, hC, hg, hB, hh⟩ := h
  exact ⟨A, c, hC, hg, pw_below_drewN hB n, hh⟩
theorem RdAt.drew {w0 W : World} {g : Nat} {s : Rd} (h : RdAt w0 W g s) : RdAt w0 W.drew g s := by
  obtain ⟨A, c, hC, hg, hB, hh⟩ := h
  exact ⟨A, c, hC, hg, below_drew hB, hh⟩
theorem RdAt.alloc {w0 W : World} {g : Nat} {s : Rd} (h : RdAt w0 W g s) (o : Obj) : RdAt w0 (W.alloc o) g s := by
  obtain ⟨A, c, hC, hg, hB, hh⟩ := h
  exact ⟨A, c, hC, hg, hB.alloc hB.size o, blk_alloc hh o⟩
theorem RdAt.far {w0 W : World} {g : Nat} {s : Rd} (h : RdAt w0 W g s) {a : Addr} (hne : a.block ≠ g) (hl : w0.heap.size ≤ a.block) (u : Value) : RdAt w0 (W.setCell a u) g s := by
  obtain ⟨A, c, hC, hg, hB, hh⟩ := h
  exact ⟨A, c, hC, hg, hB.setCell hl u, (Below.heap_setCell W a u g (fun e => hne e.symm)).trans hh⟩
theorem RdAt.put {w0 W : World} {g : Nat} {s s' : Rd} (h : RdAt w0 W g s) (hl : s'.l = s.l) (j : Nat) (u : Value) (e : ∀ A c, (s.cells A c).setIfInBounds j u = s'.cells A c) : RdAt w0 (W.setCell ⟨g, j, none⟩ u) g s' := by
  obtain ⟨A, c, hC, hg, hB, hh⟩ := h
  exact ⟨A, c, by rw [hl]; exact hC, hg, hB.setCell hg u, blk_put hh j u (e A c)⟩
theorem RdAt.lt {w0 W : World} {g : Nat} {s : Rd} (h : RdAt w0 W g s) : g < W.heap.size := by
  obtain ⟨A, c, hC, hg, hB, hh⟩ := h
  exact heap_lt hh
theorem RdAt.size {w0 W : World} {g : Nat} {s : Rd} (h : RdAt w0 W g s) : w0.heap.size ≤ W.heap.size := by
  obtain ⟨A, c, hC, hg, hB, hh⟩ := h
  exact hB.size
theorem RdAt.facts {w0 W : World} {g : Nat} {s : Rd} (h : RdAt w0 W g s) : ∃ A c, kToken.C W A s.l.length s.l ∧ s.l.length ≤ 9223372036854775807 ∧ W.cell? ⟨g, 0, none⟩ = some (.slice A s.l.length c) ∧ W.cell? ⟨g, 1, none⟩ = some (.int .i64 s.e) ∧ W.cell? ⟨g, 2, none⟩ = some (.int .i64 s.p) ∧ W.cell? ⟨g, 3, none⟩ = some (.int .i64 s.a) ∧ W.cell? ⟨g, 4, none⟩ = some (.int .i64 s.d) ∧ W.cell? ⟨g, 5, none⟩ = some (.int .i64 s.x) ∧ W.cell? ⟨g, 6, none⟩ = some (.int .i64 s.b) ∧ W.frozen? ⟨g, 3, none⟩ = false ∧ W.frozen? ⟨g, 4, none⟩ = false ∧ W.frozen? ⟨g, 5, none⟩ = false ∧ W.frozen? ⟨g, 6, none⟩ = false := by
  obtain ⟨A, c, hC, hg, hB, hh⟩ := h
  exact ⟨A, c, Kd.C_below hC hB, Kd.C_max hC, heap_cell hh 0 _ rfl, heap_cell hh 1 _ rfl, heap_cell hh 2 _ rfl, heap_cell hh 3 _ rfl, heap_cell hh 4 _ rfl, heap_cell hh 5 _ rfl, heap_cell hh 6 _ rfl, heap_thaw hh _, heap_thaw hh _, heap_thaw hh _, heap_thaw hh _⟩
theorem fails_calls (w0 W : World) (g : Nat) (s : Rd) (hI : RdAt w0 W g s) (e p : Int) : Calls Try.prog 117 #[.pointer (some ⟨g, 0, none⟩), .int .i64 e, .int .i64 p] W (Did w0 W g (.tuple #[]) (failsS s e p)) := by
  obtain ⟨A, c, hC, hm, h0, h1, h2, h3, h4, h5, h6, z3, z4, z5, z6⟩ := hI.facts
  have HI := Lib.hid hI
  clear hC hI
  go_enter Try.func117, Try.ntmps117
  by_cases hx : s.x = 0
  · go_wp2
    go_returns
    refine ⟨rfl, ?_, ((KeepBut.refl _ _ _).set_ _ _).set_ _ _⟩
    rw [failsS, if_pos hx]
    exact RdAt.put (s := { s with x := e }) (s' := { s with x := e, b := p }) (RdAt.put (s' := { s with x := e }) HI.out rfl 5 _ (fun _ _ => rfl)) rfl 6 _ (fun _ _ => rfl)
  · go_wp2
    go_returns
    refine ⟨rfl, ?_, KeepBut.refl _ _ _⟩
    rw [failsS, if_neg hx]
    exact HI.out
def peekS (s : Rd) : Option (Token × Rd) := if s.x = 0 then (if s.a < 0 then none else if (s.l.length : Int) ≤ s.a then some (zToken, failsS s s.e s.p) else (s.l[s.a.toNat]?).map (·, s)) else some (zToken, s)
theorem peek_calls (w0 W : World) (g : Nat) (s : Rd) (hI : RdAt w0 W g s) (t : Token) (s' : Rd) (h : peekS s = some (t, s')) : Calls Try.prog 115 #[.pointer (some ⟨g, 0, none⟩)] W (Did w0 W g (tokV t) s') := by
  obtain ⟨A, c, hC, hm, h0, h1, h2, h3, h4, h5, h6, z3, z4, z5, z6⟩ := hI.facts
  have hgl := hI.lt
  have hgs := hI.size
  have HI := Lib.hid hI
  have HC := Lib.hid hC
  clear hC hI
  unfold peekS at h
  go_enter Try.func115, Try.ntmps115
  by_cases hx : s.x = 0
  · rw [if_pos hx] at h
    by_cases ha : s.a < 0
    · rw [if_pos ha] at h
      exact absurd h (by simp)
    rw [if_neg ha] at h
    by_cases hl : (s.l.length : Int) ≤ s.a
    · rw [if_pos hl] at h
      simp only [Option.some.injEq, Prod.mk.injEq] at h
      obtain ⟨rfl, rfl⟩ := h
      go_wp2
      go_quiet (fail)
      go_wp2
      go_region_with (go_at_call 117; refine (fails_calls w0 _ g s ?hI _ _).mono ?_; (case hI => exact (HI.out.alloc _).drewN _); rintro e1 w1 ⟨rfl, hI1, hk1⟩; have hbk := hk1.blk (blk_drewN (blk_new W _) _) (by omega : W.heap.size ≠ g) (by simp); have hsz1 := keep_size hk1; have HI1 := Lib.hid hI1; have HK1 := Lib.hid hk1; have HBK := Lib.hid hbk; clear hI1 hk1; have b0 := heap_cell hbk 0 _ rfl; have b1 := heap_cell hbk 1 _ rfl; have b2 := heap_cell hbk 2 _ rfl; have b3 := heap_cell hbk 3 _ rfl; have y0 := heap_thaw hbk 0; have y1 := heap_thaw hbk 1; have y2 := heap_thaw hbk 2; have y3 := heap_thaw hbk 3; clear hbk)
      all_goals go_wp2
      all_goals refine bodyPost_ret (results_c rfl _ _ W.heap.size 205 #[.int .i64 0, .string ⟨#[]⟩, .int .u64 0, .int .i64 0] (0, 0) _ rfl (blk_put (blk_put (blk_put (blk_put HBK.out 0 _ rfl) 1 _ rfl) 2 _ rfl) 3 _ rfl) Try.underlying205 rfl (by kernel_rfl)) rfl ?_
      all_goals refine ⟨rfl, RdAt.far (RdAt.far (RdAt.far (RdAt.far HI1.out ?_ ?_ _) ?_ ?_ _) ?_ ?_ _) ?_ ?_ _, keep_far (keep_far (keep_far (keep_far ((keep_drewN (keep_alloc (KeepBut.refl _ _ _) _) _).trans HK1.out (.inl rfl)) ?_ _) ?_ _) ?_ _) ?_ _⟩
      all_goals (first | exact Nat.le_refl _ | (dsimp only; omega))
    · rw [if_neg hl] at h
      obtain ⟨t0, ht, hts⟩ := Option.map_eq_some_iff.1 h
      simp only [Prod.mk.injEq] at hts
      obtain ⟨rfl, rfl⟩ := hts
      obtain ⟨b, o, rfl, hb, hat⟩ := at_Token HC.out (by omega)
      obtain ⟨t1, t2, t3, t4⟩ := hat _ _ ht
      have HT := Lib.hid ht
      clear hat ht h
      go_wp2
      go_quiet (fail)
      go_wp2
      go_region_with (fail)
      all_goals go_wp2
      all_goals refine bodyPost_ret (results_c rfl _ _ W.heap.size 205 #[.int .i64 t0.f0, .string t0.f1, .int .u64 t0.f2, .int .i64 t0.f3] (0, 0) _ rfl (blk_put (blk_put (blk_put (blk_put (blk_drewN (blk_new W _) _) 0 _ rfl) 1 _ rfl) 2 _ rfl) 3 _ rfl) Try.underlying205 rfl (by kernel_rfl)) rfl ?_
      all_goals refine ⟨rfl, RdAt.far (RdAt.far (RdAt.far (RdAt.far ((HI.out.alloc _).drewN _) ?_ ?_ _) ?_ ?_ _) ?_ ?_ _) ?_ ?_ _, keep_far (keep_far (keep_far (keep_far (keep_drewN (keep_alloc (KeepBut.refl _ _ _) _) _) ?_ _) ?_ _) ?_ _) ?_ _⟩
      all_goals (first | exact Nat.le_refl _ | (dsimp only; omega))
  · rw [if_neg hx] at h
    simp only [Option.some.injEq, Prod.mk.injEq] at h
    obtain ⟨rfl, rfl⟩ := h
    go_wp2
    go_returns
    exact ⟨rfl, HI.out.alloc _, keep_alloc (KeepBut.refl _ _ _) _⟩
end Go.Proofs.Ytkojnaebkgekaaa
