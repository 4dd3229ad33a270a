/- Layer 6's reader (the document's): deeper, call, verdict. -/
import Derived.Test.YtkojnaebkgekaaaRdC
set_option linter.unusedVariables false
set_option linter.unusedSimpArgs false
namespace Go.Proofs.Ytkojnaebkgekaaa
open Go.RowKit Go.Proofs.YtkojnaebkgekaaaW.PrintWords
/-- One level more, from a token on, where that is not too deep. -/
def deeperS (s : Rd) : Option (Bool × Rd) := if -1 ≤ s.d ∧ s.d < 64 then some (s.x == 0, { s with d := s.d + 1 }) else none
set_option maxHeartbeats 1000000 in
theorem deeper_calls (w0 W : World) (g : Nat) (s : Rd) (hI : RdAt w0 W g s) (t : Token) (b : Bool) (s' : Rd) (h : deeperS s = some (b, s')) : Calls Try.prog 193 #[.pointer (some ⟨g, 0, none⟩), tokV t] W (Did w0 W g (.bool b) s') := by
  have hgl := hI.lt
  have hgs := hI.size
  obtain ⟨Aa, ca, hCa, hma, q0a, q1a, q2a, q3a, q4a, q5a, q6a, z3a, z4a, z5a, z6a⟩ := (hI).facts
  have HI := Lib.hid hI
  clear hI hCa q0a q1a q2a q3a q6a z3a z5a z6a hma
  unfold deeperS at h
  split at h
  · rename_i hc
    simp only [Option.some.injEq, Prod.mk.injEq] at h
    obtain ⟨rfl, rfl⟩ := h
    have hw := IntWalk.i64_in (s.d + 1) (by omega)
    have hn : ¬ (64 < s.d + 1) := by omega
    unfold tokV
    go_enter Try.func193, Try.ntmps193
    go_wp2
    go_returns
    exact ⟨rfl, RdAt.alloc (RdAt.put (s' := { s with d := s.d + 1 }) HI.out rfl 4 _ (fun _ _ => rfl)) _, keep_alloc ((KeepBut.refl _ _ _).set_ 4 _) _⟩
  · cases h
def callV (c : Call) : Value := .agg #[.string c.f0, .int .u64 c.f1]
/-- A call, where there is one. -/
def callRS (s : Rd) : Option (Call × Rd) := (peekS s).bind fun x => (nextS x.2).bind fun y => if x.1.f0 = 2 then some (⟨x.1.f1, 0⟩, y.2) else if x.1.f0 = 3 then some (⟨⟨#[]⟩, x.1.f2⟩, y.2) else none
set_option maxHeartbeats 4000000 in
theorem call_calls (w0 W : World) (g : Nat) (s : Rd) (hI : RdAt w0 W g s) (c : Call) (s' : Rd) (h : callRS s = some (c, s')) : Calls Try.prog 147 #[.pointer (some ⟨g, 0, none⟩)] W (Did w0 W g (callV c) s') := by
  have hgl := hI.lt
  have hgs := hI.size
  have hne : W.heap.size ≠ g := by omega
  have hne' : g ≠ W.heap.size := by omega
  have HI := Lib.hid hI
  clear hI
  obtain ⟨⟨t1, s1⟩, hp, h1⟩ := Option.bind_eq_some_iff.1 h
  clear h
  obtain ⟨⟨t2, s2⟩, hn, h⟩ := Option.bind_eq_some_iff.1 h1
  clear h1
  dsimp only at h hn
  obtain ⟨a0, a1, a2, a3⟩ := t1
  have HP := Lib.hid hp
  have HN := Lib.hid hn
  clear hp hn
  dsimp only at h
  by_cases h2 : a0 = 2
  · rw [if_pos h2] at h
    subst h2
    simp only [Option.some.injEq, Prod.mk.injEq] at h
    obtain ⟨rfl, rfl⟩ := h
    go_enter Try.func147, Try.ntmps147
    go_wp2_with (first | (go_at_call 115; refine (peek_calls w0 _ g s ?hi _ _ HP.out).mono ?_; (case hi => exact HI.out.alloc _); rintro e1 w1 ⟨rfl, hI1, hk1⟩; have hbk := hk1.blk (blk_new W _) hne (by simp); have HBK1 := Lib.hid hbk; have hlt1 := heap_lt hbk; have HI1 := Lib.hid hI1; have HK1 := Lib.hid ((keep_alloc (KeepBut.refl _ _ _) _).trans hk1 (.inl rfl)); clear hI1 hk1 hbk; unfold tokV) | (go_at_call 146; refine (next_calls w0 _ g s1 ?hi _ _ HN.out).mono ?_; (case hi => exact HI1.out.alloc _); rintro e2 w2 ⟨rfl, hI2, hk2⟩; have hbk := hk2.blk (blk_alloc HBK1.out _) hne (by simp); have hbt := hk2.blk (blk_new w1 _) (by have := HI1.out.lt; omega : w1.heap.size ≠ g) (by simp); have HBK2 := Lib.hid hbk; have hlt2 := heap_lt hbk; have hlt3 := heap_lt hbt; have HI2 := Lib.hid hI2; have HK2 := Lib.hid ((keep_alloc HK1.out _).trans hk2 (.inl rfl)); have b1 := heap_cell hbt 1 _ rfl; have b2 := heap_cell hbt 2 _ rfl; have b0 := heap_cell hbk 0 _ rfl; have b0' := heap_cell hbk 1 _ rfl; have y0 := heap_thaw hbk 0; have y1 := heap_thaw hbk 1; clear hI2 hk2 hbk hbt))
    refine bodyPost_ret (results_c rfl _ _ W.heap.size 63 #[.string a1, .int .u64 0] (0, 0) _ rfl ?_ Try.underlying63 rfl (by kernel_rfl)) rfl ?_
    · refine blk_put (cs := #[.string a1, .int .u64 0]) ?_ 1 _ rfl; refine blk_put (cs := #[.string ⟨#[]⟩, .int .u64 0]) ?_ 0 _ rfl; exact HBK2.out
    refine ⟨rfl, ?_, ?_⟩
    · iterate 2 refine RdAt.far ?_ hne hgs _
      exact HI2.out
    · iterate 2 refine keep_far ?_ (Nat.le_refl _) _
      exact HK2.out
  · rw [if_neg h2] at h
    by_cases h3 : a0 = 3
    · rw [if_pos h3] at h
      subst h3
      simp only [Option.some.injEq, Prod.mk.injEq] at h
      obtain ⟨rfl, rfl⟩ := h
      go_enter Try.func147, Try.ntmps147
      go_wp2_with (first | (go_at_call 115; refine (peek_calls w0 _ g s ?hi _ _ HP.out).mono ?_; (case hi => exact HI.out.alloc _); rintro e1 w1 ⟨rfl, hI1, hk1⟩; have hbk := hk1.blk (blk_new W _) hne (by simp); have HBK1 := Lib.hid hbk; have hlt1 := heap_lt hbk; have HI1 := Lib.hid hI1; have HK1 := Lib.hid ((keep_alloc (KeepBut.refl _ _ _) _).trans hk1 (.inl rfl)); clear hI1 hk1 hbk; unfold tokV) | (go_at_call 146; refine (next_calls w0 _ g s1 ?hi _ _ HN.out).mono ?_; (case hi => exact HI1.out.alloc _); rintro e2 w2 ⟨rfl, hI2, hk2⟩; have hbk := hk2.blk (blk_alloc HBK1.out _) hne (by simp); have hbt := hk2.blk (blk_new w1 _) (by have := HI1.out.lt; omega : w1.heap.size ≠ g) (by simp); have HBK2 := Lib.hid hbk; have hlt2 := heap_lt hbk; have hlt3 := heap_lt hbt; have HI2 := Lib.hid hI2; have HK2 := Lib.hid ((keep_alloc HK1.out _).trans hk2 (.inl rfl)); have b1 := heap_cell hbt 1 _ rfl; have b2 := heap_cell hbt 2 _ rfl; have b0 := heap_cell hbk 0 _ rfl; have b0' := heap_cell hbk 1 _ rfl; have y0 := heap_thaw hbk 0; have y1 := heap_thaw hbk 1; clear hI2 hk2 hbk hbt))
      refine bodyPost_ret (results_c rfl _ _ W.heap.size 63 #[.string ⟨#[]⟩, .int .u64 a2] (0, 0) _ rfl ?_ Try.underlying63 rfl (by kernel_rfl)) rfl ?_
      · refine blk_put (cs := #[.string ⟨#[]⟩, .int .u64 0]) ?_ 1 _ rfl; refine blk_put (cs := #[.string ⟨#[]⟩, .int .u64 0]) ?_ 0 _ rfl; exact HBK2.out
      refine ⟨rfl, ?_, ?_⟩
      · iterate 2 refine RdAt.far ?_ hne hgs _
        exact HI2.out
      · iterate 2 refine keep_far ?_ (Nat.le_refl _) _
        exact HK2.out
    · rw [if_neg h3] at h
      cases h
end Go.Proofs.Ytkojnaebkgekaaa
