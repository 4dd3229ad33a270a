/- Layer 6's reader (the document's): next, is, want, kind. -/
import Derived.Test.YtkojnaebkgekaaaRdA
import Derived.Lib.SlicesS
set_option linter.unusedVariables false
set_option linter.unusedSimpArgs false
namespace Go.Proofs.Ytkojnaebkgekaaa
open Go.RowKit Go.Proofs.YtkojnaebkgekaaaW.PrintWords
theorem blk_far {w : World} {k : Nat} {o : Obj} (h : w.heap[k]? = some o) {a : Addr} (hne : k ≠ a.block) {u : Value} (hn : True := trivial) : (w.setCell a u).heap[k]? = some o := (Below.heap_setCell w a u k hne).trans h
def stepS (s : Rd) : Option Rd := if s.a < 9223372036854775807 ∧ -9223372036854775809 < s.a then some { s with a := s.a + 1 } else none
theorem stepS_some {s s' : Rd} (h : stepS s = some s') : s.a < 9223372036854775807 ∧ -9223372036854775809 < s.a ∧ s' = { s with a := s.a + 1 } := by
  unfold stepS at h
  split at h
  · rename_i hb
    simp only [Option.some.injEq] at h
    exact ⟨hb.1, hb.2, h.symm⟩
  · cases h
def nextS (s : Rd) : Option (Token × Rd) := (peekS s).bind fun x => if x.2.x = 0 then (stepS x.2).map (x.1, ·) else some x
set_option maxHeartbeats 4000000 in
theorem next_calls (w0 W : World) (g : Nat) (s : Rd) (hI : RdAt w0 W g s) (t : Token) (s' : Rd) (h : nextS s = some (t, s')) : Calls Try.prog 146 #[.pointer (some ⟨g, 0, none⟩)] W (Did w0 W g (tokV t) s') := by
  have hgl := hI.lt
  have hgs := hI.size
  have hne : W.heap.size ≠ g := by omega
  have hne' : g ≠ W.heap.size := by omega
  have HI := Lib.hid hI
  clear hI
  obtain ⟨⟨t1, s1⟩, hp, h⟩ := Option.bind_eq_some_iff.1 h
  have HP := Lib.hid hp
  clear hp
  dsimp only at h
  go_enter Try.func146, Try.ntmps146
  by_cases hx : s1.x = 0
  · rw [if_pos hx] at h
    obtain ⟨s2, hs, h⟩ := Option.map_eq_some_iff.1 h
    simp only [Prod.mk.injEq] at h
    obtain ⟨rfl, rfl⟩ := h
    obtain ⟨hb1, hb2, rfl⟩ := stepS_some hs
    have hw := IntWalk.i64_in (s1.a + 1) (by omega)
    go_wp2_with (go_at_call 115; refine (peek_calls w0 _ g _ (HI.out.alloc _) _ _ HP.out).mono ?_; rintro e1 w1 ⟨rfl, hI1, hk1⟩; have hsz1 := keep_size hk1; have hg1 := hI1.lt; have hgs1 := hI1.size; have HI1 := Lib.hid hI1; have HK1 := Lib.hid ((keep_alloc (KeepBut.refl _ _ _) _).trans hk1 (.inl rfl)); obtain ⟨A1, c1, hC1, hm1, q01, q11, q21, q31, q41, q51, q61, z31, z41, z51, z61⟩ := (hI1).facts; have hbk1 := hk1.blk (blk_new W _) hne (by simp); have hlt1 := heap_lt hbk1; have b01 := heap_cell hbk1 0 _ rfl; have b11 := heap_cell hbk1 1 _ rfl; have b21 := heap_cell hbk1 2 _ rfl; have b31 := heap_cell hbk1 3 _ rfl; have y01 := heap_thaw hbk1 0; have y11 := heap_thaw hbk1 1; have y21 := heap_thaw hbk1 2; have y31 := heap_thaw hbk1 3; have HBK1 := Lib.hid hbk1; clear hbk1; clear q01 q11 q21 q41 q61 z41 z51 z61 hm1; clear hI1 hk1 hC1; unfold tokV)
    refine bodyPost_ret (results_c rfl _ _ W.heap.size 205 #[.int .i64 t1.f0, .string t1.f1, .int .u64 t1.f2, .int .i64 t1.f3] (0, 0) _ rfl (by refine blk_alloc ?_ _; refine blk_put (cs := #[.int .i64 t1.f0, .string t1.f1, .int .u64 t1.f2, .int .i64 0]) ?_ 3 _ rfl; refine blk_put (cs := #[.int .i64 t1.f0, .string t1.f1, .int .u64 0, .int .i64 0]) ?_ 2 _ rfl; refine blk_put (cs := #[.int .i64 t1.f0, .string ⟨#[]⟩, .int .u64 0, .int .i64 0]) ?_ 1 _ rfl; refine blk_put (cs := #[.int .i64 0, .string ⟨#[]⟩, .int .u64 0, .int .i64 0]) ?_ 0 _ rfl; exact blk_far HBK1.out hne) Try.underlying205 rfl (by kernel_rfl)) rfl ?_
    refine ⟨rfl, ?_, ?_⟩
    · refine RdAt.alloc ?_ _
      iterate 4 refine RdAt.far ?_ hne hgs _
      exact RdAt.put (s' := { s1 with a := s1.a + 1 }) HI1.out rfl 3 _ (fun _ _ => rfl)
    · refine keep_alloc ?_ _
      iterate 4 refine keep_far ?_ (Nat.le_refl _) _
      exact HK1.out.set_ 3 _
  · rw [if_neg hx] at h
    simp only [Option.some.injEq, Prod.mk.injEq] at h
    obtain ⟨rfl, rfl⟩ := h
    go_wp2_with (go_at_call 115; refine (peek_calls w0 _ g _ (HI.out.alloc _) _ _ HP.out).mono ?_; rintro e1 w1 ⟨rfl, hI1, hk1⟩; have hsz1 := keep_size hk1; have hg1 := hI1.lt; have hgs1 := hI1.size; have HI1 := Lib.hid hI1; have HK1 := Lib.hid ((keep_alloc (KeepBut.refl _ _ _) _).trans hk1 (.inl rfl)); obtain ⟨A1, c1, hC1, hm1, q01, q11, q21, q31, q41, q51, q61, z31, z41, z51, z61⟩ := (hI1).facts; have hbk1 := hk1.blk (blk_new W _) hne (by simp); have hlt1 := heap_lt hbk1; have b01 := heap_cell hbk1 0 _ rfl; have b11 := heap_cell hbk1 1 _ rfl; have b21 := heap_cell hbk1 2 _ rfl; have b31 := heap_cell hbk1 3 _ rfl; have y01 := heap_thaw hbk1 0; have y11 := heap_thaw hbk1 1; have y21 := heap_thaw hbk1 2; have y31 := heap_thaw hbk1 3; have HBK1 := Lib.hid hbk1; clear hbk1; clear q01 q11 q21 q41 q61 z41 z51 z61 hm1; clear hI1 hk1 hC1; unfold tokV)
    refine bodyPost_ret (results_c rfl _ _ W.heap.size 205 #[.int .i64 t1.f0, .string t1.f1, .int .u64 t1.f2, .int .i64 t1.f3] (0, 0) _ rfl (by refine blk_alloc ?_ _; refine blk_put (cs := #[.int .i64 t1.f0, .string t1.f1, .int .u64 t1.f2, .int .i64 0]) ?_ 3 _ rfl; refine blk_put (cs := #[.int .i64 t1.f0, .string t1.f1, .int .u64 0, .int .i64 0]) ?_ 2 _ rfl; refine blk_put (cs := #[.int .i64 t1.f0, .string ⟨#[]⟩, .int .u64 0, .int .i64 0]) ?_ 1 _ rfl; refine blk_put (cs := #[.int .i64 0, .string ⟨#[]⟩, .int .u64 0, .int .i64 0]) ?_ 0 _ rfl; exact HBK1.out) Try.underlying205 rfl (by kernel_rfl)) rfl ?_
    refine ⟨rfl, ?_, ?_⟩
    · refine RdAt.alloc ?_ _
      iterate 4 refine RdAt.far ?_ hne hgs _
      exact HI1.out
    · refine keep_alloc ?_ _
      iterate 4 refine keep_far ?_ (Nat.le_refl _) _
      exact HK1.out
def isS (s : Rd) (k : Int) (t : ByteArray) : Option (Bool × Rd) := (peekS s).bind fun x => if x.2.x = 0 ∧ x.1.f0 = k ∧ x.1.f1 = t then (stepS x.2).map (true, ·) else some (false, x.2)
set_option maxHeartbeats 4000000 in
theorem is_calls (w0 W : World) (g : Nat) (s : Rd) (hI : RdAt w0 W g s) (k : Int) (tx : ByteArray) (b : Bool) (s' : Rd) (h : isS s k tx = some (b, s')) : Calls Try.prog 116 #[.pointer (some ⟨g, 0, none⟩), .int .i64 k, .string tx] W (Did w0 W g (.bool b) s') := by
  have HI := Lib.hid hI
  clear hI
  obtain ⟨⟨t1, s1⟩, hp, h⟩ := Option.bind_eq_some_iff.1 h
  have HP := Lib.hid hp
  clear hp
  dsimp only at h
  go_enter Try.func116, Try.ntmps116
  by_cases hx : s1.x = 0
  · by_cases hk : t1.f0 = k
    · by_cases ht : t1.f1 = tx
      · rw [if_pos ⟨hx, hk, ht⟩] at h
        obtain ⟨s2, hs, h⟩ := Option.map_eq_some_iff.1 h
        simp only [Prod.mk.injEq] at h
        obtain ⟨rfl, rfl⟩ := h
        obtain ⟨hb1, hb2, rfl⟩ := stepS_some hs
        have hw := IntWalk.i64_in (s1.a + 1) (by omega)
        go_wp2_with (go_at_call 115; refine (peek_calls w0 _ g _ HI.out _ _ HP.out).mono ?_; rintro e1 w1 ⟨rfl, hI1, hk1⟩; have hsz1 := keep_size hk1; have hg1 := hI1.lt; have hgs1 := hI1.size; have HI1 := Lib.hid hI1; have HK1 := Lib.hid ((KeepBut.refl _ _ _).trans hk1 (.inl rfl)); obtain ⟨A1, c1, hC1, hm1, q01, q11, q21, q31, q41, q51, q61, z31, z41, z51, z61⟩ := (hI1).facts; clear q01 q11 q21 q41 q61 z41 z51 z61 hm1; clear hI1 hk1 hC1; unfold tokV)
        go_returns
        refine ⟨rfl, ?_, ?_⟩
        · refine RdAt.alloc ?_ _
          exact RdAt.put (s' := { s1 with a := s1.a + 1 }) HI1.out rfl 3 _ (fun _ _ => rfl)
        · exact keep_alloc (HK1.out.set_ 3 _) _
      · have hts : (t1.f1.toList == tx.toList) = false := (Lib.bytes_beq_false_iff _ _).2 ht
        rw [if_neg (fun h => ht h.2.2)] at h
        simp only [Option.some.injEq, Prod.mk.injEq] at h
        obtain ⟨rfl, rfl⟩ := h
        go_wp2_with (go_at_call 115; refine (peek_calls w0 _ g _ HI.out _ _ HP.out).mono ?_; rintro e1 w1 ⟨rfl, hI1, hk1⟩; have hsz1 := keep_size hk1; have hg1 := hI1.lt; have hgs1 := hI1.size; have HI1 := Lib.hid hI1; have HK1 := Lib.hid ((KeepBut.refl _ _ _).trans hk1 (.inl rfl)); obtain ⟨A1, c1, hC1, hm1, q01, q11, q21, q31, q41, q51, q61, z31, z41, z51, z61⟩ := (hI1).facts; clear q01 q11 q21 q41 q61 z41 z51 z61 hm1; clear hI1 hk1 hC1; unfold tokV)
        go_returns
        exact ⟨rfl, HI1.out.alloc _, keep_alloc HK1.out _⟩
    · rw [if_neg (fun h => hk h.2.1)] at h
      simp only [Option.some.injEq, Prod.mk.injEq] at h
      obtain ⟨rfl, rfl⟩ := h
      go_wp2_with (go_at_call 115; refine (peek_calls w0 _ g _ HI.out _ _ HP.out).mono ?_; rintro e1 w1 ⟨rfl, hI1, hk1⟩; have hsz1 := keep_size hk1; have hg1 := hI1.lt; have hgs1 := hI1.size; have HI1 := Lib.hid hI1; have HK1 := Lib.hid ((KeepBut.refl _ _ _).trans hk1 (.inl rfl)); obtain ⟨A1, c1, hC1, hm1, q01, q11, q21, q31, q41, q51, q61, z31, z41, z51, z61⟩ := (hI1).facts; clear q01 q11 q21 q41 q61 z41 z51 z61 hm1; clear hI1 hk1 hC1; unfold tokV)
      go_returns
      exact ⟨rfl, HI1.out.alloc _, keep_alloc HK1.out _⟩
  · rw [if_neg (fun h => hx h.1)] at h
    simp only [Option.some.injEq, Prod.mk.injEq] at h
    obtain ⟨rfl, rfl⟩ := h
    go_wp2_with (go_at_call 115; refine (peek_calls w0 _ g _ HI.out _ _ HP.out).mono ?_; rintro e1 w1 ⟨rfl, hI1, hk1⟩; have hsz1 := keep_size hk1; have hg1 := hI1.lt; have hgs1 := hI1.size; have HI1 := Lib.hid hI1; have HK1 := Lib.hid ((KeepBut.refl _ _ _).trans hk1 (.inl rfl)); obtain ⟨A1, c1, hC1, hm1, q01, q11, q21, q31, q41, q51, q61, z31, z41, z51, z61⟩ := (hI1).facts; clear q01 q11 q21 q41 q61 z41 z51 z61 hm1; clear hI1 hk1 hC1; unfold tokV)
    go_returns
    exact ⟨rfl, HI1.out.alloc _, keep_alloc HK1.out _⟩
end Go.Proofs.Ytkojnaebkgekaaa
