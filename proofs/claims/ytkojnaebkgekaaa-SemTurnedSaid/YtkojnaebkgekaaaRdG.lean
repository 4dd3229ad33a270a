/- Layer 6's reader (the document's): test. -/
import Derived.Test.YtkojnaebkgekaaaRdS
import Derived.Test.YtkojnaebkgekaaaRowW
set_option linter.unusedVariables false
set_option linter.unusedSimpArgs false
namespace Go.Proofs.Ytkojnaebkgekaaa
open Go.RowKit Go.Proofs.YtkojnaebkgekaaaW.PrintWords
def exV (e : Expr) (v : Value) : Value := .agg #[.int .i64 e.f0, v, .int .i64 e.f2, .int .u64 e.f3, .int .i64 e.f4, .int .u64 e.f5]
/-- A method that answers an expression. -/
def DidE (w0 W : World) (g : Nat) (e : Expr) (s' : Rd) (en : Ending) (W' : World) : Prop := ∃ v, Did w0 W g (exV e v) s' en W' ∧ kExpr.R 44 W' W.heap.size (fun _ => True) v e.f1
set_option maxHeartbeats 1500000 in
theorem test_calls (w0 W : World) (g : Nat) (s : Rd) (hI : RdAt w0 W g s) (k : Nat) (f : Int) (e : Expr) (s' : Rd) (h : testS k f s = some (e, s')) : Calls Try.prog 194 #[.pointer (some ⟨g, 0, none⟩), .int .i64 f] W (DidE w0 W g e s') := by
  have hgl := hI.lt
  have hgs := hI.size
  have hne : W.heap.size ≠ g := by omega
  have hne1 : W.heap.size + 1 ≠ g := by omega
  have HI := Lib.hid hI
  clear hI
  obtain ⟨⟨m, s1⟩, hm, h1⟩ := Option.bind_eq_some_iff.1 h
  clear h
  obtain ⟨⟨mask, s2⟩, hm2, h2⟩ := Option.bind_eq_some_iff.1 h1
  clear h1
  obtain ⟨⟨z, s3⟩, hz, h3⟩ := Option.bind_eq_some_iff.1 h2
  clear h2
  obtain ⟨r, hr, h4⟩ := Option.bind_eq_some_iff.1 h3
  clear h3
  dsimp only at hm2 hz hr h4
  have HM := Lib.hid hm
  have HZ := Lib.hid hz
  have HR := Lib.hid hr
  clear hm hz hr
  by_cases hr0 : r = 0
  · rw [if_pos hr0] at h4
    cases h4
  rw [if_neg hr0] at h4
  obtain ⟨⟨v, s4⟩, hv, h5⟩ := Option.map_eq_some_iff.1 h4
  clear h4
  simp only [Prod.mk.injEq] at h5
  obtain ⟨rfl, rfl⟩ := h5
  have HV := Lib.hid hv
  clear hv
  go_enter Try.func194, Try.ntmps194
  cases m with
  | false =>
    rw [if_neg (by simp)] at hm2
    simp only [Option.some.injEq, Prod.mk.injEq] at hm2
    obtain ⟨rfl, rfl⟩ := hm2
    go_wp2_with (first | (refine wpl_load 44 (.tmp 5) (W.heap.size + 1) #[.int .i64 6, .slice none 0 0, .int .i64 f, .int .u64 18446744073709551615, .int .i64 r, .int .u64 v.f2] 44 (0, 0) _ rfl rfl ?lx ?lg Try.underlying44 rfl (by kernel_rfl) ?_; (case lx => rfl); (case lg => first | (refine blk_alloc ?_ _; exact blk_put HBE4.out 5 _ rfl) | (go_loud (exact blk_put (blk_alloc HBE4.out _) 5 _ rfl)))) | (have q1 := HI4; clear q1; (refine wpl_store 44 (.tmp 4) (.tmp 38) W.heap.size #[.int .i64 6, .slice none 0 0, .int .i64 f, .int .u64 18446744073709551615, .int .i64 r, .int .u64 v.f2] 44 #[.int .i64 0, .slice none 0 0, .int .i64 0, .int .u64 0, .int .i64 0, .int .u64 0] rfl rfl ?sx ?sy ?sg (by kernel_rfl) rfl (by kernel_rfl) ?_); (case sx => rfl); (case sy => rfl); (case sg => first | (refine blk_alloc ?_ _; exact blk_far HBR4.out (by dsimp only; omega)) | (go_loud (exact blk_far (blk_alloc HBR4.out _) (by dsimp only; omega))))) | (have q1 := HI3; clear q1; go_at_call 113; refine (kind_calls w0 _ g s3 ?hi _ _ _ HV.out).mono ?_; (case hi => exact RdAt.far ((HI3.out.alloc _).drewN _) hne1 (by dsimp only; omega) _); rintro e4 w4 ⟨rfl, hI4, hk4⟩; clear c4 x4; have hbr := hk4.blk (blk_far (blk_drewN (blk_alloc HBR3.out _) _) (by dsimp only; omega)) hne (by simp); have hbe : w4.heap[W.heap.size + 1]? = some (.cells #[.int .i64 6, .slice none 0 0, .int .i64 f, .int .u64 18446744073709551615, .int .i64 r, .int .u64 0] 44 (0, 0)) := hk4.blk (blk_put (blk_drewN (blk_alloc HBE3.out _) _) 4 _ rfl) hne1 (by simp); have HBR4 := Lib.hid hbr; have HBE4 := Lib.hid hbe; have hlr4 := heap_lt hbr; have hle4 := heap_lt hbe; have hg4 := hI4.lt; have HI4 := Lib.hid hI4; have HK4 := Lib.hid ((keep_far (keep_drewN (keep_alloc HK3.out _) _) (by dsimp only; omega) _).trans hk4 (.inl rfl)); clear hI4 hk4; have c5 := heap_cell hbe 5 _ rfl; have x5 := heap_thaw hbe 5; clear hbr hbe; unfold tokV) | (have q1 := HI1; clear q1; go_at_call 113; refine (kind_calls w0 _ g s1 ?hi _ _ _ HZ.out).mono ?_; (case hi => exact HI1.out); rintro e3 w3 ⟨rfl, hI3, hk3⟩; have hbr := hk3.blk HBR1.out hne (by simp); have hbe : w3.heap[W.heap.size + 1]? = some (.cells #[.int .i64 6, .slice none 0 0, .int .i64 f, .int .u64 18446744073709551615, .int .i64 0, .int .u64 0] 44 (0, 0)) := hk3.blk HBE1.out hne1 (by simp); have HBR3 := Lib.hid hbr; have HBE3 := Lib.hid hbe; have hlr3 := heap_lt hbr; have hle3 := heap_lt hbe; have hg3 := hI3.lt; have HI3 := Lib.hid hI3; have HK3 := Lib.hid (HK1.out.trans hk3 (.inl rfl)); clear hI3 hk3; have c4 := heap_cell hbe 4 _ rfl; have x4 := heap_thaw hbe 4; clear hbr hbe; unfold tokV) | (go_at_call 116; refine (is_calls w0 _ g s ?hi 4 sAmp _ _ HM.out).mono ?_; (case hi => exact (HI.out.alloc _).alloc _); rintro e1 w1 ⟨rfl, hI1, hk1⟩; have hbr := hk1.blk (blk_alloc (blk_new W _) _) hne (by simp); have hbe := hk1.blk (heap_new1 W _ _) hne1 (by simp); have HBR1 := Lib.hid hbr; have HBE1 := Lib.hid hbe; have hlr1 := heap_lt hbr; have hle1 := heap_lt hbe; have hg1 := hI1.lt; have HI1 := Lib.hid hI1; have HK1 := Lib.hid ((keep_alloc (keep_alloc (KeepBut.refl _ _ _) _) _).trans hk1 (.inl rfl)); clear hI1 hk1; clear hbr hbe) | (go_at_call 196; refine (P.ravelinref06_rel.calls _ _ _ HR.out).mono ?_; rintro e5 w5 ⟨rfl, nd, rfl⟩))
    refine bodyPost_ret (results_c rfl _ _ W.heap.size 44 #[.int .i64 6, .slice none 0 0, .int .i64 f, .int .u64 18446744073709551615, .int .i64 r, .int .u64 v.f2] (0, 0) _ rfl (setRow_heap _ _ _ _ _ _ (blk_alloc (blk_far HBR4.out (by dsimp only; omega)) _)) Try.underlying44 rfl (by kernel_rfl)) rfl ?_; exact ⟨.slice none 0 0, ⟨rfl, RdAt.row (RdAt.alloc (RdAt.far HI4.out hne1 (by dsimp only; omega) _) _) hne hgs _, keep_row (keep_alloc (keep_far HK4.out (by dsimp only; omega) _) _) (Nat.le_refl _) _⟩, Kd.R_nil _ _ _ _ _⟩
  | true =>
    rw [if_pos rfl] at hm2
    obtain ⟨⟨y, s5⟩, hn, hm3⟩ := Option.map_eq_some_iff.1 hm2
    clear hm2
    simp only [Prod.mk.injEq] at hm3
    obtain ⟨rfl, rfl⟩ := hm3
    have HN := Lib.hid hn
    clear hn
    go_wp2_with (first | (refine wpl_load 44 (.tmp 5) (W.heap.size + 1) #[.int .i64 6, .slice none 0 0, .int .i64 f, .int .u64 y.f2, .int .i64 r, .int .u64 v.f2] 44 (0, 0) _ rfl rfl ?lx ?lg Try.underlying44 rfl (by kernel_rfl) ?_; (case lx => rfl); (case lg => first | (refine blk_alloc ?_ _; exact blk_put HBE4.out 5 _ rfl) | (go_loud (exact blk_put (blk_alloc HBE4.out _) 5 _ rfl)))) | (have q1 := HI4; clear q1; (refine wpl_store 44 (.tmp 4) (.tmp 38) W.heap.size #[.int .i64 6, .slice none 0 0, .int .i64 f, .int .u64 y.f2, .int .i64 r, .int .u64 v.f2] 44 #[.int .i64 0, .slice none 0 0, .int .i64 0, .int .u64 0, .int .i64 0, .int .u64 0] rfl rfl ?sx ?sy ?sg (by kernel_rfl) rfl (by kernel_rfl) ?_); (case sx => rfl); (case sy => rfl); (case sg => first | (refine blk_alloc ?_ _; exact blk_far HBR4.out (by dsimp only; omega)) | (go_loud (exact blk_far (blk_alloc HBR4.out _) (by dsimp only; omega))))) | (have q1 := HI3; clear q1; go_at_call 113; refine (kind_calls w0 _ g s3 ?hi _ _ _ HV.out).mono ?_; (case hi => exact RdAt.far ((HI3.out.alloc _).drewN _) hne1 (by dsimp only; omega) _); rintro e4 w4 ⟨rfl, hI4, hk4⟩; clear c4 x4; have hbr := hk4.blk (blk_far (blk_drewN (blk_alloc HBR3.out _) _) (by dsimp only; omega)) hne (by simp); have hbe : w4.heap[W.heap.size + 1]? = some (.cells #[.int .i64 6, .slice none 0 0, .int .i64 f, .int .u64 y.f2, .int .i64 r, .int .u64 0] 44 (0, 0)) := hk4.blk (blk_put (blk_drewN (blk_alloc HBE3.out _) _) 4 _ rfl) hne1 (by simp); have HBR4 := Lib.hid hbr; have HBE4 := Lib.hid hbe; have hlr4 := heap_lt hbr; have hle4 := heap_lt hbe; have hg4 := hI4.lt; have HI4 := Lib.hid hI4; have HK4 := Lib.hid ((keep_far (keep_drewN (keep_alloc HK3.out _) _) (by dsimp only; omega) _).trans hk4 (.inl rfl)); clear hI4 hk4; have c5 := heap_cell hbe 5 _ rfl; have x5 := heap_thaw hbe 5; clear hbr hbe; unfold tokV) | (have q1 := HI2; clear q1; go_at_call 113; refine (kind_calls w0 _ g s5 ?hi _ _ _ HZ.out).mono ?_; (case hi => exact ((RdAt.far HI2.out hne1 (by dsimp only; omega) _).alloc _)); rintro e3 w3 ⟨rfl, hI3, hk3⟩; have hbr := hk3.blk (blk_alloc (blk_far HBR2.out (by dsimp only; omega)) _) hne (by simp); have hbe : w3.heap[W.heap.size + 1]? = some (.cells #[.int .i64 6, .slice none 0 0, .int .i64 f, .int .u64 y.f2, .int .i64 0, .int .u64 0] 44 (0, 0)) := hk3.blk (blk_alloc (blk_put HBE2.out 3 _ rfl) _) hne1 (by simp); have HBR3 := Lib.hid hbr; have HBE3 := Lib.hid hbe; have hlr3 := heap_lt hbr; have hle3 := heap_lt hbe; have hg3 := hI3.lt; have HI3 := Lib.hid hI3; have HK3 := Lib.hid ((keep_alloc (keep_far HK2.out (by dsimp only; omega) _) _).trans hk3 (.inl rfl)); clear hI3 hk3; have c4 := heap_cell hbe 4 _ rfl; have x4 := heap_thaw hbe 4; clear hbr hbe; unfold tokV) | (have q1 := HI1; clear q1; go_at_call 113; refine (kind_calls w0 _ g s1 ?hi _ _ _ HN.out).mono ?_; (case hi => exact HI1.out); rintro e2 w2 ⟨rfl, hI2, hk2⟩; have hbr := hk2.blk HBR1.out hne (by simp); have hbe := hk2.blk HBE1.out hne1 (by simp); have HBR2 := Lib.hid hbr; have HBE2 := Lib.hid hbe; have hlr2 := heap_lt hbr; have hle2 := heap_lt hbe; have hg2 := hI2.lt; have HI2 := Lib.hid hI2; have HK2 := Lib.hid (HK1.out.trans hk2 (.inl rfl)); clear hI2 hk2; have c3 := heap_cell hbe 3 _ rfl; have x3 := heap_thaw hbe 3; clear hbr hbe; unfold tokV) | (go_at_call 116; refine (is_calls w0 _ g s ?hi 4 sAmp _ _ HM.out).mono ?_; (case hi => exact (HI.out.alloc _).alloc _); rintro e1 w1 ⟨rfl, hI1, hk1⟩; have hbr := hk1.blk (blk_alloc (blk_new W _) _) hne (by simp); have hbe := hk1.blk (heap_new1 W _ _) hne1 (by simp); have HBR1 := Lib.hid hbr; have HBE1 := Lib.hid hbe; have hlr1 := heap_lt hbr; have hle1 := heap_lt hbe; have hg1 := hI1.lt; have HI1 := Lib.hid hI1; have HK1 := Lib.hid ((keep_alloc (keep_alloc (KeepBut.refl _ _ _) _) _).trans hk1 (.inl rfl)); clear hI1 hk1; clear hbr hbe) | (go_at_call 196; refine (P.ravelinref06_rel.calls _ _ _ HR.out).mono ?_; rintro e5 w5 ⟨rfl, nd, rfl⟩))
    refine bodyPost_ret (results_c rfl _ _ W.heap.size 44 #[.int .i64 6, .slice none 0 0, .int .i64 f, .int .u64 y.f2, .int .i64 r, .int .u64 v.f2] (0, 0) _ rfl (setRow_heap _ _ _ _ _ _ (blk_alloc (blk_far HBR4.out (by dsimp only; omega)) _)) Try.underlying44 rfl (by kernel_rfl)) rfl ?_; exact ⟨.slice none 0 0, ⟨rfl, RdAt.row (RdAt.alloc (RdAt.far HI4.out hne1 (by dsimp only; omega) _) _) hne hgs _, keep_row (keep_alloc (keep_far HK4.out (by dsimp only; omega) _) _) (Nat.le_refl _) _⟩, Kd.R_nil _ _ _ _ _⟩
end Go.Proofs.Ytkojnaebkgekaaa
