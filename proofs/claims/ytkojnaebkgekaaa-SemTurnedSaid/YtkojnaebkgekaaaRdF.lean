/- Layer 6's reader (the document's): verdict with a number. -/
import Derived.Test.YtkojnaebkgekaaaRdE
set_option linter.unusedVariables false
set_option linter.unusedSimpArgs false
namespace Go.Proofs.Ytkojnaebkgekaaa
open Go.RowKit Go.Proofs.YtkojnaebkgekaaaW.PrintWords
theorem heap_new1 (w : World) (o1 o2 : Obj) : ((w.alloc o1).alloc o2).heap[w.heap.size + 1]? = some o2 := by
  have h := heap_alloc_new (w.alloc o1) o2
  have e : (w.alloc o1).heap.size = w.heap.size + 1 := by simp
  rw [e] at h
  exact h
set_option maxHeartbeats 4000000 in
theorem verdict_errno (w0 W : World) (g : Nat) (s : Rd) (hI : RdAt w0 W g s) (t n : Token) (s1 s2 : Rd) (hp : kindS s 2 = some (t, s1)) (hx : s1.x = 0) (ht : t.f1 = ⟨#[101, 114, 114, 110, 111]⟩) (hp2 : kindS s1 3 = some (n, s2)) : Calls Try.prog 114 #[.pointer (some ⟨g, 0, none⟩)] W (Did w0 W g (verV ⟨4, n.f2⟩) s2) := by
  have hgl := hI.lt
  have hgs := hI.size
  have hne : W.heap.size ≠ g := by omega
  have HI := Lib.hid hI
  clear hI
  obtain ⟨a0, a1, a2, a3⟩ := t
  dsimp only at ht
  subst ht
  have HP := Lib.hid hp
  have HP2 := Lib.hid hp2
  clear hp hp2
  have e0 := vn_errno_kill_process
  have e1 := vn_errno_kill_thread
  have e2 := vn_errno_trap
  have e3 := vn_errno_errno
  have e4 := vn_errno_notify
  have e5 := vn_errno_trace
  have e6 := vn_errno_log
  have e7 := vn_errno_allow
  go_enter Try.func114, Try.ntmps114
  go_wp2_with (first | (have q1 := HI1; clear q1; go_at_call 113; refine (kind_calls w0 _ g s1 ?hi _ _ _ HP2.out).mono ?_; (case hi => exact (HI1.out.alloc _).alloc _); rintro e2 w2 ⟨rfl, hI2, hk2⟩; have hbk := hk2.blk (blk_alloc (blk_alloc HBK1.out _) _) hne (by simp); have hbv := hk2.blk (heap_new1 w1 _ _) (by omega : w1.heap.size + 1 ≠ g) (by simp); have HBK2 := Lib.hid hbk; have HBV := Lib.hid hbv; have hlt2 := heap_lt hbk; have hlt3 := heap_lt hbv; have hg2 := hI2.lt; have b0 := heap_cell hbk 0 _ rfl; have b1 := heap_cell hbk 1 _ rfl; have y0 := heap_thaw hbk 0; have y1 := heap_thaw hbk 1; have c0 := heap_cell hbv 0 _ rfl; have c1 := heap_cell hbv 1 _ rfl; have x0 := heap_thaw hbv 0; have x1 := heap_thaw hbv 1; have HI2 := Lib.hid hI2; have HK2 := Lib.hid ((keep_alloc (keep_alloc HK1.out _) _).trans hk2 (.inl rfl)); clear hI2 hk2 hbk hbv; unfold tokV) | (go_at_call 113; refine (kind_calls w0 _ g s ?hi _ _ _ HP.out).mono ?_; (case hi => exact HI.out.alloc _); rintro e1 w1 ⟨rfl, hI1, hk1⟩; have hbk := hk1.blk (blk_new W _) hne (by simp); have HBK1 := Lib.hid hbk; have hlt1 := heap_lt hbk; have hg1 := hI1.lt; have HI1 := Lib.hid hI1; have HK1 := Lib.hid ((keep_alloc (KeepBut.refl _ _ _) _).trans hk1 (.inl rfl)); obtain ⟨Ax, cx, hCx, hmx, q0x, q1x, q2x, q3x, q4x, q5x, q6x, z3x, z4x, z5x, z6x⟩ := (hI1).facts; clear hI1 hk1 hbk hCx q0x q1x q2x q3x q4x q6x z3x z4x z5x z6x hmx; unfold tokV))
  refine bodyPost_ret (results_c rfl _ _ W.heap.size 25 #[.int .i64 4, .int .u64 n.f2] (0, 0) _ rfl ?_ Try.underlying25 rfl (by kernel_rfl)) rfl ?_
  · refine blk_alloc ?_ _; refine blk_put (cs := #[.int .i64 4, .int .u64 0]) ?_ 1 _ rfl; refine blk_put (cs := #[.int .i64 0, .int .u64 0]) ?_ 0 _ rfl; exact blk_far HBK2.out (by dsimp only; omega)
  refine ⟨rfl, ?_, ?_⟩
  · refine RdAt.alloc ?_ _
    iterate 2 refine RdAt.far ?_ hne hgs _
    exact RdAt.far HI2.out (by dsimp only; omega) (by dsimp only; omega) _
  · refine keep_alloc ?_ _
    iterate 2 refine keep_far ?_ (Nat.le_refl _) _
    exact keep_far HK2.out (by dsimp only; omega) _
end Go.Proofs.Ytkojnaebkgekaaa
