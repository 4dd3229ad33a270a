/- Layer 6's reader (the document's): verdict, of the words that the laws' texts have. -/
import Derived.Test.YtkojnaebkgekaaaRdD
set_option linter.unusedVariables false
set_option linter.unusedSimpArgs false
namespace Go.Proofs.Ytkojnaebkgekaaa
open Go.RowKit Go.Proofs.YtkojnaebkgekaaaW.PrintWords
def verV (v : Verdict) : Value := .agg #[.int .i64 v.f0, .int .u64 v.f1]
theorem vn_kill_process_kill_process : (ByteArray.toList ⟨#[107, 105, 108, 108, 95, 112, 114, 111, 99, 101, 115, 115]⟩ == ByteArray.toList ⟨#[107, 105, 108, 108, 95, 112, 114, 111, 99, 101, 115, 115]⟩) = true := by rw [← beq_toListBytes]; decide +kernel
theorem vn_kill_process_kill_thread : (ByteArray.toList ⟨#[107, 105, 108, 108, 95, 112, 114, 111, 99, 101, 115, 115]⟩ == ByteArray.toList ⟨#[107, 105, 108, 108, 95, 116, 104, 114, 101, 97, 100]⟩) = false := by rw [← beq_toListBytes]; decide +kernel
theorem vn_kill_process_trap : (ByteArray.toList ⟨#[107, 105, 108, 108, 95, 112, 114, 111, 99, 101, 115, 115]⟩ == ByteArray.toList ⟨#[116, 114, 97, 112]⟩) = false := by rw [← beq_toListBytes]; decide +kernel
theorem vn_kill_process_errno : (ByteArray.toList ⟨#[107, 105, 108, 108, 95, 112, 114, 111, 99, 101, 115, 115]⟩ == ByteArray.toList ⟨#[101, 114, 114, 110, 111]⟩) = false := by rw [← beq_toListBytes]; decide +kernel
theorem vn_kill_process_notify : (ByteArray.toList ⟨#[107, 105, 108, 108, 95, 112, 114, 111, 99, 101, 115, 115]⟩ == ByteArray.toList ⟨#[110, 111, 116, 105, 102, 121]⟩) = false := by rw [← beq_toListBytes]; decide +kernel
theorem vn_kill_process_trace : (ByteArray.toList ⟨#[107, 105, 108, 108, 95, 112, 114, 111, 99, 101, 115, 115]⟩ == ByteArray.toList ⟨#[116, 114, 97, 99, 101]⟩) = false := by rw [← beq_toListBytes]; decide +kernel
theorem vn_kill_process_log : (ByteArray.toList ⟨#[107, 105, 108, 108, 95, 112, 114, 111, 99, 101, 115, 115]⟩ == ByteArray.toList ⟨#[108, 111, 103]⟩) = false := by rw [← beq_toListBytes]; decide +kernel
theorem vn_kill_process_allow : (ByteArray.toList ⟨#[107, 105, 108, 108, 95, 112, 114, 111, 99, 101, 115, 115]⟩ == ByteArray.toList ⟨#[97, 108, 108, 111, 119]⟩) = false := by rw [← beq_toListBytes]; decide +kernel
theorem vn_kill_thread_kill_process : (ByteArray.toList ⟨#[107, 105, 108, 108, 95, 116, 104, 114, 101, 97, 100]⟩ == ByteArray.toList ⟨#[107, 105, 108, 108, 95, 112, 114, 111, 99, 101, 115, 115]⟩) = false := by rw [← beq_toListBytes]; decide +kernel
theorem vn_kill_thread_kill_thread : (ByteArray.toList ⟨#[107, 105, 108, 108, 95, 116, 104, 114, 101, 97, 100]⟩ == ByteArray.toList ⟨#[107, 105, 108, 108, 95, 116, 104, 114, 101, 97, 100]⟩) = true := by rw [← beq_toListBytes]; decide +kernel
theorem vn_kill_thread_trap : (ByteArray.toList ⟨#[107, 105, 108, 108, 95, 116, 104, 114, 101, 97, 100]⟩ == ByteArray.toList ⟨#[116, 114, 97, 112]⟩) = false := by rw [← beq_toListBytes]; decide +kernel
theorem vn_kill_thread_errno : (ByteArray.toList ⟨#[107, 105, 108, 108, 95, 116, 104, 114, 101, 97, 100]⟩ == ByteArray.toList ⟨#[101, 114, 114, 110, 111]⟩) = false := by rw [← beq_toListBytes]; decide +kernel
theorem vn_kill_thread_notify : (ByteArray.toList ⟨#[107, 105, 108, 108, 95, 116, 104, 114, 101, 97, 100]⟩ == ByteArray.toList ⟨#[110, 111, 116, 105, 102, 121]⟩) = false := by rw [← beq_toListBytes]; decide +kernel
theorem vn_kill_thread_trace : (ByteArray.toList ⟨#[107, 105, 108, 108, 95, 116, 104, 114, 101, 97, 100]⟩ == ByteArray.toList ⟨#[116, 114, 97, 99, 101]⟩) = false := by rw [← beq_toListBytes]; decide +kernel
theorem vn_kill_thread_log : (ByteArray.toList ⟨#[107, 105, 108, 108, 95, 116, 104, 114, 101, 97, 100]⟩ == ByteArray.toList ⟨#[108, 111, 103]⟩) = false := by rw [← beq_toListBytes]; decide +kernel
theorem vn_kill_thread_allow : (ByteArray.toList ⟨#[107, 105, 108, 108, 95, 116, 104, 114, 101, 97, 100]⟩ == ByteArray.toList ⟨#[97, 108, 108, 111, 119]⟩) = false := by rw [← beq_toListBytes]; decide +kernel
theorem vn_trap_kill_process : (ByteArray.toList ⟨#[116, 114, 97, 112]⟩ == ByteArray.toList ⟨#[107, 105, 108, 108, 95, 112, 114, 111, 99, 101, 115, 115]⟩) = false := by rw [← beq_toListBytes]; decide +kernel
theorem vn_trap_kill_thread : (ByteArray.toList ⟨#[116, 114, 97, 112]⟩ == ByteArray.toList ⟨#[107, 105, 108, 108, 95, 116, 104, 114, 101, 97, 100]⟩) = false := by rw [← beq_toListBytes]; decide +kernel
theorem vn_trap_trap : (ByteArray.toList ⟨#[116, 114, 97, 112]⟩ == ByteArray.toList ⟨#[116, 114, 97, 112]⟩) = true := by rw [← beq_toListBytes]; decide +kernel
theorem vn_trap_errno : (ByteArray.toList ⟨#[116, 114, 97, 112]⟩ == ByteArray.toList ⟨#[101, 114, 114, 110, 111]⟩) = false := by rw [← beq_toListBytes]; decide +kernel
theorem vn_trap_notify : (ByteArray.toList ⟨#[116, 114, 97, 112]⟩ == ByteArray.toList ⟨#[110, 111, 116, 105, 102, 121]⟩) = false := by rw [← beq_toListBytes]; decide +kernel
theorem vn_trap_trace : (ByteArray.toList ⟨#[116, 114, 97, 112]⟩ == ByteArray.toList ⟨#[116, 114, 97, 99, 101]⟩) = false := by rw [← beq_toListBytes]; decide +kernel
theorem vn_trap_log : (ByteArray.toList ⟨#[116, 114, 97, 112]⟩ == ByteArray.toList ⟨#[108, 111, 103]⟩) = false := by rw [← beq_toListBytes]; decide +kernel
theorem vn_trap_allow : (ByteArray.toList ⟨#[116, 114, 97, 112]⟩ == ByteArray.toList ⟨#[97, 108, 108, 111, 119]⟩) = false := by rw [← beq_toListBytes]; decide +kernel
theorem vn_errno_kill_process : (ByteArray.toList ⟨#[101, 114, 114, 110, 111]⟩ == ByteArray.toList ⟨#[107, 105, 108, 108, 95, 112, 114, 111, 99, 101, 115, 115]⟩) = false := by rw [← beq_toListBytes]; decide +kernel
theorem vn_errno_kill_thread : (ByteArray.toList ⟨#[101, 114, 114, 110, 111]⟩ == ByteArray.toList ⟨#[107, 105, 108, 108, 95, 116, 104, 114, 101, 97, 100]⟩) = false := by rw [← beq_toListBytes]; decide +kernel
theorem vn_errno_trap : (ByteArray.toList ⟨#[101, 114, 114, 110, 111]⟩ == ByteArray.toList ⟨#[116, 114, 97, 112]⟩) = false := by rw [← beq_toListBytes]; decide +kernel
theorem vn_errno_errno : (ByteArray.toList ⟨#[101, 114, 114, 110, 111]⟩ == ByteArray.toList ⟨#[101, 114, 114, 110, 111]⟩) = true := by rw [← beq_toListBytes]; decide +kernel
theorem vn_errno_notify : (ByteArray.toList ⟨#[101, 114, 114, 110, 111]⟩ == ByteArray.toList ⟨#[110, 111, 116, 105, 102, 121]⟩) = false := by rw [← beq_toListBytes]; decide +kernel
theorem vn_errno_trace : (ByteArray.toList ⟨#[101, 114, 114, 110, 111]⟩ == ByteArray.toList ⟨#[116, 114, 97, 99, 101]⟩) = false := by rw [← beq_toListBytes]; decide +kernel
theorem vn_errno_log : (ByteArray.toList ⟨#[101, 114, 114, 110, 111]⟩ == ByteArray.toList ⟨#[108, 111, 103]⟩) = false := by rw [← beq_toListBytes]; decide +kernel
theorem vn_errno_allow : (ByteArray.toList ⟨#[101, 114, 114, 110, 111]⟩ == ByteArray.toList ⟨#[97, 108, 108, 111, 119]⟩) = false := by rw [← beq_toListBytes]; decide +kernel
theorem vn_notify_kill_process : (ByteArray.toList ⟨#[110, 111, 116, 105, 102, 121]⟩ == ByteArray.toList ⟨#[107, 105, 108, 108, 95, 112, 114, 111, 99, 101, 115, 115]⟩) = false := by rw [← beq_toListBytes]; decide +kernel
theorem vn_notify_kill_thread : (ByteArray.toList ⟨#[110, 111, 116, 105, 102, 121]⟩ == ByteArray.toList ⟨#[107, 105, 108, 108, 95, 116, 104, 114, 101, 97, 100]⟩) = false := by rw [← beq_toListBytes]; decide +kernel
theorem vn_notify_trap : (ByteArray.toList ⟨#[110, 111, 116, 105, 102, 121]⟩ == ByteArray.toList ⟨#[116, 114, 97, 112]⟩) = false := by rw [← beq_toListBytes]; decide +kernel
theorem vn_notify_errno : (ByteArray.toList ⟨#[110, 111, 116, 105, 102, 121]⟩ == ByteArray.toList ⟨#[101, 114, 114, 110, 111]⟩) = false := by rw [← beq_toListBytes]; decide +kernel
theorem vn_notify_notify : (ByteArray.toList ⟨#[110, 111, 116, 105, 102, 121]⟩ == ByteArray.toList ⟨#[110, 111, 116, 105, 102, 121]⟩) = true := by rw [← beq_toListBytes]; decide +kernel
theorem vn_notify_trace : (ByteArray.toList ⟨#[110, 111, 116, 105, 102, 121]⟩ == ByteArray.toList ⟨#[116, 114, 97, 99, 101]⟩) = false := by rw [← beq_toListBytes]; decide +kernel
theorem vn_notify_log : (ByteArray.toList ⟨#[110, 111, 116, 105, 102, 121]⟩ == ByteArray.toList ⟨#[108, 111, 103]⟩) = false := by rw [← beq_toListBytes]; decide +kernel
theorem vn_notify_allow : (ByteArray.toList ⟨#[110, 111, 116, 105, 102, 121]⟩ == ByteArray.toList ⟨#[97, 108, 108, 111, 119]⟩) = false := by rw [← beq_toListBytes]; decide +kernel
theorem vn_trace_kill_process : (ByteArray.toList ⟨#[116, 114, 97, 99, 101]⟩ == ByteArray.toList ⟨#[107, 105, 108, 108, 95, 112, 114, 111, 99, 101, 115, 115]⟩) = false := by rw [← beq_toListBytes]; decide +kernel
theorem vn_trace_kill_thread : (ByteArray.toList ⟨#[116, 114, 97, 99, 101]⟩ == ByteArray.toList ⟨#[107, 105, 108, 108, 95, 116, 104, 114, 101, 97, 100]⟩) = false := by rw [← beq_toListBytes]; decide +kernel
theorem vn_trace_trap : (ByteArray.toList ⟨#[116, 114, 97, 99, 101]⟩ == ByteArray.toList ⟨#[116, 114, 97, 112]⟩) = false := by rw [← beq_toListBytes]; decide +kernel
theorem vn_trace_errno : (ByteArray.toList ⟨#[116, 114, 97, 99, 101]⟩ == ByteArray.toList ⟨#[101, 114, 114, 110, 111]⟩) = false := by rw [← beq_toListBytes]; decide +kernel
theorem vn_trace_notify : (ByteArray.toList ⟨#[116, 114, 97, 99, 101]⟩ == ByteArray.toList ⟨#[110, 111, 116, 105, 102, 121]⟩) = false := by rw [← beq_toListBytes]; decide +kernel
theorem vn_trace_trace : (ByteArray.toList ⟨#[116, 114, 97, 99, 101]⟩ == ByteArray.toList ⟨#[116, 114, 97, 99, 101]⟩) = true := by rw [← beq_toListBytes]; decide +kernel
theorem vn_trace_log : (ByteArray.toList ⟨#[116, 114, 97, 99, 101]⟩ == ByteArray.toList ⟨#[108, 111, 103]⟩) = false := by rw [← beq_toListBytes]; decide +kernel
theorem vn_trace_allow : (ByteArray.toList ⟨#[116, 114, 97, 99, 101]⟩ == ByteArray.toList ⟨#[97, 108, 108, 111, 119]⟩) = false := by rw [← beq_toListBytes]; decide +kernel
theorem vn_log_kill_process : (ByteArray.toList ⟨#[108, 111, 103]⟩ == ByteArray.toList ⟨#[107, 105, 108, 108, 95, 112, 114, 111, 99, 101, 115, 115]⟩) = false := by rw [← beq_toListBytes]; decide +kernel
theorem vn_log_kill_thread : (ByteArray.toList ⟨#[108, 111, 103]⟩ == ByteArray.toList ⟨#[107, 105, 108, 108, 95, 116, 104, 114, 101, 97, 100]⟩) = false := by rw [← beq_toListBytes]; decide +kernel
theorem vn_log_trap : (ByteArray.toList ⟨#[108, 111, 103]⟩ == ByteArray.toList ⟨#[116, 114, 97, 112]⟩) = false := by rw [← beq_toListBytes]; decide +kernel
theorem vn_log_errno : (ByteArray.toList ⟨#[108, 111, 103]⟩ == ByteArray.toList ⟨#[101, 114, 114, 110, 111]⟩) = false := by rw [← beq_toListBytes]; decide +kernel
theorem vn_log_notify : (ByteArray.toList ⟨#[108, 111, 103]⟩ == ByteArray.toList ⟨#[110, 111, 116, 105, 102, 121]⟩) = false := by rw [← beq_toListBytes]; decide +kernel
theorem vn_log_trace : (ByteArray.toList ⟨#[108, 111, 103]⟩ == ByteArray.toList ⟨#[116, 114, 97, 99, 101]⟩) = false := by rw [← beq_toListBytes]; decide +kernel
theorem vn_log_log : (ByteArray.toList ⟨#[108, 111, 103]⟩ == ByteArray.toList ⟨#[108, 111, 103]⟩) = true := by rw [← beq_toListBytes]; decide +kernel
theorem vn_log_allow : (ByteArray.toList ⟨#[108, 111, 103]⟩ == ByteArray.toList ⟨#[97, 108, 108, 111, 119]⟩) = false := by rw [← beq_toListBytes]; decide +kernel
theorem vn_allow_kill_process : (ByteArray.toList ⟨#[97, 108, 108, 111, 119]⟩ == ByteArray.toList ⟨#[107, 105, 108, 108, 95, 112, 114, 111, 99, 101, 115, 115]⟩) = false := by rw [← beq_toListBytes]; decide +kernel
theorem vn_allow_kill_thread : (ByteArray.toList ⟨#[97, 108, 108, 111, 119]⟩ == ByteArray.toList ⟨#[107, 105, 108, 108, 95, 116, 104, 114, 101, 97, 100]⟩) = false := by rw [← beq_toListBytes]; decide +kernel
theorem vn_allow_trap : (ByteArray.toList ⟨#[97, 108, 108, 111, 119]⟩ == ByteArray.toList ⟨#[116, 114, 97, 112]⟩) = false := by rw [← beq_toListBytes]; decide +kernel
theorem vn_allow_errno : (ByteArray.toList ⟨#[97, 108, 108, 111, 119]⟩ == ByteArray.toList ⟨#[101, 114, 114, 110, 111]⟩) = false := by rw [← beq_toListBytes]; decide +kernel
theorem vn_allow_notify : (ByteArray.toList ⟨#[97, 108, 108, 111, 119]⟩ == ByteArray.toList ⟨#[110, 111, 116, 105, 102, 121]⟩) = false := by rw [← beq_toListBytes]; decide +kernel
theorem vn_allow_trace : (ByteArray.toList ⟨#[97, 108, 108, 111, 119]⟩ == ByteArray.toList ⟨#[116, 114, 97, 99, 101]⟩) = false := by rw [← beq_toListBytes]; decide +kernel
theorem vn_allow_log : (ByteArray.toList ⟨#[97, 108, 108, 111, 119]⟩ == ByteArray.toList ⟨#[108, 111, 103]⟩) = false := by rw [← beq_toListBytes]; decide +kernel
theorem vn_allow_allow : (ByteArray.toList ⟨#[97, 108, 108, 111, 119]⟩ == ByteArray.toList ⟨#[97, 108, 108, 111, 119]⟩) = true := by rw [← beq_toListBytes]; decide +kernel
set_option maxHeartbeats 4000000 in
theorem verdict_kill_process (w0 W : World) (g : Nat) (s : Rd) (hI : RdAt w0 W g s) (t : Token) (s1 : Rd) (hp : kindS s 2 = some (t, s1)) (hx : s1.x = 0) (ht : t.f1 = ⟨#[107, 105, 108, 108, 95, 112, 114, 111, 99, 101, 115, 115]⟩) : Calls Try.prog 114 #[.pointer (some ⟨g, 0, none⟩)] W (Did w0 W g (verV ⟨1, 0⟩) s1) := by
  have hgl := hI.lt
  have hgs := hI.size
  have hne : W.heap.size ≠ g := by omega
  have HI := Lib.hid hI
  clear hI
  obtain ⟨a0, a1, a2, a3⟩ := t
  dsimp only at ht
  subst ht
  have HP := Lib.hid hp
  clear hp
  have e0 := vn_kill_process_kill_process
  have e1 := vn_kill_process_kill_thread
  have e2 := vn_kill_process_trap
  have e3 := vn_kill_process_errno
  have e4 := vn_kill_process_notify
  have e5 := vn_kill_process_trace
  have e6 := vn_kill_process_log
  have e7 := vn_kill_process_allow
  go_enter Try.func114, Try.ntmps114
  go_wp2_with (go_at_call 113; refine (kind_calls w0 _ g s ?hi _ _ _ HP.out).mono ?_; (case hi => exact HI.out.alloc _); rintro e1 w1 ⟨rfl, hI1, hk1⟩; have hbk := hk1.blk (blk_new W _) hne (by simp); have HBK1 := Lib.hid hbk; have hlt1 := heap_lt hbk; have b0 := heap_cell hbk 0 _ rfl; have b1 := heap_cell hbk 1 _ rfl; have y0 := heap_thaw hbk 0; have y1 := heap_thaw hbk 1; have hg1 := hI1.lt; have HI1 := Lib.hid hI1; have HK1 := Lib.hid ((keep_alloc (KeepBut.refl _ _ _) _).trans hk1 (.inl rfl)); obtain ⟨Ax, cx, hCx, hmx, q0x, q1x, q2x, q3x, q4x, q5x, q6x, z3x, z4x, z5x, z6x⟩ := (hI1).facts; clear hI1 hk1 hbk hCx q0x q1x q2x q3x q4x q6x z3x z4x z5x z6x hmx; unfold tokV)
  refine bodyPost_ret (results_c rfl _ _ W.heap.size 25 #[.int .i64 1, .int .u64 0] (0, 0) _ rfl ?_ Try.underlying25 rfl (by kernel_rfl)) rfl ?_
  · refine blk_alloc (blk_alloc ?_ _) _; refine blk_put (cs := #[.int .i64 1, .int .u64 0]) ?_ 1 _ rfl; refine blk_put (cs := #[.int .i64 0, .int .u64 0]) ?_ 0 _ rfl; exact HBK1.out
  refine ⟨rfl, ?_, ?_⟩
  · refine RdAt.alloc (RdAt.alloc ?_ _) _
    iterate 2 refine RdAt.far ?_ hne hgs _
    exact HI1.out
  · refine keep_alloc (keep_alloc ?_ _) _
    iterate 2 refine keep_far ?_ (Nat.le_refl _) _
    exact HK1.out
set_option maxHeartbeats 4000000 in
theorem verdict_log (w0 W : World) (g : Nat) (s : Rd) (hI : RdAt w0 W g s) (t : Token) (s1 : Rd) (hp : kindS s 2 = some (t, s1)) (hx : s1.x = 0) (ht : t.f1 = ⟨#[108, 111, 103]⟩) : Calls Try.prog 114 #[.pointer (some ⟨g, 0, none⟩)] W (Did w0 W g (verV ⟨7, 0⟩) s1) := by
  have hgl := hI.lt
  have hgs := hI.size
  have hne : W.heap.size ≠ g := by omega
  have HI := Lib.hid hI
  clear hI
  obtain ⟨a0, a1, a2, a3⟩ := t
  dsimp only at ht
  subst ht
  have HP := Lib.hid hp
  clear hp
  have e0 := vn_log_kill_process
  have e1 := vn_log_kill_thread
  have e2 := vn_log_trap
  have e3 := vn_log_errno
  have e4 := vn_log_notify
  have e5 := vn_log_trace
  have e6 := vn_log_log
  have e7 := vn_log_allow
  go_enter Try.func114, Try.ntmps114
  go_wp2_with (go_at_call 113; refine (kind_calls w0 _ g s ?hi _ _ _ HP.out).mono ?_; (case hi => exact HI.out.alloc _); rintro e1 w1 ⟨rfl, hI1, hk1⟩; have hbk := hk1.blk (blk_new W _) hne (by simp); have HBK1 := Lib.hid hbk; have hlt1 := heap_lt hbk; have b0 := heap_cell hbk 0 _ rfl; have b1 := heap_cell hbk 1 _ rfl; have y0 := heap_thaw hbk 0; have y1 := heap_thaw hbk 1; have hg1 := hI1.lt; have HI1 := Lib.hid hI1; have HK1 := Lib.hid ((keep_alloc (KeepBut.refl _ _ _) _).trans hk1 (.inl rfl)); obtain ⟨Ax, cx, hCx, hmx, q0x, q1x, q2x, q3x, q4x, q5x, q6x, z3x, z4x, z5x, z6x⟩ := (hI1).facts; clear hI1 hk1 hbk hCx q0x q1x q2x q3x q4x q6x z3x z4x z5x z6x hmx; unfold tokV)
  refine bodyPost_ret (results_c rfl _ _ W.heap.size 25 #[.int .i64 7, .int .u64 0] (0, 0) _ rfl ?_ Try.underlying25 rfl (by kernel_rfl)) rfl ?_
  · refine blk_alloc (blk_alloc ?_ _) _; refine blk_put (cs := #[.int .i64 7, .int .u64 0]) ?_ 1 _ rfl; refine blk_put (cs := #[.int .i64 0, .int .u64 0]) ?_ 0 _ rfl; exact HBK1.out
  refine ⟨rfl, ?_, ?_⟩
  · refine RdAt.alloc (RdAt.alloc ?_ _) _
    iterate 2 refine RdAt.far ?_ hne hgs _
    exact HI1.out
  · refine keep_alloc (keep_alloc ?_ _) _
    iterate 2 refine keep_far ?_ (Nat.le_refl _) _
    exact HK1.out
set_option maxHeartbeats 4000000 in
theorem verdict_allow (w0 W : World) (g : Nat) (s : Rd) (hI : RdAt w0 W g s) (t : Token) (s1 : Rd) (hp : kindS s 2 = some (t, s1)) (hx : s1.x = 0) (ht : t.f1 = ⟨#[97, 108, 108, 111, 119]⟩) : Calls Try.prog 114 #[.pointer (some ⟨g, 0, none⟩)] W (Did w0 W g (verV ⟨8, 0⟩) s1) := by
  have hgl := hI.lt
  have hgs := hI.size
  have hne : W.heap.size ≠ g := by omega
  have HI := Lib.hid hI
  clear hI
  obtain ⟨a0, a1, a2, a3⟩ := t
  dsimp only at ht
  subst ht
  have HP := Lib.hid hp
  clear hp
  have e0 := vn_allow_kill_process
  have e1 := vn_allow_kill_thread
  have e2 := vn_allow_trap
  have e3 := vn_allow_errno
  have e4 := vn_allow_notify
  have e5 := vn_allow_trace
  have e6 := vn_allow_log
  have e7 := vn_allow_allow
  go_enter Try.func114, Try.ntmps114
  go_wp2_with (go_at_call 113; refine (kind_calls w0 _ g s ?hi _ _ _ HP.out).mono ?_; (case hi => exact HI.out.alloc _); rintro e1 w1 ⟨rfl, hI1, hk1⟩; have hbk := hk1.blk (blk_new W _) hne (by simp); have HBK1 := Lib.hid hbk; have hlt1 := heap_lt hbk; have b0 := heap_cell hbk 0 _ rfl; have b1 := heap_cell hbk 1 _ rfl; have y0 := heap_thaw hbk 0; have y1 := heap_thaw hbk 1; have hg1 := hI1.lt; have HI1 := Lib.hid hI1; have HK1 := Lib.hid ((keep_alloc (KeepBut.refl _ _ _) _).trans hk1 (.inl rfl)); obtain ⟨Ax, cx, hCx, hmx, q0x, q1x, q2x, q3x, q4x, q5x, q6x, z3x, z4x, z5x, z6x⟩ := (hI1).facts; clear hI1 hk1 hbk hCx q0x q1x q2x q3x q4x q6x z3x z4x z5x z6x hmx; unfold tokV)
  refine bodyPost_ret (results_c rfl _ _ W.heap.size 25 #[.int .i64 8, .int .u64 0] (0, 0) _ rfl ?_ Try.underlying25 rfl (by kernel_rfl)) rfl ?_
  · refine blk_alloc (blk_alloc ?_ _) _; refine blk_put (cs := #[.int .i64 8, .int .u64 0]) ?_ 1 _ rfl; refine blk_put (cs := #[.int .i64 0, .int .u64 0]) ?_ 0 _ rfl; exact HBK1.out
  refine ⟨rfl, ?_, ?_⟩
  · refine RdAt.alloc (RdAt.alloc ?_ _) _
    iterate 2 refine RdAt.far ?_ hne hgs _
    exact HI1.out
  · refine keep_alloc (keep_alloc ?_ _) _
    iterate 2 refine keep_far ?_ (Nat.le_refl _) _
    exact HK1.out
end Go.Proofs.Ytkojnaebkgekaaa
