/- Layer 6's reader (the document's): one. -/
import Derived.Test.YtkojnaebkgekaaaRdH
set_option linter.unusedVariables false
set_option linter.unusedSimpArgs false
namespace Go.Proofs.Ytkojnaebkgekaaa
open Go.RowKit Go.Proofs.YtkojnaebkgekaaaW.PrintWords
theorem tn_not : (sNot.toList == ([110, 111, 116] : List UInt8)) = true := by decide +kernel
theorem tn_open : (sOpen.toList == ([40] : List UInt8)) = true := by decide +kernel
set_option maxHeartbeats 2000000 in
theorem one_not (k n : Nat) (hn : n ≤ 1000) (IH : ∀ (w0 W : World) (g : Nat) (s : Rd), RdAt w0 W g s → ∀ (e : Expr) (s' : Rd), oneRS k n s = some (e, s') → Calls Try.prog 180 #[.pointer (some ⟨g, 0, none⟩)] W (DidE w0 W g e s'))
    (w0 W : World) (g : Nat) (s : Rd) (hI : RdAt w0 W g s) (a2 a3 f : Int) (s1 s2 s3 s4 : Rd) (e1 : Expr) (ht : nextS s = some (⟨2, sNot, a2, a3⟩, s1)) (hx : s1.x = 0) (hf : P.ravelinref06_field.f sNot = some f) (hd : deeperS s1 = some (true, s2)) (h1 : oneRS k n s2 = some (e1, s3)) (hu : upS s3 = some s4) :
    Calls Try.prog 180 #[.pointer (some ⟨g, 0, none⟩)] W (DidE w0 W g ⟨3, [e1], 0, 0, 0, 0⟩ s4) := by
  have hgl := hI.lt
  have hgs := hI.size
  have hne : W.heap.size ≠ g := by omega
  have HI := Lib.hid hI
  have HT := Lib.hid ht
  have HF := Lib.hid hf
  have HD := Lib.hid hd
  have H1 := Lib.hid h1
  clear hI ht hf hd h1
  unfold upS at hu
  split at hu
  case isFalse => cases hu
  rename_i hdd
  simp only [Option.some.injEq] at hu
  subst hu
  have hw := IntWalk.i64_in (s3.d - 1) (by omega)
  have e0 := tn_not
  go_enter Try.func180, Try.ntmps180
  go_wp2_with (first | (go_at_call 146; refine (next_calls w0 _ g s ?hi _ _ HT.out).mono ?_; (case hi => exact HI.out.alloc _); rintro en w1 ⟨rfl, hI1, hk1⟩; have hbr := hk1.blk (blk_new W _) hne (by simp); have HBR1 := Lib.hid hbr; have hlr1 := heap_lt hbr; have hg1 := hI1.lt; obtain ⟨Aa, ca, hCa, hma, q0a, q1a, q2a, q3a, q4a, q5a, q6a, z3a, z4a, z5a, z6a⟩ := (hI1).facts; have HI1 := Lib.hid hI1; have HK1 := Lib.hid ((keep_alloc (KeepBut.refl _ _ _) _).trans hk1 (.inl rfl)); clear hI1 hk1 hbr hCa q0a q1a q2a q3a q4a q6a z3a z4a z5a z6a hma; unfold tokV) | (go_at_call 192; refine (P.ravelinref06_field.calls _ _ _ HF.out).mono ?_; rintro en wf ⟨rfl, nf, rfl⟩) | (go_at_call 193; refine (deeper_calls w0 _ g s1 ?hi (⟨2, sNot, a2, a3⟩ : Token) _ _ HD.out).mono ?_; (case hi => exact ((HI1.out.alloc _).alloc _).drewN _); rintro en w2 ⟨rfl, hI2, hk2⟩; have hbr := hk2.blk (blk_drewN (blk_alloc (blk_alloc HBR1.out _) _) _) hne (by simp); have hbe := hk2.blk (blk_drewN (heap_new1 w1 _ _) _) (by omega : w1.heap.size + 1 ≠ g) (by simp); have HBR2 := Lib.hid hbr; have HBE2 := Lib.hid hbe; have hlr2 := heap_lt hbr; have hle2 := heap_lt hbe; have hg2 := hI2.lt; have HI2 := Lib.hid hI2; have HK2 := Lib.hid ((keep_drewN (keep_alloc (keep_alloc HK1.out _) _) _).trans hk2 (.inl rfl)); clear hI2 hk2 hbr hbe q5a) | (go_at_call 180; refine (IH w0 _ g s2 ?hi e1 s3 H1.out).mono ?_; (case hi => exact HI2.out); rintro en w3 ⟨v3, ⟨rfl, hI3, hk3⟩, hR3⟩; have hsz3 := keep_size hk3; have hbr := hk3.blk HBR2.out hne (by simp); have hbe := hk3.blk HBE2.out (by omega : w1.heap.size + 1 ≠ g) (by simp); have HBR3 := Lib.hid hbr; have HBE3 := Lib.hid hbe; have hlr3 := heap_lt hbr; have hle3 := heap_lt hbe; have hg3 := hI3.lt; have HI3 := Lib.hid hI3; have HK3 := Lib.hid (HK2.out.trans hk3 (.inl rfl)); have HR3 := Lib.hid hR3; clear hI3 hk3 hbr hbe hR3; unfold exV) | (refine wpl_storeW 44 (.tmp 4) (.tmp 40) (w1.heap.size + 1) #[.int .i64 3, .slice (some ⟨w3.heap.size, 0, none⟩) 1 1, .int .i64 0, .int .u64 0, .int .i64 0, .int .u64 0] 44 #[.int .i64 0, .slice none 0 0, .int .i64 0, .int .u64 0, .int .i64 0, .int .u64 0] rfl rfl ?sx ?sy ?sg (by kernel_rfl) rfl (by kernel_rfl) ?_; (case sx => rfl); (case sy => rfl); (case sg => exact blk_alloc HBE3.out _); intro w4 hw4; have hI4 := (HI3.out.alloc _).rowed hw4 (by omega) (by omega); have HBR4 := Lib.hid (hw4.blk (blk_alloc HBR3.out _) (by omega)); have HBE4 := Lib.hid hw4.2; have HBX4 := Lib.hid (hw4.blk (blk_new w3 _) (by omega)); have HK4 := Lib.hid (hw4.keep (keep_alloc HK3.out _) (by omega)); obtain ⟨Ay, cy, hCy, hmy, q0y, q1y, q2y, q3y, q4y, q5y, q6y, z3y, z4y, z5y, z6y⟩ := (hI4).facts; have HI4 := Lib.hid hI4; have HR4 := Lib.hid hw4; have hsz4 := hw4.size; clear hI4 hw4 hCy q0y q1y q2y q3y q5y q6y z3y z5y z6y hmy) | (refine wpl_load 44 (.tmp 4) (w1.heap.size + 1) #[.int .i64 3, .slice (some ⟨w3.heap.size, 0, none⟩) 1 1, .int .i64 0, .int .u64 0, .int .i64 0, .int .u64 0] 44 (0, 0) _ rfl rfl ?lx ?lg Try.underlying44 rfl (by kernel_rfl) ?_; (case lx => rfl); (case lg => exact blk_far HBE4.out (by dsimp only; omega))) | (refine wpl_store 44 (.tmp 2) (.tmp 103) W.heap.size #[.int .i64 3, .slice (some ⟨w3.heap.size, 0, none⟩) 1 1, .int .i64 0, .int .u64 0, .int .i64 0, .int .u64 0] 44 #[.int .i64 0, .slice none 0 0, .int .i64 0, .int .u64 0, .int .i64 0, .int .u64 0] rfl rfl ?sx ?sy ?sg (by kernel_rfl) rfl (by kernel_rfl) ?_; (case sx => rfl); (case sy => rfl); (case sg => exact blk_far HBR4.out (by dsimp only; omega))))
  have hsz2 := keep_size HK2.out
  refine bodyPost_ret (results_c rfl _ _ W.heap.size 44 #[.int .i64 3, .slice (some ⟨w3.heap.size, 0, none⟩) 1 1, .int .i64 0, .int .u64 0, .int .i64 0, .int .u64 0] (0, 0) _ rfl (setRow_heap _ _ _ _ _ _ (blk_far HBR4.out (by dsimp only; omega))) Try.underlying44 rfl (by kernel_rfl)) rfl ?_
  have h4 : kExpr.R 44 w4 w2.heap.size (fun k => True ∧ k ≠ w3.heap.size) v3 e1.f1 := by
    rw [HR4.out.1]
    exact R_row (R_fresh HR3.out _) (by omega) _
  have h5 : kExpr.R 44 w4 w2.heap.size (fun _ => True) (.slice (some ⟨w3.heap.size, 0, none⟩) 1 1) [e1] := R_one HBX4.out rfl (by omega) trivial (kExpr_mkM _ _ _ e1 h4)
  exact ⟨_, ⟨rfl, RdAt.row (RdAt.put (s' := { s3 with d := s3.d - 1 }) HI4.out rfl 4 _ (fun _ _ => rfl)) hne hgs _, keep_row (HK4.out.set_ 4 _) (Nat.le_refl _) _⟩, Kd.R_lower (R_row (R_rd h5 ((KeepBut.refl _ _ _).set_ 4 _) (by omega)) (by omega) _) (by omega)⟩
set_option maxHeartbeats 2000000 in
theorem one_open (k n : Nat) (hn : n ≤ 1000) (sub : Rd → Option (Expr × Rd)) (IH : ∀ (w0 W : World) (g : Nat) (s : Rd), RdAt w0 W g s → ∀ (e : Expr) (s' : Rd), sub s = some (e, s') → Calls Try.prog 148 #[.pointer (some ⟨g, 0, none⟩)] W (DidE w0 W g e s'))
    (w0 W : World) (g : Nat) (s : Rd) (hI : RdAt w0 W g s) (a2 a3 f : Int) (s1 s2 s3 s4 s5 : Rd) (e1 : Expr) (ht : nextS s = some (⟨4, sOpen, a2, a3⟩, s1)) (hx : s1.x = 0) (hf : P.ravelinref06_field.f sOpen = some f) (hd : deeperS s1 = some (true, s2)) (h1 : sub s2 = some (e1, s3)) (hc : wantS s3 4 sClose = some s4) (hu : upS s4 = some s5) :
    Calls Try.prog 180 #[.pointer (some ⟨g, 0, none⟩)] W (DidE w0 W g e1 s5) := by
  have hgl := hI.lt
  have hgs := hI.size
  have hne : W.heap.size ≠ g := by omega
  have HI := Lib.hid hI
  have HT := Lib.hid ht
  have HF := Lib.hid hf
  have HD := Lib.hid hd
  have H1 := Lib.hid h1
  have HC := Lib.hid hc
  clear hI ht hf hd h1 hc
  unfold upS at hu
  split at hu
  case isFalse => cases hu
  rename_i hdd
  simp only [Option.some.injEq] at hu
  subst hu
  have hw := IntWalk.i64_in (s4.d - 1) (by omega)
  have e0 := tn_open
  go_enter Try.func180, Try.ntmps180
  go_wp2_with (first | (go_at_call 146; refine (next_calls w0 _ g s ?hi _ _ HT.out).mono ?_; (case hi => exact HI.out.alloc _); rintro en w1 ⟨rfl, hI1, hk1⟩; have hbr := hk1.blk (blk_new W _) hne (by simp); have HBR1 := Lib.hid hbr; have hlr1 := heap_lt hbr; have hg1 := hI1.lt; obtain ⟨Aa, ca, hCa, hma, q0a, q1a, q2a, q3a, q4a, q5a, q6a, z3a, z4a, z5a, z6a⟩ := (hI1).facts; have HI1 := Lib.hid hI1; have HK1 := Lib.hid ((keep_alloc (KeepBut.refl _ _ _) _).trans hk1 (.inl rfl)); clear hI1 hk1 hbr hCa q0a q1a q2a q3a q4a q6a z3a z4a z5a z6a hma; unfold tokV) | (go_at_call 192; refine (P.ravelinref06_field.calls _ _ _ HF.out).mono ?_; rintro en wf ⟨rfl, nf, rfl⟩) | (go_at_call 193; refine (deeper_calls w0 _ g s1 ?hi (⟨4, sOpen, a2, a3⟩ : Token) _ _ HD.out).mono ?_; (case hi => exact ((HI1.out.alloc _).alloc _).drewN _); rintro en w2 ⟨rfl, hI2, hk2⟩; have hbr := hk2.blk (blk_drewN (blk_alloc (blk_alloc HBR1.out _) _) _) hne (by simp); have hbe := hk2.blk (blk_drewN (heap_new1 w1 _ _) _) (by omega : w1.heap.size + 1 ≠ g) (by simp); have HBR2 := Lib.hid hbr; have HBE2 := Lib.hid hbe; have hlr2 := heap_lt hbr; have hle2 := heap_lt hbe; have hg2 := hI2.lt; have HI2 := Lib.hid hI2; have HK2 := Lib.hid ((keep_drewN (keep_alloc (keep_alloc HK1.out _) _) _).trans hk2 (.inl rfl)); clear hI2 hk2 hbr hbe q5a) | (go_at_call 148; refine (IH w0 _ g s2 ?hi e1 s3 H1.out).mono ?_; (case hi => exact HI2.out); rintro en w3 ⟨v3, ⟨rfl, hI3, hk3⟩, hR3⟩; have hsz3 := keep_size hk3; have hbr := hk3.blk HBR2.out hne (by simp); have hbe := hk3.blk HBE2.out (by omega : w1.heap.size + 1 ≠ g) (by simp); have HBR3 := Lib.hid hbr; have HBE3 := Lib.hid hbe; have hlr3 := heap_lt hbr; have hle3 := heap_lt hbe; have hg3 := hI3.lt; have HI3 := Lib.hid hI3; have HK3 := Lib.hid (HK2.out.trans hk3 (.inl rfl)); obtain ⟨A3, c3, rfl⟩ := Kd.R_slice hR3; have HR3 := Lib.hid hR3; clear hI3 hk3 hbr hbe hR3; unfold exV) | (refine wpl_storeW 44 (.tmp 4) (.tmp 62) (w1.heap.size + 1) #[.int .i64 e1.f0, (.slice A3 e1.f1.length c3), .int .i64 e1.f2, .int .u64 e1.f3, .int .i64 e1.f4, .int .u64 e1.f5] 44 #[.int .i64 0, .slice none 0 0, .int .i64 0, .int .u64 0, .int .i64 0, .int .u64 0] rfl rfl ?sx ?sy ?sg (by kernel_rfl) rfl (by kernel_rfl) ?_; (case sx => rfl); (case sy => rfl); (case sg => exact HBE3.out); intro w4 hw4; have hI4 := HI3.out.rowed hw4 (by omega) (by omega); have HBR4 := Lib.hid (hw4.blk HBR3.out (by omega)); have HBE4 := Lib.hid hw4.2; have HK4 := Lib.hid (hw4.keep HK3.out (by omega)); have HI4 := Lib.hid hI4; have HW4 := Lib.hid hw4; have hsz4 := hw4.size; clear hI4 hw4) | (go_at_call 112; refine (want_calls w0 _ g s3 ?hi 4 sClose s4 HC.out).mono ?_; (case hi => exact HI4.out); rintro en w5 ⟨rfl, hI5, hk5⟩; have hsz5 := keep_size hk5; have HBR5 := Lib.hid (hk5.blk HBR4.out hne (by simp)); have HBE5 := Lib.hid (hk5.blk HBE4.out (by omega : w1.heap.size + 1 ≠ g) (by simp)); have hg5 := hI5.lt; obtain ⟨Ay, cy, hCy, hmy, q0y, q1y, q2y, q3y, q4y, q5y, q6y, z3y, z4y, z5y, z6y⟩ := (hI5).facts; have HI5 := Lib.hid hI5; have HK5 := Lib.hid (HK4.out.trans hk5 (.inl rfl)); have HKK := Lib.hid hk5; clear hI5 hk5 hCy q0y q1y q2y q3y q5y q6y z3y z5y z6y hmy) | (refine wpl_load 44 (.tmp 4) (w1.heap.size + 1) #[.int .i64 e1.f0, (.slice A3 e1.f1.length c3), .int .i64 e1.f2, .int .u64 e1.f3, .int .i64 e1.f4, .int .u64 e1.f5] 44 (0, 0) _ rfl rfl ?lx ?lg Try.underlying44 rfl (by kernel_rfl) ?_; (case lx => rfl); (case lg => exact blk_far HBE5.out (by dsimp only; omega))) | (refine wpl_store 44 (.tmp 2) (.tmp 103) W.heap.size #[.int .i64 e1.f0, (.slice A3 e1.f1.length c3), .int .i64 e1.f2, .int .u64 e1.f3, .int .i64 e1.f4, .int .u64 e1.f5] 44 #[.int .i64 0, .slice none 0 0, .int .i64 0, .int .u64 0, .int .i64 0, .int .u64 0] rfl rfl ?sx ?sy ?sg (by kernel_rfl) rfl (by kernel_rfl) ?_; (case sx => rfl); (case sy => rfl); (case sg => exact blk_far HBR5.out (by dsimp only; omega))))
  have hsz2 := keep_size HK2.out
  refine bodyPost_ret (results_c rfl _ _ W.heap.size 44 #[.int .i64 e1.f0, (.slice A3 e1.f1.length c3), .int .i64 e1.f2, .int .u64 e1.f3, .int .i64 e1.f4, .int .u64 e1.f5] (0, 0) _ rfl (setRow_heap _ _ _ _ _ _ (blk_far HBR5.out (by dsimp only; omega))) Try.underlying44 rfl (by kernel_rfl)) rfl ?_
  have h4 : kExpr.R 44 w4 w2.heap.size (fun _ => True) (.slice A3 e1.f1.length c3) e1.f1 := by
    rw [HW4.out.1]
    exact R_row HR3.out (by omega) _
  exact ⟨_, ⟨rfl, RdAt.row (RdAt.put (s' := { s4 with d := s4.d - 1 }) HI5.out rfl 4 _ (fun _ _ => rfl)) hne hgs _, keep_row (HK5.out.set_ 4 _) (Nat.le_refl _) _⟩, Kd.R_lower (R_row (R_rd (R_rd h4 HKK.out (by omega)) ((KeepBut.refl _ _ _).set_ 4 _) (by omega)) (by omega) _) (by omega)⟩
set_option maxHeartbeats 2000000 in
theorem one_test (k : Nat) (w0 W : World) (g : Nat) (s : Rd) (hI : RdAt w0 W g s) (a1 : ByteArray) (a2 a3 f : Int) (s1 s3 : Rd) (e1 : Expr) (ht : nextS s = some (⟨2, a1, a2, a3⟩, s1)) (hx : s1.x = 0) (hf : P.ravelinref06_field.f a1 = some f) (hf0 : 0 ≤ f) (n1 : a1 ≠ sNot) (n2 : a1 ≠ sTrue) (n3 : a1 ≠ sFalse) (h1 : testS k f s1 = some (e1, s3)) :
    Calls Try.prog 180 #[.pointer (some ⟨g, 0, none⟩)] W (DidE w0 W g e1 s3) := by
  have hgl := hI.lt
  have hgs := hI.size
  have hne : W.heap.size ≠ g := by omega
  have HI := Lib.hid hI
  have HT := Lib.hid ht
  have HF := Lib.hid hf
  have H1 := Lib.hid h1
  clear hI ht hf h1
  have e0 : (a1.toList == ([110, 111, 116] : List UInt8)) = false := by have h := (Lib.bytes_beq_false_iff a1 sNot).2 n1; rwa [show sNot.toList = ([110, 111, 116] : List UInt8) from by decide +kernel] at h
  have e2 : (a1.toList == ([116, 114, 117, 101] : List UInt8)) = false := by have h := (Lib.bytes_beq_false_iff a1 sTrue).2 n2; rwa [show sTrue.toList = ([116, 114, 117, 101] : List UInt8) from by decide +kernel] at h
  have e3 : (a1.toList == ([102, 97, 108, 115, 101] : List UInt8)) = false := by have h := (Lib.bytes_beq_false_iff a1 sFalse).2 n3; rwa [show sFalse.toList = ([102, 97, 108, 115, 101] : List UInt8) from by decide +kernel] at h
  go_enter Try.func180, Try.ntmps180
  go_wp2_with (first | (go_at_call 146; refine (next_calls w0 _ g s ?hi _ _ HT.out).mono ?_; (case hi => exact HI.out.alloc _); rintro en w1 ⟨rfl, hI1, hk1⟩; have hbr := hk1.blk (blk_new W _) hne (by simp); have HBR1 := Lib.hid hbr; have hlr1 := heap_lt hbr; have hg1 := hI1.lt; obtain ⟨Aa, ca, hCa, hma, q0a, q1a, q2a, q3a, q4a, q5a, q6a, z3a, z4a, z5a, z6a⟩ := (hI1).facts; have HI1 := Lib.hid hI1; have HK1 := Lib.hid ((keep_alloc (KeepBut.refl _ _ _) _).trans hk1 (.inl rfl)); clear hI1 hk1 hbr hCa q0a q1a q2a q3a q4a q6a z3a z4a z5a z6a hma; unfold tokV) | (go_at_call 192; refine (P.ravelinref06_field.calls _ _ _ HF.out).mono ?_; rintro en wf ⟨rfl, nf, rfl⟩) | (go_at_call 194; refine (test_calls w0 _ g s1 ?hi k f e1 s3 H1.out).mono ?_; (case hi => exact ((HI1.out.alloc _).alloc _).drewN _); rintro en w3 ⟨v3, ⟨rfl, hI3, hk3⟩, hR3⟩; have hsz3 := keep_size hk3; have hsz3' : w1.heap.size + 1 < w3.heap.size := (by simp at hsz3; omega); have hbr := hk3.blk (blk_drewN (blk_alloc (blk_alloc HBR1.out _) _) _) hne (by simp); have hbe := hk3.blk (blk_drewN (heap_new1 w1 _ _) _) (by omega : w1.heap.size + 1 ≠ g) (by simp); have HBR3 := Lib.hid hbr; have HBE3 := Lib.hid hbe; have hlr3 := heap_lt hbr; have hle3 := heap_lt hbe; have hg3 := hI3.lt; have HI3 := Lib.hid hI3; have HK3 := Lib.hid ((keep_drewN (keep_alloc (keep_alloc HK1.out _) _) _).trans hk3 (.inl rfl)); obtain ⟨A3, c3, rfl⟩ := Kd.R_slice hR3; have HR3 := Lib.hid hR3; clear hI3 hk3 hbr hbe hR3 hsz3; unfold exV) | (refine wpl_storeW 44 (.tmp 4) (.tmp 102) (w1.heap.size + 1) #[.int .i64 e1.f0, (.slice A3 e1.f1.length c3), .int .i64 e1.f2, .int .u64 e1.f3, .int .i64 e1.f4, .int .u64 e1.f5] 44 #[.int .i64 0, .slice none 0 0, .int .i64 0, .int .u64 0, .int .i64 0, .int .u64 0] rfl rfl ?sx ?sy ?sg (by kernel_rfl) rfl (by kernel_rfl) ?_; (case sx => rfl); (case sy => rfl); (case sg => exact HBE3.out); intro w4 hw4; have hI4 := HI3.out.rowed hw4 (by omega) (by omega); have HBR4 := Lib.hid (hw4.blk HBR3.out (by omega)); have HBE4 := Lib.hid hw4.2; have HK4 := Lib.hid (hw4.keep HK3.out (by omega)); have HI4 := Lib.hid hI4; have HW4 := Lib.hid hw4; have hsz4 := hw4.size; clear hI4 hw4) | (refine wpl_load 44 (.tmp 4) (w1.heap.size + 1) #[.int .i64 e1.f0, (.slice A3 e1.f1.length c3), .int .i64 e1.f2, .int .u64 e1.f3, .int .i64 e1.f4, .int .u64 e1.f5] 44 (0, 0) _ rfl rfl ?lx ?lg Try.underlying44 rfl (by kernel_rfl) ?_; (case lx => rfl); (case lg => exact HBE4.out)) | (refine wpl_store 44 (.tmp 2) (.tmp 103) W.heap.size #[.int .i64 e1.f0, (.slice A3 e1.f1.length c3), .int .i64 e1.f2, .int .u64 e1.f3, .int .i64 e1.f4, .int .u64 e1.f5] 44 #[.int .i64 0, .slice none 0 0, .int .i64 0, .int .u64 0, .int .i64 0, .int .u64 0] rfl rfl ?sx ?sy ?sg (by kernel_rfl) rfl (by kernel_rfl) ?_; (case sx => rfl); (case sy => rfl); (case sg => exact HBR4.out)))
  refine bodyPost_ret (results_c rfl _ _ W.heap.size 44 #[.int .i64 e1.f0, (.slice A3 e1.f1.length c3), .int .i64 e1.f2, .int .u64 e1.f3, .int .i64 e1.f4, .int .u64 e1.f5] (0, 0) _ rfl (setRow_heap _ _ _ _ _ _ HBR4.out) Try.underlying44 rfl (by kernel_rfl)) rfl ?_
  have h4 : kExpr.R 44 w4 (w1.heap.size + 2) (fun _ => True) (.slice A3 e1.f1.length c3) e1.f1 := by
    rw [HW4.out.1]
    exact R_row (Kd.R_lower HR3.out (by simp)) (by omega) _
  exact ⟨_, ⟨rfl, RdAt.row HI4.out hne hgs _, keep_row HK4.out (Nat.le_refl _) _⟩, Kd.R_lower (R_row h4 (by omega) _) (by omega)⟩
theorem one_calls (k : Nat) : ∀ (n : Nat), n ≤ 1000 → ∀ (w0 W : World) (g : Nat) (s : Rd), RdAt w0 W g s → ∀ (e : Expr) (s' : Rd), oneRS k n s = some (e, s') → Calls Try.prog 180 #[.pointer (some ⟨g, 0, none⟩)] W (DidE w0 W g e s') := by
  intro n
  induction n with
  | zero => intro _ _ _ _ _ _ _ _ h; cases h
  | succ n IH =>
    intro hn w0 W g s hI e s' h
    have IH := IH (by omega)
    simp only [oneRS] at h
    obtain ⟨⟨⟨a0, a1, a2, a3⟩, s1⟩, ht, h⟩ := Option.bind_eq_some_iff.1 h
    dsimp only at h
    by_cases hx : s1.x = 0
    · rw [if_pos hx] at h
      obtain ⟨f, hf, hq⟩ := Option.bind_eq_some_iff.1 h
      clear h
      have h := hq
      clear hq
      by_cases c1 : a0 = 2 ∧ a1 = sNot
      · rw [if_pos c1] at h
        obtain ⟨⟨b, s2⟩, hd, h⟩ := Option.bind_eq_some_iff.1 h
        dsimp only at h
        cases b with
        | false => rw [if_neg (by simp)] at h; cases h
        | true =>
          rw [if_pos rfl] at h
          obtain ⟨⟨e1, s3⟩, h1, h⟩ := Option.bind_eq_some_iff.1 h
          obtain ⟨s4, hu, h⟩ := Option.map_eq_some_iff.1 h
          simp only [Prod.mk.injEq] at h
          obtain ⟨rfl, rfl⟩ := h
          obtain ⟨rfl, rfl⟩ := c1
          exact one_not k n (by omega) IH w0 W g s hI a2 a3 f s1 s2 s3 s4 e1 ht hx hf hd h1 hu
      · rw [if_neg c1] at h
        by_cases c2 : a0 = 4 ∧ a1 = sOpen
        · rw [if_pos c2] at h
          obtain ⟨⟨b, s2⟩, hd, h⟩ := Option.bind_eq_some_iff.1 h
          dsimp only at h
          cases b with
          | false => rw [if_neg (by simp)] at h; cases h
          | true =>
            rw [if_pos rfl] at h
            obtain ⟨⟨e1, s3⟩, h1, h⟩ := Option.bind_eq_some_iff.1 h
            obtain ⟨s4, hc, h⟩ := Option.bind_eq_some_iff.1 h
            obtain ⟨s5, hu, h⟩ := Option.map_eq_some_iff.1 h
            simp only [Prod.mk.injEq] at h
            obtain ⟨rfl, rfl⟩ := h
            obtain ⟨rfl, rfl⟩ := c2
            exact one_open k n (by omega) _ (fun w0 W g s hI e s' h => Expr_calls _ (fun w0 W g s hI e s' h => all_calls _ IH w0 W g s hI n (by omega) e s' h) w0 W g s hI n (by omega) e s' h) w0 W g s hI a2 a3 f s1 s2 s3 s4 s5 e1 ht hx hf hd h1 hc hu
        · rw [if_neg c2] at h
          by_cases c3 : a0 = 2 ∧ 0 ≤ f ∧ a1 ≠ sTrue ∧ a1 ≠ sFalse
          · rw [if_pos c3] at h
            obtain ⟨rfl, hf0, n2, n3⟩ := c3
            exact one_test k w0 W g s hI a1 a2 a3 f s1 s' e ht hx hf hf0 (fun he => c1 ⟨rfl, he⟩) n2 n3 h
          · rw [if_neg c3] at h
            cases h
    · rw [if_neg hx] at h
      cases h
theorem exprR_calls (k n : Nat) (hn : n ≤ 1000) (w0 W : World) (g : Nat) (s : Rd) (hI : RdAt w0 W g s) (e : Expr) (s' : Rd) (h : exprRS k n s = some (e, s')) : Calls Try.prog 148 #[.pointer (some ⟨g, 0, none⟩)] W (DidE w0 W g e s') :=
  Expr_calls _ (fun w0 W g s hI e s' h => all_calls _ (one_calls k n hn) w0 W g s hI n hn e s' h) w0 W g s hI n hn e s' h
end Go.Proofs.Ytkojnaebkgekaaa
