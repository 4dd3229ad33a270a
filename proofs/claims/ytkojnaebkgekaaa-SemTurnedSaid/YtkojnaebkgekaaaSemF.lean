/- Layer 7: whether a test holds. -/
import Derived.Test.YtkojnaebkgekaaaSemE
set_option linter.unusedVariables false
set_option linter.unusedSimpArgs false
namespace Go.Proofs.Ytkojnaebkgekaaa
open Go.RowKit Go.Proofs.YtkojnaebkgekaaaW.PrintWords
theorem askCells_arg (d : Data) (r : Nat) : ∀ i x, [d.a0, d.a1, d.a2, d.a3, d.a4, d.a5][i]? = some x → (askCells d r)[3 + i]? = some (.int .u64 x)
  | 0, x, h => by simp at h; subst h; rfl
  | 1, x, h => by simp at h; subst h; rfl
  | 2, x, h => by simp at h; subst h; rfl
  | 3, x, h => by simp at h; subst h; rfl
  | 4, x, h => by simp at h; subst h; rfl
  | 5, x, h => by simp at h; subst h; rfl
  | i + 6, x, h => by simp at h
theorem heap_new2 (w : World) (o1 o2 o3 : Obj) : (((w.alloc o1).alloc o2).alloc o3).heap[w.heap.size + 1 + 1]? = some o3 := by
  have h := heap_alloc_new ((w.alloc o1).alloc o2) o3
  have e : ((w.alloc o1).alloc o2).heap.size = w.heap.size + 1 + 1 := by simp
  rw [e] at h
  exact h
theorem bl_two {w wc : World} {o1 o2 : Obj} (h : Below (w.heap.size + 2) ((w.alloc o1).alloc o2) wc) : Below w.heap.size w wc := by
  have e : ((w.alloc o1).alloc o2).heap.size = w.heap.size + 2 := by simp
  exact bl_call (by go_grown : Below w.heap.size w ((w.alloc o1).alloc o2)) (by omega) (by rw [e]; exact h)
theorem heap_new2d (w : World) (o1 o2 o3 : Obj) : (((w.alloc o1).alloc o2).alloc o3).drew.heap[w.heap.size + 1 + 1]? = some o3 := heap_new2 w o1 o2 o3
set_option maxHeartbeats 1000000 in
set_option maxRecDepth 100000 in
theorem holds_test (e : Expr) (hop : e.f0 = 6) (hf0 : 0 ≤ e.f2) (hf1 : e.f2 ≤ 6) (hr0 : 1 ≤ e.f4) (hr1 : e.f4 ≤ 6) : HoldsAt e := by
  intro d r A c w hr hA
  have HR := Lib.hid hr
  have HS : Hid (holdsS d e = relS e.f4 (cmpS (bits .and .u64 (d.field e.f2) e.f3) e.f5)) := Lib.hid (by
    obtain ⟨op, l, f, m, rl, v⟩ := e
    simp only at hop
    rw [holdsS, if_neg (by simp [hop]), if_neg (by simp [hop]), if_neg (by simp [hop]), if_pos (by simp [hop])])
  clear hA hr
  unfold exCells askCells
  rw [hop]
  clear hop
  go_enter Try.func43, Try.ntmps43
  go_wp2
  go_upto_region 9 with (fail)
  go_cut [5] (fun v wc => Hid ((Kd.int .u64).R 23 wc (w.heap.size + 2) (fun _ => True) v [d.a0, d.a1, d.a2, d.a3, d.a4, d.a5, d.ip]) ∧ Hid (Below (w.heap.size + 2) ((w.alloc (.cells #[.int .u32 d.nr, .int .u32 d.arch, .int .u64 d.ip, .int .u64 d.a0, .int .u64 d.a1, .int .u64 d.a2, .int .u64 d.a3, .int .u64 d.a4, .int .u64 d.a5, .map (some r)] 94)).alloc (.cells #[.int .i64 6, .slice A e.f1.length c, .int .i64 e.f2, .int .u64 e.f3, .int .i64 e.f4, .int .u64 e.f5] 44)) wc))
  case first =>
    have HCl : Hid (∀ W, Below (w.heap.size + 1) (w.alloc (.cells #[.int .u32 d.nr, .int .u32 d.arch, .int .u64 d.ip, .int .u64 d.a0, .int .u64 d.a1, .int .u64 d.a2, .int .u64 d.a3, .int .u64 d.a4, .int .u64 d.a5, .map (some r)] 94)) W → (Kd.int .u64).C W (some ⟨w.heap.size, 3, none⟩) [d.a0, d.a1, d.a2, d.a3, d.a4, d.a5].length [d.a0, d.a1, d.a2, d.a3, d.a4, d.a5]) := Lib.hid (fun W hW => C_scalar _ (by simp) (fun i x hx => Box.upto (Box.new w (askCells d r) _) hW (by omega) _ _ (askCells_arg d r i x hx)))
    go_region_law (first | (refine R_append_any_step (Kd.int .u64) (w0 := ((w.alloc (.cells #[.int .u32 d.nr, .int .u32 d.arch, .int .u64 d.ip, .int .u64 d.a0, .int .u64 d.a1, .int .u64 d.a2, .int .u64 d.a3, .int .u64 d.a4, .int .u64 d.a5, .map (some r)] 94)).alloc (.cells #[.int .i64 6, .slice A e.f1.length c, .int .i64 e.f2, .int .u64 e.f3, .int .i64 e.f4, .int .u64 e.f5] 44))) (w.heap.size + 2) rfl (.tmp 36) (.tmp 40) 146 23 (.int .u64 0) 8 rfl Try.underlying146 infoU64 rfl (by decide) (by omega) v1 [d.a0, d.a1, d.a2, d.a3, d.a4, d.a5] [d.ip] (some ⟨w2.heap.size, 0, none⟩) 1 1 (fun _ => True) (fun _ => False) (by simp [Act.eval, Act.put]) (by simp [Act.eval, Act.put]) ?hO ?hR (fun _ h => h.elim) (fun _ _ => trivial) ?hB ?hb ?hl ?_; (case hO => exact Kd.R_alloc HO2.out _); (case hR => exact reads_one (heap_alloc_new _ _) rfl rfl); (case hB => have := HBw.out; go_grown); (case hb => have := HBw.out.size; simp at this; simp; omega); (case hl => simp); intro v3 w3 ho3 hb3 _ _; have HO3 := Lib.hid ho3; have HB3 := Lib.hid hb3; clear ho3 hb3) | (refine R_append_any_step (Kd.int .u64) (w0 := ((w.alloc (.cells #[.int .u32 d.nr, .int .u32 d.arch, .int .u64 d.ip, .int .u64 d.a0, .int .u64 d.a1, .int .u64 d.a2, .int .u64 d.a3, .int .u64 d.a4, .int .u64 d.a5, .map (some r)] 94)).alloc (.cells #[.int .i64 6, .slice A e.f1.length c, .int .i64 e.f2, .int .u64 e.f3, .int .i64 e.f4, .int .u64 e.f5] 44))) (w.heap.size + 2) rfl (.tmp 36) (.tmp 40) 146 23 (.int .u64 0) 8 rfl Try.underlying146 infoU64 rfl (by decide) (by omega) v1 [d.a0, d.a1, d.a2, d.a3, d.a4, d.a5] [d.ip] (some ⟨w.heap.size + 1 + 1, 0, none⟩) 1 1 (fun _ => True) (fun _ => False) (by simp [Act.eval, Act.put]) (by simp [Act.eval, Act.put]) ?hO ?hR (fun _ h => h.elim) (fun _ _ => trivial) ?hB ?hb ?hl ?_; (case hO => exact HO2.out); (case hR => refine reads_one (blk_below (o := .cells #[.int .u64 d.ip] 23) (heap_new2d _ _ _ _) HB2.out) rfl rfl); (case hB => have := HBw.out; go_grown); (case hb => have := HBw.out.size; simp at this; simp; omega); (case hl => simp); intro v3 w3 ho3 hb3 _ _; have HO3 := Lib.hid ho3; have HB3 := Lib.hid hb3; clear ho3 hb3) | (go_simp; go_at_call 77; refine (clone_calls ⟨w.heap.size, 3, none⟩ _ [d.a0, d.a1, d.a2, d.a3, d.a4, d.a5] _ ?hc (by simp)).mono ?_; (case hc => refine HCl.out _ ?_; go_grown); rintro e' w2 ⟨v1, rfl, ho, hb2⟩; have HBw := Lib.hid (bl_call (by go_grown : Below (w.heap.size + 2) ((w.alloc (.cells #[.int .u32 d.nr, .int .u32 d.arch, .int .u64 d.ip, .int .u64 d.a0, .int .u64 d.a1, .int .u64 d.a2, .int .u64 d.a3, .int .u64 d.a4, .int .u64 d.a5, .map (some r)] 94)).alloc (.cells #[.int .i64 6, .slice A e.f1.length c, .int .i64 e.f2, .int .u64 e.f3, .int .i64 e.f4, .int .u64 e.f5] 44)) _) (by simp; try omega) hb2); have x2 : w2.cell? ⟨w.heap.size, 2, none⟩ = some (.int .u64 d.ip) := Box.upto ((Box.new w (askCells d r) _).alloc (.cells #[.int .i64 6, .slice A e.f1.length c, .int .i64 e.f2, .int .u64 e.f3, .int .i64 e.f4, .int .u64 e.f5] 44)) HBw.out (by omega) 2 _ rfl; have hz2 : w.heap.size + 2 ≤ w2.heap.size := (by have := hb2.size; simp at this; omega); have HO2 := Lib.hid (Kd.R_lower ho (by simp; try omega : w.heap.size + 2 ≤ _)); have HB2 := Lib.hid hb2; clear ho hb2) | fail)
    all_goals (go_wp2; go_meet; exact ⟨by simpa using HO3, HB3⟩)
  case rest =>
    obtain ⟨HF, HB⟩ := hcut
    have X1 := Box.upto ((Box.new w (askCells d r) _).alloc (.cells #[.int .i64 6, .slice A e.f1.length c, .int .i64 e.f2, .int .u64 e.f3, .int .i64 e.f4, .int .u64 e.f5] 44)) HB.out (by omega)
    have X2 := Box.upto (Box.new (w.alloc (.cells #[.int .u32 d.nr, .int .u32 d.arch, .int .u64 d.ip, .int .u64 d.a0, .int .u64 d.a1, .int .u64 d.a2, .int .u64 d.a3, .int .u64 d.a4, .int .u64 d.a5, .map (some r)] 94)) #[.int .i64 6, .slice A e.f1.length c, .int .i64 e.f2, .int .u64 e.f3, .int .i64 e.f4, .int .u64 e.f5] 44) HB.out (by simp)
    obtain ⟨Av, cv, rfl, hcap, hCv⟩ := Kd.R_reads HF.out
    obtain ⟨bv, ov, rfl, hbv, hav⟩ := scalar_at hCv (by simp)
    have HRC := Lib.hid (IsMap.below HR.out (bl_two HB.out) : IsMap kRel id wc r relL)
    obtain ⟨n, hn⟩ := Int.eq_ofNat_of_zero_le hf0
    have hx : wc.cell? ⟨bv, ov + n, none⟩ = some (.int .u64 (d.field e.f2)) := by
      rw [hn] at hf1 ⊢
      match n, hf1 with
      | 0, _ | 1, _ | 2, _ | 3, _ | 4, _ | 5, _ | 6, _ => exact hav _ _ rfl
      | n + 7, h => omega
    have hc1 : wc.cell? ⟨w.heap.size, 9, none⟩ = some (.map (some r)) := X1 9 _ rfl
    have hc2 : wc.cell? ⟨w.heap.size + 1, 2, none⟩ = some (.int .i64 e.f2) := by simpa using X2 2 _ rfl
    have hc3 : wc.cell? ⟨w.heap.size + 1, 3, none⟩ = some (.int .u64 e.f3) := by simpa using X2 3 _ rfl
    have hc4 : wc.cell? ⟨w.heap.size + 1, 4, none⟩ = some (.int .i64 e.f4) := by simpa using X2 4 _ rfl
    have hc5 : wc.cell? ⟨w.heap.size + 1, 5, none⟩ = some (.int .u64 e.f5) := by simpa using X2 5 _ rfl
    clear X1 X2 hav
    have hres : Hid (e.f4 = 1 ∨ e.f4 = 2 ∨ e.f4 = 3 ∨ e.f4 = 4 ∨ e.f4 = 5 ∨ e.f4 = 6) := Lib.hid (by omega)
    have hl := fun n => run_lookup_one huRel keyRel .nilFunc (fun _ => by kernel_rfl) (wc.drewN n) r _ (IsMap.below HRC.out (pw_below_drewN (Below.refl _ _) n)) e.f4
    have hx : wc.cell? ⟨bv, ov + e.f2.toNat, none⟩ = some (.int .u64 (d.field e.f2)) := by rw [hn] at hx ⊢; exact hx
    clear hn
    have HB2 := Lib.hid (bl_two HB.out)
    clear HR HB HF hcap hCv HRC
    rcases hres.out with h | h | h | h | h | h
    all_goals rw [h] at hl hc4 HS
    all_goals clear h hres hr0 hr1
    all_goals simp [relL, List.lookup] at hl
    all_goals go_wp2
    all_goals (go_quiet (first | (go_at_call 78; exact Calls.quiet_of_same (cmp_calls _ _ _)) | (go_at_call 68; exact Calls.quiet_of_same (oeq_calls _ _)) | (go_at_call 69; exact Calls.quiet_of_same (one_calls' _ _)) | (go_at_call 70; exact Calls.quiet_of_same (olt_calls _ _)) | (go_at_call 71; exact Calls.quiet_of_same (ole_calls _ _)) | (go_at_call 72; exact Calls.quiet_of_same (ogt_calls _ _)) | (go_at_call 73; exact Calls.quiet_of_same (oge_calls _ _))))
    all_goals go_wp2
    all_goals (go_returns; exact ⟨by rw [HS.out]; rfl, pw_below_drewN HB2.out _⟩)
/-- What holds answers, of every expression whose parts are right. -/
theorem holds_ok : ∀ (n : Nat) (e : Expr), SizeOf.sizeOf e ≤ n → okE e = true → HoldsAt e
  | 0, e, hn, _ => by cases e; simp at hn
  | n + 1, e, hn, ho => by
    obtain ⟨h1, h2⟩ := okE_one ho
    have IH : ∀ x ∈ e.f1, HoldsAt x := fun x hx => holds_ok n x (by
      have := List.sizeOf_lt_of_mem hx
      cases e
      simp at hn this ⊢
      omega) (okL_mem h2 x hx)
    simp only [oneS] at h1
    by_cases ha : (decide (e.f0 < 1) || decide (6 < e.f0) || decide ((e.f1.length : Int) < (argsS e.f0).1) || decide ((argsS e.f0).2 < e.f1.length)) = true
    · rw [if_pos ha] at h1
      exact absurd h1 (by decide)
    · rw [if_neg ha] at h1
      simp only [Bool.not_eq_true, Bool.or_eq_false_iff, decide_eq_false_iff_not] at ha
      obtain ⟨⟨⟨ha1, ha2⟩, ha3⟩, ha4⟩ := ha
      by_cases h3 : e.f0 = 3
      · exact holds_not e IH h3 (by simp [h3, argsS] at ha3; omega)
      by_cases h4 : e.f0 = 4
      · exact holds_and e IH h4
      by_cases h5 : e.f0 = 5
      · exact holds_or e IH h5
      by_cases h6 : e.f0 = 6
      · rw [if_neg (by simp [h6])] at h1
        by_cases hb : (decide (e.f2 < 0) || decide (6 < e.f2) || decide (e.f4 < 1) || decide (6 < e.f4)) = true
        · rw [if_pos hb] at h1
          exact absurd h1 (by decide)
        · simp only [Bool.not_eq_true, Bool.or_eq_false_iff, decide_eq_false_iff_not] at hb
          exact holds_test e h6 (by omega) (by omega) (by omega) (by omega)
      · exact holds_const e (by omega)
end Go.Proofs.Ytkojnaebkgekaaa
