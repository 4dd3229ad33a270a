/- Layer 7: what is said with not holds just if it doesn't without; a relation just if its opposite doesn't. -/
import Derived.Test.YtkojnaebkgekaaaRdS
import Derived.Test.YtkojnaebkgekaaaRowW
import Derived.Test.YtkojnaebkgekaaaRdJ
import Derived.Test.YtkojnaebkgekaaaSemH
import Derived.Test.YtkojnaebkgekaaaBase
import Derived.OpenShut
import Derived.WalkKit
import Derived.ProofKit
import Derived.Test.YtkojnaebkgekaaaSemD
import Derived.Test.YtkojnaebkgekaaaSemE
set_option linter.unusedVariables false
set_option linter.unusedSimpArgs false
namespace Go.Proofs.Ytkojnaebkgekaaa
open Go.RowKit Go.Proofs.YtkojnaebkgekaaaW.PrintWords
theorem reader_calls (k f : Nat) (s : ByteArray) (l : List Token) (W : World) (hn : l.length ≤ 100000) (h : lexS k s f 0 = some l) :
    Calls Try.prog 111 #[.string s] W fun e w' => ∃ wt g, e = .returned (.pointer (some ⟨g, 0, none⟩)) ∧ RdAt wt w' g ⟨l, 0, 0, 0, 0, 0, 0⟩ ∧ Below W.heap.size W wt ∧ w'.heap.size = g + 1 := by
  go_enter Try.func111, Try.ntmps111
  go_wp2_with (go_at_call 145; refine (toks_calls k f s l _ hn h).mono ?_; rintro en w1 ⟨v, rfl, hR, hb⟩; obtain ⟨A, c, rfl, hlc, hC⟩ := Kd.R_reads hR; have HC := Lib.hid hC; have HB := Lib.hid hb; clear hR hC hb)
  go_returns
  exact ⟨w1, w1.heap.size, rfl, ⟨A, c, HC.out, Nat.le_refl _, below_alloc (Below.refl _ _) _, blk_new w1 _⟩, HB.out, by simp⟩
end Go.Proofs.Ytkojnaebkgekaaa

set_option linter.unusedVariables false
set_option linter.unusedSimpArgs false
namespace Go.Proofs.Ytkojnaebkgekaaa
open Go.RowKit Go.Proofs.YtkojnaebkgekaaaW.PrintWords
theorem infoRule : (Try.prog.info? 46).map (fun i => (i.zero, i.size, i.bytes)) = some (some (.agg #[.slice none 0 0, .int .i64 0, .slice none 0 0, .int .i64 0, .int .u64 0, .int .i64 0, .int .u64 0, .int .i64 0, .int .u64 0]), 9, 104) := by kernel_rfl
theorem RdAt.old {w0 W : World} {g : Nat} {s : Rd} (h : RdAt w0 W g s) {k : Nat} (hk : k < w0.heap.size) : W.heap[k]? = w0.heap[k]? := by
  obtain ⟨A, c, hC, hg, hB, hh⟩ := h
  exact hB.block k hk
theorem RdAt.below {w0 W : World} {g : Nat} {s : Rd} (h : RdAt w0 W g s) : Below w0.heap.size w0 W := by
  obtain ⟨A, c, hC, hg, hB, hh⟩ := h
  exact hB
theorem RdAt.base {w0 W : World} {g : Nat} {s : Rd} (h : RdAt w0 W g s) : w0.heap.size ≤ g := by
  obtain ⟨A, c, hC, hg, hB, hh⟩ := h
  exact hg
theorem arch_field (t : Token) (w : World) : (Instr.field 205 (.agg #[.int .i64 t.f0, .string t.f1, .int .u64 t.f2, .int .i64 t.f3]) 1).run Try.prog w = .ok (.string t.f1) w := by kernel_rfl
/-- The policy that is being read: its block holds these cells. -/
def PolAt (w : World) (b : Nat) (a : ByteArray) (x y : Verdict) (v : Value) : Prop := w.heap[b]? = some (.cells #[.string a, .int .i64 x.f0, .int .u64 x.f1, .int .i64 y.f0, .int .u64 y.f1, v] 28 (0, 0))
def polV (a : ByteArray) (x y : Verdict) (v : Value) : Array Value := #[.string a, .int .i64 x.f0, .int .u64 x.f1, .int .i64 y.f0, .int .u64 y.f1, v]
set_option maxHeartbeats 4000000 in
theorem parse_calls (k f kk n : Nat) (hn : n ≤ 400) (text : ByteArray) (l : List Token) (hl : l.length ≤ 100000) (h0 : lexS k text f 0 = some l) (p : Policy) (s' : Rd) (h : parseRS kk n ⟨l, 0, 0, 0, 0, 0, 0⟩ = some (p, s')) (W : World) :
    Calls Try.prog 67 #[.string text] W fun e w' => ∃ v, e = .returned (.tuple #[.agg (polV p.f0 p.f1 p.f2 v), .int .i64 0, .int .i64 0]) ∧ kRule.R 46 w' W.heap.size (fun _ => True) v p.f3 ∧ Below W.heap.size W w' := by
  have hn' : n ≤ 1000 := by omega
  have H0 := Lib.hid h0
  clear h0
  unfold parseRS at h
  obtain ⟨s1, h1, h⟩ := Option.bind_eq_some_iff.1 h
  obtain ⟨⟨ta, s2⟩, h2, h⟩ := Option.bind_eq_some_iff.1 h
  obtain ⟨s3, h3, h⟩ := Option.bind_eq_some_iff.1 h
  obtain ⟨s4, h4, h⟩ := Option.bind_eq_some_iff.1 h
  obtain ⟨⟨vf, s5⟩, h5, h⟩ := Option.bind_eq_some_iff.1 h
  obtain ⟨s6, h6, h⟩ := Option.bind_eq_some_iff.1 h
  obtain ⟨s7, h7, h⟩ := Option.bind_eq_some_iff.1 h
  obtain ⟨⟨vd, s8⟩, h8, h⟩ := Option.bind_eq_some_iff.1 h
  obtain ⟨s9, h9, h⟩ := Option.bind_eq_some_iff.1 h
  obtain ⟨⟨lr, s10⟩, h10, h⟩ := Option.bind_eq_some_iff.1 h
  obtain ⟨⟨te, s11⟩, h11, hq⟩ := Option.bind_eq_some_iff.1 h
  dsimp only at h2 h3 h4 h5 h6 h7 h8 h9 h10 h11 hq
  by_cases hx11 : s11.x = 0
  case neg => rw [if_neg hx11] at hq; cases hq
  rw [if_pos hx11] at hq
  simp only [Option.some.injEq, Prod.mk.injEq] at hq
  obtain ⟨hp, hs'⟩ := hq
  clear hs'
  have HA1 := Lib.hid h1
  have HA := Lib.hid h2
  have HA3 := Lib.hid h3
  have HA4 := Lib.hid h4
  have HA5 := Lib.hid h5
  have HA6 := Lib.hid h6
  have HA7 := Lib.hid h7
  have HA8 := Lib.hid h8
  have HA9 := Lib.hid h9
  have HA10 := Lib.hid h10
  have HTE := Lib.hid h11
  clear h1 h2 h3 h4 h5 h6 h7 h8 h9 h10 h11
  subst hp
  clear h
  dsimp only
  have hfd := arch_field
  go_enter Try.func67, Try.ntmps67
  go_wp2_with (first | (have q1 := HI12; clear q1; go_at_call 112; refine (want_calls wt _ g s8 ?hi 4 sSemi s9 HA9.out).mono ?_; (case hi => exact HI12.out); rintro en w13 ⟨rfl, hI13, hk13⟩; have HP13 := Lib.hid (hk13.blk HP12.out hneP (by simp)); have hg13 := hI13.lt; have hl13 := heap_lt HP13.out; have HI13 := Lib.hid hI13; clear hI13 hk13) | (have q1 := HI11; clear q1; refine wpl_storeM 25 (.tmp 30) (.tmp 29) w1.heap.size 3 (.int .i64 vd.f0) [.int .u64 vd.f1] 28 #[.string ta.f1, .int .i64 vf.f0, .int .u64 vf.f1, .int .i64 0, .int .u64 0, (.slice none 0 0)] (polV ta.f1 vf vd (.slice none 0 0)) rfl rfl ?sx ?sy ?sg (by kernel_rfl) ?sl (by kernel_rfl) rfl ?_; (case sx => rfl); (case sy => rfl); (case sg => exact HP11.out); (case sl => simp); intro w12 hw12; have HI12 := Lib.hid (HI11.out.rowed hw12 (by omega) (by omega)); have HP12 := Lib.hid hw12.2; have hg12 := HI12.out.lt; have hl12 := heap_lt HP12.out; clear hw12) | (have q1 := HI10; clear q1; go_at_call 114; refine (verdict_calls wt _ g s7 ?hi vd s8 HA8.out).mono ?_; (case hi => exact HI10.out); rintro en w11 ⟨rfl, hI11, hk11⟩; have HP11 := Lib.hid (hk11.blk HP10.out hneP (by simp)); have hg11 := hI11.lt; have hl11 := heap_lt HP11.out; have HI11 := Lib.hid hI11; clear hI11 hk11; unfold verV) | (have q1 := HI9; clear q1; go_at_call 112; refine (want_calls wt _ g s6 ?hi 2 sDefault s7 HA7.out).mono ?_; (case hi => exact HI9.out); rintro en w10 ⟨rfl, hI10, hk10⟩; have HP10 := Lib.hid (hk10.blk HP9.out hneP (by simp)); have hg10 := hI10.lt; have hl10 := heap_lt HP10.out; have HI10 := Lib.hid hI10; clear hI10 hk10) | (have q1 := HI8; clear q1; go_at_call 112; refine (want_calls wt _ g s5 ?hi 4 sSemi s6 HA6.out).mono ?_; (case hi => exact HI8.out); rintro en w9 ⟨rfl, hI9, hk9⟩; have HP9 := Lib.hid (hk9.blk HP8.out hneP (by simp)); have hg9 := hI9.lt; have hl9 := heap_lt HP9.out; have HI9 := Lib.hid hI9; clear hI9 hk9) | (have q1 := HI7; clear q1; refine wpl_storeM 25 (.tmp 23) (.tmp 22) w1.heap.size 1 (.int .i64 vf.f0) [.int .u64 vf.f1] 28 #[.string ta.f1, .int .i64 0, .int .u64 0, .int .i64 0, .int .u64 0, (.slice none 0 0)] #[.string ta.f1, .int .i64 vf.f0, .int .u64 vf.f1, .int .i64 0, .int .u64 0, (.slice none 0 0)] rfl rfl ?sx ?sy ?sg (by kernel_rfl) ?sl (by kernel_rfl) rfl ?_; (case sx => rfl); (case sy => rfl); (case sg => exact HP7.out); (case sl => simp); intro w8 hw8; have HI8 := Lib.hid (HI7.out.rowed hw8 (by omega) (by omega)); have HP8 := Lib.hid hw8.2; have hg8 := HI8.out.lt; have hl8 := heap_lt HP8.out; clear hw8) | (have q1 := HI6; clear q1; go_at_call 114; refine (verdict_calls wt _ g s4 ?hi vf s5 HA5.out).mono ?_; (case hi => exact HI6.out); rintro en w7 ⟨rfl, hI7, hk7⟩; have HP7 := Lib.hid (hk7.blk HP6.out hneP (by simp)); have hg7 := hI7.lt; have hl7 := heap_lt HP7.out; have HI7 := Lib.hid hI7; clear hI7 hk7; unfold verV) | (have q1 := HI5; clear q1; go_at_call 112; refine (want_calls wt _ g s3 ?hi 2 sForeign s4 HA4.out).mono ?_; (case hi => exact HI5.out); rintro en w6 ⟨rfl, hI6, hk6⟩; have HP6 := Lib.hid (hk6.blk HP5.out hneP (by simp)); have hg6 := hI6.lt; have hl6 := heap_lt HP6.out; have HI6 := Lib.hid hI6; clear hI6 hk6) | (have q1 := HI4; clear q1; go_at_call 112; refine (want_calls wt _ g s2 ?hi 4 sSemi s3 HA3.out).mono ?_; (case hi => exact (RdAt.far HI4.out hneP (by (try dsimp only); omega) _)); rintro en w5 ⟨rfl, hI5, hk5⟩; have HP5 := Lib.hid (hk5.blk (show (w4.setCell _ _).heap[w1.heap.size]? = some (.cells #[.string ta.f1, .int .i64 0, .int .u64 0, .int .i64 0, .int .u64 0, (.slice none 0 0)] 28 (0, 0)) from blk_put HP4.out 0 _ rfl) hneP (by simp)); have hg5 := hI5.lt; have hl5 := heap_lt HP5.out; have HI5 := Lib.hid hI5; clear hI5 hk5) | (have q1 := HI3; clear q1; go_at_call 113; refine (kind_calls wt _ g s1 ?hi 2 ta s2 HA.out).mono ?_; (case hi => exact HI3.out); rintro en w4 ⟨rfl, hI4, hk4⟩; have HP4 := Lib.hid (hk4.blk HP3.out hneP (by simp)); have hg4 := hI4.lt; have hl4 := heap_lt HP4.out; have HI4 := Lib.hid hI4; clear hI4 hk4; have c0 := heap_cell HP4.out 0 _ rfl; have x0 := heap_thaw HP4.out 0; unfold tokV) | (have q1 := HI1; clear q1; go_at_call 112; refine (want_calls wt _ g ⟨l, 0, 0, 0, 0, 0, 0⟩ ?hi 2 sArch s1 HA1.out).mono ?_; (case hi => exact (HI1.out.alloc _)); rintro en w3 ⟨rfl, hI3, hk3⟩; have HP3 := Lib.hid (hk3.blk (blk_new w1 _) hneP (by simp)); have hg3 := hI3.lt; have hl3 := heap_lt HP3.out; have HI3 := Lib.hid hI3; clear hI3 hk3) | (go_at_call 111; refine (reader_calls k f text l _ hl H0.out).mono ?_; rintro en w1 ⟨wt, g, rfl, hI1, hb1, hsz1⟩; have hr0 := (hb1.block W.heap.size (by simp)).trans (blk_new W _); have HR0 := Lib.hid hr0; have hwt := heap_lt hr0; have hgb := hI1.base; have hneP : w1.heap.size ≠ g := (by omega); have HB1 := Lib.hid (bl_call (below_alloc (Below.refl _ _) _) (by simp) hb1); have HI1 := Lib.hid hI1; have hg1 : g < w1.heap.size := (by omega); clear hI1 hb1 hr0 hsz1))
  clear HI1 HA1 HA HA3 HA4 HA5 HA6 HA7 HA8 HA9
  go_loopg [7, 8] n (fun q tq mo wr => ∃ (v : Value) (xs ys : List Rule) (sq : Rd), Hid (rulesRS kk n q sq = some (ys, s10)) ∧ Hid (xs ++ ys = lr) ∧ (xs.length + q ≤ 400) ∧ Hid (kRule.R 46 wr (w1.heap.size + 1) (fun _ => True) v xs) ∧ Hid (RdAt wt wr g sq) ∧ Hid (wr.heap[w1.heap.size]? = some (.cells (polV ta.f1 vf vd v) 28 (0, 0))))
  case atStart => exact ⟨(.slice none 0 0), [], lr, s9, HA10, Lib.hid rfl, (by simp; omega), Lib.hid (Kd.R_nil _ _ _ _ _), HI13, HP13⟩
  case round =>
    clear HA10
    obtain ⟨v, xs, ys, sq, HL, HE, hlen, HO, HIr, HPr⟩ := hrel
    cases gk with | zero => exact absurd HL.out (by simp [rulesRS]) | succ q =>
      have hl' := HL.out
      clear HL
      simp only [rulesRS] at hl'
      by_cases hx : sq.x = 0
      case neg => rw [if_neg hx] at hl'; cases hl'
      rw [if_pos hx] at hl'
      obtain ⟨⟨tk, sq1⟩, hpk, hl'⟩ := Option.bind_eq_some_iff.1 hl'
      obtain ⟨⟨mb, sq2⟩, hon, hl2⟩ := Option.bind_eq_some_iff.1 hl'
      clear hl'
      dsimp only at hon
      have HPK := Lib.hid hpk
      have HON := Lib.hid hon
      clear hpk hon
      obtain ⟨A3, c3, rfl⟩ := Kd.R_slice HO.out
      have hgr := HIr.out.lt
      have hlr := heap_lt HPr.out
      obtain ⟨Ax, cx, hCx, hmx, q0x, q1x, q2x, q3x, q4x, q5x, q6x, z3x, z4x, z5x, z6x⟩ := (HIr.out).facts
      clear q0x q1x q2x q3x q4x q6x z3x z4x z5x z6x hmx hCx
      cases mb with | true =>
        rw [if_pos rfl] at hl2
        obtain ⟨⟨xr, sq3⟩, hxr, hl3⟩ := Option.bind_eq_some_iff.1 hl2
        clear hl2
        obtain ⟨⟨ys', sz⟩, hz, hl4⟩ := Option.map_eq_some_iff.1 hl3
        clear hl3
        simp only [Prod.mk.injEq] at hl4
        obtain ⟨rfl, rfl⟩ := hl4
        have HX := Lib.hid hxr
        have HZ := Lib.hid hz
        clear hxr hz
        have hn512 : ¬ (xs.length : Int) = 512 := by omega
        go_wp2_with (first | (have q1 := HI21; clear q1; go_at_call 116; refine (is_calls wt _ g sq1 ?hi 2 sOn true sq2 HON.out).mono ?_; (case hi => exact HI21.out.alloc _); rintro en w22 ⟨rfl, hI22, hk22⟩; have HO22 := Lib.hid (R_rd (Kd.R_alloc HO21.out _) hk22 (by omega)); have hsz22 := keep_size hk22; have HP22 := Lib.hid (hk22.blk (blk_alloc HP21.out _) hneP (by simp)); have hg22 := hI22.lt; have hl22 := heap_lt HP22.out; have HI22 := Lib.hid hI22; clear hI22 hk22; have c5 : w22.cell? ⟨w1.heap.size, 5, none⟩ = some (.slice A3 xs.length c3) := heap_cell HP22.out 5 _ rfl; have hg22' := HI22.out.lt) | (go_at_call 115; refine (peek_calls wt _ g sq ?hi tk sq1 HPK.out).mono ?_; (case hi => exact HIr.out); rintro en w21 ⟨rfl, hI21, hk21⟩; have HO21 := Lib.hid (R_rd HO.out hk21 (by omega)); have HP21 := Lib.hid (hk21.blk HPr.out hneP (by simp)); have hg21 := hI21.lt; have hl21 := heap_lt HP21.out; have HI21 := Lib.hid hI21; clear hI21 hk21; unfold tokV))
        go_region_law (first | (go_simp; go_at_call 118; refine (rule_calls kk n hn' wt _ g sq2 ?hi xr sq3 HX.out).mono ?_; (case hi => exact HI22.out.drew); rintro en w23 ⟨u0, u2, ⟨rfl, hI23, hk23⟩, hR0, hR2⟩; obtain ⟨A0, c0, rfl⟩ := Kd.R_slice hR0; obtain ⟨A2, c2, rfl⟩ := Kd.R_slice hR2; have HU0 := Lib.hid hR0; have HU2 := Lib.hid hR2; have hk23' := (keep_drewN (KeepBut.refl w22 g none) 1).trans hk23 (.inl rfl); have hsz23 := keep_size hk23'; have HO23 := Lib.hid (R_rd HO22.out hk23' (by omega)); have hbp := hk23.blk (blk_drewN HP22.out 1) hneP (by simp); have c53 : w23.cell? ⟨w1.heap.size, 5, none⟩ = some (.slice A3 xs.length c3) := heap_cell hbp 5 _ rfl; have HP23 := Lib.hid hbp; have hl23 := heap_lt hbp; have hg23 := hI23.lt; have HI23 := Lib.hid hI23; clear hI23 hk23 hk23' hR0 hR2 hbp; unfold ruV) | (refine R_append_any_step kRule (w0 := w23.alloc (.cells #[.slice A0 xr.f0.length c0, .int .i64 xr.f1.f0, .slice A2 xr.f1.f1.length c2, .int .i64 xr.f1.f2, .int .u64 xr.f1.f3, .int .i64 xr.f1.f4, .int .u64 xr.f1.f5, .int .i64 xr.f2.f0, .int .u64 xr.f2.f1] 46)) (w1.heap.size + 1) rfl (.tmp 53) (.tmp 56) 26 46 (.agg #[.slice none 0 0, .int .i64 0, .slice none 0 0, .int .i64 0, .int .u64 0, .int .i64 0, .int .u64 0, .int .i64 0, .int .u64 0]) 104 rfl Try.underlying26 infoRule rfl (by decide) (by omega) (.slice A3 xs.length c3) xs [xr] (some ⟨w23.heap.size, 0, none⟩) 1 1 (fun _ => True) (fun k => w22.heap.size ≤ k) (by simp [Act.eval, Act.put]) (by simp [Act.eval, Act.put]) ?hO ?hR ?hK (fun _ _ => trivial) ?hB ?hb ?hl ?_; (case hO => exact Kd.R_alloc HO23.out _); (case hR => exact reads_one (heap_alloc_new _ _) rfl (kRule_mkM _ _ _ xr (Kd.R_mono (Kd.R_lower (Kd.R_bound (Kd.R_alloc HU0.out _)) (by first | omega | (simp; omega))) (fun k hk => by have := hk.2.1; simpa using this)) (Kd.R_mono (Kd.R_lower (Kd.R_bound (Kd.R_alloc HU2.out _)) (by first | omega | (simp; omega))) (fun k hk => by have := hk.2.1; simpa using this)))); (case hK => exact fun k hk => ⟨trivial, fun he => by have := Kd.R_lt HO22.out k he.symm; omega⟩); (case hB => exact Below.refl _ _); (case hb => first | omega | (simp; omega)); (case hl => first | omega | (simp; omega)); intro v4 w24 ho hb4 hg4 hat; obtain ⟨A4, c4, rfl⟩ := Kd.R_slice ho; rw [List.length_append, List.length_singleton] at ho; have hbp := (hb4.block w1.heap.size (by omega)).trans (blk_alloc HP23.out _); have c54 : w24.cell? ⟨w1.heap.size, 5, none⟩ = some (.slice A3 xs.length c3) := heap_cell hbp 5 _ rfl; have x54 := heap_thaw hbp 5; have HP24 := Lib.hid hbp; have HO24 := Lib.hid ho; have HI24 := Lib.hid ((HI23.out.alloc _).upto hb4 (by omega)); have hl24 := heap_lt hbp; clear ho hb4 hg4 hat hbp))
        all_goals go_wp2
        all_goals (go_roundg q; (case measure => omega); (case rel => exact ⟨_, xs ++ [xr], ys', sq3, HZ, Lib.hid (by rw [← HE.out]; simp), by simp; omega, Lib.hid (R_cell HO24.out (by (try dsimp only); omega) _ _), Lib.hid (RdAt.far HI24.out hneP (by (try dsimp only); omega) _), Lib.hid (blk_put HP24.out 5 _ rfl)⟩)) | false =>
        rw [if_neg (by simp)] at hl2
        simp only [Option.some.injEq, Prod.mk.injEq] at hl2
        obtain ⟨hy, hs2⟩ := hl2
        subst hs2
        have hlr : xs = lr := by have := HE.out; rw [← hy, List.append_nil] at this; exact this
        subst hlr
        clear hy HE
        go_wp2_with (first | (refine wpl_load 28 (.tmp 6) w1.heap.size (polV ta.f1 vf vd (.slice A3 xs.length c3)) 28 (0, 0) _ rfl rfl ?lx ?lg Try.underlying28 rfl (by kernel_rfl) ?_; (case lx => rfl); (case lg => exact HP30.out)) | (refine wpl_store 28 (.tmp 2) (.tmp 75) W.heap.size (polV ta.f1 vf vd (.slice A3 xs.length c3)) 28 #[.string ⟨#[]⟩, .int .i64 0, .int .u64 0, .int .i64 0, .int .u64 0, (.slice none 0 0)] rfl rfl ?sx ?sy ?sg (by kernel_rfl) rfl (by kernel_rfl) ?_; (case sx => rfl); (case sy => rfl); (case sg => exact HZ30.out)) | (go_at_call 113; refine (kind_calls wt _ g sq2 ?hi 1 te s11 HTE.out).mono ?_; (case hi => exact HI22.out); rintro en w30 ⟨rfl, hI30, hk30⟩; have HO30 := Lib.hid (R_rd HO22.out hk30 (by omega)); have HP30 := Lib.hid (hk30.blk HP22.out hneP (by simp)); have HZ30 := Lib.hid ((hI30.old hwt).trans HR0.out); have hg30 := hI30.lt; obtain ⟨Ae, ce, hCe, hme, q0e, q1e, q2e, q3e, q4e, q5e, q6e, z3e, z4e, z5e, z6e⟩ := (hI30).facts; have HI30 := Lib.hid hI30; clear hI30 hk30 hCe q0e q1e q2e q3e q4e q6e z3e z4e z5e z6e hme; unfold tokV) | (have q1 := HI21; clear q1; go_at_call 116; refine (is_calls wt _ g sq1 ?hi 2 sOn false sq2 HON.out).mono ?_; (case hi => exact HI21.out.alloc _); rintro en w22 ⟨rfl, hI22, hk22⟩; have HO22 := Lib.hid (R_rd (Kd.R_alloc HO21.out _) hk22 (by omega)); have hsz22 := keep_size hk22; have HP22 := Lib.hid (hk22.blk (blk_alloc HP21.out _) hneP (by simp)); have hg22 := hI22.lt; have hl22 := heap_lt HP22.out; have HI22 := Lib.hid hI22; clear hI22 hk22; have c5 : w22.cell? ⟨w1.heap.size, 5, none⟩ = some (.slice A3 xs.length c3) := heap_cell HP22.out 5 _ rfl; have hg22' := HI22.out.lt) | (go_at_call 115; refine (peek_calls wt _ g sq ?hi tk sq1 HPK.out).mono ?_; (case hi => exact HIr.out); rintro en w21 ⟨rfl, hI21, hk21⟩; have HO21 := Lib.hid (R_rd HO.out hk21 (by omega)); have HP21 := Lib.hid (hk21.blk HPr.out hneP (by simp)); have hg21 := hI21.lt; have hl21 := heap_lt HP21.out; have HI21 := Lib.hid hI21; clear hI21 hk21; unfold tokV))
        refine bodyPost_ret (results_ctt rfl _ _ W.heap.size 28 (polV ta.f1 vf vd (.slice A3 xs.length c3)) (0, 0) _ rfl (setRow_heap _ _ _ _ _ _ HZ30.out) Try.underlying28 rfl (by kernel_rfl)) rfl ?_
        exact ⟨_, rfl, Kd.R_lower (R_row HO30.out (by omega) _) (by omega), below_setRow (bl_call HB1.out HB1.out.size HI30.out.below) (Nat.le_refl _) _⟩
end Go.Proofs.Ytkojnaebkgekaaa

set_option linter.unusedVariables false
set_option linter.unusedSimpArgs false
namespace Go.Proofs.Ytkojnaebkgekaaa
open Go.RowKit Go.Proofs.YtkojnaebkgekaaaW.PrintWords
theorem parse_text : ∃ s', parseRS 0 20 ⟨toksT, 0, 0, 0, 0, 0, 0⟩ = some (someP, s') := by
  obtain ⟨⟨p, s'⟩, h⟩ := Option.isSome_iff_exists.1 parse_some
  refine ⟨s', ?_⟩
  unfold someP
  rw [h]
  rfl
set_option maxRecDepth 100000 in
theorem some_calls (w : World) : Calls Try.prog 37 #[] w fun e w' => ∃ v, e = .returned (.agg (polV someP.f0 someP.f1 someP.f2 v)) ∧ kRule.R 46 w' w.heap.size (fun _ => True) v someP.f3 ∧ Below w.heap.size w w' := by
  obtain ⟨s', hp⟩ := parse_text
  go_enter Try.func37, Try.ntmps37
  go_wp2_with fail
  refine (parse_calls 200 200 0 20 (by omega) textS toksT toksT_len lexS_text someP s' hp _).mono ?_
  rintro e w1 ⟨v, rfl, hR, hb⟩
  have HZ := Lib.hid ((hb.block w.heap.size (by simp)).trans (blk_new w _))
  have hz1 := heap_lt HZ.out
  have HB := Lib.hid (bl_call (below_alloc (Below.refl _ _) _) (by simp) hb : Below w.heap.size w w1)
  obtain ⟨A, c, rfl⟩ := Kd.R_slice hR
  have HR := Lib.hid (Kd.R_lower hR (by simp) : kRule.R 46 w1 (w.heap.size + 1) (fun _ => True) (.slice A someP.f3.length c) someP.f3)
  clear hb hR hp
  have HP : Hid (polV someP.f0 someP.f1 someP.f2 (.slice A someP.f3.length c) = #[.string someP.f0, .int .i64 someP.f1.f0, .int .u64 someP.f1.f1, .int .i64 someP.f2.f0, .int .u64 someP.f2.f1, .slice A someP.f3.length c]) := Lib.hid rfl
  rw [HP.out]
  go_wp2_with (refine wpl_store 28 (.tmp 0) (.tmp 9) w.heap.size #[.string someP.f0, .int .i64 someP.f1.f0, .int .u64 someP.f1.f1, .int .i64 someP.f2.f0, .int .u64 someP.f2.f1, .slice A someP.f3.length c] 28 #[.string ⟨#[]⟩, .int .i64 0, .int .u64 0, .int .i64 0, .int .u64 0, .slice none 0 0] rfl rfl ?sx ?sy ?sg (by kernel_rfl) rfl (by kernel_rfl) ?_; (case sx => rfl); (case sy => rfl); (case sg => exact blk_alloc HZ.out _))
  refine bodyPost_ret (results_c rfl _ _ w.heap.size 28 #[.string someP.f0, .int .i64 someP.f1.f0, .int .u64 someP.f1.f1, .int .i64 someP.f2.f0, .int .u64 someP.f2.f1, .slice A someP.f3.length c] (0, 0) _ rfl (setRow_heap _ _ _ _ _ _ (blk_alloc HZ.out _)) Try.underlying28 rfl (by kernel_rfl)) rfl ?_
  exact ⟨_, rfl, Kd.R_lower (R_row (Kd.R_alloc HR.out _) (by omega) _) (by omega), below_setRow (below_alloc HB.out _) (Nat.le_refl _) _⟩
end Go.Proofs.Ytkojnaebkgekaaa

set_option linter.unusedVariables false
set_option linter.unusedSimpArgs false
namespace Go.Proofs.Ytkojnaebkgekaaa
open Go.RowKit Go.Proofs.YtkojnaebkgekaaaW.PrintWords
set_option maxRecDepth 100000 in
theorem someP_wf : someP.wf := by
  unfold Policy.wf Rule.wf Call.wf Verdict.wf
  decide +kernel
def liveD : Data := ⟨231, 3221225534, 0, 0, 0, 0, 0, 0, 0⟩
theorem live_eval : evalS someP liveD = 2147418112 := by decide +kernel
theorem live_num : numS ⟨#[120, 56, 54, 95, 54, 52]⟩ ⟨#[111, 112, 101, 110, 97, 116]⟩ = (257, true) := by decide +kernel
set_option maxRecDepth 100000 in
theorem lives_calls (w : World) : Calls Try.prog 10 #[] w (Ret (.bool true) w) := by
  go_enter Try.func10, Try.ntmps10
  go_wp2_with fail
  refine (number_calls _ _ _).mono ?_
  rintro e w1 ⟨rfl, hb⟩
  have HB := Lib.hid hb
  clear hb
  rw [live_num]
  go_wp2_with fail
  refine (some_calls _).mono ?_
  rintro e w2 ⟨v, rfl, hR, hb⟩
  have HB2 := Lib.hid (bl_call HB.out HB.out.size hb)
  obtain ⟨A, c, rfl, _, hC⟩ := Kd.R_reads hR
  have HC := Lib.hid hC
  clear hb hR hC
  go_wp2_with fail
  refine (eval_calls someP someP_wf liveD A c _ HC.out).mono ?_
  rintro e w3 ⟨rfl, hb⟩
  have HB3 := Lib.hid (bl_call HB2.out HB2.out.size hb)
  clear hb
  rw [live_eval]
  go_wp2
  go_returns
  exact ⟨rfl, HB3.out⟩
end Go.Proofs.Ytkojnaebkgekaaa

set_option linter.unusedVariables false
set_option linter.unusedSimpArgs false
namespace Go.Proofs.Ytkojnaebkgekaaa
open Go.RowKit Go.ChangeShapes Go.Proofs.YtkojnaebkgekaaaW.PrintWords
/-- What type t's cells are read as, with at most n steps into the depth, is of kind d, and wf. -/
structure Opens (P : Program) {α : Type} (d : Kd α) (t : TypeId) (n : Nat) (wf : α → Prop) : Prop where
  op : ∀ {H : Type} (enc : TypeId × Value → H) (w : World) (base : Nat) (sp : Nat → Bool) (hd : Bool) (m : Nat), m ≤ n → ∀ (cs : List Value) (x : DataW H × List MemPlace), DataW.trod enc P w base sp hd m t cs = some x → ∃ a, d.K w a cs ∧ wf a
section
variable {P : Program} {t e : TypeId} {n : Nat} {α β : Type}
theorem Opens.mono {d : Kd α} {wf : α → Prop} (h : Opens P d t n wf) {n' : Nat} (hn : n' ≤ n) : Opens P d t n' wf := ⟨fun enc w base sp hd m hm => h.op enc w base sp hd m (by omega)⟩
theorem opens_int {k : IntKind} (ht : P.underlying t = some (.int k)) : Opens P (Kd.int k) t n (fun i => (Lit.int k i).wf = true) := by
  constructor
  intro H enc w base sp hd m hm cs x h
  obtain ⟨i, rfl, _, hw⟩ := DataW.trod_int ht h
  exact ⟨i, rfl, hw⟩
theorem opens_string (ht : P.underlying t = some .string) : Opens P Kd.string t n (fun s => s.size ≤ maxLen) := by
  constructor
  intro H enc w base sp hd m hm cs x h
  obtain ⟨s, rfl, _, hw⟩ := DataW.trod_string ht h
  exact ⟨s, rfl, hw⟩
theorem opens_bool (ht : P.underlying t = some .bool) : Opens P Kd.bool t n (fun _ => True) := by
  constructor
  intro H enc w base sp hd m hm cs x h
  cases m with
  | zero => simp [DataW.trod] at h
  | succ m =>
    unfold DataW.trod at h
    rw [ht] at h
    split at h
    next b _ => exact ⟨b, rfl, trivial⟩
    all_goals simp_all
theorem cells?_some {w : World} {base : Nat} {a : Addr} {k : Nat} {cs : List Value} (h : w.cells? base a k = some cs) : cs.length = k ∧ ∀ j u, cs[j]? = some u → w.cell? (a.add j) = some u := by
  unfold World.cells? at h
  split at h
  · have hl := mapM_some_length h
    rw [List.length_range] at hl
    refine ⟨hl, fun j u hu => ?_⟩
    have hj : j < k := by
      have := (List.getElem?_eq_some_iff.1 hu).1
      omega
    have h2 := mapM_some_get h j j (by simp [hj])
    rw [h2, hu]
  · cases h
theorem exists_list {Q : Nat → α → Prop} : ∀ (n : Nat), (∀ i, i < n → ∃ a, Q i a) → ∃ l : List α, l.length = n ∧ ∀ i a, l[i]? = some a → Q i a
  | 0, _ => ⟨[], rfl, fun i a h => by simp at h⟩
  | n + 1, h => by
    obtain ⟨l, hl, hq⟩ := exists_list n (fun i hi => h i (by omega))
    obtain ⟨a, ha⟩ := h n (by omega)
    refine ⟨l ++ [a], by simp [hl], fun i b hb => ?_⟩
    rcases Nat.lt_or_ge i l.length with hi | hi
    · rw [List.getElem?_append_left hi] at hb
      exact hq i b hb
    · rw [List.getElem?_append_right hi] at hb
      have h0 : i - l.length = 0 := by
        rcases Nat.eq_zero_or_pos (i - l.length) with h | h
        · exact h
        · rw [List.getElem?_eq_none (by simp; omega)] at hb
          cases hb
      rw [h0] at hb
      have : a = b := by simpa using hb
      have hi' : i = n := by omega
      rw [← this, hi']
      exact ha
theorem add_add (a : Addr) (i j : Nat) (h : a.spot = none) : (a.add i).add j = a.add (i + j) := by
  obtain ⟨b, o, s⟩ := a
  simp only at h
  subst h
  rw [add_nat, add_nat, add_nat, Nat.add_assoc]
theorem opens_slice {d : Kd α} {wf : α → Prop} (ht : P.underlying t = some (.slice e)) (hc : P.cellsOf e = d.sz) (hsz : 0 < d.sz) (h : Opens P d e n wf) : Opens P (Kd.slice e d) t (n + 1) (fun l => ∀ x ∈ l, wf x) := by
  constructor
  intro H enc w base sp hd m hm cs x hx
  rcases DataW.trod_slice ht hx with ⟨rfl, _⟩ | ⟨a, len, cap, elems, rest, m', rfl, rfl, _, hb, hl, hmx, hlen, hel, _, _⟩
  · exact ⟨[], ⟨none, 0, rfl, Nat.le_refl _, Kd.C_nil d w⟩, by simp⟩
  · rw [hc] at hel
    have hex : ∀ i, i < len → ∃ z, (∃ c, c.length = d.sz ∧ d.K w z c ∧ ∀ j u, c[j]? = some u → w.cell? ((a.add (i * d.sz)).add j) = some u) ∧ wf z := by
      intro i hi
      have h1 := hel i hi
      obtain ⟨y, hy⟩ : ∃ y, elems[i]? = some y := ⟨_, List.getElem?_eq_getElem (by omega)⟩
      rw [hy] at h1
      obtain ⟨c, h2, h3⟩ := Option.bind_eq_some_iff.1 h1
      obtain ⟨hcl, hcc⟩ := cells?_some h2
      obtain ⟨z, hk, hw⟩ := h.op enc w base sp hd m' (by omega) c y h3
      exact ⟨z, ⟨c, hcl, hk, hcc⟩, hw⟩
    obtain ⟨l, hll, hq⟩ := exists_list len hex
    refine ⟨l, ⟨some a, cap, by rw [hll], by omega, ?_⟩, fun z hz => ?_⟩
    · refine ⟨rfl, by rw [hll]; simp only [maxLen] at hmx; omega, fun hp => ⟨a, rfl, fun j q hj => ?_⟩⟩
      have hs : a.spot = none := by
        obtain ⟨c, hcl, _, hcc⟩ := (hq 0 l[0] (List.getElem?_eq_getElem hp)).1
        have := spot_of_cell (hcc 0 c[0] (List.getElem?_eq_getElem (by omega)))
        rw [Nat.zero_mul] at this
        simpa [Addr.add] using this
      obtain ⟨c, hcl, hk, hcc⟩ := (hq j q hj).1
      refine ⟨c, hcl, hk, fun i u hu => ?_⟩
      have h0 := hcc i u hu
      rw [add_add _ _ _ hs] at h0
      exact h0
    · obtain ⟨j, hj⟩ := List.mem_iff_getElem?.1 hz
      exact (hq j z hj).2
/-- Fields that lie one behind the other. -/
def Seq (tr : TypeId → List Value → Prop) : List TypeId → List Value → Prop
  | [], cs => cs = []
  | [t], cs => tr t cs
  | t :: s :: ts, cs => ∃ c0 c1, cs = c0 ++ c1 ∧ tr t c0 ∧ Seq tr (s :: ts) c1
def inLine (P : Program) : List Field → Nat → Nat → Bool
  | [], o, n => o == n
  | f :: fs, o, n => f.offset == o && inLine P fs (o + P.cellsOf f.type) n
theorem inLine_le : ∀ (fs : List Field) (o k : Nat), inLine P fs o k = true → o ≤ k
  | [], o, k, h => by simp [inLine] at h; omega
  | f :: fs, o, k, h => by
    simp only [inLine, Bool.and_eq_true] at h
    have := inLine_le fs _ _ h.2
    omega
theorem seq_line {tr : TypeId → List Value → Prop} {cs : List Value} : ∀ (fs : List Field) (o : Nat), fs ≠ [] → inLine P fs o cs.length = true → (∀ f ∈ fs, tr f.type ((cs.drop f.offset).take (P.cellsOf f.type))) → Seq tr (fs.map (·.type)) (cs.drop o)
  | [], _, h, _, _ => absurd rfl h
  | [f], o, _, h, ht => by
    simp only [inLine, Bool.and_eq_true, beq_iff_eq] at h
    have h1 := ht f (by simp)
    rw [h.1, List.take_of_length_le (by rw [List.length_drop]; omega)] at h1
    exact h1
  | f :: g :: fs, o, _, h, ht => by
    have h0 := h
    rw [inLine, Bool.and_eq_true, beq_iff_eq] at h0
    have hle := inLine_le _ _ _ h0.2
    have h1 := ht f (by simp)
    have h2 := seq_line (g :: fs) (o + P.cellsOf f.type) (by simp) h0.2 (fun f' hf' => ht f' (List.mem_cons_of_mem _ hf'))
    rw [h0.1] at h1
    refine ⟨_, _, (List.take_append_drop (P.cellsOf f.type) (cs.drop o)).symm, h1, ?_⟩
    rw [List.drop_drop]
    exact h2
/-- A structure, opened into its fields' cells. -/
theorem seq_struct {H : Type} {enc : TypeId × Value → H} {w : World} {base : Nat} {sp : Nat → Bool} {hd : Bool} {m : Nat} {cs : List Value} {x : DataW H × List MemPlace} {fs : Array Field} (ht : P.underlying t = some (.struct fs)) (hf : fs.toList ≠ []) (hi : inLine P fs.toList 0 (P.cellsOf t) = true)
    (h : DataW.trod enc P w base sp hd m t cs = some x) : ∃ k, m = k + 1 ∧ Seq (fun t c => ∃ y, DataW.trod enc P w base sp hd k t c = some y) (fs.toList.map (·.type)) cs := by
  obtain ⟨xs, k, rfl, _, hl, hn, hx⟩ := DataW.trod_struct ht h
  refine ⟨k, rfl, ?_⟩
  have := seq_line (P := P) (tr := fun t c => ∃ y, DataW.trod enc P w base sp hd k t c = some y) (cs := cs) fs.toList 0 hf (by rw [hl]; exact hi) (fun f hfm => by
    obtain ⟨i, hi⟩ := List.mem_iff_getElem?.1 hfm
    have h1 := hx i f (by simpa using hi)
    have hil : i < xs.length := by
      have := (List.getElem?_eq_some_iff.1 hi).1
      simp at this
      omega
    exact ⟨xs[i], by rw [h1, List.getElem?_eq_getElem hil]⟩)
  simpa using this
end
/-- Several in line, opened. -/
structure OpensL (P : Program) {α : Type} (d : Kd α) (ts : List TypeId) (n : Nat) (wf : α → Prop) : Prop where
  op : ∀ {H : Type} (enc : TypeId × Value → H) (w : World) (base : Nat) (sp : Nat → Bool) (hd : Bool) (m : Nat), m ≤ n → ∀ (cs : List Value), Seq (fun t c => ∃ y, DataW.trod enc P w base sp hd m t c = some y) ts cs → ∃ a, d.K w a cs ∧ wf a
section
variable {P : Program} {t e : TypeId} {n : Nat} {α β : Type}
theorem OpensL.one {d : Kd α} {wf : α → Prop} (h : Opens P d t n wf) : OpensL P d [t] n wf := by
  constructor
  intro H enc w base sp hd m hm cs ⟨y, hy⟩
  exact h.op enc w base sp hd m hm cs y hy
theorem OpensL.cons {d : Kd α} {d' : Kd β} {wf : α → Prop} {wf' : β → Prop} {s : TypeId} {ts : List TypeId} (h : Opens P d t n wf) (h' : OpensL P d' (s :: ts) n wf') : OpensL P (Kd.pair d d') (t :: s :: ts) n (fun x => wf x.1 ∧ wf' x.2) := by
  constructor
  intro H enc w base sp hd m hm cs ⟨c0, c1, hc, ⟨y, hy⟩, hs⟩
  obtain ⟨a, ha, hwa⟩ := h.op enc w base sp hd m hm c0 y hy
  obtain ⟨b, hb, hwb⟩ := h'.op enc w base sp hd m hm c1 hs
  exact ⟨(a, b), ⟨c0, c1, hc, ha, hb⟩, hwa, hwb⟩
theorem opens_struct {d : Kd α} {wf : α → Prop} {fs : Array Field} (ht : P.underlying t = some (.struct fs)) (hf : fs.toList ≠ []) (hi : inLine P fs.toList 0 (P.cellsOf t) = true) (h : OpensL P d (fs.toList.map (·.type)) n wf) : Opens P d t (n + 1) wf := by
  constructor
  intro H enc w base sp hd m hm cs x hx
  obtain ⟨k, rfl, hs⟩ := seq_struct ht hf hi hx
  exact h.op enc w base sp hd k (by omega) cs hs
theorem opens_iso {d : Kd α} {wf : α → Prop} (f : β → α) (g : α → β) (hfg : ∀ a, f (g a) = a) (h : Opens P d t n wf) : Opens P (Kd.iso d f) t n (fun b => wf (f b)) := by
  constructor
  intro H enc w base sp hd m hm cs x hx
  obtain ⟨a, ha, hw⟩ := h.op enc w base sp hd m hm cs x hx
  refine ⟨g a, ?_, ?_⟩
  · show d.K w (f (g a)) cs
    rw [hfg]
    exact ha
  · show wf (f (g a))
    rw [hfg]
    exact hw
theorem opens_zero {d : Kd α} {wf : α → Prop} : Opens P d t 0 wf := by
  constructor
  intro H enc w base sp hd m hm cs x hx
  obtain rfl : m = 0 := by omega
  simp [DataW.trod] at hx
/-- A type nested in itself. -/
theorem opens_fix {F : Kd α → Kd α} {sz : Nat} {E : List Nat} {hs : ∀ n, (Kd.upto F sz E n).sz = sz} {hE : ∀ n q, q ∈ (Kd.upto F sz E n).E → q ∈ E} {wf : α → Prop} (hF : ∀ w a cs, (F (Kd.fix F sz E hs hE)).K w a cs → (Kd.fix F sz E hs hE).K w a cs) (h : ∀ n, Opens P (Kd.fix F sz E hs hE) t n wf → Opens P (F (Kd.fix F sz E hs hE)) t (n + 1) wf) : ∀ n, Opens P (Kd.fix F sz E hs hE) t n wf
  | 0 => opens_zero
  | n + 1 => by
    constructor
    intro H enc w base sp hd m hm cs x hx
    obtain ⟨a, ha, hw⟩ := (h n (opens_fix hF h n)).op enc w base sp hd m hm cs x hx
    exact ⟨a, hF _ _ _ ha, hw⟩
end
/-- Whatever is weaker. -/
theorem Opens.imp {P : Program} {α : Type} {d : Kd α} {t : TypeId} {n : Nat} {wf wf' : α → Prop} (h : Opens P d t n wf) (hw : ∀ a, wf a → wf' a) : Opens P d t n wf' := by
  constructor
  intro H enc w base sp hd m hm cs x hx
  obtain ⟨a, ha, hwa⟩ := h.op enc w base sp hd m hm cs x hx
  exact ⟨a, ha, hw a hwa⟩
theorem opens_all {P : Program} {α : Type} {d : Kd α} {t : TypeId} {wf : α → Prop} (h : ∀ n, Opens P d t (n + 1) wf) : ∀ n, Opens P d t n wf
  | 0 => opens_zero
  | n + 1 => h n
/-- An array of whole numbers. -/
theorem open_array {H : Type} {enc : TypeId × Value → H} {P : Program} {w : World} {base : Nat} {sp : Nat → Bool} {hd : Bool} {m : Nat} {t e : TypeId} {k : IntKind} {n : Nat} {cs : List Value} {x : DataW H × List MemPlace} (ht : P.underlying t = some (.array n e)) (he : P.underlying e = some (.int k)) (hc : P.cellsOf e = 1) (hl : P.cellsOf t = n)
    (h : DataW.trod enc P w base sp hd m t cs = some x) : ∃ l : List Int, l.length = n ∧ cs = l.map (.int k) ∧ ∀ i ∈ l, (Lit.int k i).wf = true := by
  obtain ⟨xs, k', rfl, _, hcl, hn, hx⟩ := DataW.trod_array ht h
  rw [hl] at hcl
  have hex : ∀ i, i < n → ∃ z : Int, cs[i]? = some (.int k z) ∧ (Lit.int k z).wf = true := by
    intro i hi
    have h1 := hx i hi
    rw [hc, Nat.mul_one] at h1
    rw [List.getElem?_eq_getElem (by omega)] at h1
    obtain ⟨z, hz, _, hw⟩ := DataW.trod_int he h1
    refine ⟨z, ?_, hw⟩
    rw [List.drop_eq_getElem_cons (by omega)] at hz
    simp only [List.take_succ_cons, List.take_zero, List.cons.injEq, and_true] at hz
    rw [List.getElem?_eq_getElem (by omega), hz]
  obtain ⟨l, hll, hq⟩ := exists_list n hex
  refine ⟨l, hll, ?_, fun i hi => ?_⟩
  · apply List.ext_getElem?
    intro j
    rcases Nat.lt_or_ge j n with hj | hj
    · rw [(hq j l[j] (List.getElem?_eq_getElem (by omega))).1]
      simp [List.getElem?_eq_getElem (by omega : j < l.length)]
    · rw [List.getElem?_eq_none (by omega), List.getElem?_eq_none (by simp; omega)]
  · obtain ⟨j, hj⟩ := List.mem_iff_getElem?.1 hi
    exact (hq j i hj).2
end Go.Proofs.Ytkojnaebkgekaaa

set_option linter.unusedVariables false
set_option linter.unusedSimpArgs false
namespace Go.Proofs.Ytkojnaebkgekaaa
open Go.RowKit Go.ChangeShapes Go.Proofs.YtkojnaebkgekaaaW.PrintWords
theorem wf_u64 {i : Int} (h : (Lit.int .u64 i).wf = true) : 0 ≤ i ∧ i < 18446744073709551616 := by have := bounds_u64 h; omega
theorem opens_Verdict : ∀ n, Opens Try.prog kVerdict 25 n Verdict.wf := opens_all fun n =>
  (opens_iso (fun x : Verdict => (x.f0, x.f1)) (fun x => ⟨x.1, x.2⟩) (fun _ => rfl) (opens_struct Try.underlying25 (by decide) (by kernel_rfl) (OpensL.cons (opens_int Try.underlying22) (OpensL.one (opens_int Try.underlying23))))).imp fun a h => wf_u64 h.2
theorem opens_Call : ∀ n, Opens Try.prog kCall 63 n Call.wf := opens_all fun n =>
  (opens_iso (fun x : Call => (x.f0, x.f1)) (fun x => ⟨x.1, x.2⟩) (fun _ => rfl) (opens_struct Try.underlying63 (by decide) (by kernel_rfl) (OpensL.cons (opens_string Try.underlying9) (OpensL.one (opens_int Try.underlying23))))).imp fun a h => wf_u64 h.2
theorem opens_Expr : ∀ n, Opens Try.prog kExpr 44 n (fun _ => True) := opens_fix
  (fun w a cs h => by
    obtain ⟨c0, c1, rfl, h0, c2, c3, rfl, ⟨A1, n1, h2, hl, hC⟩, c4, c5, rfl, h4, c6, c7, rfl, h6, c8, c9, rfl, h8, h9⟩ := h
    have h0 : c0 = [.int .i64 a.f0] := h0
    have h2 : c2 = [.slice A1 a.f1.length n1] := h2
    have h4 : c4 = [.int .i64 a.f2] := h4
    have h6 : c6 = [.int .u64 a.f3] := h6
    have h8 : c8 = [.int .i64 a.f4] := h8
    have h9 : c9 = [.int .u64 a.f5] := h9
    subst h0 h2 h4 h6 h8 h9
    exact kExpr_mk w a hl hC)
  fun n ih => (opens_iso (fun x : Expr => (x.f0, x.f1, x.f2, x.f3, x.f4, x.f5)) (fun x => ⟨x.1, x.2.1, x.2.2.1, x.2.2.2.1, x.2.2.2.2.1, x.2.2.2.2.2⟩) (fun _ => rfl) (opens_struct Try.underlying44 (by decide) (by kernel_rfl)
    (OpensL.cons (opens_int Try.underlying40) (OpensL.cons ((opens_slice Try.underlying41 (by kernel_rfl) (by decide) ih).mono (Nat.le_succ n)) (OpensL.cons (opens_int Try.underlying3) (OpensL.cons (opens_int Try.underlying23) (OpensL.cons (opens_int Try.underlying42) (OpensL.one (opens_int Try.underlying23))))))))).imp fun _ _ => trivial
theorem opens_Rule : ∀ n, Opens Try.prog kRule 46 n Rule.wf := opens_all fun n =>
  (opens_iso (fun x : Rule => (x.f0, x.f1, x.f2)) (fun x => ⟨x.1, x.2.1, x.2.2⟩) (fun _ => rfl) (opens_struct Try.underlying46 (by decide) (by kernel_rfl) (OpensL.cons ((opens_slice Try.underlying39 (by kernel_rfl) (by decide) (opens_Call n)).mono (Nat.le_succ n)) (OpensL.cons (opens_Expr n) (OpensL.one (opens_Verdict n)))))).imp fun a h => ⟨h.1, h.2.2⟩
theorem opens_Policy : ∀ n, Opens Try.prog kPolicy 28 n Policy.wf := opens_all fun n =>
  (opens_iso (fun x : Policy => (x.f0, x.f1, x.f2, x.f3)) (fun x => ⟨x.1, x.2.1, x.2.2.1, x.2.2.2⟩) (fun _ => rfl) (opens_struct Try.underlying28 (by decide) (by kernel_rfl) (OpensL.cons (opens_string Try.underlying9) (OpensL.cons (opens_Verdict n) (OpensL.cons (opens_Verdict n) (OpensL.one ((opens_slice Try.underlying26 (by kernel_rfl) (by decide) (opens_Rule n)).mono (Nat.le_succ n)))))))).imp fun a h => ⟨h.2.1, h.2.2.1, h.2.2.2⟩
def Data.cells (d : Data) : List Value := [.int .u32 d.nr, .int .u32 d.arch, .int .u64 d.ip, .int .u64 d.a0, .int .u64 d.a1, .int .u64 d.a2, .int .u64 d.a3, .int .u64 d.a4, .int .u64 d.a5]
def Data.wf (d : Data) : Prop := (Lit.int .u32 d.nr).wf = true ∧ (Lit.int .u32 d.arch).wf = true ∧ (Lit.int .u64 d.ip).wf = true ∧ ∀ i ∈ [d.a0, d.a1, d.a2, d.a3, d.a4, d.a5], (Lit.int .u64 i).wf = true
def kData : Kd Data := flat Data.cells 9 (fun _ => rfl) (fun x u hu => by simp [Data.cells] at hu; rcases hu with h | h | h | h | h | h | h | h | h <;> subst h <;> rfl)
theorem list6 {l : List Int} (h : l.length = 6) : ∃ a b c d e f, l = [a, b, c, d, e, f] := by
  match l, h with
  | [a, b, c, d, e, f], _ => exact ⟨a, b, c, d, e, f, rfl⟩
theorem opens_Data : ∀ n, Opens Try.prog kData 32 n Data.wf := opens_all fun n => by
  constructor
  intro H enc w base sp hd m hm cs x hx
  obtain ⟨k, rfl, c0, c1, rfl, ⟨y0, h0⟩, c2, c3, rfl, ⟨y2, h2⟩, c4, c5, rfl, ⟨y4, h4⟩, ⟨y5, h5⟩⟩ := seq_struct Try.underlying32 (by decide) (by kernel_rfl) hx
  obtain ⟨i0, rfl, _, w0⟩ := DataW.trod_int Try.underlying29 h0
  obtain ⟨i1, rfl, _, w1⟩ := DataW.trod_int Try.underlying29 h2
  obtain ⟨i2, rfl, _, w2⟩ := DataW.trod_int Try.underlying23 h4
  obtain ⟨l, hl, rfl, w3⟩ := open_array Try.underlying30 Try.underlying23 (by kernel_rfl) (by kernel_rfl) h5
  obtain ⟨a, b, c, d, e, f, rfl⟩ := list6 hl
  exact ⟨⟨i0, i1, i2, a, b, c, d, e, f⟩, rfl, w0, w1, w2, w3⟩
end Go.Proofs.Ytkojnaebkgekaaa

set_option linter.unusedVariables false
set_option linter.unusedSimpArgs false
namespace Go.Proofs.Ytkojnaebkgekaaa
open Go.RowKit Go.Proofs.YtkojnaebkgekaaaW.PrintWords
theorem exprS_one {e : Expr} (h : exprS e = 0) : oneS e.f0 e.f1.length e.f2 e.f3 e.f4 e.f5 = 0 ∧ withinL e.f1 1 = 0 := by
  obtain ⟨op, l, f, m, rl, v⟩ := e
  unfold exprS at h
  rw [withinS, if_neg (by decide)] at h
  by_cases h1 : oneS op l.length f m rl v = 0
  · rw [if_neg (by simp [h1])] at h
    exact ⟨h1, h⟩
  · rw [if_pos (by simp [h1])] at h
    exact absurd h h1
theorem holdsTop_ok {d : Data} {e : Expr} (h : exprS e = 0) : holdsTop d e = holdsS d e := by simp [holdsTop, h]
theorem holds_not_law (d : Data) (e : Expr) : holdsS d ⟨3, [e], 0, 0, 0, 0⟩ = !holdsS d e := by
  rw [holdsS, if_pos (by rfl), holdsFst]
theorem holds_and_law (d : Data) (e : Expr) : holdsS d ⟨4, [e, e], 0, 0, 0, 0⟩ = holdsS d e := by
  rw [holdsS, if_neg (by decide), if_pos (by rfl), holdsAll, holdsAll, holdsAll]
  simp
theorem holds_or_law (d : Data) (e : Expr) : holdsS d ⟨5, [e, e], 0, 0, 0, 0⟩ = holdsS d e := by
  rw [holdsS, if_neg (by decide), if_neg (by decide), if_pos (by rfl), holdsAny, holdsAny, holdsAny]
  simp
theorem expr_or_law {e : Expr} (h : exprS ⟨4, [e, e], 0, 0, 0, 0⟩ = 0) : exprS ⟨5, [e, e], 0, 0, 0, 0⟩ = 0 := by
  obtain ⟨h1, h2⟩ := exprS_one h
  unfold exprS
  rw [withinS, if_neg (by decide), if_neg (by show ¬ (oneS 5 2 0 0 0 0 != 0) = true; decide)]
  exact h2
def turnRel (r : Int) : Int := if r = 1 then 2 else if r = 2 then 1 else if r = 3 then 6 else if r = 6 then 3 else if r = 5 then 4 else 5
theorem oneS_test {n : Nat} {f m r v : Int} (h : oneS 6 n f m r v = 0) : n = 0 ∧ 1 ≤ r ∧ r ≤ 6 ∧ ∀ r', 1 ≤ r' → r' ≤ 6 → oneS 6 n f m r' v = 0 := by
  have ha : argsS 6 = (0, 0) := by decide
  unfold oneS at h ⊢
  rw [ha] at h ⊢
  by_cases hn : (0 : Int) < n
  · rw [if_pos (by simp; omega)] at h
    simp at h
  · rw [if_neg (by simp; omega), if_neg (by decide)] at h
    by_cases hb : f < 0 ∨ 6 < f ∨ r < 1 ∨ 6 < r
    · rw [if_pos (by simp; omega)] at h
      simp at h
    · rw [if_neg (by simp; omega)] at h
      refine ⟨by omega, by omega, by omega, fun r' h1 h2 => ?_⟩
      rw [if_neg (by simp; omega), if_neg (by decide), if_neg (by simp; omega)]
      exact h
theorem relS_turn (r o : Int) (h1 : 1 ≤ r) (h2 : r ≤ 6) : relS (turnRel r) o = !relS r o := by
  have h : r = 1 ∨ r = 2 ∨ r = 3 ∨ r = 4 ∨ r = 5 ∨ r = 6 := by omega
  rcases h with rfl | rfl | rfl | rfl | rfl | rfl
  · show (o != 0) = !(o == 0)
    rfl
  · show (o == 0) = !(o != 0)
    cases h : (o == 0) <;> simp [bne, h]
  · show decide (0 ≤ o) = !decide (o < 0)
    by_cases ho : o < 0
    · simp [ho]
    · simp [ho]; omega
  · show decide (0 < o) = !decide (o ≤ 0)
    by_cases ho : o ≤ 0
    · simp [ho]
    · simp [ho]; omega
  · show decide (o ≤ 0) = !decide (0 < o)
    by_cases ho : 0 < o
    · simp [ho]
    · simp [ho]; omega
  · show decide (o < 0) = !decide (0 ≤ o)
    by_cases ho : 0 ≤ o
    · simp [ho]
    · simp [ho]; omega
theorem test_bounds {e : Expr} (h : exprS e = 0) (h6 : e.f0 = 6) : 1 ≤ e.f4 ∧ e.f4 ≤ 6 := by
  have h1 := (exprS_one h).1
  rw [h6] at h1
  have := oneS_test h1
  exact ⟨this.2.1, this.2.2.1⟩
theorem turn_law (d : Data) (e : Expr) (h : exprS e = 0) (h6 : e.f0 = 6) : exprS { e with f4 := turnRel e.f4 } = 0 ∧ holdsS d { e with f4 := turnRel e.f4 } = !holdsS d e := by
  obtain ⟨h1, h2⟩ := exprS_one h
  obtain ⟨op, l, f, m, r, v⟩ := e
  simp only at h6 h1 h2
  subst h6
  obtain ⟨hn, hr1, hr2, hr⟩ := oneS_test h1
  have ht : 1 ≤ turnRel r ∧ turnRel r ≤ 6 := by unfold turnRel; split <;> (try split) <;> (try split) <;> (try split) <;> (try split) <;> omega
  refine ⟨?_, ?_⟩
  · unfold exprS
    rw [withinS, if_neg (by decide), hr _ ht.1 ht.2, if_neg (by decide)]
    exact h2
  · rw [holdsS, holdsS]
    simp only [show ((6 : Int) == 3) = false from rfl, show ((6 : Int) == 4) = false from rfl, show ((6 : Int) == 5) = false from rfl, show ((6 : Int) == 6) = true from rfl, if_true]
    rw [if_neg (by decide), if_neg (by decide), if_neg (by decide), if_neg (by decide), if_neg (by decide), if_neg (by decide)]
    exact relS_turn r _ hr1 hr2
theorem reads_two {α : Type} {R : α → List Value → Prop} {size : Nat} {w : World} {g : Nat} {cs : Array Value} {t : TypeId} {fr : Nat × Nat} {p q : α} {c1 c2 : List Value} (h : w.heap[g]? = some (.cells cs t fr)) (hc : cs.toList = c1 ++ c2) (h1 : c1.length = size) (h2 : c2.length = size) (hp : R p c1) (hq : R q c2) : ReadsRow R size w (some ⟨g, 0, none⟩) 2 [p, q] := by
  refine ⟨rfl, by decide, fun _ => ⟨_, rfl, fun j x hj => ?_⟩⟩
  have hcell := heap_cell h
  match j, hj with
  | 0, hj =>
    have : p = x := by simpa using hj
    subst this
    refine ⟨c1, h1, hp, fun i u hu => ?_⟩
    rw [add_nat]
    refine hcell _ u ?_
    rw [← Array.getElem?_toList, hc, List.getElem?_append_left (by have := (List.getElem?_eq_some_iff.1 hu).1; omega)]
    simpa using hu
  | 1, hj =>
    have : q = x := by simpa using hj
    subst this
    refine ⟨c2, h2, hq, fun i u hu => ?_⟩
    rw [add_nat]
    refine hcell _ u ?_
    rw [← Array.getElem?_toList, hc, List.getElem?_append_right (by omega)]
    rw [show 0 + (1 * size + i) - c1.length = i by omega]
    exact hu
  | j + 2, hj => simp at hj
set_option maxHeartbeats 1000000 in
set_option maxRecDepth 100000 in
theorem turned_calls (e : Expr) (d : Data) (A : Option Addr) (c : Nat) (w : World) (hl : e.f1.length ≤ c) (hA : kExpr.C w A e.f1.length e.f1) :
    Calls Try.prog 5 #[.agg (exCells e A c), .agg d.arr] w (Ret (.bool true) w) := by
  have HC := Lib.hid hA
  clear hA
  unfold exCells Data.arr
  go_enter Try.func5, Try.ntmps5
  go_wp2_with fail
  refine (lives_calls _).mono ?_
  rintro en w1 ⟨rfl, hb⟩
  have HB1 := Lib.hid (bl_call (below_alloc (below_alloc (Below.refl _ _) _) _) (by simp; omega) hb : Below w.heap.size w w1)
  have E1 : Box w1 w.heap.size #[.int .i64 e.f0, .slice A e.f1.length c, .int .i64 e.f2, .int .u64 e.f3, .int .i64 e.f4, .int .u64 e.f5] := Box.upto ((Box.new w _ _).alloc _) hb (by simp; omega)
  have D1 : Box w1 (w.heap.size + 1) #[.int .u32 d.nr, .int .u32 d.arch, .int .u64 d.ip, .int .u64 d.a0, .int .u64 d.a1, .int .u64 d.a2, .int .u64 d.a3, .int .u64 d.a4, .int .u64 d.a5] := by have h := (Box.new (w.alloc (.cells #[.int .i64 e.f0, .slice A e.f1.length c, .int .i64 e.f2, .int .u64 e.f3, .int .i64 e.f4, .int .u64 e.f5] 44)) #[.int .u32 d.nr, .int .u32 d.arch, .int .u64 d.ip, .int .u64 d.a0, .int .u64 d.a1, .int .u64 d.a2, .int .u64 d.a3, .int .u64 d.a4, .int .u64 d.a5] 32).below hb; simpa using h
  have hz1 : w.heap.size + 1 < w1.heap.size := by have := hb.size; simp at this; omega
  clear hb
  have e0 := E1 0 _ rfl; have e1 := E1 1 _ rfl; have e2 := E1 2 _ rfl; have e3 := E1 3 _ rfl; have e4 := E1 4 _ rfl; have e5 := E1 5 _ rfl
  have HE1 := Lib.hid E1
  have HD1 := Lib.hid D1
  clear E1 D1
  go_wp2_with fail
  refine (expr_calls e A c _ (Kd.C_below HC.out HB1.out)).mono ?_
  rintro en w2 ⟨rfl, hb⟩
  have HB2 := Lib.hid (bl_call HB1.out HB1.out.size hb)
  have E2 := HE1.out.below hb
  have D2 := HD1.out.below hb
  have hz2 : w.heap.size + 1 < w2.heap.size := by have := hb.size; omega
  clear hb HE1 HD1 e0 e1 e2 e3 e4 e5
  have e0 := E2 0 _ rfl; have e1 := E2 1 _ rfl; have e2 := E2 2 _ rfl; have e3 := E2 3 _ rfl; have e4 := E2 4 _ rfl; have e5 := E2 5 _ rfl
  have d0 := D2 0 _ rfl; have d1 := D2 1 _ rfl; have d2 := D2 2 _ rfl; have d3 := D2 3 _ rfl; have d4 := D2 4 _ rfl; have d5 := D2 5 _ rfl; have d6 := D2 6 _ rfl; have d7 := D2 7 _ rfl; have d8 := D2 8 _ rfl
  have HE2 := Lib.hid E2
  have HD2 := Lib.hid D2
  clear E2 D2
  by_cases h0 : exprS e = 0
  case neg =>
    have hz : (exprS e == 0) = false := by simpa using h0
    have ht : Hid (holdsTop d e = false) := Lib.hid (by simp [holdsTop, h0])
    clear h0
    go_wp2_with fail
    refine (Holds_calls e d A c _ (Kd.C_below HC.out HB2.out)).mono ?_
    rintro en w3 ⟨rfl, hb⟩
    rw [ht.out]
    have HB3 := Lib.hid (bl_call HB2.out HB2.out.size hb)
    clear hb
    go_wp2
    go_returns
    exact ⟨rfl, HB3.out⟩
  have hz : (exprS e == 0) = true := by simpa using h0
  have H0 := Lib.hid h0
  clear h0
  go_wp2_with fail
  refine (Holds_calls e d A c _ (Kd.C_below HC.out HB2.out)).mono ?_
  rintro en w3 ⟨rfl, hb⟩
  rw [holdsTop_ok H0.out]
  have HB3 := Lib.hid (bl_call HB2.out HB2.out.size hb)
  have E3 := HE2.out.below hb
  have D3 := HD2.out.below hb
  have hz3 : w.heap.size + 1 < w3.heap.size := by have := hb.size; omega
  clear hb HE2 HD2 e0 e1 e2 e3 e4 e5 d0 d1 d2 d3 d4 d5 d6 d7 d8
  have e0 := E3 0 _ rfl; have e1 := E3 1 _ rfl; have e2 := E3 2 _ rfl; have e3 := E3 3 _ rfl; have e4 := E3 4 _ rfl; have e5 := E3 5 _ rfl
  have d0 := D3 0 _ rfl; have d1 := D3 1 _ rfl; have d2 := D3 2 _ rfl; have d3 := D3 3 _ rfl; have d4 := D3 4 _ rfl; have d5 := D3 5 _ rfl; have d6 := D3 6 _ rfl; have d7 := D3 7 _ rfl; have d8 := D3 8 _ rfl
  have HE3 := Lib.hid E3
  have HD3 := Lib.hid D3
  clear E3 D3
  go_upto_region 6 with (fail)
  go_cut [37] (fun v wc => v = .bool false ∧ Hid (Below w3.heap.size w3 wc))
  case first =>
    have HN := Lib.hid (reads_one (R := kExpr.K ((w3.alloc (.cells #[.int .i64 e.f0, .slice A e.f1.length c, .int .i64 e.f2, .int .u64 e.f3, .int .i64 e.f4, .int .u64 e.f5] 44)).alloc (.cells #[.int .i64 3, .slice (some ⟨w3.heap.size, 0, none⟩) 1 1, .int .i64 0, .int .u64 0, .int .i64 0, .int .u64 0] 44))) (blk_alloc (blk_new w3 _) _) rfl (kExpr_mk _ e hl (Kd.C_alloc (Kd.C_alloc (Kd.C_below HC.out HB3.out) _) _)) : kExpr.C _ (some ⟨w3.heap.size, 0, none⟩) 1 [e])
    go_wp2_with fail
    refine (expr_calls ⟨3, [e], 0, 0, 0, 0⟩ (some ⟨w3.heap.size, 0, none⟩) 1 _ HN.out).mono ?_
    rintro en w4 ⟨rfl, hb⟩
    have HBw := Lib.hid (bl_call (below_alloc (below_alloc (Below.refl _ _) _) _) (by simp; omega) hb : Below w3.heap.size w3 w4)
    have N4 : Box w4 (w3.heap.size + 1) #[.int .i64 3, .slice (some ⟨w3.heap.size, 0, none⟩) 1 1, .int .i64 0, .int .u64 0, .int .i64 0, .int .u64 0] := by have h := (Box.new (w3.alloc (.cells #[.int .i64 e.f0, .slice A e.f1.length c, .int .i64 e.f2, .int .u64 e.f3, .int .i64 e.f4, .int .u64 e.f5] 44)) #[.int .i64 3, .slice (some ⟨w3.heap.size, 0, none⟩) 1 1, .int .i64 0, .int .u64 0, .int .i64 0, .int .u64 0] 44).below hb; simpa using h
    have D4 := ((HD3.out.alloc _).alloc _).below hb
    have HC4 := Lib.hid (Kd.C_below HN.out hb)
    have hz4 : w3.heap.size + 1 < w4.heap.size := by have := hb.size; simp at this; omega
    clear hb HN e0 e1 e2 e3 e4 e5 d0 d1 d2 d3 d4 d5 d6 d7 d8
    by_cases hn : exprS ⟨3, [e], 0, 0, 0, 0⟩ = 0
    · have hzn : (exprS ⟨3, [e], 0, 0, 0, 0⟩ == 0) = true := by simpa using hn
      have n0 := N4 0 _ rfl; have n1 := N4 1 _ rfl; have n2 := N4 2 _ rfl; have n3 := N4 3 _ rfl; have n4 := N4 4 _ rfl; have n5 := N4 5 _ rfl
      have d0 := D4 0 _ rfl; have d1 := D4 1 _ rfl; have d2 := D4 2 _ rfl; have d3 := D4 3 _ rfl; have d4 := D4 4 _ rfl; have d5 := D4 5 _ rfl; have d6 := D4 6 _ rfl; have d7 := D4 7 _ rfl; have d8 := D4 8 _ rfl
      clear N4 D4
      go_wp2_with fail
      refine (Holds_calls ⟨3, [e], 0, 0, 0, 0⟩ d (some ⟨w3.heap.size, 0, none⟩) 1 _ HC4.out).mono ?_
      rintro en w5 ⟨rfl, hb⟩
      rw [holdsTop_ok hn, holds_not_law]
      have HB5 := Lib.hid (bl_call HBw.out HBw.out.size hb)
      have hzz : ((!holdsS d e) == holdsS d e) = false := by cases holdsS d e <;> rfl
      clear hb n0 n1 n2 n3 n4 n5 d0 d1 d2 d3 d4 d5 d6 d7 d8
      go_wp2
      go_meet
      exact ⟨rfl, HB5⟩
    · have hzn : (exprS ⟨3, [e], 0, 0, 0, 0⟩ == 0) = false := by simpa using hn
      clear hn N4 D4
      go_wp2
      go_meet
      exact ⟨rfl, HBw⟩
  case rest =>
    clear e0 e1 e2 e3 e4 e5 d0 d1 d2 d3 d4 d5 d6 d7 d8
    obtain ⟨rfl, HW⟩ := hcut
    obtain ⟨wz, hwz⟩ : ∃ x, x = wc := ⟨_, rfl⟩
    subst hwz
    have Ec := HE3.out.below HW.out
    have Dc := HD3.out.below HW.out
    have HEc := Lib.hid Ec
    have HDc := Lib.hid Dc
    have HBc := Lib.hid (bl_call HB3.out HB3.out.size HW.out)
    have hzc : w.heap.size + 1 < wz.heap.size := by have := HW.out.size; omega
    have e0 := Ec 0 _ rfl; have e1 := Ec 1 _ rfl; have e2 := Ec 2 _ rfl; have e3 := Ec 3 _ rfl; have e4 := Ec 4 _ rfl; have e5 := Ec 5 _ rfl
    clear HB1 HB2 HB3 HE3 HD3 HW Ec Dc
    have zl0 : w.heap.size < wz.heap.size := (by omega); have zn0 : ¬ w.heap.size = wz.heap.size := (by omega); have yl0 : w.heap.size + 1 < wz.heap.size := (by omega); have yn0 : ¬ w.heap.size + 1 = wz.heap.size := (by omega); have zl1 : w.heap.size < wz.heap.size + 1 := (by omega); have zn1 : ¬ w.heap.size = wz.heap.size + 1 := (by omega); have yl1 : w.heap.size + 1 < wz.heap.size + 1 := (by omega); have yn1 : ¬ w.heap.size + 1 = wz.heap.size + 1 := (by omega); have zl2 : w.heap.size < wz.heap.size + 1 + 1 := (by omega); have zn2 : ¬ w.heap.size = wz.heap.size + 1 + 1 := (by omega); have yl2 : w.heap.size + 1 < wz.heap.size + 1 + 1 := (by omega); have yn2 : ¬ w.heap.size + 1 = wz.heap.size + 1 + 1 := (by omega); have zl3 : w.heap.size < wz.heap.size + 1 + 1 + 1 := (by omega); have zn3 : ¬ w.heap.size = wz.heap.size + 1 + 1 + 1 := (by omega); have yl3 : w.heap.size + 1 < wz.heap.size + 1 + 1 + 1 := (by omega); have yn3 : ¬ w.heap.size + 1 = wz.heap.size + 1 + 1 + 1 := (by omega); have zl4 : w.heap.size < wz.heap.size + 1 + 1 + 1 + 1 := (by omega); have zn4 : ¬ w.heap.size = wz.heap.size + 1 + 1 + 1 + 1 := (by omega); have yl4 : w.heap.size + 1 < wz.heap.size + 1 + 1 + 1 + 1 := (by omega); have yn4 : ¬ w.heap.size + 1 = wz.heap.size + 1 + 1 + 1 + 1 := by omega
    go_upto_region 10 with (fail)
    go_cut [62] (fun v wd => v = .bool false ∧ Hid (Below wz.heap.size wz wd))
    case first =>
      obtain ⟨W4, hW4⟩ : ∃ W4, W4 = ((((wz.alloc (.cells #[.int .i64 e.f0, .slice A e.f1.length c, .int .i64 e.f2, .int .u64 e.f3, .int .i64 e.f4, .int .u64 e.f5, .int .i64 e.f0, .slice A e.f1.length c, .int .i64 e.f2, .int .u64 e.f3, .int .i64 e.f4, .int .u64 e.f5] 44)).alloc (.cells #[.int .i64 4, .slice (some ⟨wz.heap.size, 0, none⟩) 2 2, .int .i64 0, .int .u64 0, .int .i64 0, .int .u64 0] 44)).alloc (.cells #[.int .i64 e.f0, .slice A e.f1.length c, .int .i64 e.f2, .int .u64 e.f3, .int .i64 e.f4, .int .u64 e.f5, .int .i64 e.f0, .slice A e.f1.length c, .int .i64 e.f2, .int .u64 e.f3, .int .i64 e.f4, .int .u64 e.f5] 44)).alloc (.cells #[.int .i64 5, .slice (some ⟨wz.heap.size + 1 + 1, 0, none⟩) 2 2, .int .i64 0, .int .u64 0, .int .i64 0, .int .u64 0] 44)) := ⟨_, rfl⟩
      have hA : W4.heap[wz.heap.size]? = some (.cells #[.int .i64 e.f0, .slice A e.f1.length c, .int .i64 e.f2, .int .u64 e.f3, .int .i64 e.f4, .int .u64 e.f5, .int .i64 e.f0, .slice A e.f1.length c, .int .i64 e.f2, .int .u64 e.f3, .int .i64 e.f4, .int .u64 e.f5] 44 (0, 0)) := by rw [hW4]; exact blk_alloc (blk_alloc (blk_alloc (blk_new wz _) _) _) _
      have hB : W4.heap[wz.heap.size + 1]? = some (.cells #[.int .i64 4, .slice (some ⟨wz.heap.size, 0, none⟩) 2 2, .int .i64 0, .int .u64 0, .int .i64 0, .int .u64 0] 44 (0, 0)) := by rw [hW4]; exact blk_alloc (blk_alloc (heap_second wz _ _) _) _
      have hCe : W4.heap[wz.heap.size + 1 + 1]? = some (.cells #[.int .i64 e.f0, .slice A e.f1.length c, .int .i64 e.f2, .int .u64 e.f3, .int .i64 e.f4, .int .u64 e.f5, .int .i64 e.f0, .slice A e.f1.length c, .int .i64 e.f2, .int .u64 e.f3, .int .i64 e.f4, .int .u64 e.f5] 44 (0, 0)) := by rw [hW4]; exact blk_alloc (heap_new2 wz _ _ _) _
      have hDe : W4.heap[wz.heap.size + 1 + 1 + 1]? = some (.cells #[.int .i64 5, .slice (some ⟨wz.heap.size + 1 + 1, 0, none⟩) 2 2, .int .i64 0, .int .u64 0, .int .i64 0, .int .u64 0] 44 (0, 0)) := by
        have h := heap_new2 (wz.alloc (.cells #[.int .i64 e.f0, .slice A e.f1.length c, .int .i64 e.f2, .int .u64 e.f3, .int .i64 e.f4, .int .u64 e.f5, .int .i64 e.f0, .slice A e.f1.length c, .int .i64 e.f2, .int .u64 e.f3, .int .i64 e.f4, .int .u64 e.f5] 44)) (.cells #[.int .i64 4, .slice (some ⟨wz.heap.size, 0, none⟩) 2 2, .int .i64 0, .int .u64 0, .int .i64 0, .int .u64 0] 44) (.cells #[.int .i64 e.f0, .slice A e.f1.length c, .int .i64 e.f2, .int .u64 e.f3, .int .i64 e.f4, .int .u64 e.f5, .int .i64 e.f0, .slice A e.f1.length c, .int .i64 e.f2, .int .u64 e.f3, .int .i64 e.f4, .int .u64 e.f5] 44) (.cells #[.int .i64 5, .slice (some ⟨wz.heap.size + 1 + 1, 0, none⟩) 2 2, .int .i64 0, .int .u64 0, .int .i64 0, .int .u64 0] 44)
        rw [hW4]
        simpa using h
      have hBz : Below wz.heap.size wz W4 := by rw [hW4]; exact below_alloc (below_alloc (below_alloc (below_alloc (Below.refl _ _) _) _) _) _
      have hKe : kExpr.K W4 e [.int .i64 e.f0, .slice A e.f1.length c, .int .i64 e.f2, .int .u64 e.f3, .int .i64 e.f4, .int .u64 e.f5] := kExpr_mk W4 e hl (Kd.C_below (Kd.C_below HC.out HBc.out) hBz)
      have C1 : kExpr.C W4 (some ⟨wz.heap.size, 0, none⟩) 2 [e, e] := reads_two hA rfl rfl rfl hKe hKe
      have C2 : kExpr.C W4 (some ⟨wz.heap.size + 1 + 1, 0, none⟩) 2 [e, e] := reads_two hCe rfl rfl rfl hKe hKe
      have B1 : Box W4 (wz.heap.size + 1) #[.int .i64 4, .slice (some ⟨wz.heap.size, 0, none⟩) 2 2, .int .i64 0, .int .u64 0, .int .i64 0, .int .u64 0] := heap_cell hB
      have B2 : Box W4 (wz.heap.size + 1 + 1 + 1) #[.int .i64 5, .slice (some ⟨wz.heap.size + 1 + 1, 0, none⟩) 2 2, .int .i64 0, .int .u64 0, .int .i64 0, .int .u64 0] := heap_cell hDe
      have D4 := HDc.out.below hBz
      have HX := Lib.hid (And.intro C1 (And.intro C2 (And.intro B1 (And.intro B2 (And.intro D4 hBz)))))
      clear C1 C2 B1 B2 D4 hBz hKe hA hB hCe hDe
      subst hW4
      go_wp2_with fail
      refine (expr_calls ⟨4, [e, e], 0, 0, 0, 0⟩ (some ⟨wz.heap.size, 0, none⟩) 2 _ HX.out.1).mono ?_
      rintro en w6 ⟨rfl, hb⟩
      have HC6 := Lib.hid (Kd.C_below HX.out.1 hb)
      have HO6 := Lib.hid (Kd.C_below HX.out.2.1 hb)
      have T6 := HX.out.2.2.1.below hb
      have O6 := HX.out.2.2.2.1.below hb
      have D6 := HX.out.2.2.2.2.1.below hb
      have HB6 := Lib.hid (bl_call HX.out.2.2.2.2.2 HX.out.2.2.2.2.2.size hb)
      clear hb HX e0 e1 e2 e3 e4 e5
      by_cases ht : exprS ⟨4, [e, e], 0, 0, 0, 0⟩ = 0
      · have hzt : (exprS ⟨4, [e, e], 0, 0, 0, 0⟩ == 0) = true := by simpa using ht
        have n0 := T6 0 _ rfl; have n1 := T6 1 _ rfl; have n2 := T6 2 _ rfl; have n3 := T6 3 _ rfl; have n4 := T6 4 _ rfl; have n5 := T6 5 _ rfl
        have d0 := D6 0 _ rfl; have d1 := D6 1 _ rfl; have d2 := D6 2 _ rfl; have d3 := D6 3 _ rfl; have d4 := D6 4 _ rfl; have d5 := D6 5 _ rfl; have d6 := D6 6 _ rfl; have d7 := D6 7 _ rfl; have d8 := D6 8 _ rfl
        have HOx := Lib.hid O6
        have HDx := Lib.hid D6
        clear T6 D6 O6
        go_wp2_with fail
        refine (Holds_calls ⟨4, [e, e], 0, 0, 0, 0⟩ d (some ⟨wz.heap.size, 0, none⟩) 2 _ HC6.out).mono ?_
        rintro en w7 ⟨rfl, hb⟩
        rw [holdsTop_ok ht, holds_and_law]
        have HB7 := Lib.hid (bl_call HB6.out HB6.out.size hb)
        have O7 := HOx.out.below hb
        have D7 := HDx.out.below hb
        have HO7 := Lib.hid (Kd.C_below HO6.out hb)
        have hzz : (holdsS d e != holdsS d e) = false := by cases holdsS d e <;> rfl
        have hzz2 : (holdsS d e == holdsS d e) = true := by cases holdsS d e <;> rfl
        clear hb n0 n1 n2 n3 n4 n5 d0 d1 d2 d3 d4 d5 d6 d7 d8
        have n0 := O7 0 _ rfl; have n1 := O7 1 _ rfl; have n2 := O7 2 _ rfl; have n3 := O7 3 _ rfl; have n4 := O7 4 _ rfl; have n5 := O7 5 _ rfl
        have d0 := D7 0 _ rfl; have d1 := D7 1 _ rfl; have d2 := D7 2 _ rfl; have d3 := D7 3 _ rfl; have d4 := D7 4 _ rfl; have d5 := D7 5 _ rfl; have d6 := D7 6 _ rfl; have d7 := D7 7 _ rfl; have d8 := D7 8 _ rfl
        clear O7 D7
        go_wp2_with fail
        refine (Holds_calls ⟨5, [e, e], 0, 0, 0, 0⟩ d (some ⟨wz.heap.size + 1 + 1, 0, none⟩) 2 _ HO7.out).mono ?_
        rintro en w8 ⟨rfl, hb⟩
        rw [holdsTop_ok (expr_or_law ht), holds_or_law]
        have HB8 := Lib.hid (bl_call HB7.out HB7.out.size hb)
        clear hb n0 n1 n2 n3 n4 n5 d0 d1 d2 d3 d4 d5 d6 d7 d8
        go_wp2
        go_meet
        exact ⟨rfl, HB8⟩
      · have hzt : (exprS ⟨4, [e, e], 0, 0, 0, 0⟩ == 0) = false := by simpa using ht
        clear ht T6 O6 D6
        go_wp2
        go_meet
        exact ⟨rfl, HB6⟩
    case rest =>
      clear e0 e1 e2 e3 e4 e5
      obtain ⟨rfl, HW⟩ := hcut
      have Ed := HEc.out.below HW.out
      have Dd := HDc.out.below HW.out
      have HBd := Lib.hid (bl_call HBc.out HBc.out.size HW.out)
      have hzd : w.heap.size + 1 < wc.heap.size := by have := HW.out.size; omega
      have hz1c : w.heap.size < wc.heap.size := by omega
      have hn1 : ¬ w.heap.size = wc.heap.size := by omega
      have hn2 : ¬ w.heap.size + 1 = wc.heap.size := by omega
      have e0 := Ed 0 _ rfl; have e1 := Ed 1 _ rfl; have e2 := Ed 2 _ rfl; have e3 := Ed 3 _ rfl; have e4 := Ed 4 _ rfl; have e5 := Ed 5 _ rfl
      have d0 := Dd 0 _ rfl; have d1 := Dd 1 _ rfl; have d2 := Dd 2 _ rfl; have d3 := Dd 3 _ rfl; have d4 := Dd 4 _ rfl; have d5 := Dd 5 _ rfl; have d6 := Dd 6 _ rfl; have d7 := Dd 7 _ rfl; have d8 := Dd 8 _ rfl
      clear Ed Dd
      by_cases h6 : e.f0 = 6
      case neg =>
        go_wp2
        go_returns
        exact ⟨rfl, HBd.out⟩
      have hb := test_bounds H0.out h6
      have hr : e.f4 = 1 ∨ e.f4 = 2 ∨ e.f4 = 3 ∨ e.f4 = 4 ∨ e.f4 = 5 ∨ e.f4 = 6 := by omega
      have HT := Lib.hid (turn_law d e H0.out h6)
      have h6b : (e.f0 == 6) = true := by simpa using h6
      clear h6 hb
      have HR := Lib.hid hr
      clear hr
      rcases HR.out with hr | hr | hr | hr | hr | hr
      · have hT : exprS ⟨e.f0, e.f1, e.f2, e.f3, 2, e.f5⟩ = 0 ∧ holdsS d ⟨e.f0, e.f1, e.f2, e.f3, 2, e.f5⟩ = !holdsS d e := by have h := HT.out; rw [hr] at h; exact h
        rw [hr] at e4
        have HT2 := Lib.hid hT
        clear hT hr HT HR
        go_wp2_with fail
        refine (Holds_calls ⟨e.f0, e.f1, e.f2, e.f3, 2, e.f5⟩ d A c _ (Kd.C_below HC.out (below_alloc HBd.out _))).mono ?_
        rintro en w9 ⟨rfl, hb⟩
        rw [holdsTop_ok HT2.out.1, HT2.out.2]
        have HB9 := Lib.hid (bl_call (below_alloc HBd.out _) (by simp; omega) hb)
        have hzz : ((!holdsS d e) != holdsS d e) = true := by cases holdsS d e <;> rfl
        clear hb
        go_wp2
        go_returns
        exact ⟨rfl, HB9.out⟩
      · have hT : exprS ⟨e.f0, e.f1, e.f2, e.f3, 1, e.f5⟩ = 0 ∧ holdsS d ⟨e.f0, e.f1, e.f2, e.f3, 1, e.f5⟩ = !holdsS d e := by have h := HT.out; rw [hr] at h; exact h
        rw [hr] at e4
        have HT2 := Lib.hid hT
        clear hT hr HT HR
        go_wp2_with fail
        refine (Holds_calls ⟨e.f0, e.f1, e.f2, e.f3, 1, e.f5⟩ d A c _ (Kd.C_below HC.out (below_alloc HBd.out _))).mono ?_
        rintro en w9 ⟨rfl, hb⟩
        rw [holdsTop_ok HT2.out.1, HT2.out.2]
        have HB9 := Lib.hid (bl_call (below_alloc HBd.out _) (by simp; omega) hb)
        have hzz : ((!holdsS d e) != holdsS d e) = true := by cases holdsS d e <;> rfl
        clear hb
        go_wp2
        go_returns
        exact ⟨rfl, HB9.out⟩
      · have hT : exprS ⟨e.f0, e.f1, e.f2, e.f3, 6, e.f5⟩ = 0 ∧ holdsS d ⟨e.f0, e.f1, e.f2, e.f3, 6, e.f5⟩ = !holdsS d e := by have h := HT.out; rw [hr] at h; exact h
        rw [hr] at e4
        have HT2 := Lib.hid hT
        clear hT hr HT HR
        go_wp2_with fail
        refine (Holds_calls ⟨e.f0, e.f1, e.f2, e.f3, 6, e.f5⟩ d A c _ (Kd.C_below HC.out (below_alloc HBd.out _))).mono ?_
        rintro en w9 ⟨rfl, hb⟩
        rw [holdsTop_ok HT2.out.1, HT2.out.2]
        have HB9 := Lib.hid (bl_call (below_alloc HBd.out _) (by simp; omega) hb)
        have hzz : ((!holdsS d e) != holdsS d e) = true := by cases holdsS d e <;> rfl
        clear hb
        go_wp2
        go_returns
        exact ⟨rfl, HB9.out⟩
      · have hT : exprS ⟨e.f0, e.f1, e.f2, e.f3, 5, e.f5⟩ = 0 ∧ holdsS d ⟨e.f0, e.f1, e.f2, e.f3, 5, e.f5⟩ = !holdsS d e := by have h := HT.out; rw [hr] at h; exact h
        rw [hr] at e4
        have HT2 := Lib.hid hT
        clear hT hr HT HR
        go_wp2_with fail
        refine (Holds_calls ⟨e.f0, e.f1, e.f2, e.f3, 5, e.f5⟩ d A c _ (Kd.C_below HC.out (below_alloc HBd.out _))).mono ?_
        rintro en w9 ⟨rfl, hb⟩
        rw [holdsTop_ok HT2.out.1, HT2.out.2]
        have HB9 := Lib.hid (bl_call (below_alloc HBd.out _) (by simp; omega) hb)
        have hzz : ((!holdsS d e) != holdsS d e) = true := by cases holdsS d e <;> rfl
        clear hb
        go_wp2
        go_returns
        exact ⟨rfl, HB9.out⟩
      · have hT : exprS ⟨e.f0, e.f1, e.f2, e.f3, 4, e.f5⟩ = 0 ∧ holdsS d ⟨e.f0, e.f1, e.f2, e.f3, 4, e.f5⟩ = !holdsS d e := by have h := HT.out; rw [hr] at h; exact h
        rw [hr] at e4
        have HT2 := Lib.hid hT
        clear hT hr HT HR
        go_wp2_with fail
        refine (Holds_calls ⟨e.f0, e.f1, e.f2, e.f3, 4, e.f5⟩ d A c _ (Kd.C_below HC.out (below_alloc HBd.out _))).mono ?_
        rintro en w9 ⟨rfl, hb⟩
        rw [holdsTop_ok HT2.out.1, HT2.out.2]
        have HB9 := Lib.hid (bl_call (below_alloc HBd.out _) (by simp; omega) hb)
        have hzz : ((!holdsS d e) != holdsS d e) = true := by cases holdsS d e <;> rfl
        clear hb
        go_wp2
        go_returns
        exact ⟨rfl, HB9.out⟩
      · have hT : exprS ⟨e.f0, e.f1, e.f2, e.f3, 3, e.f5⟩ = 0 ∧ holdsS d ⟨e.f0, e.f1, e.f2, e.f3, 3, e.f5⟩ = !holdsS d e := by have h := HT.out; rw [hr] at h; exact h
        rw [hr] at e4
        have HT2 := Lib.hid hT
        clear hT hr HT HR
        go_wp2_with fail
        refine (Holds_calls ⟨e.f0, e.f1, e.f2, e.f3, 3, e.f5⟩ d A c _ (Kd.C_below HC.out (below_alloc HBd.out _))).mono ?_
        rintro en w9 ⟨rfl, hb⟩
        rw [holdsTop_ok HT2.out.1, HT2.out.2]
        have HB9 := Lib.hid (bl_call (below_alloc HBd.out _) (by simp; omega) hb)
        have hzz : ((!holdsS d e) != holdsS d e) = true := by cases holdsS d e <;> rfl
        clear hb
        go_wp2
        go_returns
        exact ⟨rfl, HB9.out⟩
end Go.Proofs.Ytkojnaebkgekaaa
