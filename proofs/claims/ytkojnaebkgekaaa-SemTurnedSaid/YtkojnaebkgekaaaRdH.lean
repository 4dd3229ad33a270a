/- Layer 6's reader (the document's): all, Expr, over what they read between the words. -/
import Derived.Test.YtkojnaebkgekaaaRdG
import Derived.Test.YtkojnaebkgekaaaAppW
import Derived.Deep.MidRow
import Derived.Deep.LoopGhost
set_option linter.unusedVariables false
set_option linter.unusedSimpArgs false
namespace Go.Proofs.Ytkojnaebkgekaaa
open Go.RowKit Go.Proofs.YtkojnaebkgekaaaW.PrintWords
theorem infoExpr : (Try.prog.info? 44).map (fun i => (i.zero, i.size, i.bytes)) = some (some (.agg #[.int .i64 0, .slice none 0 0, .int .i64 0, .int .u64 0, .int .i64 0, .int .u64 0]), 6, 64) := by kernel_rfl
theorem RdAt.upto {w0 W W1 : World} {g B : Nat} {s : Rd} (h : RdAt w0 W g s) (hb : Below B W W1) (hg : g < B) : RdAt w0 W1 g s := by
  obtain ⟨A, c, hC, hgs, hB, hh⟩ := h
  exact ⟨A, c, hC, hgs, hB.trans (hb.mono (by omega)), (hb.block g hg).trans hh⟩
theorem keep_upto {w W W1 : World} {g B : Nat} (h : KeepBut w W g none) (hb : Below B W W1) (hB : w.heap.size ≤ B) : KeepBut w W1 g none :=
  ⟨Nat.le_trans h.1 hb.size, fun i hi hg hr => (hb.block i (by omega)).trans (h.2 i hi hg hr)⟩
theorem R_rd {α : Type} {d : Kd α} {e : Nat} {w w1 : World} {base g : Nat} {ok : Nat → Prop} {v : Value} {xs : List α} (h : d.R e w base ok v xs) (hk : KeepBut w w1 g none) (hg : g < base) : d.R e w1 base ok v xs :=
  Kd.R_mono (Kd.R_keep (Kd.R_bound h) hk (fun k hk => by have := hk.2.1; omega)) (fun _ hk => hk.1)
theorem R_one {α : Type} {d : Kd α} {e : Nat} {w : World} {base g : Nat} {ok : Nat → Prop} {cs : Array Value} {x : α} (h : w.heap[g]? = some (.cells cs e (0, 0))) (hs : cs.size = d.sz) (hb : base ≤ g) (hok : ok g) (hM : d.M w base (fun k => ok k ∧ k ≠ g) x cs.toList) : d.R e w base ok (.slice (some ⟨g, 0, none⟩) 1 1) [x] := by
  refine ⟨fun k hk => ?_, cs.toList, ⟨by simp [hs], .inr ⟨g, 1, cs, rfl, hb, h, Nat.le_refl _, by decide, by simp [hs], ?_⟩⟩, ?_⟩
  · have : g = k := by simpa [Value.ownBlock] using hk
    exact this ▸ hok
  · rw [List.take_of_length_le (by simp [hs])]
  · refine ⟨by simp [hs], fun j q hj => ?_⟩
    have hj0 : j = 0 := by have := (List.getElem?_eq_some_iff.1 hj).1; simp at this; exact this
    subst hj0
    have hq : x = q := by simpa using hj
    subst hq
    rw [Nat.zero_mul, List.drop_zero, List.take_of_length_le (by simp [hs])]
    exact d.M_mono (fun k hk => ⟨hk.1, fun he => hk.2 (by simpa [Value.ownBlock] using he)⟩) hM
/-- The only element of a row of the call's own. -/
theorem R_head {w : World} {base : Nat} {v : Value} {x : Expr} (h : kExpr.R 44 w base (fun _ => True) v [x]) : ∃ g cap v1, v = .slice (some ⟨g, 0, none⟩) 1 cap ∧ base ≤ g ∧ g < w.heap.size ∧ w.rangeAt g 0 [.int .i64 x.f0, v1, .int .i64 x.f2, .int .u64 x.f3, .int .i64 x.f4, .int .u64 x.f5] ∧ kExpr.R 44 w base (fun _ => True) v1 x.f1 := by
  obtain ⟨_, inner, ho, hr⟩ := h
  obtain ⟨hl, ho⟩ := ho
  rcases ho with ⟨rfl, h0⟩ | ⟨g, cap, cur, rfl, hb, hh, _, _, hs, ht⟩
  · simp at h0
  · have h2 := hr.2 0 x rfl
    have hl6 : inner.length = 6 := by simpa [kExpr, Kd.fix] using hl
    rw [Nat.zero_mul, List.drop_zero, List.take_of_length_le (by rw [hl6]; exact Nat.le_refl _)] at h2
    obtain ⟨v1, hi, hv⟩ := kExpr_openM h2
    refine ⟨g, cap, v1, rfl, hb, heap_lt hh, fun j u hu => ?_, Kd.R_mono hv (fun _ _ => trivial)⟩
    rw [Nat.zero_add]
    refine heap_cell hh j u ?_
    have hj : j < 6 := by have := (List.getElem?_eq_some_iff.1 hu).1; simpa using this
    rw [← hi, ← ht] at hu
    rw [List.getElem?_take, if_pos (by simp [kExpr, Kd.fix]; exact hj)] at hu
    simpa using hu
theorem R_head' {w : World} {base g cap : Nat} {x : Expr} (h : kExpr.R 44 w base (fun _ => True) (.slice (some ⟨g, 0, none⟩) 1 cap) [x]) : ∃ v1, g < w.heap.size ∧ w.rangeAt g 0 [.int .i64 x.f0, v1, .int .i64 x.f2, .int .u64 x.f3, .int .i64 x.f4, .int .u64 x.f5] ∧ kExpr.R 44 w base (fun _ => True) v1 x.f1 := by
  obtain ⟨g', cap', v1, he, _, h1, h2, h3⟩ := R_head h
  injection he with he1 he2 he3
  injection he1 with he1
  injection he1 with he1 _ _
  subst he1
  exact ⟨v1, h1, h2, h3⟩
theorem R_row {α : Type} {d : Kd α} {e : Nat} {w : World} {base g : Nat} {ok : Nat → Prop} {v : Value} {xs : List α} (h : d.R e w base ok v xs) (hg : g < base) (cs : Array Value) : d.R e (w.setRow g cs) base ok v xs :=
  Kd.R_mono (Kd.R_move (Kd.R_bound h) (fun k hk => setRow_other w g k cs (by have := hk.2.1; omega))) (fun _ hk => hk.1)
theorem R_fresh {w : World} {base : Nat} {v : Value} {l : List Expr} (h : kExpr.R 44 w base (fun _ => True) v l) (o : Obj) : kExpr.R 44 (w.alloc o) base (fun k => True ∧ k ≠ w.heap.size) v l :=
  Kd.R_mono (Kd.R_alloc (Kd.R_bound h) o) (fun k hk => ⟨trivial, by have := hk.2.2.1; omega⟩)
set_option maxHeartbeats 2000000 in
theorem all_calls (sub : Rd → Option (Expr × Rd)) (hsub : ∀ (w0 W : World) (g : Nat) (s : Rd), RdAt w0 W g s → ∀ (e : Expr) (s' : Rd), sub s = some (e, s') → Calls Try.prog 180 #[.pointer (some ⟨g, 0, none⟩)] W (DidE w0 W g e s'))
    (w0 W : World) (g : Nat) (s : Rd) (hI : RdAt w0 W g s) (m : Nat) (hm : m ≤ 1000) (e : Expr) (s' : Rd) (h : rowS sub sAnd 4 m s = some (e, s')) : Calls Try.prog 158 #[.pointer (some ⟨g, 0, none⟩)] W (DidE w0 W g e s') := by
  have hgl := hI.lt
  have hgs := hI.size
  have hne : W.heap.size ≠ g := by omega
  have HI := Lib.hid hI
  clear hI
  obtain ⟨⟨e1, s1⟩, h1, h2⟩ := Option.bind_eq_some_iff.1 h
  clear h
  obtain ⟨⟨zs, s2⟩, hz, h3⟩ := Option.map_eq_some_iff.1 h2
  clear h2
  simp only [Prod.mk.injEq] at h3
  obtain ⟨rfl, rfl⟩ := h3
  have H1 := Lib.hid h1
  have HZ := Lib.hid hz
  clear h1 hz
  go_enter Try.func158, Try.ntmps158
  go_wp2_with (go_at_call 180; refine (hsub w0 _ g s ?hi e1 s1 H1.out).mono ?_; (case hi => exact HI.out.alloc _); rintro en w1 ⟨v1, ⟨rfl, hI1, hk1⟩, hR1⟩; have hbr := hk1.blk (blk_new W _) hne (by simp); have HBR1 := Lib.hid hbr; have hlr1 := heap_lt hbr; have hg1 := hI1.lt; have HI1 := Lib.hid hI1; have HK1 := Lib.hid ((keep_alloc (KeepBut.refl _ _ _) _).trans hk1 (.inl rfl)); have HR1 := Lib.hid hR1; clear hI1 hk1 hR1 hbr; unfold exV)
  have hO : kExpr.R 44 (w1.alloc (.cells #[.int .i64 e1.f0, v1, .int .i64 e1.f2, .int .u64 e1.f3, .int .i64 e1.f4, .int .u64 e1.f5] 44)) (W.heap.size + 1) (fun _ => True) (.slice (some ⟨w1.heap.size, 0, none⟩) 1 1) [e1] :=
    R_one (blk_new w1 _) rfl (by omega) trivial (kExpr_mkM _ _ _ e1 (R_fresh (Kd.R_lower HR1.out (by simp)) _))
  have HO1 := Lib.hid hO
  clear hO HR1
  go_loopg [3, 4] m (fun q v mo wr => ∃ (xs ys : List Expr) (sq : Rd), Hid (moreS sub sAnd q sq = some (ys, s2)) ∧ Hid (xs ++ ys = e1 :: zs) ∧ (0 < xs.length ∧ xs.length + q ≤ 1001) ∧ Hid (kExpr.R 44 wr (W.heap.size + 1) (fun _ => True) v xs) ∧ Hid (RdAt w0 wr g sq) ∧ Hid (KeepBut W wr g none) ∧ Hid (wr.heap[W.heap.size]? = some (.cells #[.int .i64 0, .slice none 0 0, .int .i64 0, .int .u64 0, .int .i64 0, .int .u64 0] 44 (0, 0))))
  case atStart => exact ⟨[e1], zs, s1, HZ, Lib.hid rfl, ⟨by simp, by simp; omega⟩, HO1, Lib.hid (HI1.out.alloc _), Lib.hid (keep_alloc HK1.out _), Lib.hid (blk_alloc HBR1.out _)⟩
  case round =>
    clear HO1 HI1 HK1 HBR1 HZ
    obtain ⟨xs, ys, sq, HL, HE, hlen, HO, HIr, HKr, HBr⟩ := hrel
    cases gk with
    | zero => exact absurd HL.out (by simp [moreS])
    | succ q =>
      have hl := HL.out
      clear HL
      simp only [moreS] at hl
      by_cases hx : sq.x = 0
      · rw [if_pos hx] at hl
        obtain ⟨⟨mb, s3⟩, hi, hl⟩ := Option.bind_eq_some_iff.1 hl
        have HS := Lib.hid hi
        clear hi
        obtain ⟨A3, c3, rfl⟩ := Kd.R_slice HO.out
        have hgr := HIr.out.lt
        have hlr := heap_lt HBr.out
        obtain ⟨Ax, cx, hCx, hmx, q0x, q1x, q2x, q3x, q4x, q5x, q6x, z3x, z4x, z5x, z6x⟩ := (HIr.out).facts
        clear q0x q1x q2x q3x q4x q6x z3x z4x z5x z6x hmx hCx
        cases mb with
        | true =>
          rw [if_pos rfl] at hl
          obtain ⟨⟨e2, s4⟩, h2, hl⟩ := Option.bind_eq_some_iff.1 hl
          obtain ⟨⟨ys', s5⟩, hz, hl⟩ := Option.map_eq_some_iff.1 hl
          simp only [Prod.mk.injEq] at hl
          obtain ⟨rfl, rfl⟩ := hl
          have H2 := Lib.hid h2
          have HZ := Lib.hid hz
          clear h2 hz
          go_wp2_with (first | (go_at_call 116; refine (is_calls w0 _ g sq HIr.out 2 sAnd _ _ HS.out).mono ?_; rintro en w2 ⟨rfl, hI2, hk2⟩; have hbr := hk2.blk HBr.out hne (by simp); have HBR2 := Lib.hid hbr; have hlr2 := heap_lt hbr; have hg2 := hI2.lt; have HI2 := Lib.hid hI2; have HK2 := Lib.hid (HKr.out.trans hk2 (.inl rfl)); have hsz2 := keep_size hk2; have HO2 := Lib.hid (R_rd HO.out hk2 (by omega)); clear hI2 hk2 hbr) | (go_at_call 180; refine (hsub w0 _ g s3 ?hi e2 s4 H2.out).mono ?_; (case hi => exact HI2.out); rintro en w3 ⟨v3, ⟨rfl, hI3, hk3⟩, hR3⟩; have hbr := hk3.blk HBR2.out hne (by simp); have HBR3 := Lib.hid hbr; have hlr3 := heap_lt hbr; have hg3 := hI3.lt; have HI3 := Lib.hid hI3; have HK3 := Lib.hid (HK2.out.trans hk3 (.inl rfl)); have hsz3 := keep_size hk3; have HO3 := Lib.hid (R_rd HO2.out hk3 (by omega)); have HR3 := Lib.hid hR3; clear hI3 hk3 hbr hR3; unfold exV) | (at_builtin; (refine Kd.R_append kExpr (w0 := w3) (W.heap.size + 1) rfl (.tmp 17) (.tmp 20) 41 44 (.agg #[.int .i64 0, .slice none 0 0, .int .i64 0, .int .u64 0, .int .i64 0, .int .u64 0]) 64 rfl Try.underlying41 infoExpr rfl (by decide) (by omega) (.slice A3 xs.length c3) xs e2 [.int .i64 e2.f0, v3, .int .i64 e2.f2, .int .u64 e2.f3, .int .i64 e2.f4, .int .u64 e2.f5] (fun _ => True) (fun k => w2.heap.size ≤ k) rfl ?aX ?aP ?aK ?aF ?aO ?aB ?aS ?aL ?_; (case aX => simp [Act.eval]); (case aP => exact kExpr_mkM _ _ _ e2 (Kd.R_mono (Kd.R_lower (Kd.R_bound HR3.out) (by omega)) (fun k hk => hk.2.1))); (case aK => exact fun k hk => ⟨trivial, fun he => by have := Kd.R_lt HO2.out k he.symm; omega⟩); (case aF => exact (fun _ _ => trivial)); (case aO => exact HO3.out); (case aB => exact Below.refl _ _); (case aS => omega); (case aL => omega); intro v4 w4 ho hb4 hg4 hat; have HO4 := Lib.hid ho; have HI4 := Lib.hid (HI3.out.upto hb4 (by omega)); have HK4 := Lib.hid (keep_upto HK3.out hb4 (by omega)); have HBR4 := Lib.hid ((hb4.block W.heap.size (by omega)).trans HBR3.out); clear ho hb4 hg4 hat)))
          go_roundg q
          case measure => omega
          case rel => exact ⟨xs ++ [e2], ys', s4, HZ, Lib.hid (by rw [← HE.out]; simp), ⟨by simp, by simp; omega⟩, HO4, HI4, HK4, HBR4⟩
        | false =>
          rw [if_neg (by simp)] at hl
          simp only [Option.some.injEq, Prod.mk.injEq] at hl
          obtain ⟨rfl, rfl⟩ := hl
          have hxs : xs = e1 :: zs := by have := HE.out; rwa [List.append_nil] at this
          subst hxs
          cases zs with
          | nil =>
            obtain ⟨g3, cap3, he, hb3, hl3, _⟩ := Kd.R_form HO.out (by simp)
            injection he with he1 _ he3
            subst he1 he3
            go_wp2_with (first | (go_at_call 116; refine (is_calls w0 _ g sq HIr.out 2 sAnd _ _ HS.out).mono ?_; rintro en w2 ⟨rfl, hI2, hk2⟩; have hbr := hk2.blk HBr.out hne (by simp); have HBR2 := Lib.hid hbr; have hlr2 := heap_lt hbr; have hg2 := hI2.lt; have HI2 := Lib.hid hI2; have HK2 := Lib.hid (HKr.out.trans hk2 (.inl rfl)); have hsz2 := keep_size hk2; have hO2 := (R_rd HO.out hk2 (by omega)); obtain ⟨v5, hl5, hr5, hR5⟩ := R_head' hO2; obtain ⟨A5, c5, rfl⟩ := Kd.R_slice hR5; have HR5 := Lib.hid hR5; have HG5 := Lib.hid hr5; clear hI2 hk2 hbr hO2 hR5 hr5) | (refine wpList_load_mid rfl 44 (.tmp 26) rfl g3 0 ?lx [.int .i64 e1.f0, (.slice A5 e1.f1.length c5), .int .i64 e1.f2, .int .u64 e1.f3, .int .i64 e1.f4, .int .u64 e1.f5] _ ?lg Try.underlying44 rfl (by kernel_rfl) ?_; (case lx => rfl); (case lg => exact HG5.out)) | (refine wpl_store 44 (.tmp 2) (.tmp 27) W.heap.size #[.int .i64 e1.f0, (.slice A5 e1.f1.length c5), .int .i64 e1.f2, .int .u64 e1.f3, .int .i64 e1.f4, .int .u64 e1.f5] 44 #[.int .i64 0, .slice none 0 0, .int .i64 0, .int .u64 0, .int .i64 0, .int .u64 0] rfl rfl ?sx ?sy ?sg (by kernel_rfl) rfl (by kernel_rfl) ?_; (case sx => rfl); (case sy => rfl); (case sg => exact HBR2.out)))
            refine bodyPost_ret (results_c rfl _ _ W.heap.size 44 #[.int .i64 e1.f0, (.slice A5 e1.f1.length c5), .int .i64 e1.f2, .int .u64 e1.f3, .int .i64 e1.f4, .int .u64 e1.f5] (0, 0) _ rfl (setRow_heap _ _ _ _ _ _ HBR2.out) Try.underlying44 rfl (by kernel_rfl)) rfl ?_
            exact ⟨.slice A5 e1.f1.length c5, ⟨rfl, RdAt.row HI2.out hne hgs _, keep_row HK2.out (Nat.le_refl _) _⟩, Kd.R_lower (R_row HR5.out (by omega) _) (by omega)⟩
          | cons z zs =>
            have hn1 : ¬ ((e1 :: z :: zs).length : Int) = 1 := by simp; omega
            go_wp2_with (first | (go_at_call 116; refine (is_calls w0 _ g sq HIr.out 2 sAnd _ _ HS.out).mono ?_; rintro en w2 ⟨rfl, hI2, hk2⟩; have hbr := hk2.blk HBr.out hne (by simp); have HBR2 := Lib.hid hbr; have hlr2 := heap_lt hbr; have hg2 := hI2.lt; have HI2 := Lib.hid hI2; have HK2 := Lib.hid (HKr.out.trans hk2 (.inl rfl)); have hsz2 := keep_size hk2; have hO2 := (R_rd HO.out hk2 (by omega)); have HO2 := Lib.hid hO2; clear hI2 hk2 hbr hO2) | (refine wpl_store 44 (.tmp 2) (.tmp 29) W.heap.size (#[.int .i64 4, .slice A3 (e1 :: z :: zs).length c3, .int .i64 0, .int .u64 0, .int .i64 0, .int .u64 0]) 44 #[.int .i64 0, .slice none 0 0, .int .i64 0, .int .u64 0, .int .i64 0, .int .u64 0] rfl rfl ?sx ?sy ?sg (by kernel_rfl) rfl (by kernel_rfl) ?_; (case sx => rfl); (case sy => rfl); (case sg => exact HBR2.out)))
            refine bodyPost_ret (results_c rfl _ _ W.heap.size 44 (#[.int .i64 4, .slice A3 (e1 :: z :: zs).length c3, .int .i64 0, .int .u64 0, .int .i64 0, .int .u64 0]) (0, 0) _ rfl (setRow_heap _ _ _ _ _ _ HBR2.out) Try.underlying44 rfl (by kernel_rfl)) rfl ?_
            exact ⟨.slice A3 (e1 :: z :: zs).length c3, ⟨rfl, RdAt.row HI2.out hne hgs _, keep_row HK2.out (Nat.le_refl _) _⟩, Kd.R_lower (R_row HO2.out (by omega) _) (by omega)⟩
      · rw [if_neg hx] at hl
        cases hl
set_option maxHeartbeats 2000000 in
theorem Expr_calls (sub : Rd → Option (Expr × Rd)) (hsub : ∀ (w0 W : World) (g : Nat) (s : Rd), RdAt w0 W g s → ∀ (e : Expr) (s' : Rd), sub s = some (e, s') → Calls Try.prog 158 #[.pointer (some ⟨g, 0, none⟩)] W (DidE w0 W g e s'))
    (w0 W : World) (g : Nat) (s : Rd) (hI : RdAt w0 W g s) (m : Nat) (hm : m ≤ 1000) (e : Expr) (s' : Rd) (h : rowS sub sOr 5 m s = some (e, s')) : Calls Try.prog 148 #[.pointer (some ⟨g, 0, none⟩)] W (DidE w0 W g e s') := by
  have hgl := hI.lt
  have hgs := hI.size
  have hne : W.heap.size ≠ g := by omega
  have HI := Lib.hid hI
  clear hI
  obtain ⟨⟨e1, s1⟩, h1, h2⟩ := Option.bind_eq_some_iff.1 h
  clear h
  obtain ⟨⟨zs, s2⟩, hz, h3⟩ := Option.map_eq_some_iff.1 h2
  clear h2
  simp only [Prod.mk.injEq] at h3
  obtain ⟨rfl, rfl⟩ := h3
  have H1 := Lib.hid h1
  have HZ := Lib.hid hz
  clear h1 hz
  go_enter Try.func148, Try.ntmps148
  go_wp2_with (go_at_call 158; refine (hsub w0 _ g s ?hi e1 s1 H1.out).mono ?_; (case hi => exact HI.out.alloc _); rintro en w1 ⟨v1, ⟨rfl, hI1, hk1⟩, hR1⟩; have hbr := hk1.blk (blk_new W _) hne (by simp); have HBR1 := Lib.hid hbr; have hlr1 := heap_lt hbr; have hg1 := hI1.lt; have HI1 := Lib.hid hI1; have HK1 := Lib.hid ((keep_alloc (KeepBut.refl _ _ _) _).trans hk1 (.inl rfl)); have HR1 := Lib.hid hR1; clear hI1 hk1 hR1 hbr; unfold exV)
  have hO : kExpr.R 44 (w1.alloc (.cells #[.int .i64 e1.f0, v1, .int .i64 e1.f2, .int .u64 e1.f3, .int .i64 e1.f4, .int .u64 e1.f5] 44)) (W.heap.size + 1) (fun _ => True) (.slice (some ⟨w1.heap.size, 0, none⟩) 1 1) [e1] :=
    R_one (blk_new w1 _) rfl (by omega) trivial (kExpr_mkM _ _ _ e1 (R_fresh (Kd.R_lower HR1.out (by simp)) _))
  have HO1 := Lib.hid hO
  clear hO HR1
  go_loopg [3, 4] m (fun q v mo wr => ∃ (xs ys : List Expr) (sq : Rd), Hid (moreS sub sOr q sq = some (ys, s2)) ∧ Hid (xs ++ ys = e1 :: zs) ∧ (0 < xs.length ∧ xs.length + q ≤ 1001) ∧ Hid (kExpr.R 44 wr (W.heap.size + 1) (fun _ => True) v xs) ∧ Hid (RdAt w0 wr g sq) ∧ Hid (KeepBut W wr g none) ∧ Hid (wr.heap[W.heap.size]? = some (.cells #[.int .i64 0, .slice none 0 0, .int .i64 0, .int .u64 0, .int .i64 0, .int .u64 0] 44 (0, 0))))
  case atStart => exact ⟨[e1], zs, s1, HZ, Lib.hid rfl, ⟨by simp, by simp; omega⟩, HO1, Lib.hid (HI1.out.alloc _), Lib.hid (keep_alloc HK1.out _), Lib.hid (blk_alloc HBR1.out _)⟩
  case round =>
    clear HO1 HI1 HK1 HBR1 HZ
    obtain ⟨xs, ys, sq, HL, HE, hlen, HO, HIr, HKr, HBr⟩ := hrel
    cases gk with
    | zero => exact absurd HL.out (by simp [moreS])
    | succ q =>
      have hl := HL.out
      clear HL
      simp only [moreS] at hl
      by_cases hx : sq.x = 0
      · rw [if_pos hx] at hl
        obtain ⟨⟨mb, s3⟩, hi, hl⟩ := Option.bind_eq_some_iff.1 hl
        have HS := Lib.hid hi
        clear hi
        obtain ⟨A3, c3, rfl⟩ := Kd.R_slice HO.out
        have hgr := HIr.out.lt
        have hlr := heap_lt HBr.out
        obtain ⟨Ax, cx, hCx, hmx, q0x, q1x, q2x, q3x, q4x, q5x, q6x, z3x, z4x, z5x, z6x⟩ := (HIr.out).facts
        clear q0x q1x q2x q3x q4x q6x z3x z4x z5x z6x hmx hCx
        cases mb with
        | true =>
          rw [if_pos rfl] at hl
          obtain ⟨⟨e2, s4⟩, h2, hl⟩ := Option.bind_eq_some_iff.1 hl
          obtain ⟨⟨ys', s5⟩, hz, hl⟩ := Option.map_eq_some_iff.1 hl
          simp only [Prod.mk.injEq] at hl
          obtain ⟨rfl, rfl⟩ := hl
          have H2 := Lib.hid h2
          have HZ := Lib.hid hz
          clear h2 hz
          go_wp2_with (first | (go_at_call 116; refine (is_calls w0 _ g sq HIr.out 2 sOr _ _ HS.out).mono ?_; rintro en w2 ⟨rfl, hI2, hk2⟩; have hbr := hk2.blk HBr.out hne (by simp); have HBR2 := Lib.hid hbr; have hlr2 := heap_lt hbr; have hg2 := hI2.lt; have HI2 := Lib.hid hI2; have HK2 := Lib.hid (HKr.out.trans hk2 (.inl rfl)); have hsz2 := keep_size hk2; have HO2 := Lib.hid (R_rd HO.out hk2 (by omega)); clear hI2 hk2 hbr) | (go_at_call 158; refine (hsub w0 _ g s3 ?hi e2 s4 H2.out).mono ?_; (case hi => exact HI2.out); rintro en w3 ⟨v3, ⟨rfl, hI3, hk3⟩, hR3⟩; have hbr := hk3.blk HBR2.out hne (by simp); have HBR3 := Lib.hid hbr; have hlr3 := heap_lt hbr; have hg3 := hI3.lt; have HI3 := Lib.hid hI3; have HK3 := Lib.hid (HK2.out.trans hk3 (.inl rfl)); have hsz3 := keep_size hk3; have HO3 := Lib.hid (R_rd HO2.out hk3 (by omega)); have HR3 := Lib.hid hR3; clear hI3 hk3 hbr hR3; unfold exV) | (at_builtin; (refine Kd.R_append kExpr (w0 := w3) (W.heap.size + 1) rfl (.tmp 17) (.tmp 20) 41 44 (.agg #[.int .i64 0, .slice none 0 0, .int .i64 0, .int .u64 0, .int .i64 0, .int .u64 0]) 64 rfl Try.underlying41 infoExpr rfl (by decide) (by omega) (.slice A3 xs.length c3) xs e2 [.int .i64 e2.f0, v3, .int .i64 e2.f2, .int .u64 e2.f3, .int .i64 e2.f4, .int .u64 e2.f5] (fun _ => True) (fun k => w2.heap.size ≤ k) rfl ?aX ?aP ?aK ?aF ?aO ?aB ?aS ?aL ?_; (case aX => simp [Act.eval]); (case aP => exact kExpr_mkM _ _ _ e2 (Kd.R_mono (Kd.R_lower (Kd.R_bound HR3.out) (by omega)) (fun k hk => hk.2.1))); (case aK => exact fun k hk => ⟨trivial, fun he => by have := Kd.R_lt HO2.out k he.symm; omega⟩); (case aF => exact (fun _ _ => trivial)); (case aO => exact HO3.out); (case aB => exact Below.refl _ _); (case aS => omega); (case aL => omega); intro v4 w4 ho hb4 hg4 hat; have HO4 := Lib.hid ho; have HI4 := Lib.hid (HI3.out.upto hb4 (by omega)); have HK4 := Lib.hid (keep_upto HK3.out hb4 (by omega)); have HBR4 := Lib.hid ((hb4.block W.heap.size (by omega)).trans HBR3.out); clear ho hb4 hg4 hat)))
          go_roundg q
          case measure => omega
          case rel => exact ⟨xs ++ [e2], ys', s4, HZ, Lib.hid (by rw [← HE.out]; simp), ⟨by simp, by simp; omega⟩, HO4, HI4, HK4, HBR4⟩
        | false =>
          rw [if_neg (by simp)] at hl
          simp only [Option.some.injEq, Prod.mk.injEq] at hl
          obtain ⟨rfl, rfl⟩ := hl
          have hxs : xs = e1 :: zs := by have := HE.out; rwa [List.append_nil] at this
          subst hxs
          cases zs with
          | nil =>
            obtain ⟨g3, cap3, he, hb3, hl3, _⟩ := Kd.R_form HO.out (by simp)
            injection he with he1 _ he3
            subst he1 he3
            go_wp2_with (first | (go_at_call 116; refine (is_calls w0 _ g sq HIr.out 2 sOr _ _ HS.out).mono ?_; rintro en w2 ⟨rfl, hI2, hk2⟩; have hbr := hk2.blk HBr.out hne (by simp); have HBR2 := Lib.hid hbr; have hlr2 := heap_lt hbr; have hg2 := hI2.lt; have HI2 := Lib.hid hI2; have HK2 := Lib.hid (HKr.out.trans hk2 (.inl rfl)); have hsz2 := keep_size hk2; have hO2 := (R_rd HO.out hk2 (by omega)); obtain ⟨v5, hl5, hr5, hR5⟩ := R_head' hO2; obtain ⟨A5, c5, rfl⟩ := Kd.R_slice hR5; have HR5 := Lib.hid hR5; have HG5 := Lib.hid hr5; clear hI2 hk2 hbr hO2 hR5 hr5) | (refine wpList_load_mid rfl 44 (.tmp 26) rfl g3 0 ?lx [.int .i64 e1.f0, (.slice A5 e1.f1.length c5), .int .i64 e1.f2, .int .u64 e1.f3, .int .i64 e1.f4, .int .u64 e1.f5] _ ?lg Try.underlying44 rfl (by kernel_rfl) ?_; (case lx => rfl); (case lg => exact HG5.out)) | (refine wpl_store 44 (.tmp 2) (.tmp 27) W.heap.size #[.int .i64 e1.f0, (.slice A5 e1.f1.length c5), .int .i64 e1.f2, .int .u64 e1.f3, .int .i64 e1.f4, .int .u64 e1.f5] 44 #[.int .i64 0, .slice none 0 0, .int .i64 0, .int .u64 0, .int .i64 0, .int .u64 0] rfl rfl ?sx ?sy ?sg (by kernel_rfl) rfl (by kernel_rfl) ?_; (case sx => rfl); (case sy => rfl); (case sg => exact HBR2.out)))
            refine bodyPost_ret (results_c rfl _ _ W.heap.size 44 #[.int .i64 e1.f0, (.slice A5 e1.f1.length c5), .int .i64 e1.f2, .int .u64 e1.f3, .int .i64 e1.f4, .int .u64 e1.f5] (0, 0) _ rfl (setRow_heap _ _ _ _ _ _ HBR2.out) Try.underlying44 rfl (by kernel_rfl)) rfl ?_
            exact ⟨.slice A5 e1.f1.length c5, ⟨rfl, RdAt.row HI2.out hne hgs _, keep_row HK2.out (Nat.le_refl _) _⟩, Kd.R_lower (R_row HR5.out (by omega) _) (by omega)⟩
          | cons z zs =>
            have hn1 : ¬ ((e1 :: z :: zs).length : Int) = 1 := by simp; omega
            go_wp2_with (first | (go_at_call 116; refine (is_calls w0 _ g sq HIr.out 2 sOr _ _ HS.out).mono ?_; rintro en w2 ⟨rfl, hI2, hk2⟩; have hbr := hk2.blk HBr.out hne (by simp); have HBR2 := Lib.hid hbr; have hlr2 := heap_lt hbr; have hg2 := hI2.lt; have HI2 := Lib.hid hI2; have HK2 := Lib.hid (HKr.out.trans hk2 (.inl rfl)); have hsz2 := keep_size hk2; have hO2 := (R_rd HO.out hk2 (by omega)); have HO2 := Lib.hid hO2; clear hI2 hk2 hbr hO2) | (refine wpl_store 44 (.tmp 2) (.tmp 29) W.heap.size (#[.int .i64 5, .slice A3 (e1 :: z :: zs).length c3, .int .i64 0, .int .u64 0, .int .i64 0, .int .u64 0]) 44 #[.int .i64 0, .slice none 0 0, .int .i64 0, .int .u64 0, .int .i64 0, .int .u64 0] rfl rfl ?sx ?sy ?sg (by kernel_rfl) rfl (by kernel_rfl) ?_; (case sx => rfl); (case sy => rfl); (case sg => exact HBR2.out)))
            refine bodyPost_ret (results_c rfl _ _ W.heap.size 44 (#[.int .i64 5, .slice A3 (e1 :: z :: zs).length c3, .int .i64 0, .int .u64 0, .int .i64 0, .int .u64 0]) (0, 0) _ rfl (setRow_heap _ _ _ _ _ _ HBR2.out) Try.underlying44 rfl (by kernel_rfl)) rfl ?_
            exact ⟨.slice A3 (e1 :: z :: zs).length c3, ⟨rfl, RdAt.row HI2.out hne hgs _, keep_row HK2.out (Nat.le_refl _) _⟩, Kd.R_lower (R_row HO2.out (by omega) _) (by omega)⟩
      · rw [if_neg hx] at hl
        cases hl
end Go.Proofs.Ytkojnaebkgekaaa
