/- Layer 5 (the document's): all tokens of a text in which nothing is wrong. -/
import Derived.Test.YtkojnaebkgekaaaLexA
import Derived.Deep.LoopGhost
set_option linter.unusedVariables false
set_option linter.unusedSimpArgs false
namespace Go.Proofs.Ytkojnaebkgekaaa
open Go.RowKit Go.Proofs.YtkojnaebkgekaaaW.PrintWords
/-- The next token and the place behind it; none: something is wrong. -/
def nextT (k : Nat) (s : ByteArray) (p : Int) : Option (Token × Int) :=
  if s.size ≤ 65536 ∧ 0 ≤ p ∧ p ≤ s.size then (P.ravelinref05_skip.f k s p).bind fun a =>
    if a = s.size then some (⟨1, ⟨#[]⟩, 0, a⟩, a)
    else if 0 ≤ a ∧ a < s.size then (P.ravelinref05_letter.f (bt s a)).bind fun l => (P.ravelinref05_digit.f (bt s a)).bind fun d =>
      if l = true then (P.ravelinref05_run.f k s a).bind fun e => if a ≤ e ∧ e ≤ s.size ∧ e - a ≤ 32 then some (⟨2, s.extract a.toNat e.toNat, 0, a⟩, e) else none
      else if d = true then (P.ravelinref05_run.f k s a).bind fun e => if a ≤ e ∧ e ≤ s.size then (P.ravelinref05_Number.f k (s.extract a.toNat e.toNat)).bind fun v => if v.2 = true then some (⟨3, s.extract a.toNat e.toNat, v.1, a⟩, e) else none else none
      else (P.ravelinref05_sign.f k s a).bind fun n => if 0 < n ∧ a + n ≤ s.size then some (⟨4, s.extract a.toNat (a + n).toNat, 0, a⟩, a + n) else none
    else none
  else none
theorem nextT_calls (k : Nat) (s : ByteArray) (p e : Int) (t : Token) (w : World) (h : nextT k s p = some (t, e)) :
    Calls Try.prog 157 #[.string s, .int .i64 p] w fun en w' => en = .returned (.tuple #[tokV t, .int .i64 e, .int .i64 0]) ∧ Below w.heap.size w w' := by
  unfold nextT at h
  split at h
  · rename_i hc
    obtain ⟨hs, h0, h1⟩ := hc
    obtain ⟨a, hk, h⟩ := Option.bind_eq_some_iff.1 h
    split at h
    · rename_i ha
      simp only [Option.some.injEq, Prod.mk.injEq] at h
      obtain ⟨rfl, rfl⟩ := h
      exact next_end s p a k w hs h0 h1 hk ha
    · split at h
      · rename_i hc
        obtain ⟨ha0, ha⟩ := hc
        obtain ⟨l, hl, h⟩ := Option.bind_eq_some_iff.1 h
        obtain ⟨d, hd, h⟩ := Option.bind_eq_some_iff.1 h
        cases l with
        | true =>
          rw [if_pos rfl] at h
          obtain ⟨e', hr, h⟩ := Option.bind_eq_some_iff.1 h
          by_cases hc : a ≤ e' ∧ e' ≤ s.size ∧ e' - a ≤ 32
          · rw [if_pos hc] at h
            simp only [Option.some.injEq, Prod.mk.injEq] at h
            obtain ⟨rfl, rfl⟩ := h
            exact next_word s p a e' k d w hs h0 h1 hk ha0 ha hl hd hr hc.1 hc.2.1 hc.2.2
          · rw [if_neg hc] at h
            cases h
        | false =>
          rw [if_neg (by decide)] at h
          cases d with
          | true =>
            rw [if_pos rfl] at h
            obtain ⟨e', hr, h⟩ := Option.bind_eq_some_iff.1 h
            by_cases hc : a ≤ e' ∧ e' ≤ s.size
            · rw [if_pos hc] at h
              obtain ⟨⟨v, b⟩, hv, h⟩ := Option.bind_eq_some_iff.1 h
              dsimp only at h
              cases b with
              | true =>
                rw [if_pos rfl] at h
                simp only [Option.some.injEq, Prod.mk.injEq] at h
                obtain ⟨rfl, rfl⟩ := h
                exact next_num s p a e' v k w hs h0 h1 hk ha0 ha hl hd hr hc.1 hc.2 hv
              | false => rw [if_neg (by decide)] at h; cases h
            · rw [if_neg hc] at h
              cases h
          | false =>
            rw [if_neg (by decide)] at h
            obtain ⟨n, hr, h⟩ := Option.bind_eq_some_iff.1 h
            by_cases hc : 0 < n ∧ a + n ≤ s.size
            · rw [if_pos hc] at h
              simp only [Option.some.injEq, Prod.mk.injEq] at h
              obtain ⟨rfl, rfl⟩ := h
              exact next_sign s p a n (a + n) k w hs h0 h1 hk ha0 ha hl hd hr hc.1 rfl hc.2
            · rw [if_neg hc] at h
              cases h
      · cases h
  · cases h
/-- All tokens from a place on, the end too. -/
def lexS (k : Nat) (s : ByteArray) : Nat → Int → Option (List Token)
  | 0, _ => none
  | f + 1, p => (nextT k s p).bind fun x => if x.1.f0 = 1 then some [x.1] else (lexS k s f x.2).map (x.1 :: ·)
theorem infoTok : (Try.prog.info? 205).map (fun i => (i.zero, i.size, i.bytes)) = some (some (.agg #[.int .i64 0, .string ⟨#[]⟩, .int .u64 0, .int .i64 0]), 4, 40) := by kernel_rfl
set_option maxHeartbeats 1000000 in
theorem toks_calls (k f : Nat) (s : ByteArray) (l : List Token) (w : World) (hn : l.length ≤ 100000) (h : lexS k s f 0 = some l) :
    Calls Try.prog 145 #[.string s] w fun e w' => ∃ v, e = .returned (.tuple #[v, .int .i64 0, .int .i64 0]) ∧ kToken.R 205 w' w.heap.size (fun _ => True) v l ∧ Below w.heap.size w w' := by
  go_enter Try.func145, Try.ntmps145
  go_wp2
  go_loopg [5, 6] f (fun q v i wr => ∃ (xs ys : List Token) (p : Int), i = .int .i64 p ∧ Hid (lexS k s q p = some ys) ∧ Hid (xs ++ ys = l) ∧ Hid (kToken.R 205 wr w.heap.size (fun _ => True) v xs) ∧ Hid (Below w.heap.size w wr))
  case atStart => exact ⟨[], l, 0, rfl, Lib.hid h, Lib.hid rfl, Lib.hid (Kd.R_nil _ _ _ _ _), Lib.hid (Below.refl _ _)⟩
  case round =>
    obtain ⟨xs, ys, p, rfl, HL, HE, HO, HB⟩ := hrel
    cases gk with
    | zero => exact absurd HL.out (by simp [lexS])
    | succ q =>
      have hl := HL.out
      simp only [lexS] at hl
      obtain ⟨⟨t, e⟩, ht, hl⟩ := Option.bind_eq_some_iff.1 hl
      dsimp only at hl
      have HT := Lib.hid ht
      have hsz := HB.out.size
      have hlen : xs.length + 1 ≤ 100000 := by
        have := HE.out
        have h2 : 1 ≤ ys.length := by
          split at hl
          · simp only [Option.some.injEq] at hl; subst hl; simp
          · obtain ⟨zs, _, rfl⟩ := Option.map_eq_some_iff.1 hl; simp
        rw [← this, List.length_append] at hn
        omega
      clear ht HL
      have arm : True := trivial
      by_cases h1 : t.f0 = 1
      · rw [if_pos h1] at hl
        simp only [Option.some.injEq] at hl
        subst hl
        obtain ⟨t0, t1, t2, t3⟩ := t
        dsimp only at h1
        subst h1
        go_wp2_with (first | (go_at_call 157; refine (nextT_calls k _ _ _ _ _ HT.out).mono ?_; rintro en w1 ⟨rfl, hb1⟩; have HB1 := Lib.hid (bl_call HB.out HB.out.size hb1); have HO1 := Lib.hid (Kd.R_below HO.out hb1); have hsz1 := HB1.out.size; clear hb1; unfold tokV) | (at_builtin; (refine Kd.R_append kToken (w0 := w) w.heap.size rfl (.tmp 22) (.tmp 24) 208 205 (.agg #[.int .i64 0, .string ⟨#[]⟩, .int .u64 0, .int .i64 0]) 40 rfl Try.underlying208 infoTok rfl (by decide) (by omega) u5 xs (⟨1, t1, t2, t3⟩ : Token) [.int .i64 1, .string t1, .int .u64 t2, .int .i64 t3] (fun _ => True) (fun _ => False) rfl ?aX ?aP (fun _ hk => hk.elim) ?aF ?aO ?aB ?aS ?aL ?_; (case aX => simp [Act.eval]); (case aP => exact kToken_mkM _ _ _ (⟨1, t1, t2, t3⟩ : Token)); (case aB => have := HB1.out; go_grown); (case aF => exact (fun _ _ => trivial)); (case aO => exact Kd.R_alloc HO1.out _); (case aS => simp; omega); (case aL => omega); intro v1 w2 ho hb2 hg hat; have hbk := (hg.block w1.heap.size (by simp) (fun e => absurd (Kd.R_lt HO1.out _ e.symm) (Nat.lt_irrefl _))).trans (blk_new w1 _); have b0 := heap_cell hbk 0 _ rfl; have hlt2 := heap_lt hbk; have HO2 := Lib.hid ho; have HB2 := Lib.hid hb2; clear ho hb2 hg hat hbk)))
        go_returns
        exact ⟨_, rfl, by have := HO2.out; rwa [HE.out] at this, HB2.out⟩
      · rw [if_neg h1] at hl
        obtain ⟨zs, hz, rfl⟩ := Option.map_eq_some_iff.1 hl
        have HZ := Lib.hid hz
        clear hz hl
        go_wp2_with (first | (go_at_call 157; refine (nextT_calls k _ _ _ _ _ HT.out).mono ?_; rintro en w1 ⟨rfl, hb1⟩; have HB1 := Lib.hid (bl_call HB.out HB.out.size hb1); have HO1 := Lib.hid (Kd.R_below HO.out hb1); have hsz1 := HB1.out.size; clear hb1; unfold tokV) | (at_builtin; (refine Kd.R_append kToken (w0 := w) w.heap.size rfl (.tmp 22) (.tmp 24) 208 205 (.agg #[.int .i64 0, .string ⟨#[]⟩, .int .u64 0, .int .i64 0]) 40 rfl Try.underlying208 infoTok rfl (by decide) (by omega) u5 xs t [.int .i64 t.f0, .string t.f1, .int .u64 t.f2, .int .i64 t.f3] (fun _ => True) (fun _ => False) rfl ?aX ?aP (fun _ hk => hk.elim) ?aF ?aO ?aB ?aS ?aL ?_; (case aX => simp [Act.eval]); (case aP => exact kToken_mkM _ _ _ t); (case aB => have := HB1.out; go_grown); (case aF => exact (fun _ _ => trivial)); (case aO => exact Kd.R_alloc HO1.out _); (case aS => simp; omega); (case aL => omega); intro v1 w2 ho hb2 hg hat; have hbk := (hg.block w1.heap.size (by simp) (fun e => absurd (Kd.R_lt HO1.out _ e.symm) (Nat.lt_irrefl _))).trans (blk_new w1 _); have b0 := heap_cell hbk 0 _ rfl; have hlt2 := heap_lt hbk; have HO2 := Lib.hid ho; have HB2 := Lib.hid hb2; clear ho hb2 hg hat hbk)))
        go_roundg q
        case measure => omega
        case rel => exact ⟨xs ++ [t], zs, e, rfl, HZ, Lib.hid (by rw [← HE.out]; simp), HO2, HB2⟩
end Go.Proofs.Ytkojnaebkgekaaa
