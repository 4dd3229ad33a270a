/- Layer 7: which rules and policies may be. -/
import Derived.Test.YtkojnaebkgekaaaSemC
set_option linter.unusedVariables false
set_option linter.unusedSimpArgs false
namespace Go.Proofs.Ytkojnaebkgekaaa
open Go.RowKit Go.Proofs.YtkojnaebkgekaaaW.PrintWords

def Call.wf (c : Call) : Prop := 0 ≤ c.f1 ∧ c.f1 < 18446744073709551616
def Verdict.wf (v : Verdict) : Prop := 0 ≤ v.f1 ∧ v.f1 < 18446744073709551616
def Rule.wf (x : Rule) : Prop := (∀ c ∈ x.f0, c.wf) ∧ x.f2.wf
def Policy.wf (p : Policy) : Prop := p.f1.wf ∧ p.f2.wf ∧ ∀ x ∈ p.f3, x.wf

def callsS (arch : ByteArray) : List Call → List Int → Int
  | [], _ => 0
  | c :: r, met => if (callNr arch c).2 then (if met.contains (callNr arch c).1 then 74 else callsS arch r (met ++ [(callNr arch c).1])) else 73
def ruleS (arch : ByteArray) (x : Rule) : Int :=
  if x.f0.isEmpty then 73
  else if callsS arch x.f0 [] != 0 then callsS arch x.f0 []
  else if exprS x.f1 != 0 then exprS x.f1
  else if (actS x.f2).2 then 0 else 72
def ones (met : List Int) : List (Int × Int) := met.map fun n => (n, 1)
theorem ones_lookup_none {met : List Int} {n : Int} (h : met.contains n = false) : (ones met).lookup n = none := by
  induction met with
  | nil => rfl
  | cons a r ih =>
    simp only [List.contains_cons, Bool.or_eq_false_iff] at h
    simp only [ones, List.map_cons, List.lookup_cons, h.1]
    exact ih h.2
theorem ones_lookup_some {met : List Int} {n : Int} (h : met.contains n = true) : (ones met).lookup n = some 1 ∧ ∃ i, (ones met).findIdx? (fun p => n == p.1) = some i := by
  induction met with
  | nil => simp at h
  | cons a r ih =>
    simp only [List.contains_cons, Bool.or_eq_true] at h
    simp only [ones, List.map_cons, List.lookup_cons, List.findIdx?_cons]
    cases hc : (n == a) with
    | true => simp
    | false =>
      rcases h with h | h
      · rw [hc] at h; cases h
      · obtain ⟨h1, i, hi⟩ := ih h
        refine ⟨h1, i + 1, ?_⟩
        simp only [ones] at hi
        simp [hi]
theorem ones_snoc (met : List Int) (n : Int) : ones met ++ [(n, 1)] = ones (met ++ [n]) := by simp [ones]
theorem lookup_snoc {met : List Int} {n : Int} (h : met.contains n = false) : (ones (met ++ [n])).lookup n = some 1 := by
  induction met with
  | nil => simp [ones]
  | cons a r ih =>
    simp only [List.contains_cons, Bool.or_eq_false_iff] at h
    simp only [ones, List.cons_append, List.map_cons, List.lookup_cons, h.1]
    exact ih h.2
theorem callsS_drop (arch : ByteArray) (l : List Call) (k : Nat) (h : k < l.length) (met : List Int) : callsS arch (l.drop k) met = if (callNr arch l[k]).2 then (if met.contains (callNr arch l[k]).1 then 74 else callsS arch (l.drop (k + 1)) (met ++ [(callNr arch l[k]).1])) else 73 := by
  rw [List.drop_eq_getElem_cons h, callsS]
theorem hu140 : Try.prog.underlying 140 = some (.map 29 3) := Try.underlying140
theorem key32 : KeyOk Try.prog 29 (Value.int .u32) := keyOk_int Try.underlying29
theorem zeroInt (w : World) : (zeroValue 3).run Try.prog w = .ok (.int .i64 0) w := by kernel_rfl

set_option maxHeartbeats 1000000 in
set_option maxRecDepth 100000 in
theorem srule_calls (arch : ByteArray) (x : Rule) (hwf : x.wf) (A0 A2 : Option Addr) (c0 c2 : Nat) (w : World) (h0 : kCall.C w A0 x.f0.length x.f0) (h2 : kExpr.C w A2 x.f1.f1.length x.f1.f1) :
    Calls Try.prog 38 #[.string arch, .agg #[.slice A0 x.f0.length c0, .int .i64 x.f1.f0, .slice A2 x.f1.f1.length c2, .int .i64 x.f1.f2, .int .u64 x.f1.f3, .int .i64 x.f1.f4, .int .u64 x.f1.f5, .int .i64 x.f2.f0, .int .u64 x.f2.f1]] w (Ret (.int .i64 (ruleS arch x)) w) := by
  have hm := Kd.C_max h0
  have HC0 := Lib.hid h0
  have HC2 := Lib.hid h2
  have HW := Lib.hid hwf
  clear h0 h2 hwf
  by_cases hn : x.f0.length = 0
  · have HS : Hid (ruleS arch x = 73) := Lib.hid (by unfold ruleS; rw [if_pos (by simpa [List.length_eq_zero_iff] using hn)])
    have hn' : ((x.f0.length : Int) == 0) = true := by simp [hn]
    clear hn
    go_enter Try.func38, Try.ntmps38
    go_wp2
    go_returns
    exact ⟨by rw [HS.out]; rfl, by go_grown⟩
  · have hn' : ((x.f0.length : Int) == 0) = false := by simp; intro h; exact hn (by rw [h]; rfl)
    have HS : Hid (ruleS arch x = if callsS arch x.f0 [] != 0 then callsS arch x.f0 [] else if exprS x.f1 != 0 then exprS x.f1 else if (actS x.f2).2 then 0 else 72) := Lib.hid (by unfold ruleS; rw [if_neg (by simp [List.isEmpty_iff]; intro h; exact hn (by rw [h]; rfl))])
    have hmm := @run_makeMap Try.prog
    go_enter Try.func38, Try.ntmps38
    go_wp2
    clear hmm
    obtain ⟨W0, hW0⟩ : ∃ W0, W0 = w.alloc (.cells #[.slice A0 x.f0.length c0, .int .i64 x.f1.f0, .slice A2 x.f1.f1.length c2, .int .i64 x.f1.f2, .int .u64 x.f1.f3, .int .i64 x.f1.f4, .int .u64 x.f1.f5, .int .i64 x.f2.f0, .int .u64 x.f2.f1] 46) := ⟨_, rfl⟩
    have HW0 := Lib.hid hW0
    have hs0 : w.heap.size + 1 ≤ W0.heap.size := by rw [hW0]; simp
    have HB0 : Hid (Below w.heap.size w W0) := Lib.hid (by rw [hW0]; go_grown)
    have HX0 : Hid (∀ j v, #[Value.slice A0 x.f0.length c0, .int .i64 x.f1.f0, .slice A2 x.f1.f1.length c2, .int .i64 x.f1.f2, .int .u64 x.f1.f3, .int .i64 x.f1.f4, .int .u64 x.f1.f5, .int .i64 x.f2.f0, .int .u64 x.f2.f1][j]? = some v → W0.cell? ⟨w.heap.size, j, none⟩ = some v) := Lib.hid (by intro j v hv; rw [hW0, World.cell?_alloc_new]; exact hv)
    have hR0 : Below (w.heap.size + 1) W0 (W0.alloc (.map #[] 0)) := (Below.refl _ _).alloc hs0 _
    have HR0 := Lib.hid hR0
    have hM0 : ((w.alloc (.cells #[.slice A0 x.f0.length c0, .int .i64 x.f1.f0, .slice A2 x.f1.f1.length c2, .int .i64 x.f1.f2, .int .u64 x.f1.f3, .int .i64 x.f1.f4, .int .u64 x.f1.f5, .int .i64 x.f2.f0, .int .u64 x.f2.f1] 46)).alloc (.map #[] 0)).heap[w.heap.size + 1]? = some (mapObj (Value.int .u32) (Value.int .i64) (ones [])) := by
      have := heap_alloc_new (w.alloc (.cells #[.slice A0 x.f0.length c0, .int .i64 x.f1.f0, .slice A2 x.f1.f1.length c2, .int .i64 x.f1.f2, .int .u64 x.f1.f3, .int .i64 x.f1.f4, .int .u64 x.f1.f5, .int .i64 x.f2.f0, .int .u64 x.f2.f1] 46)) (.map #[] 0)
      simpa [mapObj, mapEs, ones] using this
    have HM0 := Lib.hid hM0
    clear hW0 hR0 hM0
    go_loopw [21] (fun i wr => ∃ (k : Nat) (met : List Int), k ≤ x.f0.length ∧ i = .int .i64 k ∧ Hid (callsS arch x.f0 [] = callsS arch (x.f0.drop k) met) ∧ Hid (wr.heap[w.heap.size + 1]? = some (mapObj (Value.int .u32) (Value.int .i64) (ones met))) ∧ Hid (Below (w.heap.size + 1) W0 wr)) (fun i _ => x.f0.length - (intOf i).toNat)
    case atStart => exact ⟨0, [], Nat.zero_le _, rfl, Lib.hid rfl, HM0, Lib.hid (by rw [← HW0.out]; exact HR0.out)⟩
    case round =>
      obtain ⟨k, met, hk, rfl, HZ, HM, HR⟩ := hrel
      have HBr : Hid (Below w.heap.size w wr) := Lib.hid (HB0.out.trans (HR.out.mono (by omega)))
      have hszr : w.heap.size + 1 < wr.heap.size := blk_lt HM.out
      have HC0r := Lib.hid (Kd.C_below HC0.out HBr.out)
      by_cases hlt : k < x.f0.length
      · obtain ⟨b, o, rfl, hb, hat⟩ := at_Call HC0r.out (by omega)
        obtain ⟨hx0, hx1⟩ := hat k _ (List.getElem?_eq_getElem hlt)
        clear hat
        have HD := Lib.hid (callsS_drop arch x.f0 k hlt met)
        have HWc := Lib.hid (HW.out.1 _ (List.getElem_mem hlt))
        go_wp2_with fail
        refine (cnum_calls arch _ _ _ HWc.out.1 HWc.out.2).mono ?_
        rintro e w2 ⟨rfl, hb2⟩
        have hM2 : w2.heap[w.heap.size + 1]? = some (mapObj (Value.int .u32) (Value.int .i64) (ones met)) := (hb2.block _ (by simp; omega)).trans (blk_alloc HM.out _)
        have HM2 := Lib.hid hM2
        have HR2 : Hid (Below (w.heap.size + 1) W0 w2) := Lib.hid (bl_call (HR.out.alloc (by omega) _) (by simp; omega) hb2)
        have hz2 : w.heap.size + 1 < w2.heap.size := blk_lt HM2.out
        clear hM2 hb2
        generalize callNr arch ⟨x.f0[k].f0, x.f0[k].f1⟩ = q at *
        obtain ⟨n, ok⟩ := q
        have HX : Hid (callsS arch x.f0 [] = if ok then (if met.contains n then 74 else callsS arch (x.f0.drop (k + 1)) (met ++ [n])) else 73) := Lib.hid (by rw [HZ.out, HD.out])
        clear HD HZ
        cases ok with
        | false =>
          have HS3 : Hid (ruleS arch x = 73) := Lib.hid (by rw [HS.out, HX.out]; rfl)
          go_wp2
          go_returns
          exact ⟨by rw [HS3.out]; rfl, HB0.out.trans (HR2.out.mono (by omega))⟩
        | true =>
          cases hmet : met.contains n with
          | false =>
            have hl1 : (Instr.lookup 140 (.map (some (w.heap.size + 1))) (.int .u32 n) false).run Try.prog w2 = .ok (.int .i64 0) w2 := by
              rw [run_lookup_one hu140 key32 (.int .i64 0) zeroInt w2 _ _ (.of_obj HM2.out) n, ones_lookup_none hmet]
            have HX2 : Hid (callsS arch x.f0 [] = callsS arch (x.f0.drop (k + 1)) (met ++ [n])) := Lib.hid (by rw [HX.out, hmet]; rfl)
            have HL := Lib.hid hmet
            clear hmet HX
            go_wp2_with (at_mapUpdate; refine wpList_insert (kenc := Value.int .u32) (venc := Value.int .i64) rfl (.tmp 33) (.tmp 34) (.tmp 36) rfl hu140 key32 (w.heap.size + 1) (ones met) n 1 ?hx ?hy ?hz HM2.out (ones_lookup_none HL.out) ?_; (case hx => rfl); (case hy => rfl); (case hz => rfl); intro w3 hm3 hg3; rw [ones_snoc] at hm3; have hl3 : (Instr.lookup 140 (.map (some (w.heap.size + 1))) (.int .u32 n) false).run Try.prog w3 = .ok (.int .i64 1) w3 := (by rw [run_lookup_one hu140 key32 (.int .i64 0) zeroInt w3 _ _ (.of_obj hm3) n, lookup_snoc HL.out]); have HM3 := Lib.hid hm3; have HR3 := Lib.hid (below_grown HR2.out (by omega) hg3 (Nat.le_refl _)); clear hm3 hg3 hl1)
            go_roundw
            case rel => exact ⟨k + 1, met ++ [n], by omega, by go_num, HX2, HM3, HR3⟩
            case measure => simp [intOf]; omega
          | true =>
            have HS3 : Hid (ruleS arch x = 74) := Lib.hid (by rw [HS.out, HX.out, hmet]; rfl)
            obtain ⟨h1, i, hi⟩ := ones_lookup_some hmet
            have hl1 : (Instr.lookup 140 (.map (some (w.heap.size + 1))) (.int .u32 n) false).run Try.prog w2 = .ok (.int .i64 1) w2 := by
              rw [run_lookup_one hu140 key32 (.int .i64 0) zeroInt w2 _ _ (.of_obj HM2.out) n, h1]
            have HI := Lib.hid hi
            clear hmet HX hi h1
            go_wp2_with (at_mapUpdate; refine wpList_update (kenc := Value.int .u32) (venc := Value.int .i64) rfl (.tmp 33) (.tmp 34) (.tmp 36) rfl hu140 key32 sameBits_int (w.heap.size + 1) (ones met) n 2 i HI.out ?hx ?hy ?hz (.of_obj HM2.out) ?_; (case hx => rfl); (case hy => rfl); (case hz => rfl); intro w3 hm3 hg3; have hl3 : (Instr.lookup 140 (.map (some (w.heap.size + 1))) (.int .u32 n) false).run Try.prog w3 = .ok (.int .i64 2) w3 := (by rw [run_lookup_one hu140 key32 (.int .i64 0) zeroInt w3 _ _ hm3 n, lookup_set _ _ _ (by simp) i HI.out]); have HR3 := Lib.hid (below_grown HR2.out (by omega) hg3 (Nat.le_refl _)); clear hm3 hg3 hl1)
            go_returns
            exact ⟨by rw [HS3.out]; rfl, HB0.out.trans (HR3.out.mono (by omega))⟩
      · have he : k = x.f0.length := by omega
        have HX : Hid (callsS arch x.f0 [] = 0) := Lib.hid (by rw [HZ.out, he, List.drop_length, callsS])
        clear HZ he
        have hw2 := HW.out.2
        have hcr : ∀ j v, #[Value.slice A0 x.f0.length c0, .int .i64 x.f1.f0, .slice A2 x.f1.f1.length c2, .int .i64 x.f1.f2, .int .u64 x.f1.f3, .int .i64 x.f1.f4, .int .u64 x.f1.f5, .int .i64 x.f2.f0, .int .u64 x.f2.f1][j]? = some v → wr.cell? ⟨w.heap.size, j, none⟩ = some v := fun j v hv => (HR.out.cell (p := ⟨w.heap.size, j, none⟩) (by simp)).trans (HX0.out j v hv)
        have h1 := hcr 1 _ rfl
        have h2 := hcr 2 _ rfl
        have h3 := hcr 3 _ rfl
        have h4 := hcr 4 _ rfl
        have h5 := hcr 5 _ rfl
        have h6 := hcr 6 _ rfl
        have h7 := hcr 7 _ rfl
        have h8 := hcr 8 _ rfl
        have HC2r := Lib.hid (Kd.C_below HC2.out HBr.out)
        clear hcr
        have HS4 : Hid (ruleS arch x = if exprS x.f1 != 0 then exprS x.f1 else if (actS x.f2).2 then 0 else 72) := Lib.hid (by rw [HS.out, HX.out]; rfl)
        clear HX HS
        generalize hez : exprS x.f1 = z at HS4
        have HEZ := Lib.hid hez
        clear hez
        by_cases hz : z = 0
        · subst hz
          have HS5 : Hid (ruleS arch x = if (actS x.f2).2 then 0 else 72) := Lib.hid (by rw [HS4.out]; rfl)
          clear HS4
          generalize hact : actS x.f2 = q at HS5
          have HACT := Lib.hid hact
          clear hact
          obtain ⟨u, ok⟩ := q
          go_wp2_with (first | (go_at_call 17; refine (expr_calls x.f1 A2 c2 _ HC2r.out).mono ?_; rintro e w2 ⟨rfl, hb2⟩; rw [HEZ.out]; have HB2 := Lib.hid hb2; obtain ⟨hcl, hfl⟩ := bcell hb2; have hs2 := hb2.size; have hz2 : w.heap.size < w2.heap.size := (by omega); have hz1 : w.heap.size < wr.heap.size := (by omega); clear hb2) | (go_at_call 24; refine (act_calls x.f2 _ hw2.1 hw2.2).mono ?_; rintro e w3 ⟨rfl, hb3⟩; rw [HACT.out]; have HB3 := Lib.hid hb3; clear hb3))
          all_goals (go_returns; have hb4 := bl_call HBr.out HBr.out.size HB2.out; refine ⟨ret_int ?_, bl_call hb4 hb4.size HB3.out⟩; rw [HS5.out]; cases ok <;> simp_all)
        · have HS5 : Hid (ruleS arch x = z) := Lib.hid (by rw [HS4.out, if_pos (by simpa using hz)])
          have hzb : (z == 0) = false := by simpa using hz
          go_wp2_with (go_at_call 17; refine (expr_calls x.f1 A2 c2 _ HC2r.out).mono ?_; rintro e w2 ⟨rfl, hb2⟩; rw [HEZ.out]; have HB2 := Lib.hid hb2; clear hb2)
          go_returns
          exact ⟨by rw [HS5.out]; rfl, bl_call HBr.out HBr.out.size HB2.out⟩

/-! ### Check -/
def rulesS (arch : ByteArray) : List Rule → Int → Int × Int
  | [], _ => (0, 0)
  | x :: r, i => if ruleS arch x != 0 then (ruleS arch x, i) else rulesS arch r (i + 1)
def checkS (p : Policy) : Int × Int :=
  if !(archS p.f0).2 then (71, -1)
  else if !(actS p.f1).2 || !(actS p.f2).2 then (72, -1)
  else if 512 < p.f3.length then (2, -1)
  else rulesS p.f0 p.f3 0
theorem rulesS_drop (arch : ByteArray) (l : List Rule) (k : Nat) (h : k < l.length) (i : Int) : rulesS arch (l.drop k) i = if ruleS arch l[k] != 0 then (ruleS arch l[k], i) else rulesS arch (l.drop (k + 1)) (i + 1) := by
  rw [List.drop_eq_getElem_cons h, rulesS]
set_option maxHeartbeats 1000000 in
set_option maxRecDepth 100000 in
theorem check_calls (p : Policy) (hwf : p.wf) (A : Option Addr) (c : Nat) (w : World) (h3 : kRule.C w A p.f3.length p.f3) :
    Calls Try.prog 11 #[.agg #[.string p.f0, .int .i64 p.f1.f0, .int .u64 p.f1.f1, .int .i64 p.f2.f0, .int .u64 p.f2.f1, .slice A p.f3.length c]] w (Ret (.tuple #[.int .i64 (checkS p).1, .int .i64 (checkS p).2]) w) := by
  have hm := Kd.C_max h3
  have HC := Lib.hid h3
  have HW := Lib.hid hwf
  clear h3 hwf
  cases har : (archS p.f0).2 with
  | false =>
    have HS : Hid (checkS p = (71, -1)) := Lib.hid (by unfold checkS; rw [har]; rfl)
    go_enter Try.func11, Try.ntmps11
    go_wp2_with (go_at_call 18; refine (arch_calls _ _).mono ?_; rintro e w1 ⟨rfl, hb⟩; have HB := Lib.hid (bl_call (bl_alloc (Below.refl _ _) (Nat.le_refl _) _) (by simp) hb : Below w.heap.size w w1); clear hb)
    go_returns
    exact ⟨by rw [HS.out]; rfl, HB.out⟩
  | true =>
    have hw1 := HW.out.1
    have hw2 := HW.out.2.1
    go_enter Try.func11, Try.ntmps11
    go_wp2_with fail
    refine (arch_calls _ _).mono ?_
    rintro e w1 ⟨rfl, hb⟩
    have HB := Lib.hid (bl_call (bl_alloc (Below.refl _ _) (Nat.le_refl _) _) (by simp) hb : Below w.heap.size w w1)
    have X1 := (Box.new _ _ _).below hb
    have hz1 : w.heap.size < w1.heap.size := by have := hb.size; simp at this; omega
    clear hb
    have x1 := X1 1 _ rfl
    have x2 := X1 2 _ rfl
    have x3 := X1 3 _ rfl
    have x4 := X1 4 _ rfl
    go_wp2
    clear x1 x2 x3 x4
    refine wp_loop_rounds 3 ?_
    rw [rounds_succ]
    go_wp2_with fail
    refine (act_calls p.f1 _ hw1.1 hw1.2).mono ?_
    rintro e w2 ⟨rfl, hb⟩
    have HB2 := Lib.hid (bl_call (HB.out.alloc HB.out.size _ |>.alloc (by have := HB.out.size; simp; omega) _) (by have := HB.out.size; simp; omega) hb)
    have X2 := ((X1.alloc _).alloc _).below hb
    have Y2 := ((Box.new w1 _ _).alloc _).below hb
    have hz2 : w1.heap.size < w2.heap.size := by have := hb.size; simp at this; omega
    have hz2' : w.heap.size < w2.heap.size := by omega
    clear hb
    cases ha1 : (actS p.f1).2 with
    | false =>
      have HS : Hid (checkS p = (72, -1)) := Lib.hid (by unfold checkS; rw [har, ha1]; rfl)
      go_wp2
      go_returns
      exact ⟨by rw [HS.out]; rfl, HB2.out⟩
    | true =>
      have y2 := Y2 2 _ rfl
      have y3 := Y2 3 _ rfl
      go_wp2
      rw [rounds_succ]
      go_wp2_with fail
      refine (act_calls p.f2 _ hw2.1 hw2.2).mono ?_
      rintro e w3 ⟨rfl, hb⟩
      have HB3 := Lib.hid (bl_call (HB2.out.alloc HB2.out.size _) (by have := HB2.out.size; simp; omega) hb)
      have X3 := (X2.alloc _).below hb
      have hz3' : w.heap.size < w3.heap.size := by have := hb.size; simp at this; omega
      clear hb y2 y3
      cases ha2 : (actS p.f2).2 with
      | false =>
        have HS : Hid (checkS p = (72, -1)) := Lib.hid (by unfold checkS; rw [har, ha1, ha2]; rfl)
        go_wp2
        go_returns
        exact ⟨by rw [HS.out]; rfl, HB3.out⟩
      | true =>
        go_wp2
        rw [rounds_succ]
        have x5 := X3 5 _ rfl
        by_cases hlen : 512 < p.f3.length
        · have HS : Hid (checkS p = (2, -1)) := Lib.hid (by unfold checkS; rw [har, ha1, ha2, if_pos hlen]; rfl)
          go_wp2
          go_returns
          exact ⟨by rw [HS.out]; rfl, HB3.out⟩
        · have HS : Hid (checkS p = rulesS p.f0 p.f3 0) := Lib.hid (by unfold checkS; rw [har, ha1, ha2, if_neg hlen]; rfl)
          go_wp2
          go_loopw [46] (fun i wr => ∃ k : Nat, k ≤ p.f3.length ∧ i = .int .i64 k ∧ Hid (checkS p = rulesS p.f0 (p.f3.drop k) k) ∧ Hid (Below w3.heap.size w3 wr)) (fun i _ => p.f3.length - (intOf i).toNat)
          case atStart => exact ⟨0, Nat.zero_le _, rfl, HS, Lib.hid (Below.refl _ _)⟩
          case round =>
            obtain ⟨k, hk, rfl, HZ, HR⟩ := hrel
            have HBr := Lib.hid (bl_call HB3.out HB3.out.size HR.out)
            have Xr := X3.below HR.out
            have hzr : w.heap.size < wr.heap.size := by have := HR.out.size; omega
            by_cases hlt : k < p.f3.length
            · have HCr := Lib.hid (Kd.C_below HC.out HBr.out)
              obtain ⟨b, o, rfl, hb, hat⟩ := at_Rule HCr.out (by omega)
              obtain ⟨A0, c0, A2, c2, h0, h1, h2, h3, h4, h5, h6, h7, h8, hl0, hC0, hl2, hC2⟩ := hat k _ (List.getElem?_eq_getElem hlt)
              have HC0 := Lib.hid hC0
              have HC2 := Lib.hid hC2
              have HD := Lib.hid (rulesS_drop p.f0 p.f3 k hlt k)
              have HWx := Lib.hid (HW.out.2.2 _ (List.getElem_mem hlt))
              have x0 := Xr 0 _ rfl
              clear hat hC0 hC2
              go_wp2_with fail
              refine (srule_calls p.f0 _ HWx.out A0 A2 c0 c2 _ (Kd.C_alloc HC0.out _) (Kd.C_alloc HC2.out _)).mono ?_
              rintro e w4 ⟨rfl, hb4⟩
              have HR4 := Lib.hid (bl_call (HR.out.alloc HR.out.size _) (by have := HR.out.size; simp; omega) hb4)
              clear hb4
              by_cases hz : ruleS p.f0 p.f3[k] = 0
              · have HZ2 : Hid (checkS p = rulesS p.f0 (p.f3.drop (k + 1)) ((k + 1 : Nat) : Int)) := Lib.hid (by rw [HZ.out, HD.out, if_neg (by simpa using hz)]; simp)
                have hzb : (ruleS p.f0 p.f3[k] == 0) = true := by simpa using hz
                clear hz
                go_wp2
                go_roundw
                case rel => exact ⟨k + 1, by omega, by go_num, HZ2, HR4⟩
                case measure => simp [intOf]; omega
              · have HZ2 : Hid (checkS p = (ruleS p.f0 p.f3[k], (k : Int))) := Lib.hid (by rw [HZ.out, HD.out, if_pos (by simpa using hz)])
                have hzb : (ruleS p.f0 p.f3[k] == 0) = false := by simpa using hz
                clear hz
                go_wp2
                go_returns
                exact ⟨by rw [HZ2.out]; rfl, bl_call HB3.out HB3.out.size HR4.out⟩
            · have he : k = p.f3.length := by omega
              have HZ2 : Hid (checkS p = (0, 0)) := Lib.hid (by rw [HZ.out, he, List.drop_length, rulesS])
              clear he
              go_wp2
              go_returns
              exact ⟨by rw [HZ2.out]; rfl, HBr.out⟩
end Go.Proofs.Ytkojnaebkgekaaa
