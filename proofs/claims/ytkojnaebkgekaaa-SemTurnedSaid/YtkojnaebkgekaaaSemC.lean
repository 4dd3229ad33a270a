/- Layer 7: names told, call numbers, which expressions may be. -/
import Derived.Test.YtkojnaebkgekaaaSemB
set_option linter.unusedVariables false
set_option linter.unusedSimpArgs false
namespace Go.Proofs.Ytkojnaebkgekaaa
open Go.RowKit Go.Proofs.YtkojnaebkgekaaaW.PrintWords

theorem infoStr : (Try.prog.info? 9).map (fun i => (i.zero, i.size, i.bytes)) = some (some (.string ⟨#[]⟩), 1, 16) := by kernel_rfl
set_option maxHeartbeats 400000 in
theorem names_calls (s : ByteArray) (w : World) :
    Calls Try.prog 20 #[.string s] w fun e w' => ∃ v, e = .returned v ∧ Kd.string.R 9 w' w.heap.size (fun _ => True) v ((tableS s).map Named.f0) ∧ Below w.heap.size w w' := by
  have hm := tableS_len s
  go_enter Try.func20, Try.ntmps20
  go_wp2_with (go_at_call 49; refine (table_calls _ _).mono ?_; rintro e w1 ⟨A, c, rfl, hc, hC, hb⟩; have HC := Lib.hid hC; clear hC; have HB := Lib.hid hb; clear hb)
  go_loopw [3, 5, 9] (fun v x i wr => ∃ k : Nat, k ≤ (tableS s).length ∧ i = .int .i64 k ∧ Hid (Kd.string.R 9 wr w1.heap.size (fun _ => True) v (((tableS s).take k).map Named.f0)) ∧ Hid (Below w1.heap.size w1 wr)) (fun _ _ i _ => (tableS s).length - (intOf i).toNat)
  case atStart => exact ⟨0, Nat.zero_le _, rfl, Lib.hid (by simpa using Kd.R_nil _ _ _ _ _), Lib.hid (Below.refl _ _)⟩
  case round =>
    obtain ⟨k, hk, rfl, HO, HR⟩ := hrel
    by_cases hlt : k < (tableS s).length
    · obtain ⟨b, o, rfl, hb, hat⟩ := at_Named (Kd.C_below HC.out HR.out) (by omega)
      obtain ⟨hx0, hx1⟩ := hat k _ (List.getElem?_eq_getElem hlt)
      clear hat
      have hln : (((tableS s).take k).map Named.f0).length ≤ 24 := by simp; omega
      have hsz := HR.out.size
      have HT : Hid (((tableS s).take (k + 1)).map Named.f0 = ((tableS s).take k).map Named.f0 ++ [(tableS s)[k].f0]) := Lib.hid (by rw [List.take_succ_eq_append_getElem hlt, List.map_append]; rfl)
      go_wp2_with (at_builtin; refine Kd.R_append Kd.string (w0 := w1) w1.heap.size rfl (.tmp 13) (.tmp 16) 54 9 (.string ⟨#[]⟩) 16 rfl Try.underlying54 infoStr rfl (by decide) (by omega) u3 (((tableS s).take k).map Named.f0) ((tableS s)[k].f0) [.string ((tableS s)[k].f0)] (fun _ => True) (fun _ => False) rfl ?aX ?aP (fun _ hk => hk.elim) ?aF ?aO ?aB ?aS ?aL ?_; (case aX => simp [Act.eval]); (case aP => exact rfl); (case aB => have := HR.out; go_grown); (case aF => exact (fun _ _ => trivial)); (case aO => exact Kd.R_alloc HO.out _); (case aS => simp; omega); (case aL => omega); intro v1 w2 ho hb2 hg hat; have HO2 := Lib.hid ho; have HB2 := Lib.hid hb2; clear ho hb2 hg hat)
      go_roundw
      case rel => exact ⟨k + 1, by omega, by go_num, Lib.hid (by rw [HT.out]; exact HO2.out), HB2⟩
      case measure => simp [intOf]; omega
    · have he : k = (tableS s).length := by omega
      have ho := HO.out
      rw [he, List.take_length] at ho
      have HO2 := Lib.hid (Kd.R_lower ho HB.out.size)
      clear ho he
      go_wp2
      go_returns
      exact ⟨_, rfl, HO2.out, bl_call HB.out HB.out.size HR.out⟩

/-! ### sem.number -/
def callNr (arch : ByteArray) (c : Call) : Int × Bool :=
  if c.f0.toList.isEmpty then (c.f1 % 4294967296, c.f1 / 4294967296 == 0) else ((numS arch c.f0).1, (numS arch c.f0).2 && c.f1 == 0)
set_option maxHeartbeats 400000 in
theorem cnum_calls (arch : ByteArray) (nm : ByteArray) (nr : Int) (w : World) (h0 : 0 ≤ nr) (h1 : nr < 18446744073709551616) : Calls Try.prog 42 #[.string arch, .agg #[.string nm, .int .u64 nr]] w (Ret (.tuple #[.int .u32 (callNr arch ⟨nm, nr⟩).1, .bool (callNr arch ⟨nm, nr⟩).2]) w) := by
  go_enter Try.func42, Try.ntmps42
  by_cases hnm : nm.toList.isEmpty = true
  · go_wp2
    go_quiet (fail)
    go_wp2
    go_returns
    exact ⟨by simp [callNr, hnm], by refine pw_below_drewN ?_ _; go_grown⟩
  · have hnm : nm.toList.isEmpty = false := by simpa using hnm
    go_wp2_with (go_at_call 22; refine (number_calls _ _ _).mono ?_; rintro e w1 ⟨rfl, hb⟩; have HB := Lib.hid hb; obtain ⟨hcell1, hfr1⟩ := bcell hb; have hsz1 : w.heap.size < w1.heap.size := (by have := hb.size; simp at this; omega); clear hb)
    have HB2 := Lib.hid (bl_call (bl_alloc (Below.refl _ _) (Nat.le_refl _) _) (by simp) HB.out : Below w.heap.size w w1)
    cases hn : (numS arch nm).2 with
    | true =>
      go_quiet (fail)
      go_wp2
      go_returns
      exact ⟨by simp [callNr, hnm, hn], by refine pw_below_drewN ?_ _; exact HB2.out⟩
    | false =>
      go_quiet (fail)
      go_wp2
      go_returns
      exact ⟨by simp [callNr, hnm, hn], by refine pw_below_drewN ?_ _; exact HB2.out⟩

/-! ### Expressions -/
def argsS (op : Int) : Int × Int := if op == 3 then (1, 1) else if op == 4 || op == 5 then (2, 1099511627776) else (0, 0)
theorem args_calls (op : Int) (w : World) : Calls Try.prog 122 #[.int .i64 op] w (Ret (.tuple #[.int .i64 (argsS op).1, .int .i64 (argsS op).2]) w) := by
  go_enter Try.func122, Try.ntmps122
  go_wp2
  all_goals go_returns
  all_goals refine ⟨?_, Below.refl _ _⟩
  all_goals simp_all [argsS]
def oneS (op : Int) (n : Nat) (field mask rel value : Int) : Int :=
  if op < 1 || 6 < op || (n : Int) < (argsS op).1 || (argsS op).2 < n then 76
  else if op != 6 then 0
  else if field < 0 || 6 < field || rel < 1 || 6 < rel then 76
  else if mask == 0 || bits .andNot .u64 value mask != 0 then 75
  else 0
set_option maxHeartbeats 1000000 in
set_option maxRecDepth 100000 in
theorem sone_calls (op : Int) (A : Option Addr) (n c : Nat) (field mask rel value : Int) (w : World) :
    Calls Try.prog 81 #[.agg #[.int .i64 op, .slice A n c, .int .i64 field, .int .u64 mask, .int .i64 rel, .int .u64 value]] w (Ret (.int .i64 (oneS op n field mask rel value)) w) := by
  have ha : ∃ x y, argsS op = (x, y) := ⟨_, _, rfl⟩
  obtain ⟨x, y, ha⟩ := ha
  have HA := Lib.hid ha
  clear ha
  go_enter Try.func81, Try.ntmps81
  go_wp2_with (go_at_call 122; refine (args_calls _ _).mono ?_; rintro e w1 ⟨rfl, hb⟩; rw [HA.out]; have HB := Lib.hid (bl_call (bl_alloc (Below.refl _ _) (Nat.le_refl _) _) (by simp) hb : Below w.heap.size w w1); obtain ⟨hcell1, hfr1⟩ := bcell hb; have hsz1 : w.heap.size < w1.heap.size := (by have := hb.size; simp at this; omega); clear hb)
  all_goals (go_returns; refine ⟨?_, HB.out⟩; refine ret_int ?_; unfold oneS; rw [HA.out]; clear hcell1 hfr1)
  all_goals simp_all
  all_goals rw [if_neg (by omega), if_neg (by omega)]

mutual
def withinS : Expr → Int → Int
  | ⟨op, l, field, mask, rel, value⟩, d => if d > 200 then 76 else if oneS op l.length field mask rel value != 0 then oneS op l.length field mask rel value else withinL l (d + 1)
def withinL : List Expr → Int → Int
  | [], _ => 0
  | e :: r, d => if withinS e d != 0 then withinS e d else withinL r d
end
theorem withinL_drop (l : List Expr) (k : Nat) (h : k < l.length) (d : Int) : withinL (l.drop k) d = if withinS l[k] d != 0 then withinS l[k] d else withinL (l.drop (k + 1)) d := by
  rw [List.drop_eq_getElem_cons h, withinL]
theorem sizeOf_args {e : Expr} {x : Expr} (h : x ∈ e.f1) : SizeOf.sizeOf x < SizeOf.sizeOf e := by
  have h1 := List.sizeOf_lt_of_mem h
  cases e
  simp only [Expr.mk.sizeOf_spec] at *
  omega
set_option maxHeartbeats 1000000 in
set_option maxRecDepth 100000 in
theorem within_step (N : Nat) (IH : ∀ e : Expr, SizeOf.sizeOf e < N → ∀ (d : Int) (A : Option Addr) (c : Nat) (w : World), 0 ≤ d → d ≤ 201 → kExpr.C w A e.f1.length e.f1 →
      Calls Try.prog 48 #[.agg #[.int .i64 e.f0, .slice A e.f1.length c, .int .i64 e.f2, .int .u64 e.f3, .int .i64 e.f4, .int .u64 e.f5], .int .i64 d] w (Ret (.int .i64 (withinS e d)) w))
    (e : Expr) (he : SizeOf.sizeOf e = N) (d : Int) (A : Option Addr) (c : Nat) (w : World) (h0 : 0 ≤ d) (h1 : d ≤ 201) (hA : kExpr.C w A e.f1.length e.f1) :
      Calls Try.prog 48 #[.agg #[.int .i64 e.f0, .slice A e.f1.length c, .int .i64 e.f2, .int .u64 e.f3, .int .i64 e.f4, .int .u64 e.f5], .int .i64 d] w (Ret (.int .i64 (withinS e d)) w) := by
  have HIH := Lib.hid IH
  have HE := Lib.hid he
  have HC := Lib.hid hA
  have hm := Kd.C_max hA
  clear IH he hA
  by_cases hd : 200 < d
  · have HS : Hid (withinS e d = 76) := Lib.hid (by cases e; rw [withinS, if_pos (by omega)])
    go_enter Try.func48, Try.ntmps48
    go_wp2
    go_returns
    exact ⟨by rw [HS.out]; rfl, by go_grown⟩
  · have HS : Hid (withinS e d = if oneS e.f0 e.f1.length e.f2 e.f3 e.f4 e.f5 != 0 then oneS e.f0 e.f1.length e.f2 e.f3 e.f4 e.f5 else withinL e.f1 (d + 1)) := Lib.hid (by cases e; rw [withinS, if_neg (by omega)])
    generalize hone : oneS e.f0 e.f1.length e.f2 e.f3 e.f4 e.f5 = z at HS
    have HO := Lib.hid hone
    clear hone
    by_cases hz : z = 0
    · subst hz
      have HS2 : Hid (withinS e d = withinL e.f1 (d + 1)) := Lib.hid (by rw [HS.out]; simp)
      clear HS
      go_enter Try.func48, Try.ntmps48
      go_wp2_with (go_at_call 81; refine (sone_calls _ _ _ _ _ _ _ _ _).mono ?_; rintro e' w1 ⟨rfl, hb⟩; rw [HO.out]; have HB := Lib.hid hb; have HBw := Lib.hid (bl_call (bl_alloc (Below.refl _ _) (Nat.le_refl _) _) (by simp) hb : Below w.heap.size w w1); obtain ⟨hcell1, hfr1⟩ := bcell hb; have hsz1 : w.heap.size < w1.heap.size := (by have := hb.size; simp at this; omega); clear hb)
      go_loopw [5, 6] (fun v i wr => ∃ (k : Nat) (z : Int), k ≤ e.f1.length ∧ i = .int .i64 k ∧ v = .int .i64 z ∧ Hid ((z = 0 → withinL e.f1 (d + 1) = withinL (e.f1.drop k) (d + 1)) ∧ (z ≠ 0 → withinL e.f1 (d + 1) = z)) ∧ Hid (Below w1.heap.size w1 wr)) (fun v i _ => e.f1.length - (intOf i).toNat)
      case atStart => exact ⟨0, 0, Nat.zero_le _, rfl, rfl, Lib.hid ⟨fun _ => rfl, fun h => absurd rfl h⟩, Lib.hid (Below.refl _ _)⟩
      case round =>
        obtain ⟨k, z, hk, rfl, rfl, HZ, HR⟩ := hrel
        obtain ⟨hcellr, hfrr⟩ := bcell HR.out
        have hszr := HR.out.size
        have hz0 : w.heap.size < wr.heap.size := by omega
        have HBr := Lib.hid (bl_call HBw.out HBw.out.size HR.out)
        have HCr := Lib.hid (Kd.C_below HC.out HBr.out)
        by_cases hlt : k < e.f1.length
        · by_cases hz : z = 0
          · subst hz
            obtain ⟨b, o, rfl, hb, hat⟩ := at_Expr HCr.out (by omega)
            obtain ⟨A1, c1, hx0, hx1, hx2, hx3, hx4, hx5, hl1, hC1⟩ := hat k _ (List.getElem?_eq_getElem hlt)
            have HC1 := Lib.hid hC1
            clear hat hC1
            have hI := HIH.out e.f1[k] (by rw [← HE.out]; exact sizeOf_args (List.getElem_mem _)) (d + 1) A1 c1 wr (by omega) (by omega) HC1.out
            have HI := Lib.hid hI
            clear hI
            go_wp2_with (go_at_call 48; refine (HI.out).mono ?_; rintro e' w2 ⟨rfl, hb2⟩; have HB2 := Lib.hid hb2; clear hb2)
            go_roundw
            case rel =>
              refine ⟨k + 1, withinS e.f1[k] (d + 1), by omega, by go_num, rfl, Lib.hid ⟨fun h => ?_, fun h => ?_⟩, Lib.hid (bl_call HR.out HR.out.size HB2.out)⟩
              · rw [HZ.out.1 (by first | rfl | trivial), withinL_drop _ _ hlt, h]; rfl
              · rw [HZ.out.1 (by first | rfl | trivial), withinL_drop _ _ hlt, if_pos (by simpa using h)]
            case measure => simp [intOf]; omega
          · have HS3 : Hid (withinS e d = z) := Lib.hid (by rw [HS2.out]; exact HZ.out.2 hz)
            go_wp2
            go_returns
            exact ⟨by rw [HS3.out]; rfl, HBr.out⟩
        · have he : k = e.f1.length := by omega
          have HS3 : Hid (withinS e d = z) := Lib.hid (by
            rw [HS2.out]
            by_cases hz : z = 0
            · rw [HZ.out.1 hz, he, List.drop_length, withinL, hz]
            · exact HZ.out.2 hz)
          clear he
          go_wp2
          go_returns
          exact ⟨by rw [HS3.out]; rfl, HBr.out⟩
    · have HS2 : Hid (withinS e d = z) := Lib.hid (by rw [HS.out, if_pos (by simpa using hz)])
      clear HS
      have hzb : (z == 0) = false := by simpa using hz
      go_enter Try.func48, Try.ntmps48
      go_wp2_with (go_at_call 81; refine (sone_calls _ _ _ _ _ _ _ _ _).mono ?_; rintro e' w1 ⟨rfl, hb⟩; rw [HO.out]; have HB := Lib.hid hb; have HBw := Lib.hid (bl_call (bl_alloc (Below.refl _ _) (Nat.le_refl _) _) (by simp) hb : Below w.heap.size w w1); obtain ⟨hcell1, hfr1⟩ := bcell hb; have hsz1 : w.heap.size < w1.heap.size := (by have := hb.size; simp at this; omega); clear hb)
      refine wp_loop_rounds 1 ?_
      rw [rounds_succ]
      go_wp2
      all_goals (go_returns; exact ⟨by rw [HS2.out]; rfl, HBw.out⟩)
theorem within_calls (e : Expr) (d : Int) (A : Option Addr) (c : Nat) (w : World) (h0 : 0 ≤ d) (h1 : d ≤ 201) (hA : kExpr.C w A e.f1.length e.f1) :
      Calls Try.prog 48 #[.agg #[.int .i64 e.f0, .slice A e.f1.length c, .int .i64 e.f2, .int .u64 e.f3, .int .i64 e.f4, .int .u64 e.f5], .int .i64 d] w (Ret (.int .i64 (withinS e d)) w) := by
  suffices h : ∀ N, ∀ e : Expr, SizeOf.sizeOf e < N → ∀ (d : Int) (A : Option Addr) (c : Nat) (w : World), 0 ≤ d → d ≤ 201 → kExpr.C w A e.f1.length e.f1 →
      Calls Try.prog 48 #[.agg #[.int .i64 e.f0, .slice A e.f1.length c, .int .i64 e.f2, .int .u64 e.f3, .int .i64 e.f4, .int .u64 e.f5], .int .i64 d] w (Ret (.int .i64 (withinS e d)) w) from
    h _ e (Nat.lt_succ_self _) d A c w h0 h1 hA
  intro N
  induction N with
  | zero => intro e he; omega
  | succ N ih =>
    intro e he d A c w h0 h1 hA
    rcases Nat.lt_or_ge (SizeOf.sizeOf e) N with h | h
    · exact ih e h d A c w h0 h1 hA
    · exact within_step N ih e (by omega) d A c w h0 h1 hA
def exprS (e : Expr) : Int := withinS e 0
theorem expr_calls (e : Expr) (A : Option Addr) (c : Nat) (w : World) (hA : kExpr.C w A e.f1.length e.f1) :
      Calls Try.prog 17 #[.agg #[.int .i64 e.f0, .slice A e.f1.length c, .int .i64 e.f2, .int .u64 e.f3, .int .i64 e.f4, .int .u64 e.f5]] w (Ret (.int .i64 (exprS e)) w) := by
  have HC := Lib.hid hA
  clear hA
  go_enter Try.func17, Try.ntmps17
  go_wp2_with (go_at_call 48; refine (within_calls e 0 A c _ (by omega) (by omega) (Kd.C_alloc HC.out _)).mono ?_; rintro e' w1 ⟨rfl, hb⟩; have HB := Lib.hid (bl_call (bl_alloc (Below.refl _ _) (Nat.le_refl _) _) (by simp) hb : Below w.heap.size w w1); clear hb)
  go_returns
  exact ⟨rfl, HB.out⟩
end Go.Proofs.Ytkojnaebkgekaaa
