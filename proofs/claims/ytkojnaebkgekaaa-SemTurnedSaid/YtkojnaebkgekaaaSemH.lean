/- Layer 7: Eval. -/
import Derived.Test.YtkojnaebkgekaaaSemG
set_option linter.unusedVariables false
set_option linter.unusedSimpArgs false
namespace Go.Proofs.Ytkojnaebkgekaaa
open Go.RowKit Go.Proofs.YtkojnaebkgekaaaW.PrintWords
theorem heap_second (w : World) (o1 o2 : Obj) : ((w.alloc o1).alloc o2).heap[w.heap.size + 1]? = some o2 := by
  have h := heap_alloc_new (w.alloc o1) o2
  have e : (w.alloc o1).heap.size = w.heap.size + 1 := by simp
  rw [e] at h
  exact h
theorem IsMap.row {κ ν : Type} {kenc : κ → Value} {venc : ν → Value} {w : World} {r g : Nat} {m : List (κ × ν)} {old : Array Value} {t : TypeId} {fr : Nat × Nat} (h : IsMap kenc venc w r m) (hb : w.heap[g]? = some (.cells old t fr)) (cs : Array Value) : IsMap kenc venc (w.setRow g cs) r m := by
  obtain ⟨es, c, hr, hs⟩ := h
  refine ⟨es, c, (setRow_other w g r cs (fun e => ?_)).trans hr, hs⟩
  rw [e, hb] at hr
  cases hr
theorem Box.row {w : World} {b g : Nat} {cs : Array Value} (h : Box w b cs) (hne : b ≠ g) (new : Array Value) : Box (w.setRow g new) b cs := fun j v hv => (cell_setRow_other w g new ⟨b, j, none⟩ hne).trans (h j v hv)
theorem evalRules_drop (arch : ByteArray) (d : Data) (l : List Rule) (k : Nat) (h : k < l.length) (v : Verdict) : evalRules arch d (l.drop k) v = if l[k].f0.any (nrIs arch d) && holdsS d l[k].f1 then l[k].f2 else evalRules arch d (l.drop (k + 1)) v := by
  rw [List.drop_eq_getElem_cons h, evalRules]
theorem rulesS_ok (arch : ByteArray) : ∀ (l : List Rule) (i : Int), (rulesS arch l i).1 = 0 → ∀ x ∈ l, ruleS arch x = 0
  | [], _, _, x, hx => by simp at hx
  | y :: r, i, h, x, hx => by
    rw [rulesS] at h
    by_cases h0 : ruleS arch y = 0
    · rw [if_neg (by simp [h0])] at h
      rcases List.mem_cons.1 hx with rfl | hx
      · exact h0
      · exact rulesS_ok arch r _ h x hx
    · rw [if_pos (by simp [h0])] at h
      exact absurd h h0
theorem check_ok {p : Policy} (h : (checkS p).1 = 0) : (archS p.f0).2 = true ∧ (actS p.f1).2 = true ∧ (actS p.f2).2 = true ∧ p.f3.length ≤ 512 ∧ ∀ x ∈ p.f3, ruleS p.f0 x = 0 := by
  unfold checkS at h
  cases h1 : (archS p.f0).2 with
  | false => rw [h1] at h; simp at h
  | true =>
    rw [h1] at h
    cases h2 : (actS p.f1).2 with
    | false => rw [h2] at h; simp at h
    | true =>
      rw [h2] at h
      cases h3 : (actS p.f2).2 with
      | false => rw [h3] at h; simp at h
      | true =>
        rw [h3] at h
        by_cases h4 : 512 < p.f3.length
        · rw [if_neg (by simp), if_neg (by simp), if_pos h4] at h; simp at h
        · rw [if_neg (by simp), if_neg (by simp), if_neg h4] at h
          exact ⟨rfl, rfl, rfl, by omega, rulesS_ok _ _ _ h⟩
theorem rule_ok {arch : ByteArray} {x : Rule} (h : ruleS arch x = 0) : x.f0 ≠ [] ∧ callsS arch x.f0 [] = 0 ∧ exprS x.f1 = 0 ∧ (actS x.f2).2 = true := by
  unfold ruleS at h
  by_cases h0 : x.f0 = []
  · rw [if_pos (by simp [h0])] at h; simp at h
  · rw [if_neg (by simpa using h0)] at h
    by_cases h1 : callsS arch x.f0 [] = 0
    · rw [if_neg (by simp [h1])] at h
      by_cases h2 : exprS x.f1 = 0
      · rw [if_neg (by simp [h2])] at h
        cases h3 : (actS x.f2).2 with
        | true => exact ⟨h0, h1, h2, rfl⟩
        | false => rw [h3] at h; simp at h
      · rw [if_pos (by simp [h2])] at h; exact absurd h h2
    · rw [if_pos (by simp [h1])] at h; exact absurd h h1
set_option maxHeartbeats 800000 in
set_option maxRecDepth 100000 in
theorem eval_calls (p : Policy) (hwf : p.wf) (d : Data) (A : Option Addr) (c : Nat) (w : World) (h3 : kRule.C w A p.f3.length p.f3) :
    Calls Try.prog 12 #[.agg (polArr p A c), .agg d.arr] w (Ret (.int .u32 (evalS p d)) w) := by
  have hm := Kd.C_max h3
  have HC := Lib.hid h3
  have HW := Lib.hid hwf
  clear h3 hwf
  unfold polArr Data.arr
  go_enter Try.func12, Try.ntmps12
  go_wp2_with fail
  refine (check_calls p HW.out A c _ (Kd.C_alloc (Kd.C_alloc HC.out _) _)).mono ?_
  rintro e w1 ⟨rfl, hb⟩
  have HB1 := Lib.hid (bl_call (below_alloc (below_alloc (Below.refl _ _) _) _) (by simp; omega) hb : Below w.heap.size w w1)
  have P1 : Box w1 w.heap.size #[.string p.f0, .int .i64 p.f1.f0, .int .u64 p.f1.f1, .int .i64 p.f2.f0, .int .u64 p.f2.f1, .slice A p.f3.length c] := Box.upto ((Box.new w _ _).alloc _) hb (by simp; omega)
  have D1 : Box w1 (w.heap.size + 1) #[.int .u32 d.nr, .int .u32 d.arch, .int .u64 d.ip, .int .u64 d.a0, .int .u64 d.a1, .int .u64 d.a2, .int .u64 d.a3, .int .u64 d.a4, .int .u64 d.a5] := by have h := (Box.new (w.alloc (.cells #[.string p.f0, .int .i64 p.f1.f0, .int .u64 p.f1.f1, .int .i64 p.f2.f0, .int .u64 p.f2.f1, .slice A p.f3.length c] 28)) #[.int .u32 d.nr, .int .u32 d.arch, .int .u64 d.ip, .int .u64 d.a0, .int .u64 d.a1, .int .u64 d.a2, .int .u64 d.a3, .int .u64 d.a4, .int .u64 d.a5] 32).below hb; simpa using h
  have hz1 : w.heap.size + 1 < w1.heap.size := by have := hb.size; simp at this; omega
  clear hb
  by_cases hck : (checkS p).1 = 0
  case neg =>
    have hz : ((checkS p).1 == 0) = false := by simpa using hck
    have HS : Hid (evalS p d = 0) := Lib.hid (by simp [evalS, hck])
    clear hck
    go_wp2
    go_returns
    exact ⟨by rw [HS.out]; rfl, HB1.out⟩
  have hz : ((checkS p).1 == 0) = true := by simpa using hck
  have HK := Lib.hid (check_ok hck)
  have p0 := P1 0 _ rfl
  have HS0 : Hid (evalS p d = if d.arch != (archS p.f0).1 then (actS p.f1).1 else (actS (evalRules p.f0 d p.f3 p.f2)).1) := Lib.hid (by simp [evalS, hck])
  clear hck
  go_wp2_with fail
  refine (arch_calls p.f0 _).mono ?_
  rintro e w2 ⟨rfl, hb⟩
  have HB2 := Lib.hid (bl_call HB1.out HB1.out.size hb)
  have P2 := P1.below hb
  have D2 := D1.below hb
  have hz2 : w.heap.size + 1 < w2.heap.size := by have := hb.size; omega
  clear hb p0 P1 D1
  have d1 := D2 1 _ rfl
  by_cases har : d.arch = (archS p.f0).1
  case neg =>
    have hza : (d.arch == (archS p.f0).1) = false := by simpa using har
    have HS : Hid (evalS p d = (actS p.f1).1) := Lib.hid (by rw [HS0.out, if_pos (by simp [har])])
    have p1 := P2 1 _ rfl
    have p2 := P2 2 _ rfl
    go_wp2_with fail
    refine (act_calls p.f1 _ HW.out.1.1 HW.out.1.2).mono ?_
    rintro e w3 ⟨rfl, hb⟩
    have HB3 := Lib.hid (bl_call HB2.out HB2.out.size hb)
    go_wp2
    go_returns
    exact ⟨by rw [HS.out]; rfl, HB3.out⟩
  have hza : (d.arch == (archS p.f0).1) = true := by simpa using har
  have HS : Hid (evalS p d = (actS (evalRules p.f0 d p.f3 p.f2)).1) := Lib.hid (by rw [HS0.out, if_neg (by simp [har])])
  clear har
  have p3 := P2 3 _ rfl
  have p4 := P2 4 _ rfl
  clear HS0
  go_upto_region 9 with (fail)
  clear p3 p4
  go_cut [12] (fun v wc => ∃ r ab, v = .pointer (some ⟨ab, 0, none⟩) ∧ Hid (IsMap kRel id wc r relL) ∧ Hid (Box wc ab #[.int .u32 d.nr, .int .u32 d.arch, .int .u64 d.ip, .int .u64 d.a0, .int .u64 d.a1, .int .u64 d.a2, .int .u64 d.a3, .int .u64 d.a4, .int .u64 d.a5, .map (some r)]) ∧ Hid (Box wc w.heap.size #[.string p.f0, .int .i64 p.f1.f0, .int .u64 p.f1.f1, .int .i64 p.f2.f0, .int .u64 p.f2.f1, .slice A p.f3.length c]) ∧ Hid (Box wc (w.heap.size + 1) #[.int .u32 d.nr, .int .u32 d.arch, .int .u64 d.ip, .int .u64 d.a0, .int .u64 d.a1, .int .u64 d.a2, .int .u64 d.a3, .int .u64 d.a4, .int .u64 d.a5]) ∧ w2.heap.size < wc.heap.size ∧ ab < wc.heap.size ∧ Hid (wc.heap[w2.heap.size]? = some (.cells #[.int .i64 p.f2.f0, .int .u64 p.f2.f1] 25 (0, 0))) ∧ Hid (Below w.heap.size w wc))
  case first =>
    have HD2 := Lib.hid D2
    have HP2 := Lib.hid P2
    have d0 := D2 0 _ rfl
    have d1 := D2 1 _ rfl
    have d2 := D2 2 _ rfl
    have d3 := D2 3 _ rfl
    have d4 := D2 4 _ rfl
    have d5 := D2 5 _ rfl
    have d6 := D2 6 _ rfl
    have d7 := D2 7 _ rfl
    have d8 := D2 8 _ rfl
    clear D2 P2
    have hz2c : w.heap.size < w2.heap.size := by omega
    have hz2d : ¬ w.heap.size = w2.heap.size := by omega
    have hz2e : ¬ w2.heap.size = w.heap.size := by omega
    go_region_with (first | (go_at_call 39; (refine (rels_calls (World.drew (World.alloc (World.alloc w2 _) _))).mono ?_); rintro en w3 ⟨r, rfl, hm3, hb3⟩; have P3 := Lib.hid ((Box.drew ((HP2.out.alloc _).alloc _)).below hb3); have D3 := (Box.drew ((HD2.out.alloc _).alloc _)).below hb3; have hz3 : w2.heap.size + 1 < w3.heap.size := (by have := hb3.size; simp at this; omega); have V3 := Lib.hid ((hb3.block w2.heap.size (by simp; omega)).trans (blk_drewN (blk_alloc (blk_new w2 _) _) 1)); have hA3 := (hb3.block (w2.heap.size + 1) (by simp)).trans (blk_drewN (heap_second w2 _ _) 1); have z0 := heap_cell hA3 0 _ rfl; have t0 := heap_thaw hA3 0; have z1 := heap_cell hA3 1 _ rfl; have t1 := heap_thaw hA3 1; have z2 := heap_cell hA3 2 _ rfl; have t2 := heap_thaw hA3 2; have z3 := heap_cell hA3 3 _ rfl; have t3 := heap_thaw hA3 3; have z4 := heap_cell hA3 4 _ rfl; have t4 := heap_thaw hA3 4; have z5 := heap_cell hA3 5 _ rfl; have t5 := heap_thaw hA3 5; have z6 := heap_cell hA3 6 _ rfl; have t6 := heap_thaw hA3 6; have z7 := heap_cell hA3 7 _ rfl; have t7 := heap_thaw hA3 7; have z8 := heap_cell hA3 8 _ rfl; have t8 := heap_thaw hA3 8; have z9 := heap_cell hA3 9 _ rfl; have t9 := heap_thaw hA3 9; have HA3 := Lib.hid hA3; have HB3 := Lib.hid (bl_call (below_drew (below_alloc (below_alloc HB2.out _) _)) (by simp; omega) hb3); have HM3 := Lib.hid hm3; have hz3b : w.heap.size + 1 < w3.heap.size := (by omega); have g0 := D3 0 _ rfl; have g1 := D3 1 _ rfl; have g2 := D3 2 _ rfl; have g3 := D3 3 _ rfl; have g4 := D3 4 _ rfl; have g5 := D3 5 _ rfl; have g6 := D3 6 _ rfl; have g7 := D3 7 _ rfl; have g8 := D3 8 _ rfl; have HD3 := Lib.hid D3; clear hb3 hm3 D3 hA3) | (go_at_call 39; refine (rels_calls (World.drew (World.alloc w2 _))).mono ?_; rintro en w3 ⟨r, rfl, hm3, hb3⟩; have P3 := Lib.hid ((Box.drew (HP2.out.alloc _)).below hb3); have D3 := (Box.drew (HD2.out.alloc _)).below hb3; have hz3 : w2.heap.size < w3.heap.size := (by have := hb3.size; simp at this; omega); have V3 := Lib.hid ((hb3.block w2.heap.size (by simp)).trans (blk_drewN (blk_new w2 _) 1)); have HB3 := Lib.hid (bl_call (below_drew (below_alloc HB2.out _)) (by simp; omega) hb3); have HM3 := Lib.hid hm3; have hz3b : w.heap.size + 1 < w3.heap.size := (by omega); have g0 := D3 0 _ rfl; have g1 := D3 1 _ rfl; have g2 := D3 2 _ rfl; have g3 := D3 3 _ rfl; have g4 := D3 4 _ rfl; have g5 := D3 5 _ rfl; have g6 := D3 6 _ rfl; have g7 := D3 7 _ rfl; have g8 := D3 8 _ rfl; have k0 : ∀ o, (w3.alloc o).cell? ⟨w.heap.size + 1, 0, none⟩ = some (.int .u32 d.nr) := fun o => D3.alloc o 0 _ rfl; have k1 : ∀ o, (w3.alloc o).cell? ⟨w.heap.size + 1, 1, none⟩ = some (.int .u32 d.arch) := fun o => D3.alloc o 1 _ rfl; have k2 : ∀ o, (w3.alloc o).cell? ⟨w.heap.size + 1, 2, none⟩ = some (.int .u64 d.ip) := fun o => D3.alloc o 2 _ rfl; have k3 : ∀ o, (w3.alloc o).cell? ⟨w.heap.size + 1, 3, none⟩ = some (.int .u64 d.a0) := fun o => D3.alloc o 3 _ rfl; have k4 : ∀ o, (w3.alloc o).cell? ⟨w.heap.size + 1, 4, none⟩ = some (.int .u64 d.a1) := fun o => D3.alloc o 4 _ rfl; have k5 : ∀ o, (w3.alloc o).cell? ⟨w.heap.size + 1, 5, none⟩ = some (.int .u64 d.a2) := fun o => D3.alloc o 5 _ rfl; have k6 : ∀ o, (w3.alloc o).cell? ⟨w.heap.size + 1, 6, none⟩ = some (.int .u64 d.a3) := fun o => D3.alloc o 6 _ rfl; have k7 : ∀ o, (w3.alloc o).cell? ⟨w.heap.size + 1, 7, none⟩ = some (.int .u64 d.a4) := fun o => D3.alloc o 7 _ rfl; have k8 : ∀ o, (w3.alloc o).cell? ⟨w.heap.size + 1, 8, none⟩ = some (.int .u64 d.a5) := fun o => D3.alloc o 8 _ rfl; have HD3 := Lib.hid D3; clear hb3 hm3 D3))
    all_goals go_wp2
    all_goals go_meet
    all_goals (first | (have q1 := HA3; clear q1; generalize hW : World.setCell _ ⟨w2.heap.size + 1, 9, none⟩ _ = W; have e10 := setCells_putAll [.int .u32 d.arch, .int .u64 d.ip, .int .u64 d.a0, .int .u64 d.a1, .int .u64 d.a2, .int .u64 d.a3, .int .u64 d.a4, .int .u64 d.a5, .map (some r)] (.int .u32 d.nr) 0 w3 _ HA3.out; rw [show putAll #[.int .u32 0, .int .u32 0, .int .u64 0, .int .u64 0, .int .u64 0, .int .u64 0, .int .u64 0, .int .u64 0, .int .u64 0, .map none] 0 [.int .u32 d.nr, .int .u32 d.arch, .int .u64 d.ip, .int .u64 d.a0, .int .u64 d.a1, .int .u64 d.a2, .int .u64 d.a3, .int .u64 d.a4, .int .u64 d.a5, .map (some r)] = #[.int .u32 d.nr, .int .u32 d.arch, .int .u64 d.ip, .int .u64 d.a0, .int .u64 d.a1, .int .u64 d.a2, .int .u64 d.a3, .int .u64 d.a4, .int .u64 d.a5, .map (some r)] from by kernel_rfl] at e10; simp only [World.setCells, Nat.zero_add, Nat.reduceAdd] at e10; rw [e10] at hW; subst hW; have m1 := Lib.hid (IsMap.row HM3.out HA3.out #[.int .u32 d.nr, .int .u32 d.arch, .int .u64 d.ip, .int .u64 d.a0, .int .u64 d.a1, .int .u64 d.a2, .int .u64 d.a3, .int .u64 d.a4, .int .u64 d.a5, .map (some r)]); have m2 : Box (w3.setRow (w2.heap.size + 1) #[.int .u32 d.nr, .int .u32 d.arch, .int .u64 d.ip, .int .u64 d.a0, .int .u64 d.a1, .int .u64 d.a2, .int .u64 d.a3, .int .u64 d.a4, .int .u64 d.a5, .map (some r)]) (w2.heap.size + 1) #[.int .u32 d.nr, .int .u32 d.arch, .int .u64 d.ip, .int .u64 d.a0, .int .u64 d.a1, .int .u64 d.a2, .int .u64 d.a3, .int .u64 d.a4, .int .u64 d.a5, .map (some r)] := heap_cell (setRow_heap w3 (w2.heap.size + 1) _ _ _ _ HA3.out); have m2' := Lib.hid m2; have m3 := Lib.hid (P3.out.row (by omega : w.heap.size ≠ w2.heap.size + 1) #[.int .u32 d.nr, .int .u32 d.arch, .int .u64 d.ip, .int .u64 d.a0, .int .u64 d.a1, .int .u64 d.a2, .int .u64 d.a3, .int .u64 d.a4, .int .u64 d.a5, .map (some r)]); have m4 := Lib.hid (HD3.out.row (by omega : w.heap.size + 1 ≠ w2.heap.size + 1) #[.int .u32 d.nr, .int .u32 d.arch, .int .u64 d.ip, .int .u64 d.a0, .int .u64 d.a1, .int .u64 d.a2, .int .u64 d.a3, .int .u64 d.a4, .int .u64 d.a5, .map (some r)]); have m5 := Lib.hid (blk_row V3.out (by omega : w2.heap.size ≠ w2.heap.size + 1) #[.int .u32 d.nr, .int .u32 d.arch, .int .u64 d.ip, .int .u64 d.a0, .int .u64 d.a1, .int .u64 d.a2, .int .u64 d.a3, .int .u64 d.a4, .int .u64 d.a5, .map (some r)]); have m6 := Lib.hid (below_setRow HB3.out (by omega : w.heap.size ≤ w2.heap.size + 1) #[.int .u32 d.nr, .int .u32 d.arch, .int .u64 d.ip, .int .u64 d.a0, .int .u64 d.a1, .int .u64 d.a2, .int .u64 d.a3, .int .u64 d.a4, .int .u64 d.a5, .map (some r)]); have m7 : w2.heap.size < (w3.setRow (w2.heap.size + 1) #[.int .u32 d.nr, .int .u32 d.arch, .int .u64 d.ip, .int .u64 d.a0, .int .u64 d.a1, .int .u64 d.a2, .int .u64 d.a3, .int .u64 d.a4, .int .u64 d.a5, .map (some r)]).heap.size := (by rw [setRow_size]; omega); have m8 : w2.heap.size + 1 < (w3.setRow (w2.heap.size + 1) #[.int .u32 d.nr, .int .u32 d.arch, .int .u64 d.ip, .int .u64 d.a0, .int .u64 d.a1, .int .u64 d.a2, .int .u64 d.a3, .int .u64 d.a4, .int .u64 d.a5, .map (some r)]).heap.size := (by rw [setRow_size]; omega); clear m2; with_reducible exact ⟨r, _, rfl, m1, m2', m3, m4, m7, m8, m5, m6⟩) | (exact ⟨r, _, rfl, Lib.hid (IsMap.below HM3.out (below_alloc (Below.refl _ _) _)), Lib.hid (Box.new w3 #[.int .u32 d.nr, .int .u32 d.arch, .int .u64 d.ip, .int .u64 d.a0, .int .u64 d.a1, .int .u64 d.a2, .int .u64 d.a3, .int .u64 d.a4, .int .u64 d.a5, .map (some r)] _), Lib.hid (P3.out.alloc _), Lib.hid (HD3.out.alloc _), by simp; omega, by simp, Lib.hid (blk_alloc V3.out _), Lib.hid (below_alloc HB3.out _)⟩))
  case rest =>
    clear D2 P2 HB1 HB2
    obtain ⟨r, ab, rfl, HM, HA, HP, HD, hzc, hac, HV, HB⟩ := hcut
    have p5 := HP.out 5 _ rfl
    go_wp2
    clear p5
    go_loopw [50] (fun i wr => ∃ k : Nat, k ≤ p.f3.length ∧ i = .int .i64 k ∧ Hid (evalRules p.f0 d p.f3 p.f2 = evalRules p.f0 d (p.f3.drop k) p.f2) ∧ Hid (Below wc.heap.size wc wr)) (fun i _ => p.f3.length - (intOf i).toNat)
    case atStart => exact ⟨0, Nat.zero_le _, rfl, Lib.hid rfl, Lib.hid (Below.refl _ _)⟩
    case round =>
      obtain ⟨k, hk, rfl, HZ, HR⟩ := hrel
      have hzr := HR.out.size
      have HBr := Lib.hid (bl_call HB.out HB.out.size HR.out)
      have HVr := Lib.hid ((HR.out.block w2.heap.size hzc).trans HV.out)
      by_cases hlt : k < p.f3.length
      · have HCr := Lib.hid (Kd.C_below HC.out HBr.out)
        obtain ⟨b, o, hAb, hb, hat⟩ := at_Rule HCr.out (by omega)
        subst hAb
        obtain ⟨A0, c0, A2, c2, h0, h1, h2, h3, h4, h5, h6, h7, h8, hl0, hC0, hl2, hC2⟩ := hat k _ (List.getElem?_eq_getElem hlt)
        have HC0 := Lib.hid hC0
        have HC2 := Lib.hid hC2
        have HE := Lib.hid (evalRules_drop p.f0 d p.f3 k hlt p.f2)
        have HWx := Lib.hid (HW.out.2.2 _ (List.getElem_mem hlt))
        have HRx := Lib.hid (rule_ok (HK.out.2.2.2.2 _ (List.getElem_mem hlt)))
        clear hat hC0 hC2
        go_wp2_with fail
        have Pr := HP.out.below HR.out
        have Dr := HD.out.below HR.out
        have Ar := HA.out.below HR.out
        refine (conC_calls A0 c0 _ 41 #[] #[.pointer (some ⟨w.heap.size, 0, none⟩), .pointer (some ⟨w.heap.size + 1, 0, none⟩)] (nrIs p.f0 d) _ body_eval1 (Kd.C_alloc HC0.out _) ?H).mono ?_
        case H =>
          intro cc hcc W hW
          have hs := hW.size
          simp only [World.alloc, Array.size_push] at hs
          exact eval1_calls cc (HWx.out.1 cc hcc) p.f0 d w.heap.size (w.heap.size + 1) W (((Pr.alloc _).below hW) 0 _ rfl) (((Dr.alloc _).below hW) 0 _ rfl) (by omega) (by omega)
        rintro e w4 ⟨rfl, hb4⟩
        have hz4 : wr.heap.size < w4.heap.size := by have := hb4.size; simp at this; omega
        have HR4 := Lib.hid (bl_call (below_alloc HR.out _) (by simp; omega) hb4)
        have X4 := (Box.new wr _ _).below hb4
        have A4 := (Ar.alloc _).below hb4
        have HA4 := Lib.hid A4
        have HC4 := Lib.hid (Kd.C_below (Kd.C_alloc HC2.out _) hb4)
        have HM4 := Lib.hid (IsMap.below (IsMap.below HM.out HR4.out) (Below.refl _ _) : IsMap kRel id w4 r relL)
        have HV4 := Lib.hid ((hb4.block w2.heap.size (by simp; omega)).trans (blk_alloc HVr.out _))
        clear hb4 Pr Dr Ar h0 h1 h2 h3 h4 h5 h6 h7 h8
        cases hn : p.f3[k].f0.any (nrIs p.f0 d) with
        | false =>
          have HZ2 : Hid (evalRules p.f0 d p.f3 p.f2 = evalRules p.f0 d (p.f3.drop (k + 1)) p.f2) := Lib.hid (by rw [HZ.out, HE.out, hn]; rfl)
          clear X4 A4
          go_wp2
          go_roundw
          case rel => exact ⟨k + 1, by omega, by go_num, HZ2, HR4⟩
          case measure => simp [intOf]; omega
        | true =>
          have a0 := A4 0 _ rfl; have a1 := A4 1 _ rfl; have a2 := A4 2 _ rfl; have a3 := A4 3 _ rfl; have a4 := A4 4 _ rfl; have a5 := A4 5 _ rfl; have a6 := A4 6 _ rfl; have a7 := A4 7 _ rfl; have a8 := A4 8 _ rfl; have a9 := A4 9 _ rfl
          have x1 := X4 1 _ rfl; have x2 := X4 2 _ rfl; have x3 := X4 3 _ rfl; have x4 := X4 4 _ rfl; have x5 := X4 5 _ rfl; have x6 := X4 6 _ rfl
          clear A4
          go_wp2_with fail
          refine ((holds_ok _ p.f3[k].f1 (Nat.le_refl _) (ok_within _ _ 0 (Nat.le_refl _) HRx.out.2.2.1)) d r A2 c2 _ HM4.out HC4.out).mono ?_
          rintro e w5 ⟨rfl, hb5⟩
          have HR5 := Lib.hid (bl_call HR4.out HR4.out.size hb5)
          have X5 := X4.below hb5
          have HV5 := Lib.hid ((hb5.block w2.heap.size (by omega)).trans HV4.out)
          have hz5 := hb5.size
          clear hb5 a0 a1 a2 a3 a4 a5 a6 a7 a8 a9 x1 x2 x3 x4 x5 x6 X4
          cases hh : holdsS d p.f3[k].f1 with
          | false =>
            have HZ2 : Hid (evalRules p.f0 d p.f3 p.f2 = evalRules p.f0 d (p.f3.drop (k + 1)) p.f2) := Lib.hid (by rw [HZ.out, HE.out, hn, hh]; rfl)
            clear X5
            go_wp2
            go_roundw
            case rel => exact ⟨k + 1, by omega, by go_num, HZ2, HR5⟩
            case measure => simp [intOf]; omega
          | true =>
            have HZ2 : Hid (evalRules p.f0 d p.f3 p.f2 = p.f3[k].f2) := Lib.hid (by rw [HZ.out, HE.out, hn, hh]; rfl)
            have x7 := X5 7 _ rfl
            have x8 := X5 8 _ rfl
            have v0 := heap_cell HV5.out 0 _ rfl
            have v1 := heap_cell HV5.out 1 _ rfl
            have y0 := heap_thaw HV5.out 0
            have y1 := heap_thaw HV5.out 1
            go_wp2_with fail
            refine (act_calls p.f3[k].f2 _ HWx.out.2.1 HWx.out.2.2).mono ?_
            rintro e w6 ⟨rfl, hb6⟩
            have HB6 : Below w.heap.size w w6 := by
              refine bl_call ?_ ?_ hb6
              · with_reducible (repeat (first | exact bl_call HB.out HB.out.size HR5.out | refine below_set ?_ (by omega)))
              · have := HR5.out.size; have := HB.out.size; simp [World.setCell]; omega
            have HB6 := Lib.hid HB6
            clear hb6
            go_wp2
            go_returns
            exact ⟨by rw [HS.out, HZ2.out]; rfl, HB6.out⟩
      · have he : k = p.f3.length := by omega
        have HZ2 : Hid (evalRules p.f0 d p.f3 p.f2 = p.f2) := Lib.hid (by rw [HZ.out, he, List.drop_length]; rfl)
        have v0 := heap_cell HVr.out 0 _ rfl
        have v1 := heap_cell HVr.out 1 _ rfl
        go_wp2_with fail
        refine (act_calls p.f2 _ HW.out.2.1.1 HW.out.2.1.2).mono ?_
        rintro e w6 ⟨rfl, hb6⟩
        have HB6 := Lib.hid (bl_call HBr.out HBr.out.size hb6)
        clear hb6
        go_wp2
        go_returns
        exact ⟨by rw [HS.out, HZ2.out]; rfl, HB6.out⟩
end Go.Proofs.Ytkojnaebkgekaaa
