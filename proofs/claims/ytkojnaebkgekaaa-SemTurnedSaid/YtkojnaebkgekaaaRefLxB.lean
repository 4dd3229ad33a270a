import Derived.Test.YtkojnaebkgekaaaRef0
import Derived.Test.YtkojnaebkgekaaaRefLxA
namespace Go.Proofs.Ytkojnaebkgekaaa.P
open Go.RowKit Go.Proofs.YtkojnaebkgekaaaW.PrintWords Go.Proofs.YtkojnaebkgekaaaW.PrintLast Go.Proofs.YtkojnaebkgekaaaW.PrintMore
set_option linter.unusedVariables false
set_option linter.unusedSimpArgs false
attribute [local go_sem] max2_int min2_int max_two min_two max_three min_three max_four min_four
/-! ### ravelinref05_Number: function 178 -/
mutual
def ravelinref05_Number.j0 : Nat → ByteArray → Bool → Option (Int × Bool)
  | 0, _, _ => none
  | k + 1, x0, x23 => if x23 = true then (if (x0.size : Int) < 3 then (ravelinref05_Number.j1 k x0 true) else (ravelinref05_Number.j1 k x0 (decide ((x0.size : Int) > 18)))) else (if (x0.size : Int) < 1 then (ravelinref05_Number.j4 k x0 true) else (if (x0.size : Int) > 20 then (ravelinref05_Number.j4 k x0 true) else (if 0 < (x0.size : Int) then (if (bt x0 0) = 48 then (ravelinref05_Number.j4 k x0 (decide ((x0.size : Int) > 1))) else (ravelinref05_Number.j4 k x0 false)) else (none))))
def ravelinref05_Number.j1 : Nat → ByteArray → Bool → Option (Int × Bool)
  | 0, _, _ => none
  | k + 1, x0, x31 => if x31 = true then (some (0, false)) else (ravelinref05_Number.l0 k x0 0 2)
def ravelinref05_Number.l0 : Nat → ByteArray → Int → Int → Option (Int × Bool)
  | 0, _, _, _ => none
  | k + 1, x0, x4, x5 => if x5 < (x0.size : Int) then (if 0 ≤ x5 then (if (bt x0 x5) ≥ 48 then (ravelinref05_Number.j3 k x0 x4 x5 (bt x0 x5) (decide ((bt x0 x5) ≤ 57))) else (ravelinref05_Number.j3 k x0 x4 x5 (bt x0 x5) false)) else (none)) else (some (x4, true))
def ravelinref05_Number.j3 : Nat → ByteArray → Int → Int → Int → Bool → Option (Int × Bool)
  | 0, _, _, _, _, _ => none
  | k + 1, x0, x4, x5, x6, x41 => if x41 = true then (ravelinref05_Number.l0 k x0 (IntKind.u64.wrap ((IntKind.u64.wrap (16 * x4)) + ((x6 - 48) % 256))) (wrap64 (x5 + 1))) else (if x6 ≥ 97 then (if x6 ≤ 102 then (ravelinref05_Number.l0 k x0 (IntKind.u64.wrap ((IntKind.u64.wrap ((IntKind.u64.wrap (16 * x4)) + ((x6 - 97) % 256))) + 10)) (wrap64 (x5 + 1))) else (some (0, false))) else (some (0, false)))
def ravelinref05_Number.j4 : Nat → ByteArray → Bool → Option (Int × Bool)
  | 0, _, _ => none
  | k + 1, x0, x86 => if x86 = true then (some (0, false)) else (ravelinref05_Number.l1 k x0 0 0)
def ravelinref05_Number.l1 : Nat → ByteArray → Int → Int → Option (Int × Bool)
  | 0, _, _, _ => none
  | k + 1, x0, x7, x8 => if x8 < (x0.size : Int) then (if 0 ≤ x8 then ((ravelinref05_digit.f (bt x0 x8)).bind fun t140 => (if t140 = true then (if x7 > 1844674407370955161 then (some (0, false)) else (if x7 = 1844674407370955161 then (if (((bt x0 x8) - 48) % 256) > 5 then (some (0, false)) else (ravelinref05_Number.l1 k x0 (IntKind.u64.wrap ((IntKind.u64.wrap (10 * x7)) + (((bt x0 x8) - 48) % 256))) (wrap64 (x8 + 1)))) else (ravelinref05_Number.l1 k x0 (IntKind.u64.wrap ((IntKind.u64.wrap (10 * x7)) + (((bt x0 x8) - 48) % 256))) (wrap64 (x8 + 1))))) else (some (0, false)))) else (none)) else (some (x7, true))
end
def ravelinref05_Number.f (k : Nat) (a0 : ByteArray) : Option (Int × Bool) := if (a0.size : Int) ≥ 2 then (if 0 < (a0.size : Int) then (if (bt a0 0) = 48 then (if 1 < (a0.size : Int) then (ravelinref05_Number.j0 k a0 ((bt a0 1) == 120)) else (none)) else (ravelinref05_Number.j0 k a0 false)) else (none)) else (ravelinref05_Number.j0 k a0 false)
theorem ravelinref05_Number.mono_l : ∀ k, (∀ y0 y1, LeO (ravelinref05_Number.j0 k y0 y1) (ravelinref05_Number.j0 (k + 1) y0 y1)) ∧ (∀ y0 y1, LeO (ravelinref05_Number.j1 k y0 y1) (ravelinref05_Number.j1 (k + 1) y0 y1)) ∧ (∀ y0 y1 y2, LeO (ravelinref05_Number.l0 k y0 y1 y2) (ravelinref05_Number.l0 (k + 1) y0 y1 y2)) ∧ (∀ y0 y1 y2 y3 y4, LeO (ravelinref05_Number.j3 k y0 y1 y2 y3 y4) (ravelinref05_Number.j3 (k + 1) y0 y1 y2 y3 y4)) ∧ (∀ y0 y1, LeO (ravelinref05_Number.j4 k y0 y1) (ravelinref05_Number.j4 (k + 1) y0 y1)) ∧ (∀ y0 y1 y2, LeO (ravelinref05_Number.l1 k y0 y1 y2) (ravelinref05_Number.l1 (k + 1) y0 y1 y2))
  | 0 => ⟨fun _ _ r h => by simp [ravelinref05_Number.j0] at h, fun _ _ r h => by simp [ravelinref05_Number.j1] at h, fun _ _ _ r h => by simp [ravelinref05_Number.l0] at h, fun _ _ _ _ _ r h => by simp [ravelinref05_Number.j3] at h, fun _ _ r h => by simp [ravelinref05_Number.j4] at h, fun _ _ _ r h => by simp [ravelinref05_Number.l1] at h⟩
  | k + 1 => by
    obtain ⟨ih0, ih1, ih2, ih3, ih4, ih5⟩ := ravelinref05_Number.mono_l k
    refine ⟨?_, ?_, ?_, ?_, ?_, ?_⟩
    · intro y0 y1
      unfold ravelinref05_Number.j0
      repeat' first
      | (with_reducible exact ih0 _ _)
      | (with_reducible exact ih1 _ _)
      | (with_reducible exact ih2 _ _ _)
      | (with_reducible exact ih3 _ _ _ _ _)
      | (with_reducible exact ih4 _ _)
      | (with_reducible exact ih5 _ _ _)
      | (with_reducible exact LeO.refl _)
      | (with_reducible exact LeO.none _)
      | (with_reducible refine LeO.ite ?_ ?_)
      | (with_reducible refine LeO.bind ?_ (fun _ => ?_))
      | exact ih0 _ _
      | exact ih1 _ _
      | exact ih2 _ _ _
      | exact ih3 _ _ _ _ _
      | exact ih4 _ _
      | exact ih5 _ _ _
      | exact LeO.none _
      | refine LeO.ite ?_ ?_
      | refine LeO.bind ?_ (fun _ => ?_)
    · intro y0 y1
      unfold ravelinref05_Number.j1
      repeat' first
      | (with_reducible exact ih0 _ _)
      | (with_reducible exact ih1 _ _)
      | (with_reducible exact ih2 _ _ _)
      | (with_reducible exact ih3 _ _ _ _ _)
      | (with_reducible exact ih4 _ _)
      | (with_reducible exact ih5 _ _ _)
      | (with_reducible exact LeO.refl _)
      | (with_reducible exact LeO.none _)
      | (with_reducible refine LeO.ite ?_ ?_)
      | (with_reducible refine LeO.bind ?_ (fun _ => ?_))
      | exact ih0 _ _
      | exact ih1 _ _
      | exact ih2 _ _ _
      | exact ih3 _ _ _ _ _
      | exact ih4 _ _
      | exact ih5 _ _ _
      | exact LeO.none _
      | refine LeO.ite ?_ ?_
      | refine LeO.bind ?_ (fun _ => ?_)
    · intro y0 y1 y2
      unfold ravelinref05_Number.l0
      repeat' first
      | (with_reducible exact ih0 _ _)
      | (with_reducible exact ih1 _ _)
      | (with_reducible exact ih2 _ _ _)
      | (with_reducible exact ih3 _ _ _ _ _)
      | (with_reducible exact ih4 _ _)
      | (with_reducible exact ih5 _ _ _)
      | (with_reducible exact LeO.refl _)
      | (with_reducible exact LeO.none _)
      | (with_reducible refine LeO.ite ?_ ?_)
      | (with_reducible refine LeO.bind ?_ (fun _ => ?_))
      | exact ih0 _ _
      | exact ih1 _ _
      | exact ih2 _ _ _
      | exact ih3 _ _ _ _ _
      | exact ih4 _ _
      | exact ih5 _ _ _
      | exact LeO.none _
      | refine LeO.ite ?_ ?_
      | refine LeO.bind ?_ (fun _ => ?_)
    · intro y0 y1 y2 y3 y4
      unfold ravelinref05_Number.j3
      repeat' first
      | (with_reducible exact ih0 _ _)
      | (with_reducible exact ih1 _ _)
      | (with_reducible exact ih2 _ _ _)
      | (with_reducible exact ih3 _ _ _ _ _)
      | (with_reducible exact ih4 _ _)
      | (with_reducible exact ih5 _ _ _)
      | (with_reducible exact LeO.refl _)
      | (with_reducible exact LeO.none _)
      | (with_reducible refine LeO.ite ?_ ?_)
      | (with_reducible refine LeO.bind ?_ (fun _ => ?_))
      | exact ih0 _ _
      | exact ih1 _ _
      | exact ih2 _ _ _
      | exact ih3 _ _ _ _ _
      | exact ih4 _ _
      | exact ih5 _ _ _
      | exact LeO.none _
      | refine LeO.ite ?_ ?_
      | refine LeO.bind ?_ (fun _ => ?_)
    · intro y0 y1
      unfold ravelinref05_Number.j4
      repeat' first
      | (with_reducible exact ih0 _ _)
      | (with_reducible exact ih1 _ _)
      | (with_reducible exact ih2 _ _ _)
      | (with_reducible exact ih3 _ _ _ _ _)
      | (with_reducible exact ih4 _ _)
      | (with_reducible exact ih5 _ _ _)
      | (with_reducible exact LeO.refl _)
      | (with_reducible exact LeO.none _)
      | (with_reducible refine LeO.ite ?_ ?_)
      | (with_reducible refine LeO.bind ?_ (fun _ => ?_))
      | exact ih0 _ _
      | exact ih1 _ _
      | exact ih2 _ _ _
      | exact ih3 _ _ _ _ _
      | exact ih4 _ _
      | exact ih5 _ _ _
      | exact LeO.none _
      | refine LeO.ite ?_ ?_
      | refine LeO.bind ?_ (fun _ => ?_)
    · intro y0 y1 y2
      unfold ravelinref05_Number.l1
      repeat' first
      | (with_reducible exact ih0 _ _)
      | (with_reducible exact ih1 _ _)
      | (with_reducible exact ih2 _ _ _)
      | (with_reducible exact ih3 _ _ _ _ _)
      | (with_reducible exact ih4 _ _)
      | (with_reducible exact ih5 _ _ _)
      | (with_reducible exact LeO.refl _)
      | (with_reducible exact LeO.none _)
      | (with_reducible refine LeO.ite ?_ ?_)
      | (with_reducible refine LeO.bind ?_ (fun _ => ?_))
      | exact ih0 _ _
      | exact ih1 _ _
      | exact ih2 _ _ _
      | exact ih3 _ _ _ _ _
      | exact ih4 _ _
      | exact ih5 _ _ _
      | exact LeO.none _
      | refine LeO.ite ?_ ?_
      | refine LeO.bind ?_ (fun _ => ?_)
theorem ravelinref05_Number.mono : ∀ a0 k, LeO (ravelinref05_Number.f k a0) (ravelinref05_Number.f (k + 1) a0) := by
  intro a0 k
  obtain ⟨ih0, ih1, ih2, ih3, ih4, ih5⟩ := ravelinref05_Number.mono_l k
  unfold ravelinref05_Number.f
  repeat' first
      | (with_reducible exact ih0 _ _)
      | (with_reducible exact ih1 _ _)
      | (with_reducible exact ih2 _ _ _)
      | (with_reducible exact ih3 _ _ _ _ _)
      | (with_reducible exact ih4 _ _)
      | (with_reducible exact ih5 _ _ _)
      | (with_reducible exact LeO.refl _)
      | (with_reducible exact LeO.none _)
      | (with_reducible refine LeO.ite ?_ ?_)
      | (with_reducible refine LeO.bind ?_ (fun _ => ?_))
      | exact ih0 _ _
      | exact ih1 _ _
      | exact ih2 _ _ _
      | exact ih3 _ _ _ _ _
      | exact ih4 _ _
      | exact ih5 _ _ _
      | exact LeO.none _
      | refine LeO.ite ?_ ?_
      | refine LeO.bind ?_ (fun _ => ?_)
set_option maxHeartbeats 8000000 in
set_option maxRecDepth 100000 in
theorem ravelinref05_Number.calls (k : Nat) (a0 : ByteArray) (r1 : Int) (r2 : Bool) (w : World) (h : ravelinref05_Number.f k a0 = some (r1, r2)) :
    Calls Try.prog 178 #[.string a0] w fun e w' => e = .returned (.tuple #[.int .u64 r1, .bool r2]) ∧ Drawn0 w w' := by
  have H : (if (a0.size : Int) ≥ 2 then (if 0 < (a0.size : Int) then (if (bt a0 0) = 48 then (if 1 < (a0.size : Int) then (ravelinref05_Number.j0 k a0 ((bt a0 1) == 120)) else (none)) else (ravelinref05_Number.j0 k a0 false)) else (none)) else (ravelinref05_Number.j0 k a0 false)) = some (r1, r2) := h
  clear h
  have HC2 := Aside0.mk H
  clear H
  go_enter Try.func178, Try.ntmps178
  go_upto_region 1 with (fail)
  go_cut [23] (fun v23 wc => ∃ (kq : Nat) (x23_1 : Bool), v23 = .bool x23_1 ∧ Aside0 (ravelinref05_Number.j0 kq a0 x23_1 = some (r1, r2)) ∧ Aside0 (kq ≤ k) ∧ Drawn0 w wc)
  case first =>
    have H := HC2.out
    clear HC2
    by_cases c3 : (a0.size : Int) ≥ 2
    · rw [if_pos c3] at H
      have c3b0 : decide (2 ≤ (a0.size : Int)) = true := decide_eq_true c3
      have c3b1 : decide (2 ≤ a0.size) = true := decide_eq_true (by omega)
      clear c3
      (first | rw [c3b0] | (simp only [i64_w, i32_w]; rw [c3b0]) | skip)
      by_cases c4 : 0 < (a0.size : Int)
      · rw [if_pos c4] at H
        have c4b0 : decide (0 < (a0.size : Int)) = true := decide_eq_true c4
        have c4b1 : decide (0 < a0.size) = true := decide_eq_true (by omega)
        clear c4
        by_cases c6 : (bt a0 0) = 48
        · rw [if_pos c6] at H
          have c6b0 : ((bt a0 0) == 48) = true := beq_iff_eq.mpr c6
          have c6b1 : ((bt a0 0) != 48) = false := bne_eq_false_iff_eq.mpr c6
          clear c6
          by_cases c7 : 1 < (a0.size : Int)
          · rw [if_pos c7] at H
            have c7b0 : decide (1 < (a0.size : Int)) = true := decide_eq_true c7
            have c7b1 : decide (1 < a0.size) = true := decide_eq_true (by omega)
            clear c7
            have H' := Aside0.mk H
            clear H
            have p5 : 0 ≤ (0 : Int) := (by omega)
            have q5 : 0 < a0.size := (by have : (0 : Int) < (a0.size : Int) := of_decide_eq_true (by first | (with_reducible assumption) | assumption); omega)
            have hx5 : ∀ h : 0 < a0.size, ((a0[0]'h).toNat : Int) = bt a0 0 := bt_at a0 0
            clear p5
            have qi5 : (0 < (a0.size : Int)) = True := eq_true (of_decide_eq_true (by first | (with_reducible assumption) | assumption))
            replace q5 := eq_true q5
            have p8 : 0 ≤ (1 : Int) := (by omega)
            have q8 : 1 < a0.size := (by have : (1 : Int) < (a0.size : Int) := of_decide_eq_true (by first | (with_reducible assumption) | assumption); omega)
            have hx8 : ∀ h : 1 < a0.size, ((a0[1]'h).toNat : Int) = bt a0 1 := bt_at a0 1
            clear p8
            have qi8 : (1 < (a0.size : Int)) = True := eq_true (of_decide_eq_true (by first | (with_reducible assumption) | assumption))
            replace q8 := eq_true q8
            go_wp2
            go_meet
            case rel => exact ⟨_, (((bt a0 1) == 120)), (by first | rfl | (simp; done) | (simp [*]; done)), H', ⟨by first | omega | exact Nat.le_refl _⟩, by repeat (first | exact Drawn0.refl _ | apply Drawn0.step)⟩
          · rw [if_neg c7] at H
            exact absurd H (by simp)
        · rw [if_neg c6] at H
          have c6b0 : ((bt a0 0) == 48) = false := beq_eq_false_iff_ne.mpr c6
          have c6b1 : ((bt a0 0) != 48) = true := bne_iff_ne.mpr c6
          have H' := Aside0.mk H
          clear H
          have p5 : 0 ≤ (0 : Int) := (by omega)
          have q5 : 0 < a0.size := (by have : (0 : Int) < (a0.size : Int) := of_decide_eq_true (by first | (with_reducible assumption) | assumption); omega)
          have hx5 : ∀ h : 0 < a0.size, ((a0[0]'h).toNat : Int) = bt a0 0 := bt_at a0 0
          clear p5
          have qi5 : (0 < (a0.size : Int)) = True := eq_true (of_decide_eq_true (by first | (with_reducible assumption) | assumption))
          replace q5 := eq_true q5
          go_wp2
          go_meet
          case rel => exact ⟨_, (false), (by first | rfl | (simp; done) | (simp [*]; done)), H', ⟨by first | omega | exact Nat.le_refl _⟩, by repeat (first | exact Drawn0.refl _ | apply Drawn0.step)⟩
      · rw [if_neg c4] at H
        exact absurd H (by simp)
    · rw [if_neg c3] at H
      have c3b0 : decide (2 ≤ (a0.size : Int)) = false := decide_eq_false c3
      have c3b1 : decide (2 ≤ a0.size) = false := decide_eq_false (by omega)
      clear c3
      (first | rw [c3b0] | (simp only [i64_w, i32_w]; rw [c3b0]) | skip)
      have H' := Aside0.mk H
      clear H
      go_wp2
      go_meet
      case rel => exact ⟨_, (false), (by first | rfl | (simp; done) | (simp [*]; done)), H', ⟨by first | omega | exact Nat.le_refl _⟩, by repeat (first | exact Drawn0.refl _ | apply Drawn0.step)⟩
  case rest =>
    clear HC2
    try clear c1
    try clear p2
    try clear c3
    try clear c3b0
    try clear c3b1
    try clear c4
    try clear c4b0
    try clear c4b1
    try clear p5
    try clear q5
    try clear hx5
    try clear qi5
    try clear c6
    try clear c6b0
    try clear c6b1
    try clear c7
    try clear c7b0
    try clear c7b1
    try clear p8
    try clear q8
    try clear hx8
    try clear qi8
    try clear p5
    try clear p8
    try clear q5
    try clear q8
    obtain ⟨kq, x23_1, rfl, HA, HJ1, ⟨mc1, rfl⟩⟩ := hcut
    cases kq with
    | zero => exact absurd HA.out (by simp [ravelinref05_Number.j0])
    | succ kj1 =>
      have H := HA.out
      clear HA
      simp only [ravelinref05_Number.j0] at H
      by_cases c9 : x23_1 = true
      · subst c9
        have H1 : (if (a0.size : Int) < 3 then (ravelinref05_Number.j1 kj1 a0 true) else (ravelinref05_Number.j1 kj1 a0 (decide ((a0.size : Int) > 18)))) = some (r1, r2) := by rw [if_pos rfl] at H; exact H
        clear H
        have H := H1
        clear H1
        have HC10 := Aside0.mk H
        clear H
        go_upto_region 2 with (fail)
        go_cut [31] (fun v31 wc => ∃ (kq : Nat) (x31_9 : Bool), v31 = .bool x31_9 ∧ Aside0 (ravelinref05_Number.j1 kq a0 x31_9 = some (r1, r2)) ∧ Aside0 (kq ≤ kj1) ∧ Drawn0 w wc)
        case first =>
          have H := HC10.out
          clear HC10
          by_cases c11 : (a0.size : Int) < 3
          · rw [if_pos c11] at H
            have c11b0 : decide ((a0.size : Int) < 3) = true := decide_eq_true c11
            have c11b1 : decide (a0.size < 3) = true := decide_eq_true (by omega)
            clear c11
            (first | rw [c11b0] | (simp only [i64_w, i32_w]; rw [c11b0]) | skip)
            have H' := Aside0.mk H
            clear H
            go_wp2
            go_meet
            case rel => exact ⟨_, (true), (by first | rfl | (simp; done) | (simp [*]; done)), H', ⟨by have := HJ1.out; first | omega | exact Nat.le_refl _⟩, by repeat (first | exact Drawn0.refl _ | apply Drawn0.step)⟩
          · rw [if_neg c11] at H
            have c11b0 : decide ((a0.size : Int) < 3) = false := decide_eq_false c11
            have c11b1 : decide (a0.size < 3) = false := decide_eq_false (by omega)
            clear c11
            (first | rw [c11b0] | (simp only [i64_w, i32_w]; rw [c11b0]) | skip)
            have H' := Aside0.mk H
            clear H
            go_wp2
            go_meet
            case rel => exact ⟨_, (decide ((a0.size : Int) > 18)), (by first | rfl | (simp; done) | (simp [*]; done)), H', ⟨by have := HJ1.out; first | omega | exact Nat.le_refl _⟩, by repeat (first | exact Drawn0.refl _ | apply Drawn0.step)⟩
        case rest =>
          clear HC10
          try clear c1
          try clear p2
          try clear c3
          try clear c3b0
          try clear c3b1
          try clear c4
          try clear c4b0
          try clear c4b1
          try clear p5
          try clear q5
          try clear hx5
          try clear qi5
          try clear c6
          try clear c6b0
          try clear c6b1
          try clear c7
          try clear c7b0
          try clear c7b1
          try clear p8
          try clear q8
          try clear hx8
          try clear qi8
          try clear c9
          try clear c11
          try clear c11b0
          try clear c11b1
          try clear p2
          try clear p5
          try clear p8
          try clear q5
          try clear q8
          obtain ⟨kq, x31_9, rfl, HA, HJ9, ⟨mc9, rfl⟩⟩ := hcut
          cases kq with
          | zero => exact absurd HA.out (by simp [ravelinref05_Number.j1])
          | succ kj9 =>
            have H := HA.out
            clear HA
            simp only [ravelinref05_Number.j1] at H
            by_cases c12 : x31_9 = true
            · subst c12
              have H1 : (some (0, false)) = some (r1, r2) := by rw [if_pos rfl] at H; exact H
              clear H
              have H := H1
              clear H1
              simp only [Option.some.injEq, Prod.mk.injEq] at H
              obtain ⟨rfl, rfl⟩ := H
              go_wp2
              go_ret2
              exact ⟨by first | rfl | (simp; done) | (simp [*]; done), by repeat (first | exact Drawn0.refl _ | apply Drawn0.step)⟩
            · replace c12 := Bool.eq_false_iff.mpr c12
              subst c12
              have H1 : (ravelinref05_Number.l0 kj9 a0 0 2) = some (r1, r2) := by rw [if_neg (show ¬ (false = true) by decide)] at H; exact H
              clear H
              have H := H1
              clear H1
              have H' := Aside0.mk H
              clear H
              go_wp2
              go_loopg [4, 5] kj9 (fun kq v4 v5 w' => ∃ (x4_3 : Int) (x5_3 : Int), v4 = .int .u64 x4_3 ∧ v5 = .int .i64 x5_3 ∧ Aside0 (ravelinref05_Number.l0 kq a0 x4_3 x5_3 = some (r1, r2)) ∧ Aside0 (kq ≤ kj9) ∧ Drawn0 w w')
              case atStart => exact ⟨(0), (2), (by first | rfl | (simp; done) | (simp [*]; done)), (by first | rfl | (simp; done) | (simp [*]; done)), H', ⟨Nat.le_refl _⟩, by repeat (first | exact Drawn0.refl _ | apply Drawn0.step)⟩
              case round =>
                clear H'
                try clear c1
                try clear p2
                try clear c3
                try clear c3b0
                try clear c3b1
                try clear c4
                try clear c4b0
                try clear c4b1
                try clear p5
                try clear q5
                try clear hx5
                try clear qi5
                try clear c6
                try clear c6b0
                try clear c6b1
                try clear c7
                try clear c7b0
                try clear c7b1
                try clear p8
                try clear q8
                try clear hx8
                try clear qi8
                try clear c9
                try clear c11
                try clear c11b0
                try clear c11b1
                try clear c12
                try clear p2
                try clear p5
                try clear p8
                try clear q5
                try clear q8
                obtain ⟨x4_3, x5_3, rfl, rfl, HA, HK3, ⟨m3, rfl⟩⟩ := hrel
                cases gk with
                | zero => exact absurd HA.out (by simp [ravelinref05_Number.l0])
                | succ k3 =>
                  have H := HA.out
                  clear HA
                  simp only [ravelinref05_Number.l0] at H
                  by_cases c13 : x5_3 < (a0.size : Int)
                  · rw [if_pos c13] at H
                    have c13b0 : decide (x5_3 < (a0.size : Int)) = true := decide_eq_true c13
                    clear c13
                    by_cases c14 : 0 ≤ x5_3
                    · rw [if_pos c14] at H
                      have c14b0 : decide (0 ≤ x5_3) = true := decide_eq_true c14
                      clear c14
                      have HC16 := Aside0.mk H
                      clear H
                      have p15 : 0 ≤ (x5_3 : Int) := of_decide_eq_true (by first | (with_reducible assumption) | assumption)
                      have q15 : x5_3 < (a0.size : Int) := of_decide_eq_true (by first | (with_reducible assumption) | assumption)
                      have hx15 := bt_at a0 x5_3
                      replace p15 := eq_true p15
                      replace q15 := eq_true q15
                      go_upto_region 10 with (fail)
                      go_cut [41] (fun v41 wc => ∃ (kq : Nat) (x41_15 : Bool), v41 = .bool x41_15 ∧ Aside0 (ravelinref05_Number.j3 kq a0 x4_3 x5_3 (bt a0 x5_3) x41_15 = some (r1, r2)) ∧ Aside0 (kq ≤ k3) ∧ Drawn0 w wc)
                      case first =>
                        have H := HC16.out
                        clear HC16
                        by_cases c17 : (bt a0 x5_3) ≥ 48
                        · rw [if_pos c17] at H
                          have c17b0 : decide (48 ≤ (bt a0 x5_3)) = true := decide_eq_true c17
                          clear c17
                          (first | rw [c17b0] | (simp only [i64_w, i32_w]; rw [c17b0]) | skip)
                          have H' := Aside0.mk H
                          clear H
                          go_wp2
                          go_meet
                          case rel => exact ⟨_, (decide ((bt a0 x5_3) ≤ 57)), (by first | rfl | (simp; done) | (simp [*]; done)), H', ⟨by have := HJ1.out; have := HJ9.out; have := HK3.out; first | omega | exact Nat.le_refl _⟩, by repeat (first | exact Drawn0.refl _ | apply Drawn0.step)⟩
                        · rw [if_neg c17] at H
                          have c17b0 : decide (48 ≤ (bt a0 x5_3)) = false := decide_eq_false c17
                          clear c17
                          (first | rw [c17b0] | (simp only [i64_w, i32_w]; rw [c17b0]) | skip)
                          have H' := Aside0.mk H
                          clear H
                          go_wp2
                          go_meet
                          case rel => exact ⟨_, (false), (by first | rfl | (simp; done) | (simp [*]; done)), H', ⟨by have := HJ1.out; have := HJ9.out; have := HK3.out; first | omega | exact Nat.le_refl _⟩, by repeat (first | exact Drawn0.refl _ | apply Drawn0.step)⟩
                      case rest =>
                        clear HC16
                        try clear c1
                        try clear p1
                        try clear q1
                        try clear hx1
                        try clear p2
                        try clear c3
                        try clear c3b0
                        try clear c3b1
                        try clear c4
                        try clear c4b0
                        try clear c4b1
                        try clear p5
                        try clear q5
                        try clear hx5
                        try clear qi5
                        try clear c6
                        try clear c6b0
                        try clear c6b1
                        try clear c7
                        try clear c7b0
                        try clear c7b1
                        try clear p8
                        try clear q8
                        try clear hx8
                        try clear qi8
                        try clear c9
                        try clear c11
                        try clear c11b0
                        try clear c11b1
                        try clear c12
                        try clear c13
                        try clear c13b0
                        try clear c14
                        try clear c14b0
                        try clear p15
                        try clear q15
                        try clear hx15
                        try clear c17
                        try clear c17b0
                        try clear p15
                        try clear p2
                        try clear p5
                        try clear p8
                        try clear q15
                        try clear q5
                        try clear q8
                        obtain ⟨kq, x41_15, rfl, HA, HJ15, ⟨mc15, rfl⟩⟩ := hcut
                        cases kq with
                        | zero => exact absurd HA.out (by simp [ravelinref05_Number.j3])
                        | succ kj15 =>
                          have H := HA.out
                          clear HA
                          simp only [ravelinref05_Number.j3] at H
                          by_cases c18 : x41_15 = true
                          · subst c18
                            have H1 : (ravelinref05_Number.l0 kj15 a0 (IntKind.u64.wrap ((IntKind.u64.wrap (16 * x4_3)) + (((bt a0 x5_3) - 48) % 256))) (wrap64 (x5_3 + 1))) = some (r1, r2) := by rw [if_pos rfl] at H; exact H
                            clear H
                            have H := H1
                            clear H1
                            have H' := Aside0.mk H
                            clear H
                            go_wp2
                            go_roundg kj15
                            case measure => have := HJ1.out; have := HJ9.out; have := HK3.out; have := HJ15.out; omega
                            case rel => exact ⟨(IntKind.u64.wrap ((IntKind.u64.wrap (16 * x4_3)) + (((bt a0 x5_3) - 48) % 256))), (wrap64 (x5_3 + 1)), (by first | rfl | (simp; done) | (simp [*]; done)), (by first | rfl | (simp; done) | (simp [*]; done)), H', ⟨by have := HJ1.out; have := HJ9.out; have := HK3.out; have := HJ15.out; omega⟩, by repeat (first | exact Drawn0.refl _ | apply Drawn0.step)⟩
                          · replace c18 := Bool.eq_false_iff.mpr c18
                            subst c18
                            have H1 : (if (bt a0 x5_3) ≥ 97 then (if (bt a0 x5_3) ≤ 102 then (ravelinref05_Number.l0 kj15 a0 (IntKind.u64.wrap ((IntKind.u64.wrap ((IntKind.u64.wrap (16 * x4_3)) + (((bt a0 x5_3) - 97) % 256))) + 10)) (wrap64 (x5_3 + 1))) else (some (0, false))) else (some (0, false))) = some (r1, r2) := by rw [if_neg (show ¬ (false = true) by decide)] at H; exact H
                            clear H
                            have H := H1
                            clear H1
                            by_cases c19 : (bt a0 x5_3) ≥ 97
                            · rw [if_pos c19] at H
                              have c19b0 : decide (97 ≤ (bt a0 x5_3)) = true := decide_eq_true c19
                              clear c19
                              by_cases c20 : (bt a0 x5_3) ≤ 102
                              · rw [if_pos c20] at H
                                have c20b0 : decide ((bt a0 x5_3) ≤ 102) = true := decide_eq_true c20
                                clear c20
                                have H' := Aside0.mk H
                                clear H
                                go_wp2
                                go_roundg kj15
                                case measure => have := HJ1.out; have := HJ9.out; have := HK3.out; have := HJ15.out; omega
                                case rel => exact ⟨(IntKind.u64.wrap ((IntKind.u64.wrap ((IntKind.u64.wrap (16 * x4_3)) + (((bt a0 x5_3) - 97) % 256))) + 10)), (wrap64 (x5_3 + 1)), (by first | rfl | (simp; done) | (simp [*]; done)), (by first | rfl | (simp; done) | (simp [*]; done)), H', ⟨by have := HJ1.out; have := HJ9.out; have := HK3.out; have := HJ15.out; omega⟩, by repeat (first | exact Drawn0.refl _ | apply Drawn0.step)⟩
                              · rw [if_neg c20] at H
                                have c20b0 : decide ((bt a0 x5_3) ≤ 102) = false := decide_eq_false c20
                                clear c20
                                simp only [Option.some.injEq, Prod.mk.injEq] at H
                                obtain ⟨rfl, rfl⟩ := H
                                go_wp2
                                go_ret2
                                exact ⟨by first | rfl | (simp; done) | (simp [*]; done), by repeat (first | exact Drawn0.refl _ | apply Drawn0.step)⟩
                            · rw [if_neg c19] at H
                              have c19b0 : decide (97 ≤ (bt a0 x5_3)) = false := decide_eq_false c19
                              clear c19
                              simp only [Option.some.injEq, Prod.mk.injEq] at H
                              obtain ⟨rfl, rfl⟩ := H
                              go_wp2
                              go_ret2
                              exact ⟨by first | rfl | (simp; done) | (simp [*]; done), by repeat (first | exact Drawn0.refl _ | apply Drawn0.step)⟩
                    · rw [if_neg c14] at H
                      exact absurd H (by simp)
                  · rw [if_neg c13] at H
                    have c13b0 : decide (x5_3 < (a0.size : Int)) = false := decide_eq_false c13
                    clear c13
                    simp only [Option.some.injEq, Prod.mk.injEq] at H
                    obtain ⟨rfl, rfl⟩ := H
                    go_wp2
                    go_ret2
                    exact ⟨by first | rfl | (simp; done) | (simp [*]; done), by repeat (first | exact Drawn0.refl _ | apply Drawn0.step)⟩
      · replace c9 := Bool.eq_false_iff.mpr c9
        subst c9
        have H1 : (if (a0.size : Int) < 1 then (ravelinref05_Number.j4 kj1 a0 true) else (if (a0.size : Int) > 20 then (ravelinref05_Number.j4 kj1 a0 true) else (if 0 < (a0.size : Int) then (if (bt a0 0) = 48 then (ravelinref05_Number.j4 kj1 a0 (decide ((a0.size : Int) > 1))) else (ravelinref05_Number.j4 kj1 a0 false)) else (none)))) = some (r1, r2) := by rw [if_neg (show ¬ (false = true) by decide)] at H; exact H
        clear H
        have H := H1
        clear H1
        have HC21 := Aside0.mk H
        clear H
        go_upto_region 15 with (fail)
        go_cut [86] (fun v86 wc => ∃ (kq : Nat) (x86_20 : Bool), v86 = .bool x86_20 ∧ Aside0 (ravelinref05_Number.j4 kq a0 x86_20 = some (r1, r2)) ∧ Aside0 (kq ≤ kj1) ∧ Drawn0 w wc)
        case first =>
          have H := HC21.out
          clear HC21
          by_cases c22 : (a0.size : Int) < 1
          · rw [if_pos c22] at H
            have c22b0 : decide ((a0.size : Int) < 1) = true := decide_eq_true c22
            have c22b1 : decide (a0.size < 1) = true := decide_eq_true (by omega)
            clear c22
            (first | rw [c22b0] | (simp only [i64_w, i32_w]; rw [c22b0]) | skip)
            have H' := Aside0.mk H
            clear H
            go_wp2
            go_meet
            case rel => exact ⟨_, (true), (by first | rfl | (simp; done) | (simp [*]; done)), H', ⟨by have := HJ1.out; first | omega | exact Nat.le_refl _⟩, by repeat (first | exact Drawn0.refl _ | apply Drawn0.step)⟩
          · rw [if_neg c22] at H
            have c22b0 : decide ((a0.size : Int) < 1) = false := decide_eq_false c22
            have c22b1 : decide (a0.size < 1) = false := decide_eq_false (by omega)
            clear c22
            (first | rw [c22b0] | (simp only [i64_w, i32_w]; rw [c22b0]) | skip)
            by_cases c23 : (a0.size : Int) > 20
            · rw [if_pos c23] at H
              have c23b0 : decide (20 < (a0.size : Int)) = true := decide_eq_true c23
              have c23b1 : decide (20 < a0.size) = true := decide_eq_true (by omega)
              clear c23
              have H' := Aside0.mk H
              clear H
              go_wp2
              go_meet
              case rel => exact ⟨_, (true), (by first | rfl | (simp; done) | (simp [*]; done)), H', ⟨by have := HJ1.out; first | omega | exact Nat.le_refl _⟩, by repeat (first | exact Drawn0.refl _ | apply Drawn0.step)⟩
            · rw [if_neg c23] at H
              have c23b0 : decide (20 < (a0.size : Int)) = false := decide_eq_false c23
              have c23b1 : decide (20 < a0.size) = false := decide_eq_false (by omega)
              clear c23
              by_cases c24 : 0 < (a0.size : Int)
              · rw [if_pos c24] at H
                have c24b0 : decide (0 < (a0.size : Int)) = true := decide_eq_true c24
                have c24b1 : decide (0 < a0.size) = true := decide_eq_true (by omega)
                clear c24
                by_cases c26 : (bt a0 0) = 48
                · rw [if_pos c26] at H
                  have c26b0 : ((bt a0 0) == 48) = true := beq_iff_eq.mpr c26
                  have c26b1 : ((bt a0 0) != 48) = false := bne_eq_false_iff_eq.mpr c26
                  clear c26
                  have H' := Aside0.mk H
                  clear H
                  have p25 : 0 ≤ (0 : Int) := (by omega)
                  have q25 : 0 < a0.size := (by have : (0 : Int) < (a0.size : Int) := of_decide_eq_true (by first | (with_reducible assumption) | assumption); omega)
                  have hx25 : ∀ h : 0 < a0.size, ((a0[0]'h).toNat : Int) = bt a0 0 := bt_at a0 0
                  clear p25
                  have qi25 : (0 < (a0.size : Int)) = True := eq_true (of_decide_eq_true (by first | (with_reducible assumption) | assumption))
                  replace q25 := eq_true q25
                  go_wp2
                  go_meet
                  case rel => exact ⟨_, (decide ((a0.size : Int) > 1)), (by first | rfl | (simp; done) | (simp [*]; done)), H', ⟨by have := HJ1.out; first | omega | exact Nat.le_refl _⟩, by repeat (first | exact Drawn0.refl _ | apply Drawn0.step)⟩
                · rw [if_neg c26] at H
                  have c26b0 : ((bt a0 0) == 48) = false := beq_eq_false_iff_ne.mpr c26
                  have c26b1 : ((bt a0 0) != 48) = true := bne_iff_ne.mpr c26
                  have H' := Aside0.mk H
                  clear H
                  have p25 : 0 ≤ (0 : Int) := (by omega)
                  have q25 : 0 < a0.size := (by have : (0 : Int) < (a0.size : Int) := of_decide_eq_true (by first | (with_reducible assumption) | assumption); omega)
                  have hx25 : ∀ h : 0 < a0.size, ((a0[0]'h).toNat : Int) = bt a0 0 := bt_at a0 0
                  clear p25
                  have qi25 : (0 < (a0.size : Int)) = True := eq_true (of_decide_eq_true (by first | (with_reducible assumption) | assumption))
                  replace q25 := eq_true q25
                  go_wp2
                  go_meet
                  case rel => exact ⟨_, (false), (by first | rfl | (simp; done) | (simp [*]; done)), H', ⟨by have := HJ1.out; first | omega | exact Nat.le_refl _⟩, by repeat (first | exact Drawn0.refl _ | apply Drawn0.step)⟩
              · rw [if_neg c24] at H
                exact absurd H (by simp)
        case rest =>
          clear HC21
          try clear c1
          try clear p1
          try clear q1
          try clear hx1
          try clear c2
          try clear p2
          try clear q2
          try clear hx2
          try clear qi2
          try clear c3
          try clear c3b0
          try clear c3b1
          try clear c4
          try clear c4b0
          try clear c4b1
          try clear p5
          try clear q5
          try clear hx5
          try clear qi5
          try clear c6
          try clear c6b0
          try clear c6b1
          try clear p6
          try clear c7
          try clear c7b0
          try clear c7b1
          try clear p8
          try clear q8
          try clear hx8
          try clear qi8
          try clear c9
          try clear c11
          try clear c11b0
          try clear c11b1
          try clear c12
          try clear c13
          try clear c13b0
          try clear c14
          try clear c14b0
          try clear c15
          try clear p15
          try clear q15
          try clear hx15
          try clear c17
          try clear c17b0
          try clear c18
          try clear c19
          try clear c19b0
          try clear c20
          try clear c20b0
          try clear c22
          try clear c22b0
          try clear c22b1
          try clear c23
          try clear c23b0
          try clear c23b1
          try clear c24
          try clear c24b0
          try clear c24b1
          try clear p25
          try clear q25
          try clear hx25
          try clear qi25
          try clear c26
          try clear c26b0
          try clear c26b1
          try clear p1
          try clear p15
          try clear p2
          try clear p25
          try clear p5
          try clear p8
          try clear q1
          try clear q15
          try clear q25
          try clear q5
          try clear q8
          obtain ⟨kq, x86_20, rfl, HA, HJ20, ⟨mc20, rfl⟩⟩ := hcut
          cases kq with
          | zero => exact absurd HA.out (by simp [ravelinref05_Number.j4])
          | succ kj20 =>
            have H := HA.out
            clear HA
            simp only [ravelinref05_Number.j4] at H
            by_cases c27 : x86_20 = true
            · subst c27
              have H1 : (some (0, false)) = some (r1, r2) := by rw [if_pos rfl] at H; exact H
              clear H
              have H := H1
              clear H1
              simp only [Option.some.injEq, Prod.mk.injEq] at H
              obtain ⟨rfl, rfl⟩ := H
              go_wp2
              go_ret2
              exact ⟨by first | rfl | (simp; done) | (simp [*]; done), by repeat (first | exact Drawn0.refl _ | apply Drawn0.step)⟩
            · replace c27 := Bool.eq_false_iff.mpr c27
              subst c27
              have H1 : (ravelinref05_Number.l1 kj20 a0 0 0) = some (r1, r2) := by rw [if_neg (show ¬ (false = true) by decide)] at H; exact H
              clear H
              have H := H1
              clear H1
              have H' := Aside0.mk H
              clear H
              go_wp2
              go_loopg [7, 8] kj20 (fun kq v7 v8 w' => ∃ (x7_3 : Int) (x8_3 : Int), v7 = .int .u64 x7_3 ∧ v8 = .int .i64 x8_3 ∧ Aside0 (ravelinref05_Number.l1 kq a0 x7_3 x8_3 = some (r1, r2)) ∧ Aside0 (kq ≤ kj20) ∧ Drawn0 w w')
              case atStart => exact ⟨(0), (0), (by first | rfl | (simp; done) | (simp [*]; done)), (by first | rfl | (simp; done) | (simp [*]; done)), H', ⟨Nat.le_refl _⟩, by repeat (first | exact Drawn0.refl _ | apply Drawn0.step)⟩
              case round =>
                clear H'
                try clear c1
                try clear p1
                try clear q1
                try clear hx1
                try clear c2
                try clear p2
                try clear q2
                try clear hx2
                try clear qi2
                try clear c3
                try clear c3b0
                try clear c3b1
                try clear c4
                try clear c4b0
                try clear c4b1
                try clear p5
                try clear q5
                try clear hx5
                try clear qi5
                try clear c6
                try clear c6b0
                try clear c6b1
                try clear p6
                try clear c7
                try clear c7b0
                try clear c7b1
                try clear p8
                try clear q8
                try clear hx8
                try clear qi8
                try clear c9
                try clear c11
                try clear c11b0
                try clear c11b1
                try clear c12
                try clear c13
                try clear c13b0
                try clear c14
                try clear c14b0
                try clear c15
                try clear p15
                try clear q15
                try clear hx15
                try clear c17
                try clear c17b0
                try clear c18
                try clear c19
                try clear c19b0
                try clear c20
                try clear c20b0
                try clear c22
                try clear c22b0
                try clear c22b1
                try clear c23
                try clear c23b0
                try clear c23b1
                try clear c24
                try clear c24b0
                try clear c24b1
                try clear p25
                try clear q25
                try clear hx25
                try clear qi25
                try clear c26
                try clear c26b0
                try clear c26b1
                try clear c27
                try clear p1
                try clear p15
                try clear p2
                try clear p25
                try clear p5
                try clear p6
                try clear p8
                try clear q1
                try clear q15
                try clear q2
                try clear q25
                try clear q5
                try clear q8
                obtain ⟨x7_3, x8_3, rfl, rfl, HA, HK3, ⟨m3, rfl⟩⟩ := hrel
                cases gk with
                | zero => exact absurd HA.out (by simp [ravelinref05_Number.l1])
                | succ k3 =>
                  have H := HA.out
                  clear HA
                  simp only [ravelinref05_Number.l1] at H
                  by_cases c28 : x8_3 < (a0.size : Int)
                  · rw [if_pos c28] at H
                    have c28b0 : decide (x8_3 < (a0.size : Int)) = true := decide_eq_true c28
                    clear c28
                    by_cases c29 : 0 ≤ x8_3
                    · rw [if_pos c29] at H
                      have c29b0 : decide (0 ≤ x8_3) = true := decide_eq_true c29
                      clear c29
                      replace H := Option.bind_eq_some_iff.mp H
                      obtain ⟨t140, A310, H⟩ := H
                      replace H : (if t140 = true then (if x7_3 > 1844674407370955161 then (some (0, false)) else (if x7_3 = 1844674407370955161 then (if (((bt a0 x8_3) - 48) % 256) > 5 then (some (0, false)) else (ravelinref05_Number.l1 k3 a0 (IntKind.u64.wrap ((IntKind.u64.wrap (10 * x7_3)) + (((bt a0 x8_3) - 48) % 256))) (wrap64 (x8_3 + 1)))) else (ravelinref05_Number.l1 k3 a0 (IntKind.u64.wrap ((IntKind.u64.wrap (10 * x7_3)) + (((bt a0 x8_3) - 48) % 256))) (wrap64 (x8_3 + 1))))) else (some (0, false))) = some (r1, r2) := H
                      have A31 := Aside0.mk A310
                      clear A310
                      by_cases c32 : t140 = true
                      · subst c32
                        have H1 : (if x7_3 > 1844674407370955161 then (some (0, false)) else (if x7_3 = 1844674407370955161 then (if (((bt a0 x8_3) - 48) % 256) > 5 then (some (0, false)) else (ravelinref05_Number.l1 k3 a0 (IntKind.u64.wrap ((IntKind.u64.wrap (10 * x7_3)) + (((bt a0 x8_3) - 48) % 256))) (wrap64 (x8_3 + 1)))) else (ravelinref05_Number.l1 k3 a0 (IntKind.u64.wrap ((IntKind.u64.wrap (10 * x7_3)) + (((bt a0 x8_3) - 48) % 256))) (wrap64 (x8_3 + 1))))) = some (r1, r2) := by rw [if_pos rfl] at H; exact H
                        clear H
                        have H := H1
                        clear H1
                        by_cases c34 : x7_3 > 1844674407370955161
                        · rw [if_pos c34] at H
                          have c34b0 : decide (1844674407370955161 < x7_3) = true := decide_eq_true c34
                          clear c34
                          simp only [Option.some.injEq, Prod.mk.injEq] at H
                          obtain ⟨rfl, rfl⟩ := H
                          have p30 : 0 ≤ (x8_3 : Int) := of_decide_eq_true (by first | (with_reducible assumption) | assumption)
                          have q30 : x8_3 < (a0.size : Int) := of_decide_eq_true (by first | (with_reducible assumption) | assumption)
                          have hx30 := bt_at a0 x8_3
                          replace p30 := eq_true p30
                          replace q30 := eq_true q30
                          go_wp2_with (first | ((with_reducible refine gate_callee (f := 176) rfl ?_); refine goesL_ (some 96) rfl rfl Try.func176 (by kernel_rfl) rfl #[.int .u8 (bt a0 x8_3)] rfl (by (try simp only [List.map_toArray, List.map_cons, List.map_nil]); first | done | rfl | (simp only [List.length_drop, List.length_take]; rfl)) ?_; (with_reducible refine (ravelinref05_digit.calls (bt a0 x8_3) true _ A31.out).mono ?_); rintro e w' ⟨rfl, ⟨nd, rfl⟩⟩; refine ⟨_, rfl, ?_⟩; have p33 : 0 ≤ (x8_3 : Int) := of_decide_eq_true (by first | (with_reducible assumption) | assumption); have q33 : x8_3 < (a0.size : Int) := of_decide_eq_true (by first | (with_reducible assumption) | assumption); have hx33 := bt_at a0 x8_3; replace p33 := eq_true p33; replace q33 := eq_true q33))
                          go_ret2
                          exact ⟨by first | rfl | (simp; done) | (simp [*]; done), by repeat (first | exact Drawn0.refl _ | apply Drawn0.step)⟩
                        · rw [if_neg c34] at H
                          have c34b0 : decide (1844674407370955161 < x7_3) = false := decide_eq_false c34
                          clear c34
                          by_cases c35 : x7_3 = 1844674407370955161
                          · rw [if_pos c35] at H
                            have c35b0 : (x7_3 == 1844674407370955161) = true := beq_iff_eq.mpr c35
                            have c35b1 : (x7_3 != 1844674407370955161) = false := bne_eq_false_iff_eq.mpr c35
                            clear c35
                            by_cases c36 : (((bt a0 x8_3) - 48) % 256) > 5
                            · rw [if_pos c36] at H
                              have c36b0 : decide (5 < (((bt a0 x8_3) - 48) % 256)) = true := decide_eq_true c36
                              clear c36
                              simp only [Option.some.injEq, Prod.mk.injEq] at H
                              obtain ⟨rfl, rfl⟩ := H
                              have p30 : 0 ≤ (x8_3 : Int) := of_decide_eq_true (by first | (with_reducible assumption) | assumption)
                              have q30 : x8_3 < (a0.size : Int) := of_decide_eq_true (by first | (with_reducible assumption) | assumption)
                              have hx30 := bt_at a0 x8_3
                              replace p30 := eq_true p30
                              replace q30 := eq_true q30
                              go_wp2_with (first | ((with_reducible refine gate_callee (f := 176) rfl ?_); refine goesL_ (some 96) rfl rfl Try.func176 (by kernel_rfl) rfl #[.int .u8 (bt a0 x8_3)] rfl (by (try simp only [List.map_toArray, List.map_cons, List.map_nil]); first | done | rfl | (simp only [List.length_drop, List.length_take]; rfl)) ?_; (with_reducible refine (ravelinref05_digit.calls (bt a0 x8_3) true _ A31.out).mono ?_); rintro e w' ⟨rfl, ⟨nd, rfl⟩⟩; refine ⟨_, rfl, ?_⟩; have p33 : 0 ≤ (x8_3 : Int) := of_decide_eq_true (by first | (with_reducible assumption) | assumption); have q33 : x8_3 < (a0.size : Int) := of_decide_eq_true (by first | (with_reducible assumption) | assumption); have hx33 := bt_at a0 x8_3; replace p33 := eq_true p33; replace q33 := eq_true q33))
                              go_ret2
                              exact ⟨by first | rfl | (simp; done) | (simp [*]; done), by repeat (first | exact Drawn0.refl _ | apply Drawn0.step)⟩
                            · rw [if_neg c36] at H
                              have c36b0 : decide (5 < (((bt a0 x8_3) - 48) % 256)) = false := decide_eq_false c36
                              clear c36
                              have H' := Aside0.mk H
                              clear H
                              have p30 : 0 ≤ (x8_3 : Int) := of_decide_eq_true (by first | (with_reducible assumption) | assumption)
                              have q30 : x8_3 < (a0.size : Int) := of_decide_eq_true (by first | (with_reducible assumption) | assumption)
                              have hx30 := bt_at a0 x8_3
                              replace p30 := eq_true p30
                              replace q30 := eq_true q30
                              go_wp2_with (first | ((with_reducible refine gate_callee (f := 176) rfl ?_); refine goesL_ (some 96) rfl rfl Try.func176 (by kernel_rfl) rfl #[.int .u8 (bt a0 x8_3)] rfl (by (try simp only [List.map_toArray, List.map_cons, List.map_nil]); first | done | rfl | (simp only [List.length_drop, List.length_take]; rfl)) ?_; (with_reducible refine (ravelinref05_digit.calls (bt a0 x8_3) true _ A31.out).mono ?_); rintro e w' ⟨rfl, ⟨nd, rfl⟩⟩; refine ⟨_, rfl, ?_⟩; have p33 : 0 ≤ (x8_3 : Int) := of_decide_eq_true (by first | (with_reducible assumption) | assumption); have q33 : x8_3 < (a0.size : Int) := of_decide_eq_true (by first | (with_reducible assumption) | assumption); have hx33 := bt_at a0 x8_3; replace p33 := eq_true p33; replace q33 := eq_true q33))
                              go_roundg k3
                              case measure => have := HJ1.out; have := HJ20.out; have := HK3.out; omega
                              case rel => exact ⟨(IntKind.u64.wrap ((IntKind.u64.wrap (10 * x7_3)) + (((bt a0 x8_3) - 48) % 256))), (wrap64 (x8_3 + 1)), (by first | rfl | (simp; done) | (simp [*]; done)), (by first | rfl | (simp; done) | (simp [*]; done)), H', ⟨by have := HJ1.out; have := HJ20.out; have := HK3.out; omega⟩, by repeat (first | exact Drawn0.refl _ | apply Drawn0.step)⟩
                          · rw [if_neg c35] at H
                            have c35b0 : (x7_3 == 1844674407370955161) = false := beq_eq_false_iff_ne.mpr c35
                            have c35b1 : (x7_3 != 1844674407370955161) = true := bne_iff_ne.mpr c35
                            have H' := Aside0.mk H
                            clear H
                            have p30 : 0 ≤ (x8_3 : Int) := of_decide_eq_true (by first | (with_reducible assumption) | assumption)
                            have q30 : x8_3 < (a0.size : Int) := of_decide_eq_true (by first | (with_reducible assumption) | assumption)
                            have hx30 := bt_at a0 x8_3
                            replace p30 := eq_true p30
                            replace q30 := eq_true q30
                            go_wp2_with (first | ((with_reducible refine gate_callee (f := 176) rfl ?_); refine goesL_ (some 96) rfl rfl Try.func176 (by kernel_rfl) rfl #[.int .u8 (bt a0 x8_3)] rfl (by (try simp only [List.map_toArray, List.map_cons, List.map_nil]); first | done | rfl | (simp only [List.length_drop, List.length_take]; rfl)) ?_; (with_reducible refine (ravelinref05_digit.calls (bt a0 x8_3) true _ A31.out).mono ?_); rintro e w' ⟨rfl, ⟨nd, rfl⟩⟩; refine ⟨_, rfl, ?_⟩; have p33 : 0 ≤ (x8_3 : Int) := of_decide_eq_true (by first | (with_reducible assumption) | assumption); have q33 : x8_3 < (a0.size : Int) := of_decide_eq_true (by first | (with_reducible assumption) | assumption); have hx33 := bt_at a0 x8_3; replace p33 := eq_true p33; replace q33 := eq_true q33))
                            go_roundg k3
                            case measure => have := HJ1.out; have := HJ20.out; have := HK3.out; omega
                            case rel => exact ⟨(IntKind.u64.wrap ((IntKind.u64.wrap (10 * x7_3)) + (((bt a0 x8_3) - 48) % 256))), (wrap64 (x8_3 + 1)), (by first | rfl | (simp; done) | (simp [*]; done)), (by first | rfl | (simp; done) | (simp [*]; done)), H', ⟨by have := HJ1.out; have := HJ20.out; have := HK3.out; omega⟩, by repeat (first | exact Drawn0.refl _ | apply Drawn0.step)⟩
                      · replace c32 := Bool.eq_false_iff.mpr c32
                        subst c32
                        have H1 : (some (0, false)) = some (r1, r2) := by rw [if_neg (show ¬ (false = true) by decide)] at H; exact H
                        clear H
                        have H := H1
                        clear H1
                        simp only [Option.some.injEq, Prod.mk.injEq] at H
                        obtain ⟨rfl, rfl⟩ := H
                        have p30 : 0 ≤ (x8_3 : Int) := of_decide_eq_true (by first | (with_reducible assumption) | assumption)
                        have q30 : x8_3 < (a0.size : Int) := of_decide_eq_true (by first | (with_reducible assumption) | assumption)
                        have hx30 := bt_at a0 x8_3
                        replace p30 := eq_true p30
                        replace q30 := eq_true q30
                        go_wp2_with (first | ((with_reducible refine gate_callee (f := 176) rfl ?_); refine goesL_ (some 96) rfl rfl Try.func176 (by kernel_rfl) rfl #[.int .u8 (bt a0 x8_3)] rfl (by (try simp only [List.map_toArray, List.map_cons, List.map_nil]); first | done | rfl | (simp only [List.length_drop, List.length_take]; rfl)) ?_; (with_reducible refine (ravelinref05_digit.calls (bt a0 x8_3) false _ A31.out).mono ?_); rintro e w' ⟨rfl, ⟨nd, rfl⟩⟩; refine ⟨_, rfl, ?_⟩))
                        go_ret2
                        exact ⟨by first | rfl | (simp; done) | (simp [*]; done), by repeat (first | exact Drawn0.refl _ | apply Drawn0.step)⟩
                    · rw [if_neg c29] at H
                      exact absurd H (by simp)
                  · rw [if_neg c28] at H
                    have c28b0 : decide (x8_3 < (a0.size : Int)) = false := decide_eq_false c28
                    clear c28
                    simp only [Option.some.injEq, Prod.mk.injEq] at H
                    obtain ⟨rfl, rfl⟩ := H
                    go_wp2
                    go_ret2
                    exact ⟨by first | rfl | (simp; done) | (simp [*]; done), by repeat (first | exact Drawn0.refl _ | apply Drawn0.step)⟩

end Go.Proofs.Ytkojnaebkgekaaa.P
