import Derived.Test.YtkojnaebkgekaaaRef0
namespace Go.Proofs.Ytkojnaebkgekaaa.P
open Go.RowKit Go.Proofs.YtkojnaebkgekaaaW.PrintWords Go.Proofs.YtkojnaebkgekaaaW.PrintLast Go.Proofs.YtkojnaebkgekaaaW.PrintMore
set_option linter.unusedVariables false
set_option linter.unusedSimpArgs false
attribute [local go_sem] max2_int min2_int max_two min_two max_three min_three max_four min_four
/-! ### ravelinref05_sign: function 179 -/
mutual
def ravelinref05_sign.j0 : Nat → ByteArray → Int → Bool → Option (Int)
  | 0, _, _, _ => none
  | k + 1, x0, x1, x5 => if 0 ≤ x1 then (if x1 < (x0.size : Int) then (if (bt x0 x1) = 59 then (ravelinref05_sign.j1 k x5 (bt x0 x1) ((bt x0 x1) == 59)) else (if (bt x0 x1) = 44 then (ravelinref05_sign.j1 k x5 (bt x0 x1) ((bt x0 x1) == 44)) else (if (bt x0 x1) = 40 then (ravelinref05_sign.j1 k x5 (bt x0 x1) ((bt x0 x1) == 40)) else (if (bt x0 x1) = 41 then (ravelinref05_sign.j1 k x5 (bt x0 x1) ((bt x0 x1) == 41)) else (ravelinref05_sign.j1 k x5 (bt x0 x1) ((bt x0 x1) == 38)))))) else (none)) else (none)
def ravelinref05_sign.j1 : Nat → Bool → Int → Bool → Option (Int)
  | 0, _, _, _ => none
  | k + 1, x5, x20, x21 => if x21 = true then (some 1) else (if x20 = 60 then (ravelinref05_sign.j2 k x5 x20 (x20 == 60)) else (ravelinref05_sign.j2 k x5 x20 (x20 == 62)))
def ravelinref05_sign.j2 : Nat → Bool → Int → Bool → Option (Int)
  | 0, _, _, _ => none
  | k + 1, x5, x20, x27 => if x27 = true then (if x5 = true then (some 2) else (some 1)) else (if x20 = 61 then (ravelinref05_sign.j3 k x5 (x20 == 61)) else (ravelinref05_sign.j3 k x5 (x20 == 33)))
def ravelinref05_sign.j3 : Nat → Bool → Bool → Option (Int)
  | 0, _, _ => none
  | k + 1, x5, x31 => if x31 = true then (if x5 = true then (some 2) else (some 0)) else (some 0)
end
def ravelinref05_sign.f (k : Nat) (a0 : ByteArray) (a1 : Int) : Option (Int) := if (wrap64 (a1 + 1)) < (a0.size : Int) then (if 0 ≤ (wrap64 (a1 + 1)) then (ravelinref05_sign.j0 k a0 a1 ((bt a0 (wrap64 (a1 + 1))) == 61)) else (none)) else (ravelinref05_sign.j0 k a0 a1 false)
theorem ravelinref05_sign.mono_l : ∀ k, (∀ y0 y1 y2, LeO (ravelinref05_sign.j0 k y0 y1 y2) (ravelinref05_sign.j0 (k + 1) y0 y1 y2)) ∧ (∀ y0 y1 y2, LeO (ravelinref05_sign.j1 k y0 y1 y2) (ravelinref05_sign.j1 (k + 1) y0 y1 y2)) ∧ (∀ y0 y1 y2, LeO (ravelinref05_sign.j2 k y0 y1 y2) (ravelinref05_sign.j2 (k + 1) y0 y1 y2)) ∧ (∀ y0 y1, LeO (ravelinref05_sign.j3 k y0 y1) (ravelinref05_sign.j3 (k + 1) y0 y1))
  | 0 => ⟨fun _ _ _ r h => by simp [ravelinref05_sign.j0] at h, fun _ _ _ r h => by simp [ravelinref05_sign.j1] at h, fun _ _ _ r h => by simp [ravelinref05_sign.j2] at h, fun _ _ r h => by simp [ravelinref05_sign.j3] at h⟩
  | k + 1 => by
    obtain ⟨ih0, ih1, ih2, ih3⟩ := ravelinref05_sign.mono_l k
    refine ⟨?_, ?_, ?_, ?_⟩
    · intro y0 y1 y2
      unfold ravelinref05_sign.j0
      repeat' first
      | (with_reducible exact ih0 _ _ _)
      | (with_reducible exact ih1 _ _ _)
      | (with_reducible exact ih2 _ _ _)
      | (with_reducible exact ih3 _ _)
      | (with_reducible exact LeO.refl _)
      | (with_reducible exact LeO.none _)
      | (with_reducible refine LeO.ite ?_ ?_)
      | (with_reducible refine LeO.bind ?_ (fun _ => ?_))
      | exact ih0 _ _ _
      | exact ih1 _ _ _
      | exact ih2 _ _ _
      | exact ih3 _ _
      | exact LeO.none _
      | refine LeO.ite ?_ ?_
      | refine LeO.bind ?_ (fun _ => ?_)
    · intro y0 y1 y2
      unfold ravelinref05_sign.j1
      repeat' first
      | (with_reducible exact ih0 _ _ _)
      | (with_reducible exact ih1 _ _ _)
      | (with_reducible exact ih2 _ _ _)
      | (with_reducible exact ih3 _ _)
      | (with_reducible exact LeO.refl _)
      | (with_reducible exact LeO.none _)
      | (with_reducible refine LeO.ite ?_ ?_)
      | (with_reducible refine LeO.bind ?_ (fun _ => ?_))
      | exact ih0 _ _ _
      | exact ih1 _ _ _
      | exact ih2 _ _ _
      | exact ih3 _ _
      | exact LeO.none _
      | refine LeO.ite ?_ ?_
      | refine LeO.bind ?_ (fun _ => ?_)
    · intro y0 y1 y2
      unfold ravelinref05_sign.j2
      repeat' first
      | (with_reducible exact ih0 _ _ _)
      | (with_reducible exact ih1 _ _ _)
      | (with_reducible exact ih2 _ _ _)
      | (with_reducible exact ih3 _ _)
      | (with_reducible exact LeO.refl _)
      | (with_reducible exact LeO.none _)
      | (with_reducible refine LeO.ite ?_ ?_)
      | (with_reducible refine LeO.bind ?_ (fun _ => ?_))
      | exact ih0 _ _ _
      | exact ih1 _ _ _
      | exact ih2 _ _ _
      | exact ih3 _ _
      | exact LeO.none _
      | refine LeO.ite ?_ ?_
      | refine LeO.bind ?_ (fun _ => ?_)
    · intro y0 y1
      unfold ravelinref05_sign.j3
      repeat' first
      | (with_reducible exact ih0 _ _ _)
      | (with_reducible exact ih1 _ _ _)
      | (with_reducible exact ih2 _ _ _)
      | (with_reducible exact ih3 _ _)
      | (with_reducible exact LeO.refl _)
      | (with_reducible exact LeO.none _)
      | (with_reducible refine LeO.ite ?_ ?_)
      | (with_reducible refine LeO.bind ?_ (fun _ => ?_))
      | exact ih0 _ _ _
      | exact ih1 _ _ _
      | exact ih2 _ _ _
      | exact ih3 _ _
      | exact LeO.none _
      | refine LeO.ite ?_ ?_
      | refine LeO.bind ?_ (fun _ => ?_)
theorem ravelinref05_sign.mono : ∀ a0 a1 k, LeO (ravelinref05_sign.f k a0 a1) (ravelinref05_sign.f (k + 1) a0 a1) := by
  intro a0 a1 k
  obtain ⟨ih0, ih1, ih2, ih3⟩ := ravelinref05_sign.mono_l k
  unfold ravelinref05_sign.f
  repeat' first
      | (with_reducible exact ih0 _ _ _)
      | (with_reducible exact ih1 _ _ _)
      | (with_reducible exact ih2 _ _ _)
      | (with_reducible exact ih3 _ _)
      | (with_reducible exact LeO.refl _)
      | (with_reducible exact LeO.none _)
      | (with_reducible refine LeO.ite ?_ ?_)
      | (with_reducible refine LeO.bind ?_ (fun _ => ?_))
      | exact ih0 _ _ _
      | exact ih1 _ _ _
      | exact ih2 _ _ _
      | exact ih3 _ _
      | exact LeO.none _
      | refine LeO.ite ?_ ?_
      | refine LeO.bind ?_ (fun _ => ?_)
set_option maxHeartbeats 8000000 in
set_option maxRecDepth 100000 in
theorem ravelinref05_sign.calls (k : Nat) (a0 : ByteArray) (a1 : Int) (r : Int) (w : World) (h : ravelinref05_sign.f k a0 a1 = some r) :
    Calls Try.prog 179 #[.string a0, .int .i64 a1] w fun e w' => e = .returned (.int .i64 r) ∧ Drawn0 w w' := by
  have H : (if (wrap64 (a1 + 1)) < (a0.size : Int) then (if 0 ≤ (wrap64 (a1 + 1)) then (ravelinref05_sign.j0 k a0 a1 ((bt a0 (wrap64 (a1 + 1))) == 61)) else (none)) else (ravelinref05_sign.j0 k a0 a1 false)) = some r := h
  clear h
  have HC3 := Aside0.mk H
  clear H
  go_enter Try.func179, Try.ntmps179
  go_upto_region 1 with (fail)
  go_cut [5] (fun v5 wc => ∃ (kq : Nat) (x5_2 : Bool), v5 = .bool x5_2 ∧ Aside0 (ravelinref05_sign.j0 kq a0 a1 x5_2 = some r) ∧ Aside0 (kq ≤ k) ∧ Drawn0 w wc)
  case first =>
    have H := HC3.out
    clear HC3
    by_cases c4 : (wrap64 (a1 + 1)) < (a0.size : Int)
    · rw [if_pos c4] at H
      have c4b0 : decide ((wrap64 (a1 + 1)) < (a0.size : Int)) = true := decide_eq_true c4
      clear c4
      (first | rw [c4b0] | (simp only [i64_w, i32_w]; rw [c4b0]) | skip)
      obtain ⟨ji5, hji5⟩ : ∃ j_ : Int, (wrap64 (a1 + 1)) = j_ := ⟨_, rfl⟩
      replace H : (if 0 ≤ (ji5) then (ravelinref05_sign.j0 k a0 a1 ((bt a0 (ji5)) == 61)) else (none)) = some r := by first | (rw [hji5] at H; exact H) | (simp only [hji5] at H ⊢; exact H)
      (try rw [hji5] at c4b0)
      have hji5w : (IntKind.i64.wrap (a1 + 1)) = ji5 := (i64_w _).trans hji5
      by_cases c6 : 0 ≤ (ji5)
      · rw [if_pos c6] at H
        have c6b0 : decide (0 ≤ (ji5)) = true := decide_eq_true c6
        clear c6
        have H' := Aside0.mk H
        clear H
        have p7 : 0 ≤ ((ji5) : Int) := of_decide_eq_true (by first | (with_reducible assumption) | assumption)
        have q7 : (ji5) < (a0.size : Int) := of_decide_eq_true (by first | (with_reducible assumption) | assumption)
        have hx7 := bt_at a0 (ji5)
        replace p7 := eq_true p7
        replace q7 := eq_true q7
        go_wp2
        go_meet
        case rel => exact ⟨_, (((bt a0 (ji5)) == 61)), (by first | rfl | (simp; done) | (simp only [← hji5] <;> (first | rfl | simp)) | (simp [*]; done)), H', ⟨by first | omega | exact Nat.le_refl _⟩, by repeat (first | exact Drawn0.refl _ | apply Drawn0.step)⟩
      · rw [if_neg c6] at H
        exact absurd H (by simp)
    · rw [if_neg c4] at H
      have c4b0 : decide ((wrap64 (a1 + 1)) < (a0.size : Int)) = false := decide_eq_false c4
      clear c4
      (first | rw [c4b0] | (simp only [i64_w, i32_w]; rw [c4b0]) | skip)
      have H' := Aside0.mk H
      clear H
      go_wp2
      go_meet
      case rel => exact ⟨_, (false), (by first | rfl | (simp; done) | (simp [*]; done)), H', ⟨by first | omega | exact Nat.le_refl _⟩, by repeat (first | exact Drawn0.refl _ | apply Drawn0.step)⟩
  case rest =>
    clear HC3
    try clear c1
    try clear p2
    try clear c4
    try clear c4b0
    try clear c6
    try clear c6b0
    try clear p6
    try clear p7
    try clear q7
    try clear hx7
    try clear p7
    try clear q7
    obtain ⟨kq, x5_2, rfl, HA, HJ2, ⟨mc2, rfl⟩⟩ := hcut
    cases kq with
    | zero => exact absurd HA.out (by simp [ravelinref05_sign.j0])
    | succ kj2 =>
      have H := HA.out
      clear HA
      simp only [ravelinref05_sign.j0] at H
      by_cases c8 : 0 ≤ a1
      · rw [if_pos c8] at H
        have c8b0 : decide (0 ≤ a1) = true := decide_eq_true c8
        clear c8
        by_cases c9 : a1 < (a0.size : Int)
        · rw [if_pos c9] at H
          have c9b0 : decide (a1 < (a0.size : Int)) = true := decide_eq_true c9
          clear c9
          have HC11 := Aside0.mk H
          clear H
          have p10 : 0 ≤ (a1 : Int) := of_decide_eq_true (by first | (with_reducible assumption) | assumption)
          have q10 : a1 < (a0.size : Int) := of_decide_eq_true (by first | (with_reducible assumption) | assumption)
          have hx10 := bt_at a0 a1
          replace p10 := eq_true p10
          replace q10 := eq_true q10
          go_upto_if 21 with (fail)
          go_cut [21] (fun v21 wc => ∃ (kq : Nat) (x21_10 : Bool), v21 = .bool x21_10 ∧ Aside0 (ravelinref05_sign.j1 kq x5_2 (bt a0 a1) x21_10 = some r) ∧ Aside0 (kq ≤ kj2) ∧ Drawn0 w wc)
          case first =>
            have H := HC11.out
            clear HC11
            by_cases c12 : (bt a0 a1) = 59
            · rw [if_pos c12] at H
              have c12b0 : ((bt a0 a1) == 59) = true := beq_iff_eq.mpr c12
              have c12b1 : ((bt a0 a1) != 59) = false := bne_eq_false_iff_eq.mpr c12
              clear c12
              (first | rw [c12b0] | (simp only [i64_w, i32_w]; rw [c12b0]) | skip)
              have H' := Aside0.mk H
              clear H
              go_wp2
              go_meet
              case rel => exact ⟨_, (((bt a0 a1) == 59)), (by first | rfl | (simp; done) | (simp [*]; done)), H', ⟨by have := HJ2.out; first | omega | exact Nat.le_refl _⟩, by repeat (first | exact Drawn0.refl _ | apply Drawn0.step)⟩
            · rw [if_neg c12] at H
              have c12b0 : ((bt a0 a1) == 59) = false := beq_eq_false_iff_ne.mpr c12
              have c12b1 : ((bt a0 a1) != 59) = true := bne_iff_ne.mpr c12
              (first | rw [c12b0] | (simp only [i64_w, i32_w]; rw [c12b0]) | skip)
              by_cases c13 : (bt a0 a1) = 44
              · rw [if_pos c13] at H
                have c13b0 : ((bt a0 a1) == 44) = true := beq_iff_eq.mpr c13
                have c13b1 : ((bt a0 a1) != 44) = false := bne_eq_false_iff_eq.mpr c13
                clear c13
                have H' := Aside0.mk H
                clear H
                go_wp2
                go_meet
                case rel => exact ⟨_, (((bt a0 a1) == 44)), (by first | rfl | (simp; done) | (simp [*]; done)), H', ⟨by have := HJ2.out; first | omega | exact Nat.le_refl _⟩, by repeat (first | exact Drawn0.refl _ | apply Drawn0.step)⟩
              · rw [if_neg c13] at H
                have c13b0 : ((bt a0 a1) == 44) = false := beq_eq_false_iff_ne.mpr c13
                have c13b1 : ((bt a0 a1) != 44) = true := bne_iff_ne.mpr c13
                by_cases c14 : (bt a0 a1) = 40
                · rw [if_pos c14] at H
                  have c14b0 : ((bt a0 a1) == 40) = true := beq_iff_eq.mpr c14
                  have c14b1 : ((bt a0 a1) != 40) = false := bne_eq_false_iff_eq.mpr c14
                  clear c14
                  have H' := Aside0.mk H
                  clear H
                  go_wp2
                  go_meet
                  case rel => exact ⟨_, (((bt a0 a1) == 40)), (by first | rfl | (simp; done) | (simp [*]; done)), H', ⟨by have := HJ2.out; first | omega | exact Nat.le_refl _⟩, by repeat (first | exact Drawn0.refl _ | apply Drawn0.step)⟩
                · rw [if_neg c14] at H
                  have c14b0 : ((bt a0 a1) == 40) = false := beq_eq_false_iff_ne.mpr c14
                  have c14b1 : ((bt a0 a1) != 40) = true := bne_iff_ne.mpr c14
                  by_cases c15 : (bt a0 a1) = 41
                  · rw [if_pos c15] at H
                    have c15b0 : ((bt a0 a1) == 41) = true := beq_iff_eq.mpr c15
                    have c15b1 : ((bt a0 a1) != 41) = false := bne_eq_false_iff_eq.mpr c15
                    clear c15
                    have H' := Aside0.mk H
                    clear H
                    go_wp2
                    go_meet
                    case rel => exact ⟨_, (((bt a0 a1) == 41)), (by first | rfl | (simp; done) | (simp [*]; done)), H', ⟨by have := HJ2.out; first | omega | exact Nat.le_refl _⟩, by repeat (first | exact Drawn0.refl _ | apply Drawn0.step)⟩
                  · rw [if_neg c15] at H
                    have c15b0 : ((bt a0 a1) == 41) = false := beq_eq_false_iff_ne.mpr c15
                    have c15b1 : ((bt a0 a1) != 41) = true := bne_iff_ne.mpr c15
                    have H' := Aside0.mk H
                    clear H
                    go_wp2
                    go_meet
                    case rel => exact ⟨_, (((bt a0 a1) == 38)), (by first | rfl | (simp; done) | (simp [*]; done)), H', ⟨by have := HJ2.out; first | omega | exact Nat.le_refl _⟩, by repeat (first | exact Drawn0.refl _ | apply Drawn0.step)⟩
          case rest =>
            clear HC11
            try clear c1
            try clear p1
            try clear q1
            try clear hx1
            try clear c2
            try clear p2
            try clear c4
            try clear c4b0
            try clear c6
            try clear c6b0
            try clear p6
            try clear p7
            try clear q7
            try clear hx7
            try clear c8
            try clear c8b0
            try clear c9
            try clear c9b0
            try clear p10
            try clear q10
            try clear hx10
            try clear c12
            try clear c12b0
            try clear c12b1
            try clear c13
            try clear c13b0
            try clear c13b1
            try clear c14
            try clear c14b0
            try clear c14b1
            try clear c15
            try clear c15b0
            try clear c15b1
            try clear p10
            try clear p2
            try clear p6
            try clear p7
            try clear q10
            try clear q7
            obtain ⟨kq, x21_10, rfl, HA, HJ10, ⟨mc10, rfl⟩⟩ := hcut
            cases kq with
            | zero => exact absurd HA.out (by simp [ravelinref05_sign.j1])
            | succ kj10 =>
              have H := HA.out
              clear HA
              simp only [ravelinref05_sign.j1] at H
              by_cases c16 : x21_10 = true
              · subst c16
                have H1 : (some 1) = some r := by rw [if_pos rfl] at H; exact H
                clear H
                have H := H1
                clear H1
                obtain rfl := Option.some.inj H
                go_wp2
                go_ret
                exact ⟨by first | rfl | (simp; done) | (simp [*]; done), by repeat (first | exact Drawn0.refl _ | apply Drawn0.step)⟩
              · replace c16 := Bool.eq_false_iff.mpr c16
                subst c16
                have H1 : (if (bt a0 a1) = 60 then (ravelinref05_sign.j2 kj10 x5_2 (bt a0 a1) ((bt a0 a1) == 60)) else (ravelinref05_sign.j2 kj10 x5_2 (bt a0 a1) ((bt a0 a1) == 62))) = some r := by rw [if_neg (show ¬ (false = true) by decide)] at H; exact H
                clear H
                have H := H1
                clear H1
                have HC17 := Aside0.mk H
                clear H
                go_upto_if 27 with (fail)
                go_cut [27] (fun v27 wc => ∃ (kq : Nat) (x27_16 : Bool), v27 = .bool x27_16 ∧ Aside0 (ravelinref05_sign.j2 kq x5_2 (bt a0 a1) x27_16 = some r) ∧ Aside0 (kq ≤ kj10) ∧ Drawn0 w wc)
                case first =>
                  have H := HC17.out
                  clear HC17
                  by_cases c18 : (bt a0 a1) = 60
                  · rw [if_pos c18] at H
                    have c18b0 : ((bt a0 a1) == 60) = true := beq_iff_eq.mpr c18
                    have c18b1 : ((bt a0 a1) != 60) = false := bne_eq_false_iff_eq.mpr c18
                    clear c18
                    (first | rw [c18b0] | (simp only [i64_w, i32_w]; rw [c18b0]) | skip)
                    have H' := Aside0.mk H
                    clear H
                    go_wp2
                    go_meet
                    case rel => exact ⟨_, (((bt a0 a1) == 60)), (by first | rfl | (simp; done) | (simp [*]; done)), H', ⟨by have := HJ2.out; have := HJ10.out; first | omega | exact Nat.le_refl _⟩, by repeat (first | exact Drawn0.refl _ | apply Drawn0.step)⟩
                  · rw [if_neg c18] at H
                    have c18b0 : ((bt a0 a1) == 60) = false := beq_eq_false_iff_ne.mpr c18
                    have c18b1 : ((bt a0 a1) != 60) = true := bne_iff_ne.mpr c18
                    (first | rw [c18b0] | (simp only [i64_w, i32_w]; rw [c18b0]) | skip)
                    have H' := Aside0.mk H
                    clear H
                    go_wp2
                    go_meet
                    case rel => exact ⟨_, (((bt a0 a1) == 62)), (by first | rfl | (simp; done) | (simp [*]; done)), H', ⟨by have := HJ2.out; have := HJ10.out; first | omega | exact Nat.le_refl _⟩, by repeat (first | exact Drawn0.refl _ | apply Drawn0.step)⟩
                case rest =>
                  clear HC17
                  try clear c1
                  try clear p1
                  try clear q1
                  try clear hx1
                  try clear c2
                  try clear p2
                  try clear c4
                  try clear c4b0
                  try clear c6
                  try clear c6b0
                  try clear p6
                  try clear p7
                  try clear q7
                  try clear hx7
                  try clear c8
                  try clear c8b0
                  try clear c9
                  try clear c9b0
                  try clear c10
                  try clear p10
                  try clear q10
                  try clear hx10
                  try clear c12
                  try clear c12b0
                  try clear c12b1
                  try clear c13
                  try clear c13b0
                  try clear c13b1
                  try clear c14
                  try clear c14b0
                  try clear c14b1
                  try clear c15
                  try clear c15b0
                  try clear c15b1
                  try clear c16
                  try clear c17
                  try clear c18
                  try clear c18b0
                  try clear c18b1
                  try clear p1
                  try clear p10
                  try clear p2
                  try clear p6
                  try clear p7
                  try clear q1
                  try clear q10
                  try clear q7
                  obtain ⟨kq, x27_16, rfl, HA, HJ16, ⟨mc16, rfl⟩⟩ := hcut
                  cases kq with
                  | zero => exact absurd HA.out (by simp [ravelinref05_sign.j2])
                  | succ kj16 =>
                    have H := HA.out
                    clear HA
                    simp only [ravelinref05_sign.j2] at H
                    by_cases c19 : x27_16 = true
                    · subst c19
                      have H1 : (if x5_2 = true then (some 2) else (some 1)) = some r := by rw [if_pos rfl] at H; exact H
                      clear H
                      have H := H1
                      clear H1
                      by_cases c20 : x5_2 = true
                      · subst c20
                        have H1 : (some 2) = some r := by rw [if_pos rfl] at H; exact H
                        clear H
                        have H := H1
                        clear H1
                        obtain rfl := Option.some.inj H
                        go_wp2
                        go_ret
                        exact ⟨by first | rfl | (simp; done) | (simp [*]; done), by repeat (first | exact Drawn0.refl _ | apply Drawn0.step)⟩
                      · replace c20 := Bool.eq_false_iff.mpr c20
                        subst c20
                        have H1 : (some 1) = some r := by rw [if_neg (show ¬ (false = true) by decide)] at H; exact H
                        clear H
                        have H := H1
                        clear H1
                        obtain rfl := Option.some.inj H
                        go_wp2
                        go_ret
                        exact ⟨by first | rfl | (simp; done) | (simp [*]; done), by repeat (first | exact Drawn0.refl _ | apply Drawn0.step)⟩
                    · replace c19 := Bool.eq_false_iff.mpr c19
                      subst c19
                      have H1 : (if (bt a0 a1) = 61 then (ravelinref05_sign.j3 kj16 x5_2 ((bt a0 a1) == 61)) else (ravelinref05_sign.j3 kj16 x5_2 ((bt a0 a1) == 33))) = some r := by rw [if_neg (show ¬ (false = true) by decide)] at H; exact H
                      clear H
                      have H := H1
                      clear H1
                      have HC21 := Aside0.mk H
                      clear H
                      go_upto_if 31 with (fail)
                      go_cut [31] (fun v31 wc => ∃ (kq : Nat) (x31_20 : Bool), v31 = .bool x31_20 ∧ Aside0 (ravelinref05_sign.j3 kq x5_2 x31_20 = some r) ∧ Aside0 (kq ≤ kj16) ∧ Drawn0 w wc)
                      case first =>
                        have H := HC21.out
                        clear HC21
                        by_cases c22 : (bt a0 a1) = 61
                        · rw [if_pos c22] at H
                          have c22b0 : ((bt a0 a1) == 61) = true := beq_iff_eq.mpr c22
                          have c22b1 : ((bt a0 a1) != 61) = false := bne_eq_false_iff_eq.mpr c22
                          clear c22
                          (first | rw [c22b0] | (simp only [i64_w, i32_w]; rw [c22b0]) | skip)
                          have H' := Aside0.mk H
                          clear H
                          go_wp2
                          go_meet
                          case rel => exact ⟨_, (((bt a0 a1) == 61)), (by first | rfl | (simp; done) | (simp [*]; done)), H', ⟨by have := HJ2.out; have := HJ10.out; have := HJ16.out; first | omega | exact Nat.le_refl _⟩, by repeat (first | exact Drawn0.refl _ | apply Drawn0.step)⟩
                        · rw [if_neg c22] at H
                          have c22b0 : ((bt a0 a1) == 61) = false := beq_eq_false_iff_ne.mpr c22
                          have c22b1 : ((bt a0 a1) != 61) = true := bne_iff_ne.mpr c22
                          (first | rw [c22b0] | (simp only [i64_w, i32_w]; rw [c22b0]) | skip)
                          have H' := Aside0.mk H
                          clear H
                          go_wp2
                          go_meet
                          case rel => exact ⟨_, (((bt a0 a1) == 33)), (by first | rfl | (simp; done) | (simp [*]; done)), H', ⟨by have := HJ2.out; have := HJ10.out; have := HJ16.out; first | omega | exact Nat.le_refl _⟩, by repeat (first | exact Drawn0.refl _ | apply Drawn0.step)⟩
                      case rest =>
                        clear HC21
                        try clear c1
                        try clear p1
                        try clear q1
                        try clear hx1
                        try clear c2
                        try clear p2
                        try clear c4
                        try clear c4b0
                        try clear c6
                        try clear c6b0
                        try clear p6
                        try clear p7
                        try clear q7
                        try clear hx7
                        try clear c8
                        try clear c8b0
                        try clear c9
                        try clear c9b0
                        try clear c10
                        try clear p10
                        try clear q10
                        try clear hx10
                        try clear c12
                        try clear c12b0
                        try clear c12b1
                        try clear c13
                        try clear c13b0
                        try clear c13b1
                        try clear c14
                        try clear c14b0
                        try clear c14b1
                        try clear c15
                        try clear c15b0
                        try clear c15b1
                        try clear c16
                        try clear c17
                        try clear c18
                        try clear c18b0
                        try clear c18b1
                        try clear c19
                        try clear c20
                        try clear c22
                        try clear c22b0
                        try clear c22b1
                        try clear p1
                        try clear p10
                        try clear p2
                        try clear p6
                        try clear p7
                        try clear q1
                        try clear q10
                        try clear q7
                        obtain ⟨kq, x31_20, rfl, HA, HJ20, ⟨mc20, rfl⟩⟩ := hcut
                        cases kq with
                        | zero => exact absurd HA.out (by simp [ravelinref05_sign.j3])
                        | succ kj20 =>
                          have H := HA.out
                          clear HA
                          simp only [ravelinref05_sign.j3] at H
                          by_cases c23 : x31_20 = true
                          · subst c23
                            have H1 : (if x5_2 = true then (some 2) else (some 0)) = some r := by rw [if_pos rfl] at H; exact H
                            clear H
                            have H := H1
                            clear H1
                            by_cases c24 : x5_2 = true
                            · subst c24
                              have H1 : (some 2) = some r := by rw [if_pos rfl] at H; exact H
                              clear H
                              have H := H1
                              clear H1
                              obtain rfl := Option.some.inj H
                              go_wp2
                              go_ret
                              exact ⟨by first | rfl | (simp; done) | (simp [*]; done), by repeat (first | exact Drawn0.refl _ | apply Drawn0.step)⟩
                            · replace c24 := Bool.eq_false_iff.mpr c24
                              subst c24
                              have H1 : (some 0) = some r := by rw [if_neg (show ¬ (false = true) by decide)] at H; exact H
                              clear H
                              have H := H1
                              clear H1
                              obtain rfl := Option.some.inj H
                              go_wp2
                              go_ret
                              exact ⟨by first | rfl | (simp; done) | (simp [*]; done), by repeat (first | exact Drawn0.refl _ | apply Drawn0.step)⟩
                          · replace c23 := Bool.eq_false_iff.mpr c23
                            subst c23
                            have H1 : (some 0) = some r := by rw [if_neg (show ¬ (false = true) by decide)] at H; exact H
                            clear H
                            have H := H1
                            clear H1
                            obtain rfl := Option.some.inj H
                            go_wp2
                            go_ret
                            exact ⟨by first | rfl | (simp; done) | (simp [*]; done), by repeat (first | exact Drawn0.refl _ | apply Drawn0.step)⟩
        · rw [if_neg c9] at H
          exact absurd H (by simp)
      · rw [if_neg c8] at H
        exact absurd H (by simp)

end Go.Proofs.Ytkojnaebkgekaaa.P
