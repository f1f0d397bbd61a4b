-- Written for this claim by the session's own driver of the kit's printer (mprint.py).
import Derived.Test.YtnieipjofnnpfaaPPlacex0
namespace Go.Proofs.Ytnieipjofnnpfaa.PPlace
open Go.RowKit Go.Proofs.YtnieipjofnnpfaaW.PrintWords Go.Proofs.YtnieipjofnnpfaaW.PrintLast Go.Proofs.YtnieipjofnnpfaaW.PrintMore
attribute [local go_sem] max2_int min2_int max_two min_two max_three min_three max_four min_four   -- for this text's walks alone
set_option linter.unusedVariables false
set_option linter.unusedSimpArgs false

/-! ### lockgateref16_Right: function 26 -/
mutual
def lockgateref16_Right.l0 : Nat → List (S24) → Int → Option (Bool)
  | 0, _, _ => none
  | k + 1, x0, x3 => if x3 < (x0.length : Int) then (lockgateref16_Right.j1 k x0 x3 (decide (x3 < 20))) else (lockgateref16_Right.j1 k x0 x3 false)
def lockgateref16_Right.j1 : Nat → List (S24) → Int → Bool → Option (Bool)
  | 0, _, _, _ => none
  | k + 1, x0, x3, x12 => if x12 = true then (lockgateref16_Right.l1 k x0 x3 (wrap64 (x3 + 1))) else (if (x0.length : Int) > 0 then (some (decide ((x0.length : Int) ≤ 16))) else (some false))
def lockgateref16_Right.l1 : Nat → List (S24) → Int → Int → Option (Bool)
  | 0, _, _, _ => none
  | k + 1, x0, x3, x4 => if x4 < (x0.length : Int) then (lockgateref16_Right.j3 k x0 x3 x4 (decide (x4 < 20))) else (lockgateref16_Right.j3 k x0 x3 x4 false)
def lockgateref16_Right.j3 : Nat → List (S24) → Int → Int → Bool → Option (Bool)
  | 0, _, _, _, _ => none
  | k + 1, x0, x3, x4, x24 => if x24 = true then (if 0 ≤ x3 then (if x3 < (x0.length : Int) then (if 0 ≤ x4 then (if x4 < (x0.length : Int) then (if ((rd_T24 x0 x3).f0) = ((rd_T24 x0 x4).f0) then (some false) else (lockgateref16_Right.l1 k x0 x3 (wrap64 (x4 + 1)))) else (none)) else (none)) else (none)) else (none)) else (lockgateref16_Right.l0 k x0 (wrap64 (x3 + 1)))
end
def lockgateref16_Right.f (k : Nat) (l0 : List (S24)) : Option (Bool) := lockgateref16_Right.l0 k l0 0
theorem lockgateref16_Right.mono_l : ∀ k, (∀ y0 y1, LeO (lockgateref16_Right.l0 k y0 y1) (lockgateref16_Right.l0 (k + 1) y0 y1)) ∧ (∀ y0 y1 y2, LeO (lockgateref16_Right.j1 k y0 y1 y2) (lockgateref16_Right.j1 (k + 1) y0 y1 y2)) ∧ (∀ y0 y1 y2, LeO (lockgateref16_Right.l1 k y0 y1 y2) (lockgateref16_Right.l1 (k + 1) y0 y1 y2)) ∧ (∀ y0 y1 y2 y3, LeO (lockgateref16_Right.j3 k y0 y1 y2 y3) (lockgateref16_Right.j3 (k + 1) y0 y1 y2 y3))
  | 0 => ⟨fun _ _ r h => by simp [lockgateref16_Right.l0] at h, fun _ _ _ r h => by simp [lockgateref16_Right.j1] at h, fun _ _ _ r h => by simp [lockgateref16_Right.l1] at h, fun _ _ _ _ r h => by simp [lockgateref16_Right.j3] at h⟩
  | k + 1 => by
    obtain ⟨ih0, ih1, ih2, ih3⟩ := lockgateref16_Right.mono_l k
    refine ⟨?_, ?_, ?_, ?_⟩
    · intro y0 y1
      unfold lockgateref16_Right.l0
      repeat' first
      | (with_reducible exact ih0 _ _)
      | (with_reducible exact ih1 _ _ _)
      | (with_reducible exact ih2 _ _ _)
      | (with_reducible exact ih3 _ _ _ _)
      | (with_reducible exact LeO.refl _)
      | (with_reducible exact LeO.none _)
      | (with_reducible refine LeO.ite ?_ ?_)
      | (with_reducible refine LeO.bind ?_ (fun _ => ?_))
      | exact ih0 _ _
      | exact ih1 _ _ _
      | exact ih2 _ _ _
      | exact ih3 _ _ _ _
      | exact LeO.none _
      | refine LeO.ite ?_ ?_
      | refine LeO.bind ?_ (fun _ => ?_)
    · intro y0 y1 y2
      unfold lockgateref16_Right.j1
      repeat' first
      | (with_reducible exact ih0 _ _)
      | (with_reducible exact ih1 _ _ _)
      | (with_reducible exact ih2 _ _ _)
      | (with_reducible exact ih3 _ _ _ _)
      | (with_reducible exact LeO.refl _)
      | (with_reducible exact LeO.none _)
      | (with_reducible refine LeO.ite ?_ ?_)
      | (with_reducible refine LeO.bind ?_ (fun _ => ?_))
      | exact ih0 _ _
      | exact ih1 _ _ _
      | exact ih2 _ _ _
      | exact ih3 _ _ _ _
      | exact LeO.none _
      | refine LeO.ite ?_ ?_
      | refine LeO.bind ?_ (fun _ => ?_)
    · intro y0 y1 y2
      unfold lockgateref16_Right.l1
      repeat' first
      | (with_reducible exact ih0 _ _)
      | (with_reducible exact ih1 _ _ _)
      | (with_reducible exact ih2 _ _ _)
      | (with_reducible exact ih3 _ _ _ _)
      | (with_reducible exact LeO.refl _)
      | (with_reducible exact LeO.none _)
      | (with_reducible refine LeO.ite ?_ ?_)
      | (with_reducible refine LeO.bind ?_ (fun _ => ?_))
      | exact ih0 _ _
      | exact ih1 _ _ _
      | exact ih2 _ _ _
      | exact ih3 _ _ _ _
      | exact LeO.none _
      | refine LeO.ite ?_ ?_
      | refine LeO.bind ?_ (fun _ => ?_)
    · intro y0 y1 y2 y3
      unfold lockgateref16_Right.j3
      repeat' first
      | (with_reducible exact ih0 _ _)
      | (with_reducible exact ih1 _ _ _)
      | (with_reducible exact ih2 _ _ _)
      | (with_reducible exact ih3 _ _ _ _)
      | (with_reducible exact LeO.refl _)
      | (with_reducible exact LeO.none _)
      | (with_reducible refine LeO.ite ?_ ?_)
      | (with_reducible refine LeO.bind ?_ (fun _ => ?_))
      | exact ih0 _ _
      | exact ih1 _ _ _
      | exact ih2 _ _ _
      | exact ih3 _ _ _ _
      | exact LeO.none _
      | refine LeO.ite ?_ ?_
      | refine LeO.bind ?_ (fun _ => ?_)
theorem lockgateref16_Right.mono : ∀ a0 k, LeO (lockgateref16_Right.f k a0) (lockgateref16_Right.f (k + 1) a0) := by
  intro a0 k
  obtain ⟨ih0, ih1, ih2, ih3⟩ := lockgateref16_Right.mono_l k
  unfold lockgateref16_Right.f
  repeat' first
      | (with_reducible exact ih0 _ _)
      | (with_reducible exact ih1 _ _ _)
      | (with_reducible exact ih2 _ _ _)
      | (with_reducible exact ih3 _ _ _ _)
      | (with_reducible exact LeO.refl _)
      | (with_reducible exact LeO.none _)
      | (with_reducible refine LeO.ite ?_ ?_)
      | (with_reducible refine LeO.bind ?_ (fun _ => ?_))
      | exact ih0 _ _
      | exact ih1 _ _ _
      | exact ih2 _ _ _
      | exact ih3 _ _ _ _
      | exact LeO.none _
      | refine LeO.ite ?_ ?_
      | refine LeO.bind ?_ (fun _ => ?_)
set_option maxHeartbeats 8000000 in
set_option maxRecDepth 100000 in
theorem lockgateref16_Right.calls (k : Nat) (A0 : Option Addr) (c0 : Nat) (l0 : List (S24)) (r : Bool) (w : World) (hr0 : Kd.C k24 w A0 l0.length l0) (hc0 : l0.length ≤ c0) (h : lockgateref16_Right.f k l0 = some r) :
    Calls Try.prog 26 #[.slice A0 l0.length c0] w fun e w' => e = .returned (.bool r) ∧ Drawn0 w w' := by
  have HR0 := Aside0.mk hr0
  have HC0 := Aside0.mk hc0
  clear hr0 hc0
  have H : (lockgateref16_Right.l0 k l0 0) = some r := h
  clear h
  have H' := Aside0.mk H
  clear H
  go_enter Try.func26, Try.ntmps26
  go_wp2
  repeat (go_quiet (fail); try go_wp2)
  go_loopg [3] k (fun kq v3 w' => ∃ (x3_1 : Int), v3 = .int .i64 x3_1 ∧ Aside0 (lockgateref16_Right.l0 kq l0 x3_1 = some r) ∧ Aside0 (kq ≤ k) ∧ Drawn0 w w')
  case atStart => exact ⟨(0), (by first | rfl | (simp; done) | (simp [*]; done)), H', ⟨Nat.le_refl _⟩, by repeat (first | exact Drawn0.refl _ | apply Drawn0.step)⟩
  case round =>
    clear H'
    obtain ⟨x3_1, rfl, HA, HK1, ⟨m1, rfl⟩⟩ := hrel
    cases gk with
    | zero => exact absurd HA.out (by simp [lockgateref16_Right.l0])
    | succ k1 =>
      have H := HA.out
      clear HA
      simp only [lockgateref16_Right.l0] at H
      have HC2 := Aside0.mk H
      clear H
      go_upto_region 2 with (fail)
      repeat (go_quiet (fail); go_upto_region 2 with (fail))
      go_cut [12] (fun v12 wc => ∃ (kq : Nat) (x12_1 : Bool), v12 = .bool x12_1 ∧ Aside0 (lockgateref16_Right.j1 kq l0 x3_1 x12_1 = some r) ∧ Aside0 (kq ≤ k1) ∧ Drawn0 w wc)
      case first =>
        have H := HC2.out
        clear HC2
        by_cases c3 : x3_1 < (l0.length : Int)
        · rw [if_pos c3] at H
          have c3b0 : decide (x3_1 < (l0.length : Int)) = true := decide_eq_true c3
          clear c3
          (first | rw [c3b0] | (simp only [i64_w, i32_w]; rw [c3b0]) | skip)
          have H' := Aside0.mk H
          clear H
          go_wp2
          repeat (go_quiet (fail); try go_wp2)
          go_meet
          case rel => exact ⟨_, (decide (x3_1 < 20)), (by first | rfl | (simp; done) | (simp [*]; done)), H', ⟨by have := HK1.out; first | omega | exact Nat.le_refl _⟩, by repeat (first | exact Drawn0.refl _ | apply Drawn0.step)⟩
        · rw [if_neg c3] at H
          have c3b0 : decide (x3_1 < (l0.length : Int)) = false := decide_eq_false c3
          clear c3
          (first | rw [c3b0] | (simp only [i64_w, i32_w]; rw [c3b0]) | skip)
          have H' := Aside0.mk H
          clear H
          go_wp2
          repeat (go_quiet (fail); try go_wp2)
          go_meet
          case rel => exact ⟨_, (false), (by first | rfl | (simp; done) | (simp [*]; done)), H', ⟨by have := HK1.out; first | omega | exact Nat.le_refl _⟩, by repeat (first | exact Drawn0.refl _ | apply Drawn0.step)⟩
      case rest =>
        clear HC2
        try clear c2
        try clear p2
        try clear c3
        try clear c3b0
        obtain ⟨kq, x12_1, rfl, HA, HJ1, ⟨mc1, rfl⟩⟩ := hcut
        cases kq with
        | zero => exact absurd HA.out (by simp [lockgateref16_Right.j1])
        | succ kj1 =>
          have H := HA.out
          clear HA
          simp only [lockgateref16_Right.j1] at H
          by_cases c4 : x12_1 = true
          · subst c4
            have H1 : (lockgateref16_Right.l1 kj1 l0 x3_1 (wrap64 (x3_1 + 1))) = some r := by rw [if_pos rfl] at H; exact H
            clear H
            have H := H1
            clear H1
            have H' := Aside0.mk H
            clear H
            go_wp2
            repeat (go_quiet (fail); try go_wp2)
            go_loopg [4] kj1 (fun kq v4 w' => ∃ (x4_3 : Int), v4 = .int .i64 x4_3 ∧ Aside0 (lockgateref16_Right.l1 kq l0 x3_1 x4_3 = some r) ∧ Aside0 (kq ≤ kj1) ∧ Drawn0 w w')
            case atStart => exact ⟨(wrap64 (x3_1 + 1)), (by first | rfl | (simp; done) | (simp [*]; done)), H', ⟨Nat.le_refl _⟩, by repeat (first | exact Drawn0.refl _ | apply Drawn0.step)⟩
            case round =>
              clear H'
              try clear c1
              try clear c2
              try clear p2
              try clear c3
              try clear c3b0
              try clear c4
              try clear p2
              obtain ⟨x4_3, rfl, HA, HK3, ⟨m3, rfl⟩⟩ := hrel
              cases gk with
              | zero => exact absurd HA.out (by simp [lockgateref16_Right.l1])
              | succ k3 =>
                have H := HA.out
                clear HA
                simp only [lockgateref16_Right.l1] at H
                have HC5 := Aside0.mk H
                clear H
                go_upto_region 5 with (fail)
                repeat (go_quiet (fail); go_upto_region 5 with (fail))
                go_cut [24] (fun v24 wc => ∃ (kq : Nat) (x24_4 : Bool), v24 = .bool x24_4 ∧ Aside0 (lockgateref16_Right.j3 kq l0 x3_1 x4_3 x24_4 = some r) ∧ Aside0 (kq ≤ k3) ∧ Drawn0 w wc)
                case first =>
                  have H := HC5.out
                  clear HC5
                  by_cases c6 : x4_3 < (l0.length : Int)
                  · rw [if_pos c6] at H
                    have c6b0 : decide (x4_3 < (l0.length : Int)) = true := decide_eq_true c6
                    clear c6
                    (first | rw [c6b0] | (simp only [i64_w, i32_w]; rw [c6b0]) | skip)
                    have H' := Aside0.mk H
                    clear H
                    go_wp2
                    repeat (go_quiet (fail); try go_wp2)
                    go_meet
                    case rel => exact ⟨_, (decide (x4_3 < 20)), (by first | rfl | (simp; done) | (simp [*]; done)), H', ⟨by have := HK1.out; have := HJ1.out; have := HK3.out; first | omega | exact Nat.le_refl _⟩, by repeat (first | exact Drawn0.refl _ | apply Drawn0.step)⟩
                  · rw [if_neg c6] at H
                    have c6b0 : decide (x4_3 < (l0.length : Int)) = false := decide_eq_false c6
                    clear c6
                    (first | rw [c6b0] | (simp only [i64_w, i32_w]; rw [c6b0]) | skip)
                    have H' := Aside0.mk H
                    clear H
                    go_wp2
                    repeat (go_quiet (fail); try go_wp2)
                    go_meet
                    case rel => exact ⟨_, (false), (by first | rfl | (simp; done) | (simp [*]; done)), H', ⟨by have := HK1.out; have := HJ1.out; have := HK3.out; first | omega | exact Nat.le_refl _⟩, by repeat (first | exact Drawn0.refl _ | apply Drawn0.step)⟩
                case rest =>
                  clear HC5
                  try clear c1
                  try clear c2
                  try clear p2
                  try clear c3
                  try clear c3b0
                  try clear c4
                  try clear c6
                  try clear c6b0
                  try clear p6
                  try clear p2
                  obtain ⟨kq, x24_4, rfl, HA, HJ4, ⟨mc4, rfl⟩⟩ := hcut
                  cases kq with
                  | zero => exact absurd HA.out (by simp [lockgateref16_Right.j3])
                  | succ kj4 =>
                    have H := HA.out
                    clear HA
                    simp only [lockgateref16_Right.j3] at H
                    by_cases c7 : x24_4 = true
                    · subst c7
                      have H1 : (if 0 ≤ x3_1 then (if x3_1 < (l0.length : Int) then (if 0 ≤ x4_3 then (if x4_3 < (l0.length : Int) then (if ((rd_T24 l0 x3_1).f0) = ((rd_T24 l0 x4_3).f0) then (some false) else (lockgateref16_Right.l1 kj4 l0 x3_1 (wrap64 (x4_3 + 1)))) else (none)) else (none)) else (none)) else (none)) = some r := by rw [if_pos rfl] at H; exact H
                      clear H
                      have H := H1
                      clear H1
                      by_cases c8 : 0 ≤ x3_1
                      · rw [if_pos c8] at H
                        have c8b0 : decide (0 ≤ x3_1) = true := decide_eq_true c8
                        clear c8
                        by_cases c9 : x3_1 < (l0.length : Int)
                        · rw [if_pos c9] at H
                          have c9b0 : decide (x3_1 < (l0.length : Int)) = true := decide_eq_true c9
                          clear c9
                          by_cases c10 : 0 ≤ x4_3
                          · rw [if_pos c10] at H
                            have c10b0 : decide (0 ≤ x4_3) = true := decide_eq_true c10
                            clear c10
                            by_cases c11 : x4_3 < (l0.length : Int)
                            · rw [if_pos c11] at H
                              have c11b0 : decide (x4_3 < (l0.length : Int)) = true := decide_eq_true c11
                              clear c11
                              by_cases c12 : ((rd_T24 l0 x3_1).f0) = ((rd_T24 l0 x4_3).f0)
                              · rw [if_pos c12] at H
                                have c12b0 : (((rd_T24 l0 x3_1).f0) == ((rd_T24 l0 x4_3).f0)) = true := beq_iff_eq.mpr c12
                                have c12b1 : (((rd_T24 l0 x3_1).f0) != ((rd_T24 l0 x4_3).f0)) = false := bne_eq_false_iff_eq.mpr c12
                                clear c12
                                obtain rfl := Option.some.inj H
                                have p118 : 0 ≤ (x3_1 : Int) := of_decide_eq_true (by first | (with_reducible assumption) | assumption)
                                have q118 : x3_1 < (l0.length : Int) := of_decide_eq_true (by first | (with_reducible assumption) | assumption)
                                obtain ⟨ad118, e118, hx118_0, hx118_1⟩ := at_T24 HR0.out x3_1 p118 q118
                                cases e118
                                replace p118 := eq_true p118
                                replace q118 := eq_true q118
                                have p119 : 0 ≤ (x4_3 : Int) := of_decide_eq_true (by first | (with_reducible assumption) | assumption)
                                have q119 : x4_3 < (l0.length : Int) := of_decide_eq_true (by first | (with_reducible assumption) | assumption)
                                obtain ⟨ad119, e119, hx119_0, hx119_1⟩ := at_T24 HR0.out x4_3 p119 q119
                                obtain rfl : ad118 = ad119 := (by injection e119)
                                replace p119 := eq_true p119
                                replace q119 := eq_true q119
                                go_wp2
                                repeat (go_quiet (fail); try go_wp2)
                                go_ret
                                exact ⟨by first | rfl | (simp; done) | (simp [*]; done), by repeat (first | exact Drawn0.refl _ | apply Drawn0.step)⟩
                              · rw [if_neg c12] at H
                                have c12b0 : (((rd_T24 l0 x3_1).f0) == ((rd_T24 l0 x4_3).f0)) = false := beq_eq_false_iff_ne.mpr c12
                                have c12b1 : (((rd_T24 l0 x3_1).f0) != ((rd_T24 l0 x4_3).f0)) = true := bne_iff_ne.mpr c12
                                have H' := Aside0.mk H
                                clear H
                                have p118 : 0 ≤ (x3_1 : Int) := of_decide_eq_true (by first | (with_reducible assumption) | assumption)
                                have q118 : x3_1 < (l0.length : Int) := of_decide_eq_true (by first | (with_reducible assumption) | assumption)
                                obtain ⟨ad118, e118, hx118_0, hx118_1⟩ := at_T24 HR0.out x3_1 p118 q118
                                cases e118
                                replace p118 := eq_true p118
                                replace q118 := eq_true q118
                                have p119 : 0 ≤ (x4_3 : Int) := of_decide_eq_true (by first | (with_reducible assumption) | assumption)
                                have q119 : x4_3 < (l0.length : Int) := of_decide_eq_true (by first | (with_reducible assumption) | assumption)
                                obtain ⟨ad119, e119, hx119_0, hx119_1⟩ := at_T24 HR0.out x4_3 p119 q119
                                obtain rfl : ad118 = ad119 := (by injection e119)
                                replace p119 := eq_true p119
                                replace q119 := eq_true q119
                                go_wp2
                                repeat (go_quiet (fail); try go_wp2)
                                go_roundg kj4
                                case measure => have := HK1.out; have := HJ1.out; have := HK3.out; have := HJ4.out; omega
                                case rel => exact ⟨(wrap64 (x4_3 + 1)), (by first | rfl | (simp; done) | (simp [*]; done)), H', ⟨by have := HK1.out; have := HJ1.out; have := HK3.out; have := HJ4.out; omega⟩, by repeat (first | exact Drawn0.refl _ | apply Drawn0.step)⟩
                            · rw [if_neg c11] at H
                              exact absurd H (by simp)
                          · rw [if_neg c10] at H
                            exact absurd H (by simp)
                        · rw [if_neg c9] at H
                          exact absurd H (by simp)
                      · rw [if_neg c8] at H
                        exact absurd H (by simp)
                    · replace c7 := Bool.eq_false_iff.mpr c7
                      subst c7
                      have H1 : (lockgateref16_Right.l0 kj4 l0 (wrap64 (x3_1 + 1))) = some r := by rw [if_neg (show ¬ (false = true) by decide)] at H; exact H
                      clear H
                      have H := H1
                      clear H1
                      have H' := Aside0.mk H
                      clear H
                      go_wp2
                      repeat (go_quiet (fail); try go_wp2)
                      go_roundg kj4
                      case measure => have := HK1.out; have := HJ1.out; have := HK3.out; have := HJ4.out; omega
                      case rel => exact ⟨(wrap64 (x3_1 + 1)), (by first | rfl | (simp; done) | (simp [*]; done)), H', ⟨by have := HK1.out; have := HJ1.out; have := HK3.out; have := HJ4.out; omega⟩, by repeat (first | exact Drawn0.refl _ | apply Drawn0.step)⟩
          · replace c4 := Bool.eq_false_iff.mpr c4
            subst c4
            have H1 : (if (l0.length : Int) > 0 then (some (decide ((l0.length : Int) ≤ 16))) else (some false)) = some r := by rw [if_neg (show ¬ (false = true) by decide)] at H; exact H
            clear H
            have H := H1
            clear H1
            by_cases c13 : (l0.length : Int) > 0
            · rw [if_pos c13] at H
              have c13b0 : decide (0 < (l0.length : Int)) = true := decide_eq_true c13
              have c13b1 : decide (0 < l0.length) = true := decide_eq_true (by omega)
              clear c13
              obtain rfl := Option.some.inj H
              go_wp2
              repeat (go_quiet (fail); try go_wp2)
              go_ret
              exact ⟨by first | rfl | (simp; done) | (simp [*]; done), by repeat (first | exact Drawn0.refl _ | apply Drawn0.step)⟩
            · rw [if_neg c13] at H
              have c13b0 : decide (0 < (l0.length : Int)) = false := decide_eq_false c13
              have c13b1 : decide (0 < l0.length) = false := decide_eq_false (by omega)
              clear c13
              obtain rfl := Option.some.inj H
              go_wp2
              repeat (go_quiet (fail); try go_wp2)
              go_ret
              exact ⟨by first | rfl | (simp; done) | (simp [*]; done), by repeat (first | exact Drawn0.refl _ | apply Drawn0.step)⟩

/-! ### lockgateref17_Single: function 17 -/
def lockgateref17_Single.f (k : Nat) (l0 : List (S24)) : Option (Bool) := if (l0.length : Int) = 0 then (some true) else ((lockgateref16_Right.f k l0).bind fun t120 => (some t120))
theorem lockgateref17_Single.mono : ∀ a0 k, LeO (lockgateref17_Single.f k a0) (lockgateref17_Single.f (k + 1) a0) := by
  intro a0 k
  unfold lockgateref17_Single.f
  repeat' first
      | (with_reducible exact lockgateref16_Right.mono _ _)
      | (with_reducible exact LeO.refl _)
      | (with_reducible exact LeO.none _)
      | (with_reducible refine LeO.ite ?_ ?_)
      | (with_reducible refine LeO.bind ?_ (fun _ => ?_))
      | exact lockgateref16_Right.mono _ _
      | exact LeO.none _
      | refine LeO.ite ?_ ?_
      | refine LeO.bind ?_ (fun _ => ?_)
set_option maxHeartbeats 8000000 in
set_option maxRecDepth 100000 in
theorem lockgateref17_Single.calls (k : Nat) (A0 : Option Addr) (c0 : Nat) (l0 : List (S24)) (r : Bool) (w : World) (hr0 : Kd.C k24 w A0 l0.length l0) (hc0 : l0.length ≤ c0) (h : lockgateref17_Single.f k l0 = some r) :
    Calls Try.prog 17 #[.slice A0 l0.length c0] w fun e w' => e = .returned (.bool r) ∧ Drawn0 w w' := by
  have HR0 := Aside0.mk hr0
  have HC0 := Aside0.mk hc0
  clear hr0 hc0
  have H : (if (l0.length : Int) = 0 then (some true) else ((lockgateref16_Right.f k l0).bind fun t120 => (some t120))) = some r := h
  clear h
  by_cases c2 : (l0.length : Int) = 0
  · rw [if_pos c2] at H
    have c2b0 : ((l0.length : Int) == 0) = true := beq_iff_eq.mpr c2
    have c2b1 : ((l0.length : Int) != 0) = false := bne_eq_false_iff_eq.mpr c2
    clear c2
    obtain rfl := Option.some.inj H
    go_enter Try.func17, Try.ntmps17
    go_wp2
    go_ret
    exact ⟨by first | rfl | (simp; done) | (simp [*]; done), by repeat (first | exact Drawn0.refl _ | apply Drawn0.step)⟩
  · rw [if_neg c2] at H
    have c2b0 : ((l0.length : Int) == 0) = false := beq_eq_false_iff_ne.mpr c2
    have c2b1 : ((l0.length : Int) != 0) = true := bne_iff_ne.mpr c2
    have c2b2 : ¬ (l0 = []) := fun h_ => c2 (by rw [h_]; rfl)
    replace H := Option.bind_eq_some_iff.mp H
    obtain ⟨t120, A30, H⟩ := H
    replace H : (some t120) = some r := H
    have A3 := Aside0.mk A30
    clear A30
    obtain rfl := Option.some.inj H
    go_enter Try.func17, Try.ntmps17
    go_wp2_with (first | (go_at_call 26; (with_reducible refine (lockgateref16_Right.calls k _ _ l0 t120 _ ?side1 ?side2 A3.out).mono ?_); (case side1 => repeat (first | exact HR0.out | (with_reducible refine Kd.C_alloc ?_ _) | (with_reducible refine Kd.C_drewN ?_ _) | (with_reducible refine Kd.C_drew ?_))); (case side2 => exact HC0.out); rintro e w' ⟨rfl, ⟨nd, rfl⟩⟩))
    go_ret
    exact ⟨by first | rfl | (simp; done) | (simp [*]; done), by repeat (first | exact Drawn0.refl _ | apply Drawn0.step)⟩

/-! ### lockgatelaw17_right: function 8 -/
def lockgatelaw17_right.f (k : Nat) (l0 : List (S24)) (l1 : List (S24)) : Option (Bool) := (lockgateref17_Single.f k l0).bind fun t121 => (if t121 = true then ((lockgateref17_Single.f k l1).bind fun t122 => (some t122)) else (some false))
theorem lockgatelaw17_right.mono : ∀ a0 a1 k, LeO (lockgatelaw17_right.f k a0 a1) (lockgatelaw17_right.f (k + 1) a0 a1) := by
  intro a0 a1 k
  unfold lockgatelaw17_right.f
  repeat' first
      | (with_reducible exact lockgateref17_Single.mono _ _)
      | (with_reducible exact LeO.refl _)
      | (with_reducible exact LeO.none _)
      | (with_reducible refine LeO.ite ?_ ?_)
      | (with_reducible refine LeO.bind ?_ (fun _ => ?_))
      | exact lockgateref17_Single.mono _ _
      | exact LeO.none _
      | refine LeO.ite ?_ ?_
      | refine LeO.bind ?_ (fun _ => ?_)
set_option maxHeartbeats 8000000 in
set_option maxRecDepth 100000 in
theorem lockgatelaw17_right.calls (k : Nat) (A0 : Option Addr) (c0 : Nat) (l0 : List (S24)) (A1 : Option Addr) (c1 : Nat) (l1 : List (S24)) (r : Bool) (w : World) (hr0 : Kd.C k24 w A0 l0.length l0) (hc0 : l0.length ≤ c0) (hr1 : Kd.C k24 w A1 l1.length l1) (hc1 : l1.length ≤ c1) (h : lockgatelaw17_right.f k l0 l1 = some r) :
    Calls Try.prog 8 #[.slice A0 l0.length c0, .slice A1 l1.length c1] w fun e w' => e = .returned (.bool r) ∧ Drawn0 w w' := by
  have HR0 := Aside0.mk hr0
  have HC0 := Aside0.mk hc0
  clear hr0 hc0
  have HR1 := Aside0.mk hr1
  have HC1 := Aside0.mk hc1
  clear hr1 hc1
  have H : ((lockgateref17_Single.f k l0).bind fun t121 => (if t121 = true then ((lockgateref17_Single.f k l1).bind fun t122 => (some t122)) else (some false))) = some r := h
  clear h
  replace H := Option.bind_eq_some_iff.mp H
  obtain ⟨t121, A30, H⟩ := H
  replace H : (if t121 = true then ((lockgateref17_Single.f k l1).bind fun t122 => (some t122)) else (some false)) = some r := H
  have A3 := Aside0.mk A30
  clear A30
  by_cases c4 : t121 = true
  · subst c4
    have H1 : ((lockgateref17_Single.f k l1).bind fun t122 => (some t122)) = some r := by rw [if_pos rfl] at H; exact H
    clear H
    have H := H1
    clear H1
    replace H := Option.bind_eq_some_iff.mp H
    obtain ⟨t122, A50, H⟩ := H
    replace H : (some t122) = some r := H
    have A5 := Aside0.mk A50
    clear A50
    obtain rfl := Option.some.inj H
    go_enter Try.func8, Try.ntmps8
    go_wp2_with (first | ((with_reducible refine gate_callee (f := 17) rfl ?_); refine goesL_ (some 6) rfl rfl Try.func17 (by kernel_rfl) rfl #[.slice A0 l0.length c0] rfl (by (try simp only [List.map_toArray, List.map_cons, List.map_nil]); first | done | rfl | (simp only [List.length_drop, List.length_take]; rfl)) ?_; (with_reducible refine (lockgateref17_Single.calls k _ _ l0 true _ ?side1 ?side2 A3.out).mono ?_); (case side1 => repeat (first | exact HR0.out | (with_reducible refine Kd.C_alloc ?_ _) | (with_reducible refine Kd.C_drewN ?_ _) | (with_reducible refine Kd.C_drew ?_))); (case side2 => exact HC0.out); rintro e w' ⟨rfl, ⟨nd, rfl⟩⟩; refine ⟨_, rfl, ?_⟩) | (go_at_call 17; (with_reducible refine (lockgateref17_Single.calls k _ _ l1 t122 _ ?side1 ?side2 A5.out).mono ?_); (case side1 => repeat (first | exact HR1.out | (with_reducible refine Kd.C_alloc ?_ _) | (with_reducible refine Kd.C_drewN ?_ _) | (with_reducible refine Kd.C_drew ?_))); (case side2 => exact HC1.out); rintro e w' ⟨rfl, ⟨nd, rfl⟩⟩))
    go_ret
    exact ⟨by first | rfl | (simp; done) | (simp [*]; done), by repeat (first | exact Drawn0.refl _ | apply Drawn0.step)⟩
  · replace c4 := Bool.eq_false_iff.mpr c4
    subst c4
    have H1 : (some false) = some r := by rw [if_neg (show ¬ (false = true) by decide)] at H; exact H
    clear H
    have H := H1
    clear H1
    obtain rfl := Option.some.inj H
    go_enter Try.func8, Try.ntmps8
    go_wp2_with (first | ((with_reducible refine gate_callee (f := 17) rfl ?_); refine goesL_ (some 6) rfl rfl Try.func17 (by kernel_rfl) rfl #[.slice A0 l0.length c0] rfl (by (try simp only [List.map_toArray, List.map_cons, List.map_nil]); first | done | rfl | (simp only [List.length_drop, List.length_take]; rfl)) ?_; (with_reducible refine (lockgateref17_Single.calls k _ _ l0 false _ ?side1 ?side2 A3.out).mono ?_); (case side1 => repeat (first | exact HR0.out | (with_reducible refine Kd.C_alloc ?_ _) | (with_reducible refine Kd.C_drewN ?_ _) | (with_reducible refine Kd.C_drew ?_))); (case side2 => exact HC0.out); rintro e w' ⟨rfl, ⟨nd, rfl⟩⟩; refine ⟨_, rfl, ?_⟩))
    go_ret
    exact ⟨by first | rfl | (simp; done) | (simp [*]; done), by repeat (first | exact Drawn0.refl _ | apply Drawn0.step)⟩

/-! ### lockgateref17_node: function 21 -/
def lockgateref17_node.l0 : Nat → List (S24) → Int → Int → Option (Bool)
  | 0, _, _, _ => none
  | k + 1, x0, x1, x5 => if x5 < (x0.length : Int) then (if 0 ≤ x5 then (if ((rd_T24 x0 x5).f0) = x1 then (some true) else (lockgateref17_node.l0 k x0 x1 (wrap64 (x5 + 1)))) else (none)) else (some false)
def lockgateref17_node.f (k : Nat) (l0 : List (S24)) (a1 : Int) : Option (Bool) := lockgateref17_node.l0 k l0 a1 0
theorem lockgateref17_node.mono_l : ∀ k, (∀ y0 y1 y2, LeO (lockgateref17_node.l0 k y0 y1 y2) (lockgateref17_node.l0 (k + 1) y0 y1 y2))
  | 0 => fun _ _ _ r h => by simp [lockgateref17_node.l0] at h
  | k + 1 => by
    have ih0 := lockgateref17_node.mono_l k
    · intro y0 y1 y2
      unfold lockgateref17_node.l0
      repeat' first
      | (with_reducible exact ih0 _ _ _)
      | (with_reducible exact LeO.refl _)
      | (with_reducible exact LeO.none _)
      | (with_reducible refine LeO.ite ?_ ?_)
      | (with_reducible refine LeO.bind ?_ (fun _ => ?_))
      | exact ih0 _ _ _
      | exact LeO.none _
      | refine LeO.ite ?_ ?_
      | refine LeO.bind ?_ (fun _ => ?_)
theorem lockgateref17_node.mono : ∀ a0 a1 k, LeO (lockgateref17_node.f k a0 a1) (lockgateref17_node.f (k + 1) a0 a1) := by
  intro a0 a1 k
  have ih0 := lockgateref17_node.mono_l k
  unfold lockgateref17_node.f
  repeat' first
      | (with_reducible exact ih0 _ _ _)
      | (with_reducible exact LeO.refl _)
      | (with_reducible exact LeO.none _)
      | (with_reducible refine LeO.ite ?_ ?_)
      | (with_reducible refine LeO.bind ?_ (fun _ => ?_))
      | exact ih0 _ _ _
      | exact LeO.none _
      | refine LeO.ite ?_ ?_
      | refine LeO.bind ?_ (fun _ => ?_)
set_option maxHeartbeats 8000000 in
set_option maxRecDepth 100000 in
theorem lockgateref17_node.calls (k : Nat) (A0 : Option Addr) (c0 : Nat) (l0 : List (S24)) (a1 : Int) (r : Bool) (w : World) (hr0 : Kd.C k24 w A0 l0.length l0) (hc0 : l0.length ≤ c0) (h : lockgateref17_node.f k l0 a1 = some r) :
    Calls Try.prog 21 #[.slice A0 l0.length c0, .int .i64 a1] w fun e w' => e = .returned (.bool r) ∧ Drawn0 w w' := by
  have HR0 := Aside0.mk hr0
  have HC0 := Aside0.mk hc0
  clear hr0 hc0
  have H : (lockgateref17_node.l0 k l0 a1 0) = some r := h
  clear h
  have H' := Aside0.mk H
  clear H
  go_enter Try.func21, Try.ntmps21
  go_wp2
  go_loopg [5] k (fun kq v5 w' => ∃ (x5_1 : Int), v5 = .int .i64 x5_1 ∧ Aside0 (lockgateref17_node.l0 kq l0 a1 x5_1 = some r) ∧ Aside0 (kq ≤ k) ∧ Drawn0 w w')
  case atStart => exact ⟨(0), (by first | rfl | (simp; done) | (simp [*]; done)), H', ⟨Nat.le_refl _⟩, by repeat (first | exact Drawn0.refl _ | apply Drawn0.step)⟩
  case round =>
    clear H'
    try clear c2
    try clear p2
    obtain ⟨x5_1, rfl, HA, HK1, ⟨m1, rfl⟩⟩ := hrel
    cases gk with
    | zero => exact absurd HA.out (by simp [lockgateref17_node.l0])
    | succ k1 =>
      have H := HA.out
      clear HA
      simp only [lockgateref17_node.l0] at H
      by_cases c3 : x5_1 < (l0.length : Int)
      · rw [if_pos c3] at H
        have c3b0 : decide (x5_1 < (l0.length : Int)) = true := decide_eq_true c3
        clear c3
        by_cases c4 : 0 ≤ x5_1
        · rw [if_pos c4] at H
          have c4b0 : decide (0 ≤ x5_1) = true := decide_eq_true c4
          clear c4
          by_cases c5 : ((rd_T24 l0 x5_1).f0) = a1
          · rw [if_pos c5] at H
            have c5b0 : (((rd_T24 l0 x5_1).f0) == a1) = true := beq_iff_eq.mpr c5
            have c5b1 : (((rd_T24 l0 x5_1).f0) != a1) = false := bne_eq_false_iff_eq.mpr c5
            clear c5
            obtain rfl := Option.some.inj H
            have p123 : 0 ≤ (x5_1 : Int) := of_decide_eq_true (by first | (with_reducible assumption) | assumption)
            have q123 : x5_1 < (l0.length : Int) := of_decide_eq_true (by first | (with_reducible assumption) | assumption)
            obtain ⟨ad123, e123, hx123_0, hx123_1⟩ := at_T24 HR0.out x5_1 p123 q123
            cases e123
            replace p123 := eq_true p123
            replace q123 := eq_true q123
            go_wp2
            go_ret
            exact ⟨by first | rfl | (simp; done) | (simp [*]; done), by repeat (first | exact Drawn0.refl _ | apply Drawn0.step)⟩
          · rw [if_neg c5] at H
            have c5b0 : (((rd_T24 l0 x5_1).f0) == a1) = false := beq_eq_false_iff_ne.mpr c5
            have c5b1 : (((rd_T24 l0 x5_1).f0) != a1) = true := bne_iff_ne.mpr c5
            have H' := Aside0.mk H
            clear H
            have p123 : 0 ≤ (x5_1 : Int) := of_decide_eq_true (by first | (with_reducible assumption) | assumption)
            have q123 : x5_1 < (l0.length : Int) := of_decide_eq_true (by first | (with_reducible assumption) | assumption)
            obtain ⟨ad123, e123, hx123_0, hx123_1⟩ := at_T24 HR0.out x5_1 p123 q123
            cases e123
            replace p123 := eq_true p123
            replace q123 := eq_true q123
            go_wp2
            go_roundg k1
            case measure => have := HK1.out; omega
            case rel => exact ⟨(wrap64 (x5_1 + 1)), (by first | rfl | (simp; done) | (simp [*]; done)), H', ⟨by have := HK1.out; omega⟩, by repeat (first | exact Drawn0.refl _ | apply Drawn0.step)⟩
        · rw [if_neg c4] at H
          exact absurd H (by simp)
      · rw [if_neg c3] at H
        have c3b0 : decide (x5_1 < (l0.length : Int)) = false := decide_eq_false c3
        clear c3
        obtain rfl := Option.some.inj H
        go_wp2
        go_ret
        exact ⟨by first | rfl | (simp; done) | (simp [*]; done), by repeat (first | exact Drawn0.refl _ | apply Drawn0.step)⟩

/-! ### lockgateref17_Chain: function 11 -/
def lockgateref17_Chain.l0 : Nat → List (S24) → Int → List (S24) → List (S24) → Int → Option ((List (S24)))
  | 0, _, _, _, _, _ => none
  | k + 1, x1, x3, x9, x11, x12 => if x12 < (x11.length : Int) then (if (x9.length : Int) < x3 then (if 0 ≤ x12 then ((lockgateref17_node.f k x1 ((rd_T24 x11 x12).f0)).bind fun t142 => (if t142 = true then (lockgateref17_Chain.l0 k x1 x3 x9 x11 (wrap64 (x12 + 1))) else (if x9.length < 8796093022208 then (lockgateref17_Chain.l0 k x1 x3 (x9 ++ [(⟨(rd_T24 x11 x12).f0, (rd_T24 x11 x12).f1⟩ : S24)]) x11 (wrap64 (x12 + 1))) else (none)))) else (none)) else (lockgateref17_Chain.l0 k x1 x3 x9 x11 (wrap64 (x12 + 1)))) else (some x9)
def lockgateref17_Chain.f (k : Nat) (a0 : Int) (l1 : List (S24)) (l2 : List (S24)) (a3 : Int) : Option ((List (S24))) := if ([] : List (S24)).length + l1.length < 8796093022208 then ((some (([] : List (S24)) ++ l1 : List (S24))).bind fun y124 => (if (l2.length : Int) = 0 then (some y124) else (if 0 ≤ (wrap64 (a0 - (wrap64 ((wrap64 (Int.tdiv a0 (l2.length : Int))) * (l2.length : Int))))) then (if (wrap64 (a0 - (wrap64 ((wrap64 (Int.tdiv a0 (l2.length : Int))) * (l2.length : Int))))) ≤ (l2.length : Int) then ((some (l2.drop ((wrap64 (a0 - (wrap64 ((wrap64 (Int.tdiv a0 (l2.length : Int))) * (l2.length : Int))))) : Int).toNat : List (S24))).bind fun y127 => (if ([] : List (S24)).length + y127.length < 8796093022208 then ((some (([] : List (S24)) ++ y127 : List (S24))).bind fun y131 => ((some (l2.take ((wrap64 (a0 - (wrap64 ((wrap64 (Int.tdiv a0 (l2.length : Int))) * (l2.length : Int))))) : Int).toNat : List (S24))).bind fun y134 => (if y131.length + y134.length < 8796093022208 then (lockgateref17_Chain.l0 k l1 a3 y124 (y131 ++ y134) 0) else (none)))) else (none))) else (none)) else (none)))) else (none)
theorem lockgateref17_Chain.mono_l : ∀ k, (∀ y0 y1 y2 y3 y4, LeO (lockgateref17_Chain.l0 k y0 y1 y2 y3 y4) (lockgateref17_Chain.l0 (k + 1) y0 y1 y2 y3 y4))
  | 0 => fun _ _ _ _ _ r h => by simp [lockgateref17_Chain.l0] at h
  | k + 1 => by
    have ih0 := lockgateref17_Chain.mono_l k
    · intro y0 y1 y2 y3 y4
      unfold lockgateref17_Chain.l0
      repeat' first
      | (with_reducible exact ih0 _ _ _ _ _)
      | (with_reducible exact lockgateref17_node.mono _ _ _)
      | (with_reducible exact LeO.refl _)
      | (with_reducible exact LeO.none _)
      | (with_reducible refine LeO.ite ?_ ?_)
      | (with_reducible refine LeO.bind ?_ (fun _ => ?_))
      | exact ih0 _ _ _ _ _
      | exact lockgateref17_node.mono _ _ _
      | exact LeO.none _
      | refine LeO.ite ?_ ?_
      | refine LeO.bind ?_ (fun _ => ?_)
theorem lockgateref17_Chain.mono : ∀ a0 a1 a2 a3 k, LeO (lockgateref17_Chain.f k a0 a1 a2 a3) (lockgateref17_Chain.f (k + 1) a0 a1 a2 a3) := by
  intro a0 a1 a2 a3 k
  have ih0 := lockgateref17_Chain.mono_l k
  unfold lockgateref17_Chain.f
  repeat' first
      | (with_reducible exact ih0 _ _ _ _ _)
      | (with_reducible exact lockgateref17_node.mono _ _ _)
      | (with_reducible exact LeO.refl _)
      | (with_reducible exact LeO.none _)
      | (with_reducible refine LeO.ite ?_ ?_)
      | (with_reducible refine LeO.bind ?_ (fun _ => ?_))
      | exact ih0 _ _ _ _ _
      | exact lockgateref17_node.mono _ _ _
      | exact LeO.none _
      | refine LeO.ite ?_ ?_
      | refine LeO.bind ?_ (fun _ => ?_)
set_option maxHeartbeats 8000000 in
set_option maxRecDepth 100000 in
theorem lockgateref17_Chain.calls (k : Nat) (a0 : Int) (A1 : Option Addr) (c1 : Nat) (l1 : List (S24)) (A2 : Option Addr) (c2 : Nat) (l2 : List (S24)) (a3 : Int) (r : List (S24)) (w : World) (hr1 : Kd.C k24 w A1 l1.length l1) (hc1 : l1.length ≤ c1) (hr2 : Kd.C k24 w A2 l2.length l2) (hc2 : l2.length ≤ c2) (h : lockgateref17_Chain.f k a0 l1 l2 a3 = some r) :
    Calls Try.prog 11 #[.int .i64 a0, .slice A1 l1.length c1, .slice A2 l2.length c2, .int .i64 a3] w fun e w' => ∃ v0_ : Value, e = .returned (v0_) ∧ Kd.R k24 24 w' w.heap.size (fun _ => True) v0_ r ∧ Below w.heap.size w w' := by
  have hu24 := Try.underlying24
  have HR1 := Aside0.mk hr1
  have HC1 := Aside0.mk hc1
  clear hr1 hc1
  have HR2 := Aside0.mk hr2
  have HC2 := Aside0.mk hc2
  clear hr2 hc2
  have HB := Aside0.mk (Below.refl w.heap.size w)
  have H : (if ([] : List (S24)).length + l1.length < 8796093022208 then ((some (([] : List (S24)) ++ l1 : List (S24))).bind fun y124 => (if (l2.length : Int) = 0 then (some y124) else (if 0 ≤ (wrap64 (a0 - (wrap64 ((wrap64 (Int.tdiv a0 (l2.length : Int))) * (l2.length : Int))))) then (if (wrap64 (a0 - (wrap64 ((wrap64 (Int.tdiv a0 (l2.length : Int))) * (l2.length : Int))))) ≤ (l2.length : Int) then ((some (l2.drop ((wrap64 (a0 - (wrap64 ((wrap64 (Int.tdiv a0 (l2.length : Int))) * (l2.length : Int))))) : Int).toNat : List (S24))).bind fun y127 => (if ([] : List (S24)).length + y127.length < 8796093022208 then ((some (([] : List (S24)) ++ y127 : List (S24))).bind fun y131 => ((some (l2.take ((wrap64 (a0 - (wrap64 ((wrap64 (Int.tdiv a0 (l2.length : Int))) * (l2.length : Int))))) : Int).toNat : List (S24))).bind fun y134 => (if y131.length + y134.length < 8796093022208 then (lockgateref17_Chain.l0 k l1 a3 y124 (y131 ++ y134) 0) else (none)))) else (none))) else (none)) else (none)))) else (none)) = some r := h
  clear h
  by_cases c5 : ([] : List (S24)).length + l1.length < 8796093022208
  · rw [if_pos c5] at H
    have LMc5 := Aside0.mk c5
    clear c5
    obtain ⟨y124, hy124⟩ : ∃ y_ : List (S24), y_ = (([] : List (S24)) ++ l1) := ⟨_, rfl⟩
    replace H : (if (l2.length : Int) = 0 then (some y124) else (if 0 ≤ (wrap64 (a0 - (wrap64 ((wrap64 (Int.tdiv a0 (l2.length : Int))) * (l2.length : Int))))) then (if (wrap64 (a0 - (wrap64 ((wrap64 (Int.tdiv a0 (l2.length : Int))) * (l2.length : Int))))) ≤ (l2.length : Int) then ((some (l2.drop ((wrap64 (a0 - (wrap64 ((wrap64 (Int.tdiv a0 (l2.length : Int))) * (l2.length : Int))))) : Int).toNat : List (S24))).bind fun y127 => (if ([] : List (S24)).length + y127.length < 8796093022208 then ((some (([] : List (S24)) ++ y127 : List (S24))).bind fun y131 => ((some (l2.take ((wrap64 (a0 - (wrap64 ((wrap64 (Int.tdiv a0 (l2.length : Int))) * (l2.length : Int))))) : Int).toNat : List (S24))).bind fun y134 => (if y131.length + y134.length < 8796093022208 then (lockgateref17_Chain.l0 k l1 a3 y124 (y131 ++ y134) 0) else (none)))) else (none))) else (none)) else (none))) = some r := by first | (rw [hy124]; with_reducible exact H) | (have H2_ := (Option.bind_some _ _).symm.trans H; rw [hy124]; with_reducible exact H2_) | (have H2_ := (Option.bind_some _ _).symm.trans H; with_reducible exact H2_) | with_reducible exact H | (rw [hy124]; exact H) | exact H
    have Ny124 := Aside0.mk hy124
    clear hy124
    by_cases c6 : (l2.length : Int) = 0
    · rw [if_pos c6] at H
      have c6b0 : ((l2.length : Int) == 0) = true := beq_iff_eq.mpr c6
      have c6b1 : ((l2.length : Int) != 0) = false := bne_eq_false_iff_eq.mpr c6
      clear c6
      obtain rfl := Option.some.inj H
      go_enter Try.func11, Try.ntmps11
      go_wp2_with (first | ((with_reducible refine gate_builtin (b := .append) (xs := #[.tmp 13, .tmp 14]) rfl ?_); at_builtin; refine Kd.R_append_rows k24 (w0 := w) w.heap.size rfl (.tmp 13) (.tmp 14) 22 24 (.agg #[(.int .i64 0), (.int .i64 0)]) 16 rfl Try.underlying22 info24 rfl (by decide) (by omega) (.slice none 0 0) ([] : List (S24)) l1 _ _ _ (fun _ => True) (fun _ => False) rfl rfl ?aO ?aR (fun _ _ h => h) (fun _ h => h.elim) ?aF ?aB ?aS ?aL ?_; (case aR => repeat (first | exact HR1.out | (with_reducible refine Kd.C_alloc ?_ _) | (with_reducible refine Kd.C_drewN ?_ _) | (with_reducible refine Kd.C_drew ?_))); (case aB => exact (by repeat (first | (with_reducible first | exact HB.out | apply below_alloc | apply pw_below_drewN | apply below_drew1) | exact HB.out))); (case aF => exact (fun _ _ => trivial)); (case aO => exact ((Kd.R_nil _ _ _ _ (fun _ => True)))); (case aS => exact (below_size (by repeat (first | (with_reducible first | exact HB.out | apply below_alloc | apply pw_below_drewN | apply below_drew1) | exact HB.out)))); (case aL => have := LMc5.out; omega); intro v125 w7 ho hb hg hat; rw [← Ny124.out] at ho; have n0_ := Aside0.mk (hb); have n1_ := Aside0.mk (ho); clear HB; have HB := n0_; have HO126 := n1_; clear n0_ n1_; clear ho hb hg hat))
      go_ret
      exact ⟨_, by first | rfl | (simp [errW_none, errW_some] <;> rfl) | (simp [*, errW_none, errW_some] <;> rfl), by (with_reducible repeat (first | apply Kd.R_alloc | apply Kd.R_drewN | apply Kd.R_drew)); exact HO126.out, by repeat (first | (with_reducible first | exact HB.out | apply below_alloc | apply pw_below_drewN | apply below_drew1) | exact HB.out)⟩
    · rw [if_neg c6] at H
      have c6b0 : ((l2.length : Int) == 0) = false := beq_eq_false_iff_ne.mpr c6
      have c6b1 : ((l2.length : Int) != 0) = true := bne_iff_ne.mpr c6
      have c6b2 : ¬ (l2 = []) := fun h_ => c6 (by rw [h_]; rfl)
      obtain ⟨ji8, hji8⟩ : ∃ j_ : Int, (wrap64 (a0 - (wrap64 ((wrap64 (Int.tdiv a0 (l2.length : Int))) * (l2.length : Int))))) = j_ := ⟨_, rfl⟩
      replace H : (if 0 ≤ (ji8) then (if (ji8) ≤ (l2.length : Int) then ((some (l2.drop ((ji8) : Int).toNat : List (S24))).bind fun y127 => (if ([] : List (S24)).length + y127.length < 8796093022208 then ((some (([] : List (S24)) ++ y127 : List (S24))).bind fun y131 => ((some (l2.take ((ji8) : Int).toNat : List (S24))).bind fun y134 => (if y131.length + y134.length < 8796093022208 then (lockgateref17_Chain.l0 k l1 a3 y124 (y131 ++ y134) 0) else (none)))) else (none))) else (none)) else (none)) = some r := by first | (rw [hji8] at H; exact H) | (simp only [hji8] at H ⊢; exact H)
      have hji8w : (IntKind.i64.wrap (a0 - (wrap64 ((wrap64 (Int.tdiv a0 (l2.length : Int))) * (l2.length : Int))))) = ji8 := (i64_w _).trans hji8
      by_cases c9 : 0 ≤ (ji8)
      · rw [if_pos c9] at H
        have c9b0 := eq_true c9
        have c9b1 : decide (0 ≤ (ji8)) = true := decide_eq_true c9
        clear c9
        by_cases c10 : (ji8) ≤ (l2.length : Int)
        · rw [if_pos c10] at H
          have c10b0 := eq_true c10
          have c10b1 : decide ((ji8) ≤ (l2.length : Int)) = true := decide_eq_true c10
          clear c10
          obtain ⟨y127, hy127⟩ : ∃ y_ : List (S24), y_ = (l2.drop ((ji8) : Int).toNat) := ⟨_, rfl⟩
          replace H : (if ([] : List (S24)).length + y127.length < 8796093022208 then ((some (([] : List (S24)) ++ y127 : List (S24))).bind fun y131 => ((some (l2.take ((ji8) : Int).toNat : List (S24))).bind fun y134 => (if y131.length + y134.length < 8796093022208 then (lockgateref17_Chain.l0 k l1 a3 y124 (y131 ++ y134) 0) else (none)))) else (none)) = some r := by first | (rw [hy127]; with_reducible exact H) | (have H2_ := (Option.bind_some _ _).symm.trans H; rw [hy127]; with_reducible exact H2_) | (have H2_ := (Option.bind_some _ _).symm.trans H; with_reducible exact H2_) | with_reducible exact H | (rw [hy127]; exact H) | exact H
          have Ny127 := Aside0.mk hy127
          clear hy127
          by_cases c11 : ([] : List (S24)).length + y127.length < 8796093022208
          · rw [if_pos c11] at H
            have LMc11 := Aside0.mk c11
            clear c11
            obtain ⟨y131, hy131⟩ : ∃ y_ : List (S24), y_ = (([] : List (S24)) ++ y127) := ⟨_, rfl⟩
            replace H : ((some (l2.take ((ji8) : Int).toNat : List (S24))).bind fun y134 => (if y131.length + y134.length < 8796093022208 then (lockgateref17_Chain.l0 k l1 a3 y124 (y131 ++ y134) 0) else (none))) = some r := by first | (rw [hy131]; with_reducible exact H) | (have H2_ := (Option.bind_some _ _).symm.trans H; rw [hy131]; with_reducible exact H2_) | (have H2_ := (Option.bind_some _ _).symm.trans H; with_reducible exact H2_) | with_reducible exact H | (rw [hy131]; exact H) | exact H
            have Ny131 := Aside0.mk hy131
            clear hy131
            have c12b0 := eq_true (of_decide_eq_true (by first | (with_reducible assumption) | assumption) : 0 ≤ (ji8))
            have c13b0 := eq_true (of_decide_eq_true (by first | (with_reducible assumption) | assumption) : (ji8) ≤ (l2.length : Int))
            obtain ⟨y134, hy134⟩ : ∃ y_ : List (S24), y_ = (l2.take ((ji8) : Int).toNat) := ⟨_, rfl⟩
            replace H : (if y131.length + y134.length < 8796093022208 then (lockgateref17_Chain.l0 k l1 a3 y124 (y131 ++ y134) 0) else (none)) = some r := by first | (rw [hy134]; with_reducible exact H) | (have H2_ := (Option.bind_some _ _).symm.trans H; rw [hy134]; with_reducible exact H2_) | (have H2_ := (Option.bind_some _ _).symm.trans H; with_reducible exact H2_) | with_reducible exact H | (rw [hy134]; exact H) | exact H
            have Ny134 := Aside0.mk hy134
            clear hy134
            by_cases c14 : y131.length + y134.length < 8796093022208
            · rw [if_pos c14] at H
              have LMc14 := Aside0.mk c14
              clear c14
              obtain ⟨y138, hy138⟩ : ∃ y_ : List (S24), y_ = (y131 ++ y134) := ⟨_, rfl⟩
              replace H : (lockgateref17_Chain.l0 k l1 a3 y124 y138 0) = some r := by first | (rw [hy138]; with_reducible exact H) | (have H2_ := (Option.bind_some _ _).symm.trans H; rw [hy138]; with_reducible exact H2_) | (have H2_ := (Option.bind_some _ _).symm.trans H; with_reducible exact H2_) | with_reducible exact H | (rw [hy138]; exact H) | exact H
              have Ny138 := Aside0.mk hy138
              clear hy138
              have H' := Aside0.mk H
              clear H
              go_enter Try.func11, Try.ntmps11
              go_wp2_with (first | ((with_reducible refine gate_builtin (b := .append) (xs := #[.tmp 13, .tmp 14]) rfl ?_); at_builtin; refine Kd.R_append_rows k24 (w0 := w) w.heap.size rfl (.tmp 13) (.tmp 14) 22 24 (.agg #[(.int .i64 0), (.int .i64 0)]) 16 rfl Try.underlying22 info24 rfl (by decide) (by omega) (.slice none 0 0) ([] : List (S24)) l1 _ _ _ (fun _ => True) (fun _ => False) rfl rfl ?aO ?aR (fun _ _ h => h) (fun _ h => h.elim) ?aF ?aB ?aS ?aL ?_; (case aR => repeat (first | exact HR1.out | (with_reducible refine Kd.C_alloc ?_ _) | (with_reducible refine Kd.C_drewN ?_ _) | (with_reducible refine Kd.C_drew ?_))); (case aB => exact (by repeat (first | (with_reducible first | exact HB.out | apply below_alloc | apply pw_below_drewN | apply below_drew1) | exact HB.out))); (case aF => exact (fun _ _ => trivial)); (case aO => exact ((Kd.R_nil _ _ _ _ (fun _ => True)))); (case aS => exact (below_size (by repeat (first | (with_reducible first | exact HB.out | apply below_alloc | apply pw_below_drewN | apply below_drew1) | exact HB.out)))); (case aL => have := LMc5.out; omega); intro v125 w15 ho hb hg hat; rw [← Ny124.out] at ho; have n0_ := Aside0.mk (hb); have n1_ := Aside0.mk (ho); clear HB; have HB := n0_; have HO126 := n1_; clear n0_ n1_; clear ho hb hg hat; have q16 : ((ji8) : Int) ≤ ((l2.length : Int) : Int) := of_decide_eq_true (by first | (with_reducible assumption) | assumption); obtain ⟨i016, hi016, _, hsz16, _⟩ := info_parts info24; have hroom16 : l2.length ≤ c2 := HC2.out; have hC16 : Kd.C k24 _ A2 l2.length l2 := HR2.out; have q016 : (0 : Int) ≤ ((ji8) : Int) := of_decide_eq_true (by first | (with_reducible assumption) | assumption); have hcut16 := cut_from (P := Try.prog) 22 24 .i64 Try.underlying22 hi016 2 hsz16 A2 l2.length c2 (ji8) q016 q16; have hr16 := Kd.C_drop (m := ((ji8) : Int).toNat) (c := c2) hC16 (by omega) hroom16; obtain ⟨A16, hA16⟩ : ∃ A1, A1 = (if c2 = ((ji8) : Int).toNat then A2 else (A2 : Option Addr).map (·.add (((ji8) : Int).toNat * 2))) := ⟨_, rfl⟩; obtain ⟨c16, hc16⟩ : ∃ c1, c1 = c2 - ((ji8) : Int).toNat := ⟨_, rfl⟩; have hy16 : y127.length = l2.length - ((ji8) : Int).toNat := (by rw [Ny127.out, List.length_drop] <;> omega); rw [show (l2).drop ((ji8) : Int).toNat = y127 from Ny127.out.symm] at hr16; replace hr16 : Kd.C k24 _ A16 y127.length y127 := (by rw [hA16]; exact hr16); rw [← hy16, ← hA16, ← hc16] at hcut16; have HR130 := Aside0.mk hr16; have HC130 := Aside0.mk (show y127.length ≤ c16 from by rw [hy16, hc16]; exact Nat.sub_le_sub_right hroom16 _); clear hr16 hC16 hroom16 hi016 hsz16 hc16; have KY16 := Aside0.mk hy16; have KA16 := Aside0.mk hA16; clear hy16 hA16; replace q16 := eq_true q16) | ((with_reducible refine gate_builtin (b := .append) (xs := #[.tmp 29, .tmp 32]) rfl ?_); at_builtin; refine Kd.R_append_rows k24 (w0 := w) w.heap.size rfl (.tmp 29) (.tmp 32) 22 24 (.agg #[(.int .i64 0), (.int .i64 0)]) 16 rfl Try.underlying22 info24 rfl (by decide) (by omega) (.slice none 0 0) ([] : List (S24)) y127 _ _ _ (fun k_ => some k_ ≠ (v125 : Value).ownBlock) (fun _ => False) rfl rfl ?aO ?aR (fun _ _ h => h) (fun _ h => h.elim) ?aF ?aB ?aS ?aL ?_; (case aR => repeat (first | exact (Kd.C_below HR130.out HB.out) | (with_reducible refine Kd.C_alloc ?_ _) | (with_reducible refine Kd.C_drewN ?_ _) | (with_reducible refine Kd.C_drew ?_))); (case aB => exact (by repeat (first | (with_reducible first | exact HB.out | apply below_alloc | apply pw_below_drewN | apply below_drew1) | exact HB.out))); (case aF => exact (fun k_ hk => Kd.fresh' (Kd.R_lt (by (with_reducible repeat (first | apply Kd.R_alloc | apply Kd.R_drewN | apply Kd.R_drew)); exact HO126.out)) k_ hk)); (case aO => exact ((Kd.R_nil _ _ _ _ (fun k_ => some k_ ≠ (v125 : Value).ownBlock)))); (case aS => exact (below_size (by repeat (first | (with_reducible first | exact HB.out | apply below_alloc | apply pw_below_drewN | apply below_drew1) | exact HB.out)))); (case aL => have := LMc11.out; omega); intro v132 w17 ho hb hg hat; rw [← Ny131.out] at ho; have n0_ := Aside0.mk (Kd.R_after (Kd.R_apart_nil (by (with_reducible repeat (first | apply Kd.R_alloc | apply Kd.R_drewN | apply Kd.R_drew)); exact HO126.out)) hg hat); have n1_ := Aside0.mk (hb); have n2_ := Aside0.mk (ho); clear HO126; clear HB; have HO126 := n0_; have HB := n1_; have HO133 := n2_; clear n0_ n1_ n2_; clear ho hb hg hat; have q18 : ((ji8) : Int) ≤ ((l2.length : Int) : Int) := of_decide_eq_true (by first | (with_reducible assumption) | assumption); obtain ⟨i018, hi018, _, hsz18, _⟩ := info_parts info24; have hroom18 : l2.length ≤ c2 := HC2.out; have hC18 : Kd.C k24 _ A2 l2.length l2 := HR2.out; have hcut18 := cut_to (P := Try.prog) 22 24 .i64 Try.underlying22 hi018 A2 l2.length c2 (ji8) (of_decide_eq_true (by first | (with_reducible assumption) | assumption)) q18 hroom18; have hr18 := Kd.C_take (m := ((ji8) : Int).toNat) hC18 (by omega); have hy18 : y134.length = ((ji8) : Int).toNat := (by rw [Ny134.out, List.length_take]; omega); rw [← Ny134.out] at hr18; rw [← hy18] at hcut18; have HR137 := Aside0.mk hr18; have HC137 := Aside0.mk (show y134.length ≤ c2 from by omega); clear hr18 hC18 hroom18 hi018 hsz18; have KY18 := Aside0.mk hy18; clear hy18; replace q18 := eq_true q18) | ((with_reducible refine gate_builtin (b := .append) (xs := #[.tmp 34, .tmp 37]) rfl ?_); at_builtin; refine Kd.R_append_rows k24 (w0 := w) w.heap.size rfl (.tmp 34) (.tmp 37) 22 24 (.agg #[(.int .i64 0), (.int .i64 0)]) 16 rfl Try.underlying22 info24 rfl (by decide) (by omega) v132 y131 y134 _ _ _ (fun k_ => some k_ ≠ (v125 : Value).ownBlock) (fun _ => False) rfl rfl ?aO ?aR (fun _ _ h => h) (fun _ h => h.elim) ?aF ?aB ?aS ?aL ?_; (case aR => repeat (first | exact (Kd.C_below HR137.out HB.out) | (with_reducible refine Kd.C_alloc ?_ _) | (with_reducible refine Kd.C_drewN ?_ _) | (with_reducible refine Kd.C_drew ?_))); (case aB => exact (by repeat (first | (with_reducible first | exact HB.out | apply below_alloc | apply pw_below_drewN | apply below_drew1) | exact HB.out))); (case aF => exact (fun k_ hk => Kd.fresh' (Kd.R_lt (by (with_reducible repeat (first | apply Kd.R_alloc | apply Kd.R_drewN | apply Kd.R_drew)); exact HO126.out)) k_ hk)); (case aO => exact (by (with_reducible repeat (first | apply Kd.R_alloc | apply Kd.R_drewN | apply Kd.R_drew)); exact HO133.out)); (case aS => exact (below_size (by repeat (first | (with_reducible first | exact HB.out | apply below_alloc | apply pw_below_drewN | apply below_drew1) | exact HB.out)))); (case aL => have := LMc14.out; omega); intro v139 w19 ho hb hg hat; rw [← Ny138.out] at ho; have n0_ := Aside0.mk (Kd.R_after (ok := (fun _ => True)) (by (with_reducible repeat (first | apply Kd.R_alloc | apply Kd.R_drewN | apply Kd.R_drew)); exact HO126.out) hg hat); have n1_ := Aside0.mk (hb); have n2_ := Aside0.mk (ho); clear HO126; clear HB; clear HO133; have HO126 := n0_; have HB := n1_; have HO140 := n2_; clear n0_ n1_ n2_; clear ho hb hg hat))
              go_loopg [9, 12] k (fun kq v9 v12 w' => ∃ (x9_1 : List (S24)) (x12_1 : Int), v12 = .int .i64 x12_1 ∧ Aside0 (lockgateref17_Chain.l0 kq l1 a3 x9_1 y138 x12_1 = some r) ∧ Aside0 (kq ≤ k) ∧ Aside0 (Kd.R k24 24 w' w.heap.size (fun k_ => some k_ ≠ (v139 : Value).ownBlock) v9 x9_1) ∧ Aside0 (Kd.R k24 24 w' w.heap.size (fun k_ => some k_ ≠ (v9 : Value).ownBlock) v139 y138) ∧ Aside0 (Below w.heap.size w w'))
              case atStart => exact ⟨(y124), (0), (by first | rfl | (simp; done) | (simp [*]; done)), H', ⟨Nat.le_refl _⟩, ⟨by (with_reducible repeat (first | apply Kd.R_alloc | apply Kd.R_drewN | apply Kd.R_drew)); exact Kd.R_mono HO126.out (fun _ hk => hk.2)⟩, ⟨by (with_reducible repeat (first | apply Kd.R_alloc | apply Kd.R_drewN | apply Kd.R_drew)); exact HO140.out⟩, ⟨by repeat (first | (with_reducible first | exact HB.out | apply below_alloc | apply pw_below_drewN | apply below_drew1) | exact HB.out)⟩⟩
              case round =>
                clear H'
                try clear c1
                try clear q1
                try clear c2
                try clear p2
                try clear c5
                try clear c6
                try clear c6b0
                try clear c6b1
                try clear c6b2
                try clear p6
                try clear c9
                try clear c9b0
                try clear c9b1
                try clear c10
                try clear c10b0
                try clear c10b1
                try clear c11
                try clear c12
                try clear c12b0
                try clear c13
                try clear c13b0
                try clear c14
                try clear c16
                try clear q16
                try clear q18
                try clear q016
                try clear q16
                try clear q18
                obtain ⟨x9_1, x12_1, rfl, HA, HK1, HO_9, HO_11, HB⟩ := hrel
                cases gk with
                | zero => exact absurd HA.out (by simp [lockgateref17_Chain.l0])
                | succ k1 =>
                  have H := HA.out
                  clear HA
                  simp only [lockgateref17_Chain.l0] at H
                  by_cases c20 : x12_1 < (y138.length : Int)
                  · rw [if_pos c20] at H
                    have c20b0 : decide (x12_1 < (y138.length : Int)) = true := decide_eq_true c20
                    clear c20
                    by_cases c21 : (x9_1.length : Int) < a3
                    · rw [if_pos c21] at H
                      have c21b0 : decide ((x9_1.length : Int) < a3) = true := decide_eq_true c21
                      clear c21
                      by_cases c22 : 0 ≤ x12_1
                      · rw [if_pos c22] at H
                        have c22b0 : decide (0 ≤ x12_1) = true := decide_eq_true c22
                        clear c22
                        replace H := Option.bind_eq_some_iff.mp H
                        obtain ⟨t142, A230, H⟩ := H
                        replace H : (if t142 = true then (lockgateref17_Chain.l0 k1 l1 a3 x9_1 y138 (wrap64 (x12_1 + 1))) else (if x9_1.length < 8796093022208 then (lockgateref17_Chain.l0 k1 l1 a3 (x9_1 ++ [(⟨(rd_T24 y138 x12_1).f0, (rd_T24 y138 x12_1).f1⟩ : S24)]) y138 (wrap64 (x12_1 + 1))) else (none))) = some r := H
                        have A23 := Aside0.mk A230
                        clear A230
                        by_cases c24 : t142 = true
                        · subst c24
                          have H1 : (lockgateref17_Chain.l0 k1 l1 a3 x9_1 y138 (wrap64 (x12_1 + 1))) = some r := by rw [if_pos rfl] at H; exact H
                          clear H
                          have H := H1
                          clear H1
                          have H' := Aside0.mk H
                          clear H
                          obtain ⟨Ao25, co25, eo25⟩ := Kd.R_slice HO_11.out
                          subst eo25
                          obtain ⟨Ao26, co26, eo26⟩ := Kd.R_slice HO_9.out
                          subst eo26
                          have p141 : 0 ≤ (x12_1 : Int) := of_decide_eq_true (by first | (with_reducible assumption) | assumption)
                          have q141 : x12_1 < (y138.length : Int) := of_decide_eq_true (by first | (with_reducible assumption) | assumption)
                          obtain ⟨ad141, e141, hx141_0, hx141_1⟩ := at_T24 (Kd.R_reads' HO_11.out).2.2 x12_1 p141 q141
                          cases e141
                          replace p141 := eq_true p141
                          replace q141 := eq_true q141
                          go_wp2_with (first | (go_at_call 21; (with_reducible refine (lockgateref17_node.calls k1 _ _ l1 ((rd_T24 y138 x12_1).f0) true _ ?side1 ?side2 A23.out).mono ?_); (case side1 => repeat (first | exact (Kd.C_below HR1.out HB.out) | (with_reducible refine Kd.C_alloc ?_ _) | (with_reducible refine Kd.C_drewN ?_ _) | (with_reducible refine Kd.C_drew ?_))); (case side2 => exact HC1.out); rintro e w' ⟨rfl, ⟨nd, rfl⟩⟩))
                          go_roundg k1
                          case measure => have := HK1.out; omega
                          case rel => exact ⟨(x9_1), (wrap64 (x12_1 + 1)), (by first | rfl | (simp; done) | (simp [*]; done)), H', ⟨by have := HK1.out; omega⟩, ⟨by (with_reducible repeat (first | apply Kd.R_alloc | apply Kd.R_drewN | apply Kd.R_drew)); exact HO_9.out⟩, ⟨by (with_reducible repeat (first | apply Kd.R_alloc | apply Kd.R_drewN | apply Kd.R_drew)); exact HO_11.out⟩, ⟨by repeat (first | (with_reducible first | exact HB.out | apply below_alloc | apply pw_below_drewN | apply below_drew1) | exact HB.out)⟩⟩
                        · replace c24 := Bool.eq_false_iff.mpr c24
                          subst c24
                          have H1 : (if x9_1.length < 8796093022208 then (lockgateref17_Chain.l0 k1 l1 a3 (x9_1 ++ [(⟨(rd_T24 y138 x12_1).f0, (rd_T24 y138 x12_1).f1⟩ : S24)]) y138 (wrap64 (x12_1 + 1))) else (none)) = some r := by rw [if_neg (show ¬ (false = true) by decide)] at H; exact H
                          clear H
                          have H := H1
                          clear H1
                          by_cases c27 : x9_1.length < 8796093022208
                          · rw [if_pos c27] at H
                            have LMc27 := Aside0.mk c27
                            clear c27
                            obtain ⟨y144, hy144⟩ : ∃ y_ : List (S24), y_ = (x9_1 ++ [(⟨(rd_T24 y138 x12_1).f0, (rd_T24 y138 x12_1).f1⟩ : S24)]) := ⟨_, rfl⟩
                            replace H : (lockgateref17_Chain.l0 k1 l1 a3 y144 y138 (wrap64 (x12_1 + 1))) = some r := by first | (rw [hy144]; with_reducible exact H) | (have H2_ := (Option.bind_some _ _).symm.trans H; rw [hy144]; with_reducible exact H2_) | (have H2_ := (Option.bind_some _ _).symm.trans H; with_reducible exact H2_) | with_reducible exact H | (rw [hy144]; exact H) | exact H
                            have Ny144 := Aside0.mk hy144
                            clear hy144
                            have H' := Aside0.mk H
                            clear H
                            obtain ⟨Ao28, co28, eo28⟩ := Kd.R_slice HO_11.out
                            subst eo28
                            obtain ⟨Ao29, co29, eo29⟩ := Kd.R_slice HO_9.out
                            subst eo29
                            have p141 : 0 ≤ (x12_1 : Int) := of_decide_eq_true (by first | (with_reducible assumption) | assumption)
                            have q141 : x12_1 < (y138.length : Int) := of_decide_eq_true (by first | (with_reducible assumption) | assumption)
                            obtain ⟨ad141, e141, hx141_0, hx141_1⟩ := at_T24 (Kd.R_reads' HO_11.out).2.2 x12_1 p141 q141
                            cases e141
                            replace p141 := eq_true p141
                            replace q141 := eq_true q141
                            go_wp2_with (first | (go_at_call 21; (with_reducible refine (lockgateref17_node.calls k1 _ _ l1 ((rd_T24 y138 x12_1).f0) false _ ?side1 ?side2 A23.out).mono ?_); (case side1 => repeat (first | exact (Kd.C_below HR1.out HB.out) | (with_reducible refine Kd.C_alloc ?_ _) | (with_reducible refine Kd.C_drewN ?_ _) | (with_reducible refine Kd.C_drew ?_))); (case side2 => exact HC1.out); rintro e w' ⟨rfl, ⟨nd, rfl⟩⟩; have p143 : 0 ≤ (x12_1 : Int) := of_decide_eq_true (by first | (with_reducible assumption) | assumption); have q143 : x12_1 < (y138.length : Int) := of_decide_eq_true (by first | (with_reducible assumption) | assumption); obtain ⟨ad143, e143, hx143_0, hx143_1⟩ := at_T24 (Kd.R_reads' HO_11.out).2.2 x12_1 p143 q143; obtain rfl : ad141 = ad143 := (by injection e143); replace p143 := eq_true p143; replace q143 := eq_true q143) | ((with_reducible refine gate_builtin (b := .append) (xs := #[.tmp 59, .tmp 64]) rfl ?_); at_builtin; refine Kd.R_append k24 (w0 := w) w.heap.size rfl (.tmp 59) (.tmp 64) 22 24 (.agg #[(.int .i64 0), (.int .i64 0)]) 16 rfl Try.underlying22 info24 rfl (by decide) (by omega) (.slice Ao29 x9_1.length co29) x9_1 (⟨(rd_T24 y138 x12_1).f0, (rd_T24 y138 x12_1).f1⟩ : S24) [.int .i64 ((rd_T24 y138 x12_1).f0), .int .i64 ((rd_T24 y138 x12_1).f1)] (fun k_ => some k_ ≠ (.slice (some ad141) y138.length co28 : Value).ownBlock) (fun _ => False) rfl rfl ?aP (fun _ hk => hk.elim) ?aF ?aO ?aB ?aS ?aL ?_; (case aP => exact k24_mkM _ _ _ (⟨(rd_T24 y138 x12_1).f0, (rd_T24 y138 x12_1).f1⟩ : S24)); (case aB => exact (by repeat (first | (with_reducible first | exact HB.out | apply below_alloc | apply pw_below_drewN | apply below_drew1) | exact HB.out))); (case aF => exact (fun k_ hk => Kd.fresh' (Kd.R_lt (by (with_reducible repeat (first | apply Kd.R_alloc | apply Kd.R_drewN | apply Kd.R_drew)); exact HO_11.out)) k_ hk)); (case aO => exact (by (with_reducible repeat (first | apply Kd.R_alloc | apply Kd.R_drewN | apply Kd.R_drew)); exact HO_9.out)); (case aS => exact (below_size (by repeat (first | (with_reducible first | exact HB.out | apply below_alloc | apply pw_below_drewN | apply below_drew1) | exact HB.out)))); (case aL => have := LMc27.out; omega); intro v145 w30 ho hb hg hat; rw [← Ny144.out] at ho; have n0_ := Aside0.mk (Kd.R_after (ok := (fun _ => True)) (by (with_reducible repeat (first | apply Kd.R_alloc | apply Kd.R_drewN | apply Kd.R_drew)); exact Kd.R_mono HO_11.out (fun _ hk => ⟨trivial, hk⟩)) hg hat); have n1_ := Aside0.mk (hb); have n2_ := Aside0.mk (ho); clear HO_11; clear HB; clear HO_9; have HO_11 := n0_; have HB := n1_; have HO146 := n2_; clear n0_ n1_ n2_; clear ho hb hg hat))
                            go_roundg k1
                            case measure => have := HK1.out; omega
                            case rel => exact ⟨(y144), (wrap64 (x12_1 + 1)), (by first | rfl | (simp; done) | (simp [*]; done)), H', ⟨by have := HK1.out; omega⟩, ⟨by (with_reducible repeat (first | apply Kd.R_alloc | apply Kd.R_drewN | apply Kd.R_drew)); exact HO146.out⟩, ⟨by (with_reducible repeat (first | apply Kd.R_alloc | apply Kd.R_drewN | apply Kd.R_drew)); exact Kd.R_mono HO_11.out (fun _ hk => hk.2)⟩, ⟨by repeat (first | (with_reducible first | exact HB.out | apply below_alloc | apply pw_below_drewN | apply below_drew1) | exact HB.out)⟩⟩
                          · rw [if_neg c27] at H
                            exact absurd H (by simp)
                      · rw [if_neg c22] at H
                        exact absurd H (by simp)
                    · rw [if_neg c21] at H
                      have c21b0 : decide ((x9_1.length : Int) < a3) = false := decide_eq_false c21
                      clear c21
                      have H' := Aside0.mk H
                      clear H
                      obtain ⟨Ao31, co31, eo31⟩ := Kd.R_slice HO_11.out
                      subst eo31
                      obtain ⟨Ao32, co32, eo32⟩ := Kd.R_slice HO_9.out
                      subst eo32
                      go_wp2
                      go_roundg k1
                      case measure => have := HK1.out; omega
                      case rel => exact ⟨(x9_1), (wrap64 (x12_1 + 1)), (by first | rfl | (simp; done) | (simp [*]; done)), H', ⟨by have := HK1.out; omega⟩, ⟨by (with_reducible repeat (first | apply Kd.R_alloc | apply Kd.R_drewN | apply Kd.R_drew)); exact HO_9.out⟩, ⟨by (with_reducible repeat (first | apply Kd.R_alloc | apply Kd.R_drewN | apply Kd.R_drew)); exact HO_11.out⟩, ⟨by repeat (first | (with_reducible first | exact HB.out | apply below_alloc | apply pw_below_drewN | apply below_drew1) | exact HB.out)⟩⟩
                  · rw [if_neg c20] at H
                    have c20b0 : decide (x12_1 < (y138.length : Int)) = false := decide_eq_false c20
                    clear c20
                    obtain rfl := Option.some.inj H
                    obtain ⟨Ao33, co33, eo33⟩ := Kd.R_slice HO_11.out
                    subst eo33
                    go_wp2
                    go_ret
                    exact ⟨_, by first | rfl | (simp [errW_none, errW_some] <;> rfl) | (simp only [← hji8]; first | rfl | (simp [errW_none, errW_some] <;> rfl)) | (simp [*, errW_none, errW_some] <;> rfl), by (with_reducible repeat (first | apply Kd.R_alloc | apply Kd.R_drewN | apply Kd.R_drew)); exact Kd.R_mono HO_9.out (fun _ hk => trivial), by repeat (first | (with_reducible first | exact HB.out | apply below_alloc | apply pw_below_drewN | apply below_drew1) | exact HB.out)⟩
            · rw [if_neg c14] at H
              exact absurd H (by simp)
          · rw [if_neg c11] at H
            exact absurd H (by simp)
        · rw [if_neg c10] at H
          exact absurd H (by simp)
      · rw [if_neg c9] at H
        exact absurd H (by simp)
  · rw [if_neg c5] at H
    exact absurd H (by simp)

end Go.Proofs.Ytnieipjofnnpfaa.PPlace
