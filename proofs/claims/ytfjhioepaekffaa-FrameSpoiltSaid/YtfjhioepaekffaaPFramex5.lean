-- Written for this claim by the session's own driver of the kit's printer (mprint.py).
import Derived.Test.YtfjhioepaekffaaPFramex0
import Derived.Test.YtfjhioepaekffaaPFramex3
namespace Go.Proofs.Ytfjhioepaekffaa.PFrame
open Go.RowKit Go.Proofs.YtfjhioepaekffaaW.PrintWords Go.Proofs.YtfjhioepaekffaaW.PrintLast Go.Proofs.YtfjhioepaekffaaW.PrintMore
attribute [local go_sem] max2_int min2_int max_two min_two max_three min_three max_four min_four   -- for this text's walks alone
set_option linter.unusedVariables false
set_option linter.unusedSimpArgs false

/-! ### lockgateref04_Scan: function 14 -/
mutual
def lockgateref04_Scan.l0 : Nat → List Int → List (List Int) → Int → Option ((List (List Int)) × Int)
  | 0, _, _, _ => none
  | k + 1, x0, x4, x5 => if (wrap64 ((x0.length : Int) - x5)) ≥ 12 then (if 0 ≤ x5 then (if x5 < (x0.length : Int) then (if 0 ≤ (wrap64 (x5 + 1)) then (if (wrap64 (x5 + 1)) < (x0.length : Int) then (if 0 ≤ (wrap64 (x5 + 2)) then (if (wrap64 (x5 + 2)) < (x0.length : Int) then (if 0 ≤ (wrap64 (x5 + 3)) then (if (wrap64 (x5 + 3)) < (x0.length : Int) then (if (wrap64 ((wrap64 ((wrap64 ((wrap64 (rd x0 x5)) + (wrap64 (256 * (wrap64 (rd x0 (wrap64 (x5 + 1)))))))) + (wrap64 (65536 * (wrap64 (rd x0 (wrap64 (x5 + 2)))))))) + (wrap64 (16777216 * (wrap64 (rd x0 (wrap64 (x5 + 3)))))))) > 16777216 then (lockgateref04_Scan.j1 k x0 x4 x5 (wrap64 ((wrap64 ((wrap64 ((wrap64 (rd x0 x5)) + (wrap64 (256 * (wrap64 (rd x0 (wrap64 (x5 + 1)))))))) + (wrap64 (65536 * (wrap64 (rd x0 (wrap64 (x5 + 2)))))))) + (wrap64 (16777216 * (wrap64 (rd x0 (wrap64 (x5 + 3)))))))) true) else (lockgateref04_Scan.j1 k x0 x4 x5 (wrap64 ((wrap64 ((wrap64 ((wrap64 (rd x0 x5)) + (wrap64 (256 * (wrap64 (rd x0 (wrap64 (x5 + 1)))))))) + (wrap64 (65536 * (wrap64 (rd x0 (wrap64 (x5 + 2)))))))) + (wrap64 (16777216 * (wrap64 (rd x0 (wrap64 (x5 + 3)))))))) (decide ((wrap64 ((wrap64 (x5 + 12)) + (wrap64 ((wrap64 ((wrap64 ((wrap64 (rd x0 x5)) + (wrap64 (256 * (wrap64 (rd x0 (wrap64 (x5 + 1)))))))) + (wrap64 (65536 * (wrap64 (rd x0 (wrap64 (x5 + 2)))))))) + (wrap64 (16777216 * (wrap64 (rd x0 (wrap64 (x5 + 3)))))))))) > (x0.length : Int))))) else (none)) else (none)) else (none)) else (none)) else (none)) else (none)) else (none)) else (none)) else (some (x4, x5))
def lockgateref04_Scan.j1 : Nat → List Int → List (List Int) → Int → Int → Bool → Option ((List (List Int)) × Int)
  | 0, _, _, _, _, _ => none
  | k + 1, x0, x4, x5, x6, x52 => if x52 = true then (some (x4, x5)) else ((some (([] : List Int) : List Int)).bind fun y171 => (if 0 ≤ (wrap64 (x5 + 12)) then (if (wrap64 (x5 + 12)) ≤ (wrap64 ((wrap64 (x5 + 12)) + x6)) then (if (wrap64 ((wrap64 (x5 + 12)) + x6)) ≤ (x0.length : Int) then (if y171.length + ((x0.take ((wrap64 ((wrap64 (x5 + 12)) + x6)) : Int).toNat).drop ((wrap64 (x5 + 12)) : Int).toNat).length < 140737488355328 then ((some (y171 ++ ((x0.take ((wrap64 ((wrap64 (x5 + 12)) + x6)) : Int).toNat).drop ((wrap64 (x5 + 12)) : Int).toNat) : List Int)).bind fun y175 => ((lockgateref04_Frame.f k y175).bind fun t178 => (if 0 ≤ x5 then (if x5 ≤ (wrap64 ((wrap64 (x5 + 12)) + x6)) then ((lockgateref03_Same.f k t178 ((x0.take ((wrap64 ((wrap64 (x5 + 12)) + x6)) : Int).toNat).drop (x5 : Int).toNat)).bind fun t182 => (if t182 = true then (if x4.length < 5864062014805 then (lockgateref04_Scan.l0 k x0 (x4 ++ [y175]) (wrap64 ((wrap64 (x5 + 12)) + x6))) else (none)) else (some (x4, x5)))) else (none)) else (none)))) else (none)) else (none)) else (none)) else (none)))
end
def lockgateref04_Scan.f (k : Nat) (l0 : List Int) : Option ((List (List Int)) × Int) := lockgateref04_Scan.l0 k l0 ([] : List (List Int)) 0
theorem lockgateref04_Scan.mono_l : ∀ k, (∀ y0 y1 y2, LeO (lockgateref04_Scan.l0 k y0 y1 y2) (lockgateref04_Scan.l0 (k + 1) y0 y1 y2)) ∧ (∀ y0 y1 y2 y3 y4, LeO (lockgateref04_Scan.j1 k y0 y1 y2 y3 y4) (lockgateref04_Scan.j1 (k + 1) y0 y1 y2 y3 y4))
  | 0 => ⟨fun _ _ _ r h => by simp [lockgateref04_Scan.l0] at h, fun _ _ _ _ _ r h => by simp [lockgateref04_Scan.j1] at h⟩
  | k + 1 => by
    obtain ⟨ih0, ih1⟩ := lockgateref04_Scan.mono_l k
    refine ⟨?_, ?_⟩
    · intro y0 y1 y2
      unfold lockgateref04_Scan.l0
      repeat' first
      | (with_reducible exact ih0 _ _ _)
      | (with_reducible exact ih1 _ _ _ _ _)
      | (with_reducible exact lockgateref03_Same.mono _ _ _)
      | (with_reducible exact lockgateref04_Frame.mono _ _)
      | (with_reducible exact LeO.refl _)
      | (with_reducible exact LeO.none _)
      | (with_reducible refine LeO.ite ?_ ?_)
      | (with_reducible refine LeO.bind ?_ (fun _ => ?_))
      | exact ih0 _ _ _
      | exact ih1 _ _ _ _ _
      | exact lockgateref03_Same.mono _ _ _
      | exact lockgateref04_Frame.mono _ _
      | exact LeO.none _
      | refine LeO.ite ?_ ?_
      | refine LeO.bind ?_ (fun _ => ?_)
    · intro y0 y1 y2 y3 y4
      unfold lockgateref04_Scan.j1
      repeat' first
      | (with_reducible exact ih0 _ _ _)
      | (with_reducible exact ih1 _ _ _ _ _)
      | (with_reducible exact lockgateref03_Same.mono _ _ _)
      | (with_reducible exact lockgateref04_Frame.mono _ _)
      | (with_reducible exact LeO.refl _)
      | (with_reducible exact LeO.none _)
      | (with_reducible refine LeO.ite ?_ ?_)
      | (with_reducible refine LeO.bind ?_ (fun _ => ?_))
      | exact ih0 _ _ _
      | exact ih1 _ _ _ _ _
      | exact lockgateref03_Same.mono _ _ _
      | exact lockgateref04_Frame.mono _ _
      | exact LeO.none _
      | refine LeO.ite ?_ ?_
      | refine LeO.bind ?_ (fun _ => ?_)
theorem lockgateref04_Scan.mono : ∀ a0 k, LeO (lockgateref04_Scan.f k a0) (lockgateref04_Scan.f (k + 1) a0) := by
  intro a0 k
  obtain ⟨ih0, ih1⟩ := lockgateref04_Scan.mono_l k
  unfold lockgateref04_Scan.f
  repeat' first
      | (with_reducible exact ih0 _ _ _)
      | (with_reducible exact ih1 _ _ _ _ _)
      | (with_reducible exact lockgateref03_Same.mono _ _ _)
      | (with_reducible exact lockgateref04_Frame.mono _ _)
      | (with_reducible exact LeO.refl _)
      | (with_reducible exact LeO.none _)
      | (with_reducible refine LeO.ite ?_ ?_)
      | (with_reducible refine LeO.bind ?_ (fun _ => ?_))
      | exact ih0 _ _ _
      | exact ih1 _ _ _ _ _
      | exact lockgateref03_Same.mono _ _ _
      | exact lockgateref04_Frame.mono _ _
      | exact LeO.none _
      | refine LeO.ite ?_ ?_
      | refine LeO.bind ?_ (fun _ => ?_)
def lockgateref04_Scan.T4 : Bool × List (List Nat × List Nat) := (true, [([], []), ([], []), ([0, 1], [0, 1]), ([2], [2]), ([3], [3]), ([], []), ([], []), ([6], [6]), ([5, 7], [5, 7]), ([8], [8]), ([9], [9]), ([10], [10]), ([4, 11], [4, 11]), ([], []), ([], []), ([14], [14]), ([13, 15], [13, 15]), ([16], [16]), ([17], [17]), ([18], [18]), ([12, 19], [12, 19]), ([], []), ([], []), ([22], [22]), ([21, 23], [21, 23]), ([24], [24]), ([25], [25]), ([26], [26]), ([20, 27], [20, 27]), ([28, 0, 1, 2, 3, 4, 5, 6, 7, 8, 9, 10, 11, 12, 13, 14, 15, 16, 17, 18, 19, 20, 21, 22, 23, 24, 25, 26, 27, 28], [28])])
def lockgateref04_Scan.B4 : List Nat := [0, 0, 3, 7, 15, 0, 0, 64, 224, 480, 992, 2016, 4095, 0, 0, 16384, 57344, 122880, 253952, 516096, 1048575, 0, 0, 4194304, 14680064, 31457280, 65011712, 132120576, 268435455, 536870911]
theorem lockgateref04_Scan.tab4 : rtab .any (opsOf Try.f14 4) = lockgateref04_Scan.T4 := by kernel_rfl
theorem lockgateref04_Scan.bits4 : waitsOk lockgateref04_Scan.T4.2 lockgateref04_Scan.B4 = true := by kernel_rfl
def lockgateref04_Scan.T8 : Bool × List (List Nat × List Nat) := (true, [([], []), ([0], [0]), ([], []), ([], []), ([], []), ([4], [4]), ([], []), ([5, 6], [5, 6]), ([2, 3, 7], [2, 3, 7]), ([1, 8, 1], [1, 8]), ([9], [9])])
def lockgateref04_Scan.B8 : List Nat := [0, 1, 0, 0, 0, 16, 0, 112, 252, 511, 1023]
theorem lockgateref04_Scan.tab8 : rtab .any (opsOf Try.f14 8) = lockgateref04_Scan.T8 := by kernel_rfl
theorem lockgateref04_Scan.bits8 : waitsOk lockgateref04_Scan.T8.2 lockgateref04_Scan.B8 = true := by kernel_rfl
set_option maxHeartbeats 8000000 in
set_option maxRecDepth 100000 in
theorem lockgateref04_Scan.calls (k : Nat) (A0 : Option Addr) (c0 : Nat) (l0 : List Int) (r1 : List (List Int)) (r2 : Int) (w : World) (hr0 : Kd.C (Kd.int .u8) w A0 l0.length l0) (hc0 : l0.length ≤ c0) (h : lockgateref04_Scan.f k l0 = some (r1, r2)) :
    Calls Try.prog 14 #[.slice A0 l0.length c0] w fun e w' => ∃ v0_ : Value, e = .returned (.tuple #[v0_, .int .i64 r2]) ∧ Kd.S (Kd.slice 5 (Kd.int .u8)) 22 w' w.heap.size (fun _ => True) v0_ r1 ∧ Below w.heap.size w w' := by
  have HR0 := Aside0.mk hr0
  have HC0 := Aside0.mk hc0
  clear hr0 hc0
  have HB := Aside0.mk (Below.refl w.heap.size w)
  have H : (lockgateref04_Scan.l0 k l0 ([] : List (List Int)) 0) = some (r1, r2) := h
  clear h
  have H' := Aside0.mk H
  clear H
  go_enter Try.func14, Try.ntmps14
  go_wp2
  go_loopg [4, 5] k (fun kq v4 v5 w' => ∃ (x4_1 : List (List Int)) (x5_1 : Int), v5 = .int .i64 x5_1 ∧ Aside0 (lockgateref04_Scan.l0 kq l0 x4_1 x5_1 = some (r1, r2)) ∧ Aside0 (kq ≤ k) ∧ Aside0 (Kd.S (Kd.slice 5 (Kd.int .u8)) 22 w' w.heap.size (fun _ => True) v4 x4_1) ∧ Aside0 (Below w.heap.size w w'))
  case atStart => exact ⟨(([] : List (List Int))), (0), (by first | rfl | (simp; done) | (simp [*]; done)), H', ⟨Nat.le_refl _⟩, ⟨by first | exact Kd.S_nil _ _ _ _ _ | exact Kd.N_nil _ _ _ _ _ | exact Kd.V_nil _ _ _ _ _ | exact Kd.Q_nil _ _ _ _ _ | exact Kd.R_nil _ _ _ _ _⟩, ⟨by repeat (first | (with_reducible first | exact HB.out | apply below_alloc | apply pw_below_drewN | apply below_drew1) | exact HB.out)⟩⟩
  case round =>
    clear H'
    try clear c1
    obtain ⟨x4_1, x5_1, rfl, HA, HK1, HO_4, HB⟩ := hrel
    cases gk with
    | zero => exact absurd HA.out (by simp [lockgateref04_Scan.l0])
    | succ k1 =>
      have H := HA.out
      clear HA
      simp only [lockgateref04_Scan.l0] at H
      by_cases c2 : (wrap64 ((l0.length : Int) - x5_1)) ≥ 12
      · rw [if_pos c2] at H
        have c2b0 : decide (12 ≤ (wrap64 ((l0.length : Int) - x5_1))) = true := decide_eq_true c2
        clear c2
        by_cases c3 : 0 ≤ x5_1
        · rw [if_pos c3] at H
          have c3b0 : decide (0 ≤ x5_1) = true := decide_eq_true c3
          clear c3
          by_cases c4 : x5_1 < (l0.length : Int)
          · rw [if_pos c4] at H
            have c4b0 : decide (x5_1 < (l0.length : Int)) = true := decide_eq_true c4
            clear c4
            obtain ⟨ji5, hji5⟩ : ∃ j_ : Int, (wrap64 (x5_1 + 1)) = j_ := ⟨_, rfl⟩
            replace H : (if 0 ≤ (ji5) then (if (ji5) < (l0.length : Int) then (if 0 ≤ (wrap64 (x5_1 + 2)) then (if (wrap64 (x5_1 + 2)) < (l0.length : Int) then (if 0 ≤ (wrap64 (x5_1 + 3)) then (if (wrap64 (x5_1 + 3)) < (l0.length : Int) then (if (wrap64 ((wrap64 ((wrap64 ((wrap64 (rd l0 x5_1)) + (wrap64 (256 * (wrap64 (rd l0 (ji5))))))) + (wrap64 (65536 * (wrap64 (rd l0 (wrap64 (x5_1 + 2)))))))) + (wrap64 (16777216 * (wrap64 (rd l0 (wrap64 (x5_1 + 3)))))))) > 16777216 then (lockgateref04_Scan.j1 k1 l0 x4_1 x5_1 (wrap64 ((wrap64 ((wrap64 ((wrap64 (rd l0 x5_1)) + (wrap64 (256 * (wrap64 (rd l0 (ji5))))))) + (wrap64 (65536 * (wrap64 (rd l0 (wrap64 (x5_1 + 2)))))))) + (wrap64 (16777216 * (wrap64 (rd l0 (wrap64 (x5_1 + 3)))))))) true) else (lockgateref04_Scan.j1 k1 l0 x4_1 x5_1 (wrap64 ((wrap64 ((wrap64 ((wrap64 (rd l0 x5_1)) + (wrap64 (256 * (wrap64 (rd l0 (ji5))))))) + (wrap64 (65536 * (wrap64 (rd l0 (wrap64 (x5_1 + 2)))))))) + (wrap64 (16777216 * (wrap64 (rd l0 (wrap64 (x5_1 + 3)))))))) (decide ((wrap64 ((wrap64 (x5_1 + 12)) + (wrap64 ((wrap64 ((wrap64 ((wrap64 (rd l0 x5_1)) + (wrap64 (256 * (wrap64 (rd l0 (ji5))))))) + (wrap64 (65536 * (wrap64 (rd l0 (wrap64 (x5_1 + 2)))))))) + (wrap64 (16777216 * (wrap64 (rd l0 (wrap64 (x5_1 + 3)))))))))) > (l0.length : Int))))) else (none)) else (none)) else (none)) else (none)) else (none)) else (none)) = some (r1, r2) := by first | (rw [hji5] at H; exact H) | (simp only [hji5] at H ⊢; exact H)
            have hji5w : (IntKind.i64.wrap (x5_1 + 1)) = ji5 := (i64_w _).trans hji5
            by_cases c6 : 0 ≤ (ji5)
            · rw [if_pos c6] at H
              have c6b0 : decide (0 ≤ (ji5)) = true := decide_eq_true c6
              clear c6
              by_cases c7 : (ji5) < (l0.length : Int)
              · rw [if_pos c7] at H
                have c7b0 : decide ((ji5) < (l0.length : Int)) = true := decide_eq_true c7
                clear c7
                obtain ⟨ji8, hji8⟩ : ∃ j_ : Int, (wrap64 (x5_1 + 2)) = j_ := ⟨_, rfl⟩
                replace H : (if 0 ≤ (ji8) then (if (ji8) < (l0.length : Int) then (if 0 ≤ (wrap64 (x5_1 + 3)) then (if (wrap64 (x5_1 + 3)) < (l0.length : Int) then (if (wrap64 ((wrap64 ((wrap64 ((wrap64 (rd l0 x5_1)) + (wrap64 (256 * (wrap64 (rd l0 (ji5))))))) + (wrap64 (65536 * (wrap64 (rd l0 (ji8))))))) + (wrap64 (16777216 * (wrap64 (rd l0 (wrap64 (x5_1 + 3)))))))) > 16777216 then (lockgateref04_Scan.j1 k1 l0 x4_1 x5_1 (wrap64 ((wrap64 ((wrap64 ((wrap64 (rd l0 x5_1)) + (wrap64 (256 * (wrap64 (rd l0 (ji5))))))) + (wrap64 (65536 * (wrap64 (rd l0 (ji8))))))) + (wrap64 (16777216 * (wrap64 (rd l0 (wrap64 (x5_1 + 3)))))))) true) else (lockgateref04_Scan.j1 k1 l0 x4_1 x5_1 (wrap64 ((wrap64 ((wrap64 ((wrap64 (rd l0 x5_1)) + (wrap64 (256 * (wrap64 (rd l0 (ji5))))))) + (wrap64 (65536 * (wrap64 (rd l0 (ji8))))))) + (wrap64 (16777216 * (wrap64 (rd l0 (wrap64 (x5_1 + 3)))))))) (decide ((wrap64 ((wrap64 (x5_1 + 12)) + (wrap64 ((wrap64 ((wrap64 ((wrap64 (rd l0 x5_1)) + (wrap64 (256 * (wrap64 (rd l0 (ji5))))))) + (wrap64 (65536 * (wrap64 (rd l0 (ji8))))))) + (wrap64 (16777216 * (wrap64 (rd l0 (wrap64 (x5_1 + 3)))))))))) > (l0.length : Int))))) else (none)) else (none)) else (none)) else (none)) = some (r1, r2) := by first | (rw [hji8] at H; exact H) | (simp only [hji8] at H ⊢; exact H)
                have hji8w : (IntKind.i64.wrap (x5_1 + 2)) = ji8 := (i64_w _).trans hji8
                by_cases c9 : 0 ≤ (ji8)
                · rw [if_pos c9] at H
                  have c9b0 : decide (0 ≤ (ji8)) = true := decide_eq_true c9
                  clear c9
                  by_cases c10 : (ji8) < (l0.length : Int)
                  · rw [if_pos c10] at H
                    have c10b0 : decide ((ji8) < (l0.length : Int)) = true := decide_eq_true c10
                    clear c10
                    obtain ⟨ji11, hji11⟩ : ∃ j_ : Int, (wrap64 (x5_1 + 3)) = j_ := ⟨_, rfl⟩
                    replace H : (if 0 ≤ (ji11) then (if (ji11) < (l0.length : Int) then (if (wrap64 ((wrap64 ((wrap64 ((wrap64 (rd l0 x5_1)) + (wrap64 (256 * (wrap64 (rd l0 (ji5))))))) + (wrap64 (65536 * (wrap64 (rd l0 (ji8))))))) + (wrap64 (16777216 * (wrap64 (rd l0 (ji11))))))) > 16777216 then (lockgateref04_Scan.j1 k1 l0 x4_1 x5_1 (wrap64 ((wrap64 ((wrap64 ((wrap64 (rd l0 x5_1)) + (wrap64 (256 * (wrap64 (rd l0 (ji5))))))) + (wrap64 (65536 * (wrap64 (rd l0 (ji8))))))) + (wrap64 (16777216 * (wrap64 (rd l0 (ji11))))))) true) else (lockgateref04_Scan.j1 k1 l0 x4_1 x5_1 (wrap64 ((wrap64 ((wrap64 ((wrap64 (rd l0 x5_1)) + (wrap64 (256 * (wrap64 (rd l0 (ji5))))))) + (wrap64 (65536 * (wrap64 (rd l0 (ji8))))))) + (wrap64 (16777216 * (wrap64 (rd l0 (ji11))))))) (decide ((wrap64 ((wrap64 (x5_1 + 12)) + (wrap64 ((wrap64 ((wrap64 ((wrap64 (rd l0 x5_1)) + (wrap64 (256 * (wrap64 (rd l0 (ji5))))))) + (wrap64 (65536 * (wrap64 (rd l0 (ji8))))))) + (wrap64 (16777216 * (wrap64 (rd l0 (ji11))))))))) > (l0.length : Int))))) else (none)) else (none)) = some (r1, r2) := by first | (rw [hji11] at H; exact H) | (simp only [hji11] at H ⊢; exact H)
                    have hji11w : (IntKind.i64.wrap (x5_1 + 3)) = ji11 := (i64_w _).trans hji11
                    by_cases c12 : 0 ≤ (ji11)
                    · rw [if_pos c12] at H
                      have c12b0 : decide (0 ≤ (ji11)) = true := decide_eq_true c12
                      clear c12
                      by_cases c13 : (ji11) < (l0.length : Int)
                      · rw [if_pos c13] at H
                        have c13b0 : decide ((ji11) < (l0.length : Int)) = true := decide_eq_true c13
                        clear c13
                        have HC14 := Aside0.mk H
                        clear H
                        try go_wp2
                        have n0_ := Aside0.mk (Kd.S_drew HO_4.out)
                        have n1_ := Aside0.mk (below_drew1 HB.out)
                        clear HO_4
                        clear HB
                        have HO_4 := n0_
                        have HB := n1_
                        clear n0_ n1_
                        have p167 : 0 ≤ (x5_1 : Int) := of_decide_eq_true (by first | (with_reducible assumption) | assumption)
                        have q167 : x5_1 < (l0.length : Int) := of_decide_eq_true (by first | (with_reducible assumption) | assumption)
                        obtain ⟨ad167, e167, hx167_0⟩ := Kd.at_int HR0.out x5_1 p167 q167
                        have hw167_0 := hx167_0
                        cases e167
                        replace hx167_0 := (HB.out.cell (World.block_lt_of_cell? w _ hx167_0)).trans hx167_0
                        replace p167 := eq_true p167
                        replace q167 := eq_true q167
                        have p168 : 0 ≤ ((ji5) : Int) := of_decide_eq_true (by first | (with_reducible assumption) | assumption)
                        have q168 : (ji5) < (l0.length : Int) := of_decide_eq_true (by first | (with_reducible assumption) | assumption)
                        obtain ⟨ad168, e168, hx168_0⟩ := Kd.at_int HR0.out (ji5) p168 q168
                        have hw168_0 := hx168_0
                        obtain rfl : ad167 = ad168 := (by injection e168)
                        replace hx168_0 := (HB.out.cell (World.block_lt_of_cell? w _ hx168_0)).trans hx168_0
                        replace p168 := eq_true p168
                        replace q168 := eq_true q168
                        have p169 : 0 ≤ ((ji8) : Int) := of_decide_eq_true (by first | (with_reducible assumption) | assumption)
                        have q169 : (ji8) < (l0.length : Int) := of_decide_eq_true (by first | (with_reducible assumption) | assumption)
                        obtain ⟨ad169, e169, hx169_0⟩ := Kd.at_int HR0.out (ji8) p169 q169
                        have hw169_0 := hx169_0
                        obtain rfl : ad167 = ad169 := (by injection e169)
                        replace hx169_0 := (HB.out.cell (World.block_lt_of_cell? w _ hx169_0)).trans hx169_0
                        replace p169 := eq_true p169
                        replace q169 := eq_true q169
                        have p170 : 0 ≤ ((ji11) : Int) := of_decide_eq_true (by first | (with_reducible assumption) | assumption)
                        have q170 : (ji11) < (l0.length : Int) := of_decide_eq_true (by first | (with_reducible assumption) | assumption)
                        obtain ⟨ad170, e170, hx170_0⟩ := Kd.at_int HR0.out (ji11) p170 q170
                        have hw170_0 := hx170_0
                        obtain rfl : ad167 = ad170 := (by injection e170)
                        replace hx170_0 := (HB.out.cell (World.block_lt_of_cell? w _ hx170_0)).trans hx170_0
                        replace p170 := eq_true p170
                        replace q170 := eq_true q170
                        refine start_ (n := 30) (S := fun w' => w'.cell? (ad167.add (x5_1).toNat) = some (.int .u8 (rd l0 x5_1)) ∧ w'.cell? (ad167.add ((ji5)).toNat) = some (.int .u8 (rd l0 (ji5))) ∧ w'.cell? (ad167.add ((ji8)).toNat) = some (.int .u8 (rd l0 (ji8))) ∧ w'.cell? (ad167.add ((ji11)).toNat) = some (.int .u8 (rd l0 (ji11)))) (ds := []) #[false, false, false, false, false, false, false, false, false, false, false, false, false, false, false, false, false, false, false, false, false, false, false, false, false, false, false, false, false, false] (by kernel_rfl) rfl rfl ⟨((HB.out.cell (World.block_lt_of_cell? w _ hw167_0)).trans hw167_0), ((HB.out.cell (World.block_lt_of_cell? w _ hw168_0)).trans hw168_0), ((HB.out.cell (World.block_lt_of_cell? w _ hw169_0)).trans hw169_0), ((HB.out.cell (World.block_lt_of_cell? w _ hw170_0)).trans hw170_0)⟩ (fun hHeld => ?_); refine with_tabW lockgateref04_Scan.tab4 lockgateref04_Scan.bits4 (fun HT_ HW_ => ?_)
                        generalize wr.drew = w15 at HO_4 HB hx167_0 hx168_0 hx169_0 hx170_0 hHeld ⊢
                        refine pure_ (i := 0) (N := some 13) (v := ?_) (a' := ?_) #[true, false, false, false, false, false, false, false, false, false, false, false, false, false, false, false, false, false, false, false, false, false, false, false, false, false, false, false, false, false] rfl rfl (any_of HT_.out (by kernel_rfl)) (fun _ _ _ h => h) (Or.inl ⟨by rfl, ?_⟩) ?_ ?_
                        rotate_left
                        · intro w'
                          go_simp
                          with_reducible rfl
                        rotate_left
                        · simp only [Act.put, List.setIfInBounds_toArray, List.set_cons_zero, List.set_cons_succ, i64_w, i32_w]
                          rfl
                        refine pure_ (i := 1) (N := some 14) (v := ?_) (a' := ?_) #[true, true, false, false, false, false, false, false, false, false, false, false, false, false, false, false, false, false, false, false, false, false, false, false, false, false, false, false, false, false] rfl rfl (any_of HT_.out (by kernel_rfl)) (fun _ _ _ h => h) (Or.inl ⟨by rfl, ?_⟩) ?_ ?_
                        rotate_left
                        · intro w'
                          go_simp
                          with_reducible rfl
                        rotate_left
                        · simp only [Act.put, List.setIfInBounds_toArray, List.set_cons_zero, List.set_cons_succ, i64_w, i32_w]
                          rfl
                        refine pure_ (i := 2) (N := some 15) (v := ?_) (a' := ?_) #[true, true, true, false, false, false, false, false, false, false, false, false, false, false, false, false, false, false, false, false, false, false, false, false, false, false, false, false, false, false] rfl rfl (any_of HT_.out (by kernel_rfl)) (fun _ _ _ h => h) (Or.inl ⟨by rfl, ?_⟩) ?_ ?_
                        rotate_left
                        · intro w'
                          go_simp
                          with_reducible rfl
                        rotate_left
                        · simp only [Act.put, List.setIfInBounds_toArray, List.set_cons_zero, List.set_cons_succ, i64_w, i32_w]
                          rfl
                        refine pure_ (i := 5) (N := some 18) (v := ?_) (a' := ?_) #[true, true, true, false, false, true, false, false, false, false, false, false, false, false, false, false, false, false, false, false, false, false, false, false, false, false, false, false, false, false] rfl rfl (any_of HT_.out (by kernel_rfl)) (fun _ _ _ h => h) (Or.inl ⟨by rfl, ?_⟩) ?_ ?_
                        rotate_left
                        · intro w'
                          go_simp
                          with_reducible rfl
                        rotate_left
                        · simp only [Act.put, List.setIfInBounds_toArray, List.set_cons_zero, List.set_cons_succ, i64_w, i32_w]
                          rfl
                        refine pure_ (i := 6) (N := some 19) (v := ?_) (a' := ?_) #[true, true, true, false, false, true, true, false, false, false, false, false, false, false, false, false, false, false, false, false, false, false, false, false, false, false, false, false, false, false] rfl rfl (any_of HT_.out (by kernel_rfl)) (fun _ _ _ h => h) (Or.inl ⟨by rfl, ?_⟩) ?_ ?_
                        rotate_left
                        · intro w'
                          go_simp
                          with_reducible rfl
                        rotate_left
                        · simp only [Act.put, List.setIfInBounds_toArray, List.set_cons_zero, List.set_cons_succ, i64_w, i32_w]
                          rfl
                        refine pure_ (i := 7) (N := some 20) (v := ?_) (a' := ?_) #[true, true, true, false, false, true, true, true, false, false, false, false, false, false, false, false, false, false, false, false, false, false, false, false, false, false, false, false, false, false] rfl rfl (any_of HT_.out (by kernel_rfl)) (fun _ _ _ h => h) (Or.inl ⟨by rfl, ?_⟩) ?_ ?_
                        rotate_left
                        · intro w'
                          go_simp
                          with_reducible rfl
                        rotate_left
                        · simp only [Act.put, List.setIfInBounds_toArray, List.set_cons_zero, List.set_cons_succ, i64_w, i32_w]
                          rfl
                        refine pure_ (i := 8) (N := some 21) (v := ?_) (a' := ?_) #[true, true, true, false, false, true, true, true, true, false, false, false, false, false, false, false, false, false, false, false, false, false, false, false, false, false, false, false, false, false] rfl rfl (any_of HT_.out (by kernel_rfl)) (fun _ _ _ h => h) (Or.inl ⟨by rfl, ?_⟩) ?_ ?_
                        rotate_left
                        · intro w'
                          go_simp
                          with_reducible rfl
                        rotate_left
                        · simp only [Act.put, List.setIfInBounds_toArray, List.set_cons_zero, List.set_cons_succ, i64_w, i32_w]
                          rfl
                        refine pure_ (i := 13) (N := some 26) (v := ?_) (a' := ?_) #[true, true, true, false, false, true, true, true, true, false, false, false, false, true, false, false, false, false, false, false, false, false, false, false, false, false, false, false, false, false] rfl rfl (any_of HT_.out (by kernel_rfl)) (fun _ _ _ h => h) (Or.inl ⟨by rfl, ?_⟩) ?_ ?_
                        rotate_left
                        · intro w'
                          go_simp
                          with_reducible rfl
                        rotate_left
                        · simp only [Act.put, List.setIfInBounds_toArray, List.set_cons_zero, List.set_cons_succ, i64_w, i32_w]
                          rfl
                        refine pure_ (i := 14) (N := some 27) (v := ?_) (a' := ?_) #[true, true, true, false, false, true, true, true, true, false, false, false, false, true, true, false, false, false, false, false, false, false, false, false, false, false, false, false, false, false] rfl rfl (any_of HT_.out (by kernel_rfl)) (fun _ _ _ h => h) (Or.inl ⟨by rfl, ?_⟩) ?_ ?_
                        rotate_left
                        · intro w'
                          go_simp
                          with_reducible rfl
                        rotate_left
                        · simp only [Act.put, List.setIfInBounds_toArray, List.set_cons_zero, List.set_cons_succ, i64_w, i32_w]
                          rfl
                        refine pure_ (i := 15) (N := some 28) (v := ?_) (a' := ?_) #[true, true, true, false, false, true, true, true, true, false, false, false, false, true, true, true, false, false, false, false, false, false, false, false, false, false, false, false, false, false] rfl rfl (any_of HT_.out (by kernel_rfl)) (fun _ _ _ h => h) (Or.inl ⟨by rfl, ?_⟩) ?_ ?_
                        rotate_left
                        · intro w'
                          go_simp
                          with_reducible rfl
                        rotate_left
                        · simp only [Act.put, List.setIfInBounds_toArray, List.set_cons_zero, List.set_cons_succ, i64_w, i32_w]
                          rfl
                        refine pure_ (i := 16) (N := some 29) (v := ?_) (a' := ?_) #[true, true, true, false, false, true, true, true, true, false, false, false, false, true, true, true, true, false, false, false, false, false, false, false, false, false, false, false, false, false] rfl rfl (any_of HT_.out (by kernel_rfl)) (fun _ _ _ h => h) (Or.inl ⟨by rfl, ?_⟩) ?_ ?_
                        rotate_left
                        · intro w'
                          go_simp
                          with_reducible rfl
                        rotate_left
                        · simp only [Act.put, List.setIfInBounds_toArray, List.set_cons_zero, List.set_cons_succ, i64_w, i32_w]
                          rfl
                        refine pure_ (i := 21) (N := some 34) (v := ?_) (a' := ?_) #[true, true, true, false, false, true, true, true, true, false, false, false, false, true, true, true, true, false, false, false, false, true, false, false, false, false, false, false, false, false] rfl rfl (any_of HT_.out (by kernel_rfl)) (fun _ _ _ h => h) (Or.inl ⟨by rfl, ?_⟩) ?_ ?_
                        rotate_left
                        · intro w'
                          go_simp
                          with_reducible rfl
                        rotate_left
                        · simp only [Act.put, List.setIfInBounds_toArray, List.set_cons_zero, List.set_cons_succ, i64_w, i32_w]
                          rfl
                        refine pure_ (i := 22) (N := some 35) (v := ?_) (a' := ?_) #[true, true, true, false, false, true, true, true, true, false, false, false, false, true, true, true, true, false, false, false, false, true, true, false, false, false, false, false, false, false] rfl rfl (any_of HT_.out (by kernel_rfl)) (fun _ _ _ h => h) (Or.inl ⟨by rfl, ?_⟩) ?_ ?_
                        rotate_left
                        · intro w'
                          go_simp
                          with_reducible rfl
                        rotate_left
                        · simp only [Act.put, List.setIfInBounds_toArray, List.set_cons_zero, List.set_cons_succ, i64_w, i32_w]
                          rfl
                        refine pure_ (i := 23) (N := some 36) (v := ?_) (a' := ?_) #[true, true, true, false, false, true, true, true, true, false, false, false, false, true, true, true, true, false, false, false, false, true, true, true, false, false, false, false, false, false] rfl rfl (any_of HT_.out (by kernel_rfl)) (fun _ _ _ h => h) (Or.inl ⟨by rfl, ?_⟩) ?_ ?_
                        rotate_left
                        · intro w'
                          go_simp
                          with_reducible rfl
                        rotate_left
                        · simp only [Act.put, List.setIfInBounds_toArray, List.set_cons_zero, List.set_cons_succ, i64_w, i32_w]
                          rfl
                        refine pure_ (i := 24) (N := some 37) (v := ?_) (a' := ?_) #[true, true, true, false, false, true, true, true, true, false, false, false, false, true, true, true, true, false, false, false, false, true, true, true, true, false, false, false, false, false] rfl rfl (any_of HT_.out (by kernel_rfl)) (fun _ _ _ h => h) (Or.inl ⟨by rfl, ?_⟩) ?_ ?_
                        rotate_left
                        · intro w'
                          go_simp
                          with_reducible rfl
                        rotate_left
                        · simp only [Act.put, List.setIfInBounds_toArray, List.set_cons_zero, List.set_cons_succ, i64_w, i32_w]
                          rfl
                        refine take_ (i := 3) (N := some 16) (v := ?_) (a' := ?_) #[true, true, true, true, false, true, true, true, true, false, false, false, false, true, true, true, true, false, false, false, false, true, true, true, true, false, false, false, false, false] rfl rfl (take_ofW HT_.out HW_.out (by kernel_rfl)) (fun _ _ _ h => h) (Or.inl ⟨by rfl, ?_⟩) hHeld ?_ ?_
                        rotate_left
                        · rintro w' ⟨s0, s1, s2, s3⟩
                          go_simp
                          with_reducible rfl
                        rotate_left
                        · simp only [Act.put, List.setIfInBounds_toArray, List.set_cons_zero, List.set_cons_succ, i64_w, i32_w]
                          rfl
                        refine pure_ (i := 4) (N := some 17) (v := ?_) (a' := ?_) #[true, true, true, true, true, true, true, true, true, false, false, false, false, true, true, true, true, false, false, false, false, true, true, true, true, false, false, false, false, false] rfl rfl (any_of HT_.out (by kernel_rfl)) (fun _ _ _ h => h) (Or.inl ⟨by rfl, ?_⟩) ?_ ?_
                        rotate_left
                        · intro w'
                          go_simp
                          with_reducible rfl
                        rotate_left
                        · simp only [Act.put, List.setIfInBounds_toArray, List.set_cons_zero, List.set_cons_succ, i64_w, i32_w]
                          rfl
                        refine take_ (i := 9) (N := some 22) (v := ?_) (a' := ?_) #[true, true, true, true, true, true, true, true, true, true, false, false, false, true, true, true, true, false, false, false, false, true, true, true, true, false, false, false, false, false] rfl rfl (take_ofW HT_.out HW_.out (by kernel_rfl)) (fun _ _ _ h => h) (Or.inl ⟨by rfl, ?_⟩) hHeld ?_ ?_
                        rotate_left
                        · rintro w' ⟨s0, s1, s2, s3⟩
                          go_simp
                          with_reducible rfl
                        rotate_left
                        · simp only [Act.put, List.setIfInBounds_toArray, List.set_cons_zero, List.set_cons_succ, i64_w, i32_w]
                          rfl
                        refine pure_ (i := 10) (N := some 23) (v := ?_) (a' := ?_) #[true, true, true, true, true, true, true, true, true, true, true, false, false, true, true, true, true, false, false, false, false, true, true, true, true, false, false, false, false, false] rfl rfl (any_of HT_.out (by kernel_rfl)) (fun _ _ _ h => h) (Or.inl ⟨by rfl, ?_⟩) ?_ ?_
                        rotate_left
                        · intro w'
                          go_simp
                          with_reducible rfl
                        rotate_left
                        · simp only [Act.put, List.setIfInBounds_toArray, List.set_cons_zero, List.set_cons_succ, i64_w, i32_w]
                          rfl
                        refine pure_ (i := 11) (N := some 24) (v := ?_) (a' := ?_) #[true, true, true, true, true, true, true, true, true, true, true, true, false, true, true, true, true, false, false, false, false, true, true, true, true, false, false, false, false, false] rfl rfl (any_of HT_.out (by kernel_rfl)) (fun _ _ _ h => h) (Or.inl ⟨by rfl, ?_⟩) ?_ ?_
                        rotate_left
                        · intro w'
                          go_simp
                          with_reducible rfl
                        rotate_left
                        · simp only [Act.put, List.setIfInBounds_toArray, List.set_cons_zero, List.set_cons_succ, i64_w, i32_w]
                          rfl
                        refine pure_ (i := 12) (N := some 25) (v := ?_) (a' := ?_) #[true, true, true, true, true, true, true, true, true, true, true, true, true, true, true, true, true, false, false, false, false, true, true, true, true, false, false, false, false, false] rfl rfl (any_of HT_.out (by kernel_rfl)) (fun _ _ _ h => h) (Or.inl ⟨by rfl, ?_⟩) ?_ ?_
                        rotate_left
                        · intro w'
                          go_simp
                          with_reducible rfl
                        rotate_left
                        · simp only [Act.put, List.setIfInBounds_toArray, List.set_cons_zero, List.set_cons_succ, i64_w, i32_w]
                          rfl
                        refine take_ (i := 17) (N := some 30) (v := ?_) (a' := ?_) #[true, true, true, true, true, true, true, true, true, true, true, true, true, true, true, true, true, true, false, false, false, true, true, true, true, false, false, false, false, false] rfl rfl (take_ofW HT_.out HW_.out (by kernel_rfl)) (fun _ _ _ h => h) (Or.inl ⟨by rfl, ?_⟩) hHeld ?_ ?_
                        rotate_left
                        · rintro w' ⟨s0, s1, s2, s3⟩
                          go_simp
                          with_reducible rfl
                        rotate_left
                        · simp only [Act.put, List.setIfInBounds_toArray, List.set_cons_zero, List.set_cons_succ, i64_w, i32_w]
                          rfl
                        refine pure_ (i := 18) (N := some 31) (v := ?_) (a' := ?_) #[true, true, true, true, true, true, true, true, true, true, true, true, true, true, true, true, true, true, true, false, false, true, true, true, true, false, false, false, false, false] rfl rfl (any_of HT_.out (by kernel_rfl)) (fun _ _ _ h => h) (Or.inl ⟨by rfl, ?_⟩) ?_ ?_
                        rotate_left
                        · intro w'
                          go_simp
                          with_reducible rfl
                        rotate_left
                        · simp only [Act.put, List.setIfInBounds_toArray, List.set_cons_zero, List.set_cons_succ, i64_w, i32_w]
                          rfl
                        refine pure_ (i := 19) (N := some 32) (v := ?_) (a' := ?_) #[true, true, true, true, true, true, true, true, true, true, true, true, true, true, true, true, true, true, true, true, false, true, true, true, true, false, false, false, false, false] rfl rfl (any_of HT_.out (by kernel_rfl)) (fun _ _ _ h => h) (Or.inl ⟨by rfl, ?_⟩) ?_ ?_
                        rotate_left
                        · intro w'
                          go_simp
                          with_reducible rfl
                        rotate_left
                        · simp only [Act.put, List.setIfInBounds_toArray, List.set_cons_zero, List.set_cons_succ, i64_w, i32_w]
                          rfl
                        refine pure_ (i := 20) (N := some 33) (v := ?_) (a' := ?_) #[true, true, true, true, true, true, true, true, true, true, true, true, true, true, true, true, true, true, true, true, true, true, true, true, true, false, false, false, false, false] rfl rfl (any_of HT_.out (by kernel_rfl)) (fun _ _ _ h => h) (Or.inl ⟨by rfl, ?_⟩) ?_ ?_
                        rotate_left
                        · intro w'
                          go_simp
                          with_reducible rfl
                        rotate_left
                        · simp only [Act.put, List.setIfInBounds_toArray, List.set_cons_zero, List.set_cons_succ, i64_w, i32_w]
                          rfl
                        refine take_ (i := 25) (N := some 38) (v := ?_) (a' := ?_) #[true, true, true, true, true, true, true, true, true, true, true, true, true, true, true, true, true, true, true, true, true, true, true, true, true, true, false, false, false, false] rfl rfl (take_ofW HT_.out HW_.out (by kernel_rfl)) (fun _ _ _ h => h) (Or.inl ⟨by rfl, ?_⟩) hHeld ?_ ?_
                        rotate_left
                        · rintro w' ⟨s0, s1, s2, s3⟩
                          go_simp
                          with_reducible rfl
                        rotate_left
                        · simp only [Act.put, List.setIfInBounds_toArray, List.set_cons_zero, List.set_cons_succ, i64_w, i32_w]
                          rfl
                        refine pure_ (i := 26) (N := some 39) (v := ?_) (a' := ?_) #[true, true, true, true, true, true, true, true, true, true, true, true, true, true, true, true, true, true, true, true, true, true, true, true, true, true, true, false, false, false] rfl rfl (any_of HT_.out (by kernel_rfl)) (fun _ _ _ h => h) (Or.inl ⟨by rfl, ?_⟩) ?_ ?_
                        rotate_left
                        · intro w'
                          go_simp
                          with_reducible rfl
                        rotate_left
                        · simp only [Act.put, List.setIfInBounds_toArray, List.set_cons_zero, List.set_cons_succ, i64_w, i32_w]
                          rfl
                        refine pure_ (i := 27) (N := some 40) (v := ?_) (a' := ?_) #[true, true, true, true, true, true, true, true, true, true, true, true, true, true, true, true, true, true, true, true, true, true, true, true, true, true, true, true, false, false] rfl rfl (any_of HT_.out (by kernel_rfl)) (fun _ _ _ h => h) (Or.inl ⟨by rfl, ?_⟩) ?_ ?_
                        rotate_left
                        · intro w'
                          go_simp
                          with_reducible rfl
                        rotate_left
                        · simp only [Act.put, List.setIfInBounds_toArray, List.set_cons_zero, List.set_cons_succ, i64_w, i32_w]
                          rfl
                        refine pure_ (i := 28) (N := some 41) (v := ?_) (a' := ?_) #[true, true, true, true, true, true, true, true, true, true, true, true, true, true, true, true, true, true, true, true, true, true, true, true, true, true, true, true, true, false] rfl rfl (any_of HT_.out (by kernel_rfl)) (fun _ _ _ h => h) (Or.inl ⟨by rfl, ?_⟩) ?_ ?_
                        rotate_left
                        · intro w'
                          go_simp
                          with_reducible rfl
                        rotate_left
                        · simp only [Act.put, List.setIfInBounds_toArray, List.set_cons_zero, List.set_cons_succ, i64_w, i32_w]
                          rfl
                        refine pure_ (i := 29) (N := some 6) (v := ?_) (a' := ?_) #[true, true, true, true, true, true, true, true, true, true, true, true, true, true, true, true, true, true, true, true, true, true, true, true, true, true, true, true, true, true] rfl rfl (any_of HT_.out (by kernel_rfl)) (fun _ _ _ h => h) (Or.inl ⟨by rfl, ?_⟩) ?_ ?_
                        rotate_left
                        · intro w'
                          go_simp
                          with_reducible rfl
                        rotate_left
                        · simp only [Act.put, List.setIfInBounds_toArray, List.set_cons_zero, List.set_cons_succ, i64_w, i32_w]
                          rfl
                        refine done_ (done_of HT_.out (by kernel_rfl)) ?_
                        go_upto_region 5 with (fail)
                        go_cut [52] (fun v52 wc => ∃ (kq : Nat) (x52_13 : Bool), v52 = .bool x52_13 ∧ Aside0 (lockgateref04_Scan.j1 kq l0 x4_1 x5_1 (wrap64 ((wrap64 ((wrap64 ((wrap64 (rd l0 x5_1)) + (wrap64 (256 * (wrap64 (rd l0 (ji5))))))) + (wrap64 (65536 * (wrap64 (rd l0 (ji8))))))) + (wrap64 (16777216 * (wrap64 (rd l0 (ji11))))))) x52_13 = some (r1, r2)) ∧ Aside0 (kq ≤ k1) ∧ Aside0 (Kd.S (Kd.slice 5 (Kd.int .u8)) 22 wc w.heap.size (fun _ => True) u4 x4_1) ∧ Aside0 (Below w.heap.size w wc))
                        case first =>
                          have H := HC14.out
                          clear HC14
                          by_cases c16 : (wrap64 ((wrap64 ((wrap64 ((wrap64 (rd l0 x5_1)) + (wrap64 (256 * (wrap64 (rd l0 (ji5))))))) + (wrap64 (65536 * (wrap64 (rd l0 (ji8))))))) + (wrap64 (16777216 * (wrap64 (rd l0 (ji11))))))) > 16777216
                          · rw [if_pos c16] at H
                            have c16b0 : decide (16777216 < (wrap64 ((wrap64 ((wrap64 ((wrap64 (rd l0 x5_1)) + (wrap64 (256 * (wrap64 (rd l0 (ji5))))))) + (wrap64 (65536 * (wrap64 (rd l0 (ji8))))))) + (wrap64 (16777216 * (wrap64 (rd l0 (ji11)))))))) = true := decide_eq_true c16
                            clear c16
                            (first | rw [c16b0] | (simp only [i64_w, i32_w]; rw [c16b0]) | skip)
                            have H' := Aside0.mk H
                            clear H
                            go_wp2
                            go_meet
                            case rel => exact ⟨_, (true), (by first | rfl | (simp; done) | (simp [*]; done)), H', ⟨by have := HK1.out; first | omega | exact Nat.le_refl _⟩, ⟨by (with_reducible repeat (first | apply Kd.S_alloc | apply Kd.S_drewN | apply Kd.S_drew)); exact HO_4.out⟩, ⟨by repeat (first | (with_reducible first | exact HB.out | apply below_alloc | apply pw_below_drewN | apply below_drew1) | exact HB.out)⟩⟩
                          · rw [if_neg c16] at H
                            have c16b0 : decide (16777216 < (wrap64 ((wrap64 ((wrap64 ((wrap64 (rd l0 x5_1)) + (wrap64 (256 * (wrap64 (rd l0 (ji5))))))) + (wrap64 (65536 * (wrap64 (rd l0 (ji8))))))) + (wrap64 (16777216 * (wrap64 (rd l0 (ji11)))))))) = false := decide_eq_false c16
                            clear c16
                            (first | rw [c16b0] | (simp only [i64_w, i32_w]; rw [c16b0]) | skip)
                            have H' := Aside0.mk H
                            clear H
                            go_wp2
                            go_meet
                            case rel => exact ⟨_, (decide ((wrap64 ((wrap64 (x5_1 + 12)) + (wrap64 ((wrap64 ((wrap64 ((wrap64 (rd l0 x5_1)) + (wrap64 (256 * (wrap64 (rd l0 (ji5))))))) + (wrap64 (65536 * (wrap64 (rd l0 (ji8))))))) + (wrap64 (16777216 * (wrap64 (rd l0 (ji11))))))))) > (l0.length : Int))), (by first | rfl | (simp; done) | (simp only [← hji5, ← hji8, ← hji11] <;> (first | rfl | simp)) | (simp [*]; done)), H', ⟨by have := HK1.out; first | omega | exact Nat.le_refl _⟩, ⟨by (with_reducible repeat (first | apply Kd.S_alloc | apply Kd.S_drewN | apply Kd.S_drew)); exact HO_4.out⟩, ⟨by repeat (first | (with_reducible first | exact HB.out | apply below_alloc | apply pw_below_drewN | apply below_drew1) | exact HB.out)⟩⟩
                        case rest =>
                          clear HC14
                          try clear c1
                          try clear p1
                          try clear q1
                          try clear hx1
                          try clear c2
                          try clear c2b0
                          try clear p2
                          try clear c3
                          try clear c3b0
                          try clear c4
                          try clear c4b0
                          try clear c6
                          try clear c6b0
                          try clear p6
                          try clear c7
                          try clear c7b0
                          try clear c9
                          try clear c9b0
                          try clear c10
                          try clear c10b0
                          try clear c12
                          try clear c12b0
                          try clear c13
                          try clear c13b0
                          try clear c14
                          try clear c16
                          try clear c16b0
                          try clear p16
                          try clear q16
                          try clear hx16
                          try clear hx167_0
                          try clear hx168_0
                          try clear hx169_0
                          try clear hx170_0
                          try clear p167
                          try clear p168
                          try clear p169
                          try clear p170
                          try clear q167
                          try clear q168
                          try clear q169
                          try clear q170
                          obtain ⟨kq, x52_13, rfl, HA, HJ13, HO_4, HB⟩ := hcut
                          cases kq with
                          | zero => exact absurd HA.out (by simp [lockgateref04_Scan.j1])
                          | succ kj13 =>
                            have H := HA.out
                            clear HA
                            simp only [lockgateref04_Scan.j1] at H
                            by_cases c17 : x52_13 = true
                            · subst c17
                              have H1 : (some (x4_1, x5_1)) = some (r1, r2) := by rw [if_pos rfl] at H; exact H
                              clear H
                              have H := H1
                              clear H1
                              simp only [Option.some.injEq, Prod.mk.injEq] at H
                              obtain ⟨rfl, rfl⟩ := H
                              go_wp2
                              go_ret2
                              exact ⟨_, by first | rfl | (simp [errW_none, errW_some] <;> rfl) | (simp only [← hji5, ← hji8, ← hji11]; first | rfl | (simp [errW_none, errW_some] <;> rfl)) | (simp [*, errW_none, errW_some] <;> rfl), by (with_reducible repeat (first | apply Kd.S_alloc | apply Kd.S_drewN | apply Kd.S_drew)); exact HO_4.out, by repeat (first | (with_reducible first | exact HB.out | apply below_alloc | apply pw_below_drewN | apply below_drew1) | exact HB.out)⟩
                            · replace c17 := Bool.eq_false_iff.mpr c17
                              subst c17
                              have H1 : ((some (([] : List Int) : List Int)).bind fun y171 => (if 0 ≤ (wrap64 (x5_1 + 12)) then (if (wrap64 (x5_1 + 12)) ≤ (wrap64 ((wrap64 (x5_1 + 12)) + (wrap64 ((wrap64 ((wrap64 ((wrap64 (rd l0 x5_1)) + (wrap64 (256 * (wrap64 (rd l0 (ji5))))))) + (wrap64 (65536 * (wrap64 (rd l0 (ji8))))))) + (wrap64 (16777216 * (wrap64 (rd l0 (ji11))))))))) then (if (wrap64 ((wrap64 (x5_1 + 12)) + (wrap64 ((wrap64 ((wrap64 ((wrap64 (rd l0 x5_1)) + (wrap64 (256 * (wrap64 (rd l0 (ji5))))))) + (wrap64 (65536 * (wrap64 (rd l0 (ji8))))))) + (wrap64 (16777216 * (wrap64 (rd l0 (ji11))))))))) ≤ (l0.length : Int) then (if y171.length + ((l0.take ((wrap64 ((wrap64 (x5_1 + 12)) + (wrap64 ((wrap64 ((wrap64 ((wrap64 (rd l0 x5_1)) + (wrap64 (256 * (wrap64 (rd l0 (ji5))))))) + (wrap64 (65536 * (wrap64 (rd l0 (ji8))))))) + (wrap64 (16777216 * (wrap64 (rd l0 (ji11))))))))) : Int).toNat).drop ((wrap64 (x5_1 + 12)) : Int).toNat).length < 140737488355328 then ((some (y171 ++ ((l0.take ((wrap64 ((wrap64 (x5_1 + 12)) + (wrap64 ((wrap64 ((wrap64 ((wrap64 (rd l0 x5_1)) + (wrap64 (256 * (wrap64 (rd l0 (ji5))))))) + (wrap64 (65536 * (wrap64 (rd l0 (ji8))))))) + (wrap64 (16777216 * (wrap64 (rd l0 (ji11))))))))) : Int).toNat).drop ((wrap64 (x5_1 + 12)) : Int).toNat) : List Int)).bind fun y175 => ((lockgateref04_Frame.f kj13 y175).bind fun t178 => (if 0 ≤ x5_1 then (if x5_1 ≤ (wrap64 ((wrap64 (x5_1 + 12)) + (wrap64 ((wrap64 ((wrap64 ((wrap64 (rd l0 x5_1)) + (wrap64 (256 * (wrap64 (rd l0 (ji5))))))) + (wrap64 (65536 * (wrap64 (rd l0 (ji8))))))) + (wrap64 (16777216 * (wrap64 (rd l0 (ji11))))))))) then ((lockgateref03_Same.f kj13 t178 ((l0.take ((wrap64 ((wrap64 (x5_1 + 12)) + (wrap64 ((wrap64 ((wrap64 ((wrap64 (rd l0 x5_1)) + (wrap64 (256 * (wrap64 (rd l0 (ji5))))))) + (wrap64 (65536 * (wrap64 (rd l0 (ji8))))))) + (wrap64 (16777216 * (wrap64 (rd l0 (ji11))))))))) : Int).toNat).drop (x5_1 : Int).toNat)).bind fun t182 => (if t182 = true then (if x4_1.length < 5864062014805 then (lockgateref04_Scan.l0 kj13 l0 (x4_1 ++ [y175]) (wrap64 ((wrap64 (x5_1 + 12)) + (wrap64 ((wrap64 ((wrap64 ((wrap64 (rd l0 x5_1)) + (wrap64 (256 * (wrap64 (rd l0 (ji5))))))) + (wrap64 (65536 * (wrap64 (rd l0 (ji8))))))) + (wrap64 (16777216 * (wrap64 (rd l0 (ji11)))))))))) else (none)) else (some (x4_1, x5_1)))) else (none)) else (none)))) else (none)) else (none)) else (none)) else (none))) = some (r1, r2) := by rw [if_neg (show ¬ (false = true) by decide)] at H; exact H
                              clear H
                              have H := H1
                              clear H1
                              obtain ⟨y171, hy171⟩ : ∃ y_ : List Int, y_ = (([] : List Int)) := ⟨_, rfl⟩
                              replace H : (if 0 ≤ (wrap64 (x5_1 + 12)) then (if (wrap64 (x5_1 + 12)) ≤ (wrap64 ((wrap64 (x5_1 + 12)) + (wrap64 ((wrap64 ((wrap64 ((wrap64 (rd l0 x5_1)) + (wrap64 (256 * (wrap64 (rd l0 (ji5))))))) + (wrap64 (65536 * (wrap64 (rd l0 (ji8))))))) + (wrap64 (16777216 * (wrap64 (rd l0 (ji11))))))))) then (if (wrap64 ((wrap64 (x5_1 + 12)) + (wrap64 ((wrap64 ((wrap64 ((wrap64 (rd l0 x5_1)) + (wrap64 (256 * (wrap64 (rd l0 (ji5))))))) + (wrap64 (65536 * (wrap64 (rd l0 (ji8))))))) + (wrap64 (16777216 * (wrap64 (rd l0 (ji11))))))))) ≤ (l0.length : Int) then (if y171.length + ((l0.take ((wrap64 ((wrap64 (x5_1 + 12)) + (wrap64 ((wrap64 ((wrap64 ((wrap64 (rd l0 x5_1)) + (wrap64 (256 * (wrap64 (rd l0 (ji5))))))) + (wrap64 (65536 * (wrap64 (rd l0 (ji8))))))) + (wrap64 (16777216 * (wrap64 (rd l0 (ji11))))))))) : Int).toNat).drop ((wrap64 (x5_1 + 12)) : Int).toNat).length < 140737488355328 then ((some (y171 ++ ((l0.take ((wrap64 ((wrap64 (x5_1 + 12)) + (wrap64 ((wrap64 ((wrap64 ((wrap64 (rd l0 x5_1)) + (wrap64 (256 * (wrap64 (rd l0 (ji5))))))) + (wrap64 (65536 * (wrap64 (rd l0 (ji8))))))) + (wrap64 (16777216 * (wrap64 (rd l0 (ji11))))))))) : Int).toNat).drop ((wrap64 (x5_1 + 12)) : Int).toNat) : List Int)).bind fun y175 => ((lockgateref04_Frame.f kj13 y175).bind fun t178 => (if 0 ≤ x5_1 then (if x5_1 ≤ (wrap64 ((wrap64 (x5_1 + 12)) + (wrap64 ((wrap64 ((wrap64 ((wrap64 (rd l0 x5_1)) + (wrap64 (256 * (wrap64 (rd l0 (ji5))))))) + (wrap64 (65536 * (wrap64 (rd l0 (ji8))))))) + (wrap64 (16777216 * (wrap64 (rd l0 (ji11))))))))) then ((lockgateref03_Same.f kj13 t178 ((l0.take ((wrap64 ((wrap64 (x5_1 + 12)) + (wrap64 ((wrap64 ((wrap64 ((wrap64 (rd l0 x5_1)) + (wrap64 (256 * (wrap64 (rd l0 (ji5))))))) + (wrap64 (65536 * (wrap64 (rd l0 (ji8))))))) + (wrap64 (16777216 * (wrap64 (rd l0 (ji11))))))))) : Int).toNat).drop (x5_1 : Int).toNat)).bind fun t182 => (if t182 = true then (if x4_1.length < 5864062014805 then (lockgateref04_Scan.l0 kj13 l0 (x4_1 ++ [y175]) (wrap64 ((wrap64 (x5_1 + 12)) + (wrap64 ((wrap64 ((wrap64 ((wrap64 (rd l0 x5_1)) + (wrap64 (256 * (wrap64 (rd l0 (ji5))))))) + (wrap64 (65536 * (wrap64 (rd l0 (ji8))))))) + (wrap64 (16777216 * (wrap64 (rd l0 (ji11)))))))))) else (none)) else (some (x4_1, x5_1)))) else (none)) else (none)))) else (none)) else (none)) else (none)) else (none)) = some (r1, r2) := by first | (rw [hy171]; with_reducible exact H) | (have H2_ := (Option.bind_some _ _).symm.trans H; rw [hy171]; with_reducible exact H2_) | (have H2_ := (Option.bind_some _ _).symm.trans H; with_reducible exact H2_) | with_reducible exact H | (rw [hy171]; exact H) | exact H
                              have Ny171 := Aside0.mk hy171
                              clear hy171
                              obtain ⟨ji18, hji18⟩ : ∃ j_ : Int, (wrap64 (x5_1 + 12)) = j_ := ⟨_, rfl⟩
                              replace H : (if 0 ≤ (ji18) then (if (ji18) ≤ (wrap64 ((ji18) + (wrap64 ((wrap64 ((wrap64 ((wrap64 (rd l0 x5_1)) + (wrap64 (256 * (wrap64 (rd l0 (ji5))))))) + (wrap64 (65536 * (wrap64 (rd l0 (ji8))))))) + (wrap64 (16777216 * (wrap64 (rd l0 (ji11))))))))) then (if (wrap64 ((ji18) + (wrap64 ((wrap64 ((wrap64 ((wrap64 (rd l0 x5_1)) + (wrap64 (256 * (wrap64 (rd l0 (ji5))))))) + (wrap64 (65536 * (wrap64 (rd l0 (ji8))))))) + (wrap64 (16777216 * (wrap64 (rd l0 (ji11))))))))) ≤ (l0.length : Int) then (if y171.length + ((l0.take ((wrap64 ((ji18) + (wrap64 ((wrap64 ((wrap64 ((wrap64 (rd l0 x5_1)) + (wrap64 (256 * (wrap64 (rd l0 (ji5))))))) + (wrap64 (65536 * (wrap64 (rd l0 (ji8))))))) + (wrap64 (16777216 * (wrap64 (rd l0 (ji11))))))))) : Int).toNat).drop ((ji18) : Int).toNat).length < 140737488355328 then ((some (y171 ++ ((l0.take ((wrap64 ((ji18) + (wrap64 ((wrap64 ((wrap64 ((wrap64 (rd l0 x5_1)) + (wrap64 (256 * (wrap64 (rd l0 (ji5))))))) + (wrap64 (65536 * (wrap64 (rd l0 (ji8))))))) + (wrap64 (16777216 * (wrap64 (rd l0 (ji11))))))))) : Int).toNat).drop ((ji18) : Int).toNat) : List Int)).bind fun y175 => ((lockgateref04_Frame.f kj13 y175).bind fun t178 => (if 0 ≤ x5_1 then (if x5_1 ≤ (wrap64 ((ji18) + (wrap64 ((wrap64 ((wrap64 ((wrap64 (rd l0 x5_1)) + (wrap64 (256 * (wrap64 (rd l0 (ji5))))))) + (wrap64 (65536 * (wrap64 (rd l0 (ji8))))))) + (wrap64 (16777216 * (wrap64 (rd l0 (ji11))))))))) then ((lockgateref03_Same.f kj13 t178 ((l0.take ((wrap64 ((ji18) + (wrap64 ((wrap64 ((wrap64 ((wrap64 (rd l0 x5_1)) + (wrap64 (256 * (wrap64 (rd l0 (ji5))))))) + (wrap64 (65536 * (wrap64 (rd l0 (ji8))))))) + (wrap64 (16777216 * (wrap64 (rd l0 (ji11))))))))) : Int).toNat).drop (x5_1 : Int).toNat)).bind fun t182 => (if t182 = true then (if x4_1.length < 5864062014805 then (lockgateref04_Scan.l0 kj13 l0 (x4_1 ++ [y175]) (wrap64 ((ji18) + (wrap64 ((wrap64 ((wrap64 ((wrap64 (rd l0 x5_1)) + (wrap64 (256 * (wrap64 (rd l0 (ji5))))))) + (wrap64 (65536 * (wrap64 (rd l0 (ji8))))))) + (wrap64 (16777216 * (wrap64 (rd l0 (ji11)))))))))) else (none)) else (some (x4_1, x5_1)))) else (none)) else (none)))) else (none)) else (none)) else (none)) else (none)) = some (r1, r2) := by first | (rw [hji18] at H; exact H) | (simp only [hji18] at H ⊢; exact H)
                              have hji18w : (IntKind.i64.wrap (x5_1 + 12)) = ji18 := (i64_w _).trans hji18
                              by_cases c19 : 0 ≤ (ji18)
                              · rw [if_pos c19] at H
                                have c19b0 := eq_true c19
                                have c19b1 : decide (0 ≤ (ji18)) = true := decide_eq_true c19
                                clear c19
                                by_cases c20 : (ji18) ≤ (wrap64 ((ji18) + (wrap64 ((wrap64 ((wrap64 ((wrap64 (rd l0 x5_1)) + (wrap64 (256 * (wrap64 (rd l0 (ji5))))))) + (wrap64 (65536 * (wrap64 (rd l0 (ji8))))))) + (wrap64 (16777216 * (wrap64 (rd l0 (ji11)))))))))
                                · rw [if_pos c20] at H
                                  have c20b0 := eq_true c20
                                  have c20b1 : decide ((ji18) ≤ (wrap64 ((ji18) + (wrap64 ((wrap64 ((wrap64 ((wrap64 (rd l0 x5_1)) + (wrap64 (256 * (wrap64 (rd l0 (ji5))))))) + (wrap64 (65536 * (wrap64 (rd l0 (ji8))))))) + (wrap64 (16777216 * (wrap64 (rd l0 (ji11)))))))))) = true := decide_eq_true c20
                                  by_cases c21 : (wrap64 ((ji18) + (wrap64 ((wrap64 ((wrap64 ((wrap64 (rd l0 x5_1)) + (wrap64 (256 * (wrap64 (rd l0 (ji5))))))) + (wrap64 (65536 * (wrap64 (rd l0 (ji8))))))) + (wrap64 (16777216 * (wrap64 (rd l0 (ji11))))))))) ≤ (l0.length : Int)
                                  · rw [if_pos c21] at H
                                    have c21b0 := eq_true c21
                                    have c21b1 : decide ((wrap64 ((ji18) + (wrap64 ((wrap64 ((wrap64 ((wrap64 (rd l0 x5_1)) + (wrap64 (256 * (wrap64 (rd l0 (ji5))))))) + (wrap64 (65536 * (wrap64 (rd l0 (ji8))))))) + (wrap64 (16777216 * (wrap64 (rd l0 (ji11))))))))) ≤ (l0.length : Int)) = true := decide_eq_true c21
                                    by_cases c22 : y171.length + ((l0.take ((wrap64 ((ji18) + (wrap64 ((wrap64 ((wrap64 ((wrap64 (rd l0 x5_1)) + (wrap64 (256 * (wrap64 (rd l0 (ji5))))))) + (wrap64 (65536 * (wrap64 (rd l0 (ji8))))))) + (wrap64 (16777216 * (wrap64 (rd l0 (ji11))))))))) : Int).toNat).drop ((ji18) : Int).toNat).length < 140737488355328
                                    · rw [if_pos c22] at H
                                      have LMc22 := Aside0.mk c22
                                      clear c22
                                      obtain ⟨y175, hy175⟩ : ∃ y_ : List Int, y_ = (y171 ++ ((l0.take ((wrap64 ((ji18) + (wrap64 ((wrap64 ((wrap64 ((wrap64 (rd l0 x5_1)) + (wrap64 (256 * (wrap64 (rd l0 (ji5))))))) + (wrap64 (65536 * (wrap64 (rd l0 (ji8))))))) + (wrap64 (16777216 * (wrap64 (rd l0 (ji11))))))))) : Int).toNat).drop ((ji18) : Int).toNat)) := ⟨_, rfl⟩
                                      replace H : ((lockgateref04_Frame.f kj13 y175).bind fun t178 => (if 0 ≤ x5_1 then (if x5_1 ≤ (wrap64 ((ji18) + (wrap64 ((wrap64 ((wrap64 ((wrap64 (rd l0 x5_1)) + (wrap64 (256 * (wrap64 (rd l0 (ji5))))))) + (wrap64 (65536 * (wrap64 (rd l0 (ji8))))))) + (wrap64 (16777216 * (wrap64 (rd l0 (ji11))))))))) then ((lockgateref03_Same.f kj13 t178 ((l0.take ((wrap64 ((ji18) + (wrap64 ((wrap64 ((wrap64 ((wrap64 (rd l0 x5_1)) + (wrap64 (256 * (wrap64 (rd l0 (ji5))))))) + (wrap64 (65536 * (wrap64 (rd l0 (ji8))))))) + (wrap64 (16777216 * (wrap64 (rd l0 (ji11))))))))) : Int).toNat).drop (x5_1 : Int).toNat)).bind fun t182 => (if t182 = true then (if x4_1.length < 5864062014805 then (lockgateref04_Scan.l0 kj13 l0 (x4_1 ++ [y175]) (wrap64 ((ji18) + (wrap64 ((wrap64 ((wrap64 ((wrap64 (rd l0 x5_1)) + (wrap64 (256 * (wrap64 (rd l0 (ji5))))))) + (wrap64 (65536 * (wrap64 (rd l0 (ji8))))))) + (wrap64 (16777216 * (wrap64 (rd l0 (ji11)))))))))) else (none)) else (some (x4_1, x5_1)))) else (none)) else (none))) = some (r1, r2) := by first | (rw [hy175]; with_reducible exact H) | (have H2_ := (Option.bind_some _ _).symm.trans H; rw [hy175]; with_reducible exact H2_) | (have H2_ := (Option.bind_some _ _).symm.trans H; with_reducible exact H2_) | with_reducible exact H | (rw [hy175]; exact H) | exact H
                                      have Ny175 := Aside0.mk hy175
                                      clear hy175
                                      replace H := Option.bind_eq_some_iff.mp H
                                      obtain ⟨t178, A230, H⟩ := H
                                      replace H : (if 0 ≤ x5_1 then (if x5_1 ≤ (wrap64 ((ji18) + (wrap64 ((wrap64 ((wrap64 ((wrap64 (rd l0 x5_1)) + (wrap64 (256 * (wrap64 (rd l0 (ji5))))))) + (wrap64 (65536 * (wrap64 (rd l0 (ji8))))))) + (wrap64 (16777216 * (wrap64 (rd l0 (ji11))))))))) then ((lockgateref03_Same.f kj13 t178 ((l0.take ((wrap64 ((ji18) + (wrap64 ((wrap64 ((wrap64 ((wrap64 (rd l0 x5_1)) + (wrap64 (256 * (wrap64 (rd l0 (ji5))))))) + (wrap64 (65536 * (wrap64 (rd l0 (ji8))))))) + (wrap64 (16777216 * (wrap64 (rd l0 (ji11))))))))) : Int).toNat).drop (x5_1 : Int).toNat)).bind fun t182 => (if t182 = true then (if x4_1.length < 5864062014805 then (lockgateref04_Scan.l0 kj13 l0 (x4_1 ++ [y175]) (wrap64 ((ji18) + (wrap64 ((wrap64 ((wrap64 ((wrap64 (rd l0 x5_1)) + (wrap64 (256 * (wrap64 (rd l0 (ji5))))))) + (wrap64 (65536 * (wrap64 (rd l0 (ji8))))))) + (wrap64 (16777216 * (wrap64 (rd l0 (ji11)))))))))) else (none)) else (some (x4_1, x5_1)))) else (none)) else (none)) = some (r1, r2) := H
                                      have A23 := Aside0.mk A230
                                      clear A230
                                      by_cases c24 : 0 ≤ x5_1
                                      · rw [if_pos c24] at H
                                        have c24b0 := eq_true c24
                                        have c24b1 : decide (0 ≤ x5_1) = true := decide_eq_true c24
                                        clear c24
                                        by_cases c25 : x5_1 ≤ (wrap64 ((ji18) + (wrap64 ((wrap64 ((wrap64 ((wrap64 (rd l0 x5_1)) + (wrap64 (256 * (wrap64 (rd l0 (ji5))))))) + (wrap64 (65536 * (wrap64 (rd l0 (ji8))))))) + (wrap64 (16777216 * (wrap64 (rd l0 (ji11)))))))))
                                        · rw [if_pos c25] at H
                                          have c25b0 := eq_true c25
                                          have c25b1 : decide (x5_1 ≤ (wrap64 ((ji18) + (wrap64 ((wrap64 ((wrap64 ((wrap64 (rd l0 x5_1)) + (wrap64 (256 * (wrap64 (rd l0 (ji5))))))) + (wrap64 (65536 * (wrap64 (rd l0 (ji8))))))) + (wrap64 (16777216 * (wrap64 (rd l0 (ji11)))))))))) = true := decide_eq_true c25
                                          have c26b0 := eq_true (of_decide_eq_true (by first | (with_reducible assumption) | assumption) : (wrap64 ((ji18) + (wrap64 ((wrap64 ((wrap64 ((wrap64 (rd l0 x5_1)) + (wrap64 (256 * (wrap64 (rd l0 (ji5))))))) + (wrap64 (65536 * (wrap64 (rd l0 (ji8))))))) + (wrap64 (16777216 * (wrap64 (rd l0 (ji11))))))))) ≤ (l0.length : Int))
                                          replace H := Option.bind_eq_some_iff.mp H
                                          obtain ⟨t182, A270, H⟩ := H
                                          replace H : (if t182 = true then (if x4_1.length < 5864062014805 then (lockgateref04_Scan.l0 kj13 l0 (x4_1 ++ [y175]) (wrap64 ((ji18) + (wrap64 ((wrap64 ((wrap64 ((wrap64 (rd l0 x5_1)) + (wrap64 (256 * (wrap64 (rd l0 (ji5))))))) + (wrap64 (65536 * (wrap64 (rd l0 (ji8))))))) + (wrap64 (16777216 * (wrap64 (rd l0 (ji11)))))))))) else (none)) else (some (x4_1, x5_1))) = some (r1, r2) := H
                                          have A27 := Aside0.mk A270
                                          clear A270
                                          by_cases c28 : t182 = true
                                          · subst c28
                                            have H1 : (if x4_1.length < 5864062014805 then (lockgateref04_Scan.l0 kj13 l0 (x4_1 ++ [y175]) (wrap64 ((ji18) + (wrap64 ((wrap64 ((wrap64 ((wrap64 (rd l0 x5_1)) + (wrap64 (256 * (wrap64 (rd l0 (ji5))))))) + (wrap64 (65536 * (wrap64 (rd l0 (ji8))))))) + (wrap64 (16777216 * (wrap64 (rd l0 (ji11)))))))))) else (none)) = some (r1, r2) := by rw [if_pos rfl] at H; exact H
                                            clear H
                                            have H := H1
                                            clear H1
                                            by_cases c29 : x4_1.length < 5864062014805
                                            · rw [if_pos c29] at H
                                              have LMc29 := Aside0.mk c29
                                              clear c29
                                              obtain ⟨y183, hy183⟩ : ∃ y_ : List (List Int), y_ = (x4_1 ++ [y175]) := ⟨_, rfl⟩
                                              replace H : (lockgateref04_Scan.l0 kj13 l0 y183 (wrap64 ((ji18) + (wrap64 ((wrap64 ((wrap64 ((wrap64 (rd l0 x5_1)) + (wrap64 (256 * (wrap64 (rd l0 (ji5))))))) + (wrap64 (65536 * (wrap64 (rd l0 (ji8))))))) + (wrap64 (16777216 * (wrap64 (rd l0 (ji11)))))))))) = some (r1, r2) := by first | (rw [hy183]; with_reducible exact H) | (have H2_ := (Option.bind_some _ _).symm.trans H; rw [hy183]; with_reducible exact H2_) | (have H2_ := (Option.bind_some _ _).symm.trans H; with_reducible exact H2_) | with_reducible exact H | (rw [hy183]; exact H) | exact H
                                              have Ny183 := Aside0.mk hy183
                                              clear hy183
                                              have H' := Aside0.mk H
                                              clear H
                                              try go_wp2_with (first | ((with_reducible refine gate_dst (N := 55) rfl ?_); (try (refine gate_guard (by rfl) ?_; dsimp only)); refine Kd.R_lit (Kd.int .u8) _ 5 ?hg (N := 55) ?hd (xs := ([] : List Int)) (inner := []) (ok := fun _ => True) (okp := fun _ => True) ?hr ?hp (fun _ hk => hk) trivial (Below.refl _ _) (Nat.le_refl _) (by simp) ?_; (case hd => rfl); (case hg => rfl); (case hr => first | (go_simp; done) | (go_simp; rfl)); (case hp => exact (Reps.none _ _)); intro v172 w30 ho31 hb hg_ hnew_; clear hg_ hnew_; (first | rw [← Ny171.out] at ho31 | (simp only [Int.reduceToNat] at ho31; rw [← Ny171.out] at ho31)); have n0_ := Aside0.mk (Kd.S_elder' (by (with_reducible repeat (first | apply Kd.S_alloc | apply Kd.S_drewN | apply Kd.S_drew)); exact HO_4.out) (Kd.R_base ho31) hb); have n1_ := Aside0.mk (Kd.R_lower ho31 (below_size (by repeat (first | (with_reducible first | exact HB.out | apply below_alloc | apply pw_below_drewN | apply below_drew1) | exact HB.out)))); have n2_ := Aside0.mk (below_step (by repeat (first | (with_reducible first | exact HB.out | apply below_alloc | apply pw_below_drewN | apply below_drew1) | exact HB.out)) hb); clear HO_4; clear HB; have HO_4 := n0_; have HO173 := n1_; have HB := n2_; clear n0_ n1_ n2_; clear hb ho31; obtain ⟨i032, hi032, _, hsz32, _⟩ := info_parts info5; obtain ⟨A32, hcut32, hA32, hC32⟩ := print_mid_of (P := Try.prog) (Value.int .u8) 0 22 5 .i64 .i64 Try.underlying22 hi032 hsz32 (some ad167) c0 l0 (ji18) (wrap64 ((ji18) + (wrap64 ((wrap64 ((wrap64 ((wrap64 (rd l0 x5_1)) + (wrap64 (256 * (wrap64 (rd l0 (ji5))))))) + (wrap64 (65536 * (wrap64 (rd l0 (ji8))))))) + (wrap64 (16777216 * (wrap64 (rd l0 (ji11))))))))) (of_decide_eq_true (by first | (with_reducible assumption) | assumption)) (by first | omega | exact of_decide_eq_true (by first | (with_reducible assumption) | assumption)) (of_decide_eq_true (by first | (with_reducible assumption) | assumption)) HC0.out; have HR174 := Aside0.mk (Kd.C_of_reads (h1 := fun _ => rfl) (hA32 _ (Kd.reads_of_C HR0.out))); have HC174 := Aside0.mk hC32; clear hA32 hC32 hi032 hsz32) | ((with_reducible refine gate_builtin (b := .append) (xs := #[.tmp 55, .tmp 63]) rfl ?_); (try (refine gate_guard (by rfl) ?_; dsimp only)); at_builtin; refine Kd.R_append_rows (Kd.int .u8) (w0 := w) w.heap.size rfl (.tmp 55) (.tmp 63) 22 5 (.int .u8 0) 1 rfl Try.underlying22 info5 rfl (by decide) (by omega) v172 y171 ((l0.take ((wrap64 ((ji18) + (wrap64 ((wrap64 ((wrap64 ((wrap64 (rd l0 x5_1)) + (wrap64 (256 * (wrap64 (rd l0 (ji5))))))) + (wrap64 (65536 * (wrap64 (rd l0 (ji8))))))) + (wrap64 (16777216 * (wrap64 (rd l0 (ji11))))))))) : Int).toNat).drop ((ji18) : Int).toNat) _ _ _ (fun _ => True) (fun _ => False) rfl rfl ?aO ?aR (fun _ _ h => h) (fun _ h => h.elim) ?aF ?aB ?aS ?aL ?_; (case aR => first | (rw [← show ((l0.take ((wrap64 ((ji18) + (wrap64 ((wrap64 ((wrap64 ((wrap64 (rd l0 x5_1)) + (wrap64 (256 * (wrap64 (rd l0 (ji5))))))) + (wrap64 (65536 * (wrap64 (rd l0 (ji8))))))) + (wrap64 (16777216 * (wrap64 (rd l0 (ji11))))))))) : Int).toNat).drop ((ji18) : Int).toNat).length = ((wrap64 ((ji18) + (wrap64 ((wrap64 ((wrap64 ((wrap64 (rd l0 x5_1)) + (wrap64 (256 * (wrap64 (rd l0 (ji5))))))) + (wrap64 (65536 * (wrap64 (rd l0 (ji8))))))) + (wrap64 (16777216 * (wrap64 (rd l0 (ji11))))))))).toNat - (ji18).toNat) from (by rw [List.length_drop, List.length_take]; have h_ : ((wrap64 ((ji18) + (wrap64 ((wrap64 ((wrap64 ((wrap64 (rd l0 x5_1)) + (wrap64 (256 * (wrap64 (rd l0 (ji5))))))) + (wrap64 (65536 * (wrap64 (rd l0 (ji8))))))) + (wrap64 (16777216 * (wrap64 (rd l0 (ji11))))))))) : Int) ≤ (l0.length : Int) := of_decide_eq_true (by first | (with_reducible assumption) | assumption); omega)]; repeat (first | exact (Kd.C_below HR174.out HB.out) | (with_reducible refine Kd.C_alloc ?_ _) | (with_reducible refine Kd.C_drewN ?_ _) | (with_reducible refine Kd.C_drew ?_))) | (repeat (first | exact (Kd.C_below HR174.out HB.out) | (with_reducible refine Kd.C_alloc ?_ _) | (with_reducible refine Kd.C_drewN ?_ _) | (with_reducible refine Kd.C_drew ?_)))); (case aB => exact (by repeat (first | (with_reducible first | exact HB.out | apply below_alloc | apply pw_below_drewN | apply below_drew1) | exact HB.out))); (case aF => exact (fun _ _ => trivial)); (case aO => exact (by (with_reducible repeat (first | apply Kd.R_alloc | apply Kd.R_drewN | apply Kd.R_drew)); exact HO173.out)); (case aS => exact (below_size (by repeat (first | (with_reducible first | exact HB.out | apply below_alloc | apply pw_below_drewN | apply below_drew1) | exact HB.out)))); (case aL => have := LMc22.out; have hlx_ := (show ((l0.take ((wrap64 ((ji18) + (wrap64 ((wrap64 ((wrap64 ((wrap64 (rd l0 x5_1)) + (wrap64 (256 * (wrap64 (rd l0 (ji5))))))) + (wrap64 (65536 * (wrap64 (rd l0 (ji8))))))) + (wrap64 (16777216 * (wrap64 (rd l0 (ji11))))))))) : Int).toNat).drop ((ji18) : Int).toNat).length = ((wrap64 ((ji18) + (wrap64 ((wrap64 ((wrap64 ((wrap64 (rd l0 x5_1)) + (wrap64 (256 * (wrap64 (rd l0 (ji5))))))) + (wrap64 (65536 * (wrap64 (rd l0 (ji8))))))) + (wrap64 (16777216 * (wrap64 (rd l0 (ji11))))))))).toNat - (ji18).toNat) from (by rw [List.length_drop, List.length_take]; have h_ : ((wrap64 ((ji18) + (wrap64 ((wrap64 ((wrap64 ((wrap64 (rd l0 x5_1)) + (wrap64 (256 * (wrap64 (rd l0 (ji5))))))) + (wrap64 (65536 * (wrap64 (rd l0 (ji8))))))) + (wrap64 (16777216 * (wrap64 (rd l0 (ji11))))))))) : Int) ≤ (l0.length : Int) := of_decide_eq_true (by first | (with_reducible assumption) | assumption); omega)); omega); intro v176 w33 ho hb hg hat; rw [← Ny175.out] at ho; have n0_ := Aside0.mk (Kd.S_after (ok := (fun _ => True)) (by (with_reducible repeat (first | apply Kd.S_alloc | apply Kd.S_drewN | apply Kd.S_drew)); exact HO_4.out) hg hat); have n1_ := Aside0.mk (hb); have n2_ := Aside0.mk (ho); clear HO_4; clear HB; clear HO173; have HO_4 := n0_; have HB := n1_; have HO177 := n2_; clear n0_ n1_ n2_; clear ho hb hg hat))
                                              have n0_ := Aside0.mk (Kd.S_drew HO_4.out)
                                              have n1_ := Aside0.mk (Kd.R_drew HO177.out)
                                              have n2_ := Aside0.mk (below_drew1 HB.out)
                                              clear HO_4
                                              clear HO177
                                              clear HB
                                              have HO_4 := n0_
                                              have HO177 := n1_
                                              have HB := n2_
                                              clear n0_ n1_ n2_
                                              obtain ⟨i035, hi035, _, hsz35, _⟩ := info_parts info5
                                              obtain ⟨A35, hcut35, hA35, hC35⟩ := print_mid_of (P := Try.prog) (Value.int .u8) 0 22 5 .i64 .i64 Try.underlying22 hi035 hsz35 (some ad167) c0 l0 x5_1 (wrap64 ((ji18) + (wrap64 ((wrap64 ((wrap64 ((wrap64 (rd l0 x5_1)) + (wrap64 (256 * (wrap64 (rd l0 (ji5))))))) + (wrap64 (65536 * (wrap64 (rd l0 (ji8))))))) + (wrap64 (16777216 * (wrap64 (rd l0 (ji11))))))))) (of_decide_eq_true (by first | (with_reducible assumption) | assumption)) (by first | omega | exact of_decide_eq_true (by first | (with_reducible assumption) | assumption)) (of_decide_eq_true (by first | (with_reducible assumption) | assumption)) HC0.out
                                              have HR181 := Aside0.mk (Kd.C_of_reads (h1 := fun _ => rfl) (hA35 _ (Kd.reads_of_C HR0.out)))
                                              have HC181 := Aside0.mk hC35
                                              clear hA35 hC35 hi035 hsz35
                                              obtain ⟨Ao36, co36, eo36⟩ := Kd.R_slice HO177.out
                                              (first | subst eo36 | (injection eo36 with f1_ f2_ f3_; have f4_ := f1_.symm; have f5_ := f3_.symm; clear f1_ f2_ f3_; subst f4_; subst f5_))
                                              refine start_ (n := 11) (S := fun w' => True) (ds := []) #[false, false, false, false, false, false, false, false, false, false, false] (by kernel_rfl) rfl rfl trivial (fun hHeld => ?_); refine with_tabW lockgateref04_Scan.tab8 lockgateref04_Scan.bits8 (fun HT_ HW_ => ?_)
                                              generalize w33.drew = w34 at HO_4 HO177 HB HR181 hHeld ⊢
                                              refine pure_ (i := 0) (N := some 65) (v := ?_) (a' := ?_) #[true, false, false, false, false, false, false, false, false, false, false] rfl rfl (any_of HT_.out (by kernel_rfl)) (fun _ _ _ h => h) (Or.inl ⟨by rfl, ?_⟩) ?_ ?_
                                              rotate_left
                                              · intro w'
                                                go_simp
                                                with_reducible rfl
                                              rotate_left
                                              · simp only [Act.put, List.setIfInBounds_toArray, List.set_cons_zero, List.set_cons_succ, i64_w, i32_w]
                                                rfl
                                              refine pure_ (i := 2) (N := some 67) (v := ?_) (a' := ?_) #[true, false, true, false, false, false, false, false, false, false, false] rfl rfl (any_of HT_.out (by kernel_rfl)) (fun _ _ _ h => h) (Or.inl ⟨by rfl, ?_⟩) ?_ ?_
                                              rotate_left
                                              · intro w'
                                                go_simp
                                                with_reducible rfl
                                              rotate_left
                                              · simp only [Act.put, List.setIfInBounds_toArray, List.set_cons_zero, List.set_cons_succ, i64_w, i32_w]
                                                rfl
                                              refine pure_ (i := 3) (N := some 68) (v := ?_) (a' := ?_) #[true, false, true, true, false, false, false, false, false, false, false] rfl rfl (any_of HT_.out (by kernel_rfl)) (fun _ _ _ h => h) (Or.inl ⟨by rfl, ?_⟩) ?_ ?_
                                              rotate_left
                                              · intro w'
                                                go_simp
                                                with_reducible rfl
                                              rotate_left
                                              · simp only [Act.put, List.setIfInBounds_toArray, List.set_cons_zero, List.set_cons_succ, i64_w, i32_w]
                                                rfl
                                              refine pure_ (i := 4) (N := some 69) (v := ?_) (a' := ?_) #[true, false, true, true, true, false, false, false, false, false, false] rfl rfl (any_of HT_.out (by kernel_rfl)) (fun _ _ _ h => h) (Or.inl ⟨by rfl, ?_⟩) ?_ ?_
                                              rotate_left
                                              · intro w'
                                                go_simp
                                                with_reducible rfl
                                              rotate_left
                                              · simp only [Act.put, List.setIfInBounds_toArray, List.set_cons_zero, List.set_cons_succ, i64_w, i32_w]
                                                rfl
                                              refine pure_ (i := 5) (N := some 70) (v := ?_) (a' := ?_) #[true, false, true, true, true, true, false, false, false, false, false] rfl rfl (any_of HT_.out (by kernel_rfl)) (fun _ _ _ h => h) (Or.inl ⟨by rfl, ?_⟩) ?_ ?_
                                              rotate_left
                                              · intro w'
                                                go_simp
                                                with_reducible rfl
                                              rotate_left
                                              · simp only [Act.put, List.setIfInBounds_toArray, List.set_cons_zero, List.set_cons_succ, i64_w, i32_w]
                                                rfl
                                              refine pure_ (i := 6) (N := some 71) (v := ?_) (a' := ?_) #[true, false, true, true, true, true, true, false, false, false, false] rfl rfl (any_of HT_.out (by kernel_rfl)) (fun _ _ _ h => h) (Or.inl ⟨by rfl, ?_⟩) ?_ ?_
                                              rotate_left
                                              · intro w'
                                                go_simp
                                                with_reducible rfl
                                              rotate_left
                                              · simp only [Act.put, List.setIfInBounds_toArray, List.set_cons_zero, List.set_cons_succ, i64_w, i32_w]
                                                rfl
                                              refine pure_ (i := 7) (N := some 72) (v := ?_) (a' := ?_) #[true, false, true, true, true, true, true, true, false, false, false] rfl rfl (any_of HT_.out (by kernel_rfl)) (fun _ _ _ h => h) (Or.inl ⟨by rfl, ?_⟩) ?_ ?_
                                              rotate_left
                                              · intro w'
                                                go_simp
                                                with_reducible rfl
                                              rotate_left
                                              · simp only [Act.put, List.setIfInBounds_toArray, List.set_cons_zero, List.set_cons_succ, i64_w, i32_w]
                                                rfl
                                              refine pure_ (i := 8) (N := some 73) (v := ?_) (a' := ?_) #[true, false, true, true, true, true, true, true, true, false, false] rfl rfl (any_of HT_.out (by kernel_rfl)) (fun _ _ _ h => h) (Or.inl ⟨by rfl, ?_⟩) ?_ ?_
                                              rotate_left
                                              · intro w'
                                                go_simp
                                                with_reducible rfl
                                              rotate_left
                                              · simp only [Act.put, List.setIfInBounds_toArray, List.set_cons_zero, List.set_cons_succ, i64_w, i32_w]
                                                rfl
                                              refine one_ (i := 1) (N := some 66) #[true, true, true, true, true, true, true, true, true, false, false] rfl rfl (one_of HT_.out (by kernel_rfl)) (by decide) (fun K hK => ?_)
                                              refine goes_ Try.func12 (by kernel_rfl) rfl #[.slice Ao36 y175.length co36] (by rfl) rfl rfl (by (try simp only [List.map_toArray, List.map_cons, List.map_nil]); first | done | rfl | (simp only [List.length_drop, List.length_take]; rfl)) ?_
                                              with_reducible refine (lockgateref04_Frame.calls kj13 _ _ y175 t178 _ ?side1 ?side2 A23.out).mono ?_
                                              (case side1 => repeat (first | exact (Kd.R_reads' HO177.out).2.2 | (with_reducible refine Kd.C_alloc ?_ _) | (with_reducible refine Kd.C_drewN ?_ _) | (with_reducible refine Kd.C_drew ?_)))
                                              (case side2 => exact (Kd.R_reads' HO177.out).2.1)
                                              rintro e w37 ⟨v179, rfl, ho0, hb⟩
                                              refine ⟨_, rfl, ?_⟩
                                              have n0_ := Aside0.mk (Kd.S_elder' (by (with_reducible repeat (first | apply Kd.S_alloc | apply Kd.S_drewN | apply Kd.S_drew)); exact HO_4.out) (Kd.R_base ho0) hb)
                                              have n1_ := Aside0.mk (Kd.R_elder' (by (with_reducible repeat (first | apply Kd.R_alloc | apply Kd.R_drewN | apply Kd.R_drew)); exact HO177.out) (Kd.R_base ho0) hb)
                                              have n2_ := Aside0.mk (Kd.R_lower (Kd.R_new' ho0 (Kd.R_lt (by (with_reducible repeat (first | apply Kd.R_alloc | apply Kd.R_drewN | apply Kd.R_drew)); exact HO177.out))) (below_size (by repeat (first | (with_reducible first | exact HB.out | apply below_alloc | apply pw_below_drewN | apply below_drew1) | exact HB.out))))
                                              have n3_ := Aside0.mk (below_step (by repeat (first | (with_reducible first | exact HB.out | apply below_alloc | apply pw_below_drewN | apply below_drew1) | exact HB.out)) hb)
                                              clear HO_4
                                              clear HO177
                                              clear HB
                                              have HO_4 := n0_
                                              have HO177 := n1_
                                              have HO180 := n2_
                                              have HB := n3_
                                              clear n0_ n1_ n2_ n3_
                                              (try clear hb)
                                              (try clear hb2)
                                              (try clear hk)
                                              (try clear hi)
                                              (try clear ho0)
                                              obtain ⟨Ao38, co38, eo38⟩ := Kd.R_slice HO180.out
                                              (first | subst eo38 | (injection eo38 with f1_ f2_ f3_; have f4_ := f1_.symm; have f5_ := f3_.symm; clear f1_ f2_ f3_; subst f4_; subst f5_))
                                              refine hK.out _ _ trivial (fun hHeld => ?_)
                                              clear hK K
                                              refine norm_ (a' := ?_) ?_ ?_
                                              rotate_left
                                              · show Act.put _ (some 66) _ = _
                                                simp only [Act.put, List.setIfInBounds_toArray, List.set_cons_zero, List.set_cons_succ, i64_w, i32_w]
                                                rfl
                                              refine one_ (i := 9) (N := some 74) #[true, true, true, true, true, true, true, true, true, true, false] rfl rfl (one_of HT_.out (by kernel_rfl)) (by decide) (fun K hK => ?_)
                                              refine goes_ Try.func10 (by kernel_rfl) rfl #[.slice Ao38 t178.length co38, .slice A35 ((l0.take ((wrap64 ((ji18) + (wrap64 ((wrap64 ((wrap64 ((wrap64 (rd l0 x5_1)) + (wrap64 (256 * (wrap64 (rd l0 (ji5))))))) + (wrap64 (65536 * (wrap64 (rd l0 (ji8))))))) + (wrap64 (16777216 * (wrap64 (rd l0 (ji11))))))))) : Int).toNat).drop (x5_1 : Int).toNat).length (c0 - x5_1.toNat)] (by rfl) rfl rfl (by (try simp only [List.map_toArray, List.map_cons, List.map_nil]); first | done | (rw [show ((l0.take ((wrap64 ((ji18) + (wrap64 ((wrap64 ((wrap64 ((wrap64 (rd l0 x5_1)) + (wrap64 (256 * (wrap64 (rd l0 (ji5))))))) + (wrap64 (65536 * (wrap64 (rd l0 (ji8))))))) + (wrap64 (16777216 * (wrap64 (rd l0 (ji11))))))))) : Int).toNat).drop (x5_1 : Int).toNat).length = ((wrap64 ((ji18) + (wrap64 ((wrap64 ((wrap64 ((wrap64 (rd l0 x5_1)) + (wrap64 (256 * (wrap64 (rd l0 (ji5))))))) + (wrap64 (65536 * (wrap64 (rd l0 (ji8))))))) + (wrap64 (16777216 * (wrap64 (rd l0 (ji11))))))))).toNat - x5_1.toNat) from (by rw [List.length_drop, List.length_take]; have h_ : ((wrap64 ((ji18) + (wrap64 ((wrap64 ((wrap64 ((wrap64 (rd l0 x5_1)) + (wrap64 (256 * (wrap64 (rd l0 (ji5))))))) + (wrap64 (65536 * (wrap64 (rd l0 (ji8))))))) + (wrap64 (16777216 * (wrap64 (rd l0 (ji11))))))))) : Int) ≤ (l0.length : Int) := of_decide_eq_true (by first | (with_reducible assumption) | assumption); omega)] <;> rfl) | (simp only [hji11, hji18, hji5, hji8]; rfl) | rfl | (simp only [List.length_drop, List.length_take]; rfl)) ?_
                                              with_reducible refine (lockgateref03_Same.calls kj13 _ _ t178 _ _ ((l0.take ((wrap64 ((ji18) + (wrap64 ((wrap64 ((wrap64 ((wrap64 (rd l0 x5_1)) + (wrap64 (256 * (wrap64 (rd l0 (ji5))))))) + (wrap64 (65536 * (wrap64 (rd l0 (ji8))))))) + (wrap64 (16777216 * (wrap64 (rd l0 (ji11))))))))) : Int).toNat).drop (x5_1 : Int).toNat) true _ ?side1 ?side2 ?side3 ?side4 A27.out).mono ?_
                                              (case side1 => repeat (first | exact (Kd.R_reads' HO180.out).2.2 | (with_reducible refine Kd.C_alloc ?_ _) | (with_reducible refine Kd.C_drewN ?_ _) | (with_reducible refine Kd.C_drew ?_)))
                                              (case side2 => exact (Kd.R_reads' HO180.out).2.1)
                                              (case side3 => repeat (first | exact (Kd.C_below HR181.out HB.out) | (with_reducible refine Kd.C_alloc ?_ _) | (with_reducible refine Kd.C_drewN ?_ _) | (with_reducible refine Kd.C_drew ?_)))
                                              (case side4 => exact HC181.out)
                                              rintro e w' ⟨rfl, ⟨nd, rfl⟩⟩
                                              refine ⟨_, rfl, ?_⟩
                                              refine hK.out _ _ trivial (fun hHeld => ?_)
                                              clear hK K
                                              refine norm_ (a' := ?_) ?_ ?_
                                              rotate_left
                                              · show Act.put _ (some 74) _ = _
                                                simp only [Act.put, List.setIfInBounds_toArray, List.set_cons_zero, List.set_cons_succ, i64_w, i32_w]
                                                rfl
                                              refine pure_ (i := 10) (N := some 75) (v := ?_) (a' := ?_) #[true, true, true, true, true, true, true, true, true, true, true] rfl rfl (any_of HT_.out (by kernel_rfl)) (fun _ _ _ h => h) (Or.inl ⟨by rfl, ?_⟩) ?_ ?_
                                              rotate_left
                                              · intro w'
                                                go_simp
                                                with_reducible rfl
                                              rotate_left
                                              · simp only [Act.put, List.setIfInBounds_toArray, List.set_cons_zero, List.set_cons_succ, i64_w, i32_w]
                                                rfl
                                              refine done_ (done_of HT_.out (by kernel_rfl)) ?_
                                              try go_wp2_with (first | ((with_reducible refine gate_builtin (b := .append) (xs := #[.tmp 78, .tmp 80]) rfl ?_); (try (refine gate_guard (by rfl) ?_; dsimp only)); at_builtin; refine Kd.S_append (Kd.slice 5 (Kd.int .u8)) (w0 := w) w.heap.size rfl (.tmp 78) (.tmp 80) 27 22 (.slice none 0 0) 24 rfl Try.underlying27 info22 rfl (by decide) (by omega) u4 x4_1 y175 [.slice Ao36 y175.length co36] (fun k_ => some k_ ≠ (.slice Ao38 t178.length co38 : Value).ownBlock) (fun k_ => some k_ = (.slice Ao36 y175.length co36 : Value).ownBlock) rfl rfl ?aP (fun k_ hk_ => ((Kd.R_mono (ok' := fun k_ => ((fun k_ => some k_ ≠ (.slice Ao38 t178.length co38 : Value).ownBlock)) k_ ∧ some k_ ≠ (u4 : Value).ownBlock) (Kd.R_apart' (HO177.out) (Kd.S_typed HO_4.out) (by decide)) (fun k_ hk => ⟨hk.1.2, hk.2⟩))).1 k_ hk_.symm) ?aF ?aO ?aB ?aS ?aL ?_; (case aP => exact Kd.M_row (Kd.R_mono (Kd.R_tight rfl (Kd.R_mono (ok' := fun k_ => ((fun k_ => some k_ ≠ (.slice Ao38 t178.length co38 : Value).ownBlock)) k_ ∧ some k_ ≠ (u4 : Value).ownBlock) (Kd.R_apart' (HO177.out) (Kd.S_typed HO_4.out) (by decide)) (fun k_ hk => ⟨hk.1.2, hk.2⟩))) (fun _ h_ => h_))); (case aB => exact (by repeat (first | (with_reducible first | exact HB.out | apply below_alloc | apply pw_below_drewN | apply below_drew1) | exact HB.out))); (case aF => exact (fun k_ hk => Kd.fresh' (Kd.R_lt (by (with_reducible repeat (first | apply Kd.R_alloc | apply Kd.R_drewN | apply Kd.R_drew)); exact HO180.out)) k_ hk)); (case aO => exact (by (with_reducible repeat (first | apply Kd.S_alloc | apply Kd.S_drewN | apply Kd.S_drew)); exact Kd.S_mono HO_4.out (fun k_ hk => ⟨hk.2, fun e_ => hk.1.2 e_⟩))); (case aS => exact (below_size (by repeat (first | (with_reducible first | exact HB.out | apply below_alloc | apply pw_below_drewN | apply below_drew1) | exact HB.out)))); (case aL => have := LMc29.out; omega); intro v184 w39 ho hb hg hat; rw [← Ny183.out] at ho; have n0_ := Aside0.mk (Kd.R_over' (by (with_reducible repeat (first | apply Kd.R_alloc | apply Kd.R_drewN | apply Kd.R_drew)); exact HO180.out) (Kd.S_typed (by (with_reducible repeat (first | apply Kd.S_alloc | apply Kd.S_drewN | apply Kd.S_drew)); exact HO_4.out)) (by decide) hg); have n1_ := Aside0.mk (hb); have n2_ := Aside0.mk (ho); clear HO180; clear HB; clear HO_4; clear HO177; have HO180 := n0_; have HB := n1_; have HO185 := n2_; clear n0_ n1_ n2_; clear ho hb hg hat))
                                              go_roundg kj13
                                              case measure => have := HK1.out; have := HJ13.out; omega
                                              case rel => exact ⟨(y183), (wrap64 ((ji18) + (wrap64 ((wrap64 ((wrap64 ((wrap64 (rd l0 x5_1)) + (wrap64 (256 * (wrap64 (rd l0 (ji5))))))) + (wrap64 (65536 * (wrap64 (rd l0 (ji8))))))) + (wrap64 (16777216 * (wrap64 (rd l0 (ji11))))))))), (by first | rfl | (simp; done) | (simp only [← hji5, ← hji8, ← hji11, ← hji18] <;> (first | rfl | simp)) | (simp [*]; done)), H', ⟨by have := HK1.out; have := HJ13.out; omega⟩, ⟨by (with_reducible repeat (first | apply Kd.S_alloc | apply Kd.S_drewN | apply Kd.S_drew)); exact Kd.S_mono HO185.out (fun _ hk => trivial)⟩, ⟨by repeat (first | (with_reducible first | exact HB.out | apply below_alloc | apply pw_below_drewN | apply below_drew1) | exact HB.out)⟩⟩
                                            · rw [if_neg c29] at H
                                              exact absurd H (by simp)
                                          · replace c28 := Bool.eq_false_iff.mpr c28
                                            subst c28
                                            have H1 : (some (x4_1, x5_1)) = some (r1, r2) := by rw [if_neg (show ¬ (false = true) by decide)] at H; exact H
                                            clear H
                                            have H := H1
                                            clear H1
                                            simp only [Option.some.injEq, Prod.mk.injEq] at H
                                            obtain ⟨rfl, rfl⟩ := H
                                            try go_wp2_with (first | ((with_reducible refine gate_dst (N := 55) rfl ?_); (try (refine gate_guard (by rfl) ?_; dsimp only)); refine Kd.R_lit (Kd.int .u8) _ 5 ?hg (N := 55) ?hd (xs := ([] : List Int)) (inner := []) (ok := fun _ => True) (okp := fun _ => True) ?hr ?hp (fun _ hk => hk) trivial (Below.refl _ _) (Nat.le_refl _) (by simp) ?_; (case hd => rfl); (case hg => rfl); (case hr => first | (go_simp; done) | (go_simp; rfl)); (case hp => exact (Reps.none _ _)); intro v172 w40 ho41 hb hg_ hnew_; clear hg_ hnew_; (first | rw [← Ny171.out] at ho41 | (simp only [Int.reduceToNat] at ho41; rw [← Ny171.out] at ho41)); have n0_ := Aside0.mk (Kd.S_elder' (by (with_reducible repeat (first | apply Kd.S_alloc | apply Kd.S_drewN | apply Kd.S_drew)); exact HO_4.out) (Kd.R_base ho41) hb); have n1_ := Aside0.mk (Kd.R_lower ho41 (below_size (by repeat (first | (with_reducible first | exact HB.out | apply below_alloc | apply pw_below_drewN | apply below_drew1) | exact HB.out)))); have n2_ := Aside0.mk (below_step (by repeat (first | (with_reducible first | exact HB.out | apply below_alloc | apply pw_below_drewN | apply below_drew1) | exact HB.out)) hb); clear HO_4; clear HB; have HO_4 := n0_; have HO173 := n1_; have HB := n2_; clear n0_ n1_ n2_; clear hb ho41; obtain ⟨i042, hi042, _, hsz42, _⟩ := info_parts info5; obtain ⟨A42, hcut42, hA42, hC42⟩ := print_mid_of (P := Try.prog) (Value.int .u8) 0 22 5 .i64 .i64 Try.underlying22 hi042 hsz42 (some ad167) c0 l0 (ji18) (wrap64 ((ji18) + (wrap64 ((wrap64 ((wrap64 ((wrap64 (rd l0 x5_1)) + (wrap64 (256 * (wrap64 (rd l0 (ji5))))))) + (wrap64 (65536 * (wrap64 (rd l0 (ji8))))))) + (wrap64 (16777216 * (wrap64 (rd l0 (ji11))))))))) (of_decide_eq_true (by first | (with_reducible assumption) | assumption)) (by first | omega | exact of_decide_eq_true (by first | (with_reducible assumption) | assumption)) (of_decide_eq_true (by first | (with_reducible assumption) | assumption)) HC0.out; have HR174 := Aside0.mk (Kd.C_of_reads (h1 := fun _ => rfl) (hA42 _ (Kd.reads_of_C HR0.out))); have HC174 := Aside0.mk hC42; clear hA42 hC42 hi042 hsz42) | ((with_reducible refine gate_builtin (b := .append) (xs := #[.tmp 55, .tmp 63]) rfl ?_); (try (refine gate_guard (by rfl) ?_; dsimp only)); at_builtin; refine Kd.R_append_rows (Kd.int .u8) (w0 := w) w.heap.size rfl (.tmp 55) (.tmp 63) 22 5 (.int .u8 0) 1 rfl Try.underlying22 info5 rfl (by decide) (by omega) v172 y171 ((l0.take ((wrap64 ((ji18) + (wrap64 ((wrap64 ((wrap64 ((wrap64 (rd l0 x5_1)) + (wrap64 (256 * (wrap64 (rd l0 (ji5))))))) + (wrap64 (65536 * (wrap64 (rd l0 (ji8))))))) + (wrap64 (16777216 * (wrap64 (rd l0 (ji11))))))))) : Int).toNat).drop ((ji18) : Int).toNat) _ _ _ (fun _ => True) (fun _ => False) rfl rfl ?aO ?aR (fun _ _ h => h) (fun _ h => h.elim) ?aF ?aB ?aS ?aL ?_; (case aR => first | (rw [← show ((l0.take ((wrap64 ((ji18) + (wrap64 ((wrap64 ((wrap64 ((wrap64 (rd l0 x5_1)) + (wrap64 (256 * (wrap64 (rd l0 (ji5))))))) + (wrap64 (65536 * (wrap64 (rd l0 (ji8))))))) + (wrap64 (16777216 * (wrap64 (rd l0 (ji11))))))))) : Int).toNat).drop ((ji18) : Int).toNat).length = ((wrap64 ((ji18) + (wrap64 ((wrap64 ((wrap64 ((wrap64 (rd l0 x5_1)) + (wrap64 (256 * (wrap64 (rd l0 (ji5))))))) + (wrap64 (65536 * (wrap64 (rd l0 (ji8))))))) + (wrap64 (16777216 * (wrap64 (rd l0 (ji11))))))))).toNat - (ji18).toNat) from (by rw [List.length_drop, List.length_take]; have h_ : ((wrap64 ((ji18) + (wrap64 ((wrap64 ((wrap64 ((wrap64 (rd l0 x5_1)) + (wrap64 (256 * (wrap64 (rd l0 (ji5))))))) + (wrap64 (65536 * (wrap64 (rd l0 (ji8))))))) + (wrap64 (16777216 * (wrap64 (rd l0 (ji11))))))))) : Int) ≤ (l0.length : Int) := of_decide_eq_true (by first | (with_reducible assumption) | assumption); omega)]; repeat (first | exact (Kd.C_below HR174.out HB.out) | (with_reducible refine Kd.C_alloc ?_ _) | (with_reducible refine Kd.C_drewN ?_ _) | (with_reducible refine Kd.C_drew ?_))) | (repeat (first | exact (Kd.C_below HR174.out HB.out) | (with_reducible refine Kd.C_alloc ?_ _) | (with_reducible refine Kd.C_drewN ?_ _) | (with_reducible refine Kd.C_drew ?_)))); (case aB => exact (by repeat (first | (with_reducible first | exact HB.out | apply below_alloc | apply pw_below_drewN | apply below_drew1) | exact HB.out))); (case aF => exact (fun _ _ => trivial)); (case aO => exact (by (with_reducible repeat (first | apply Kd.R_alloc | apply Kd.R_drewN | apply Kd.R_drew)); exact HO173.out)); (case aS => exact (below_size (by repeat (first | (with_reducible first | exact HB.out | apply below_alloc | apply pw_below_drewN | apply below_drew1) | exact HB.out)))); (case aL => have := LMc22.out; have hlx_ := (show ((l0.take ((wrap64 ((ji18) + (wrap64 ((wrap64 ((wrap64 ((wrap64 (rd l0 x5_1)) + (wrap64 (256 * (wrap64 (rd l0 (ji5))))))) + (wrap64 (65536 * (wrap64 (rd l0 (ji8))))))) + (wrap64 (16777216 * (wrap64 (rd l0 (ji11))))))))) : Int).toNat).drop ((ji18) : Int).toNat).length = ((wrap64 ((ji18) + (wrap64 ((wrap64 ((wrap64 ((wrap64 (rd l0 x5_1)) + (wrap64 (256 * (wrap64 (rd l0 (ji5))))))) + (wrap64 (65536 * (wrap64 (rd l0 (ji8))))))) + (wrap64 (16777216 * (wrap64 (rd l0 (ji11))))))))).toNat - (ji18).toNat) from (by rw [List.length_drop, List.length_take]; have h_ : ((wrap64 ((ji18) + (wrap64 ((wrap64 ((wrap64 ((wrap64 (rd l0 x5_1)) + (wrap64 (256 * (wrap64 (rd l0 (ji5))))))) + (wrap64 (65536 * (wrap64 (rd l0 (ji8))))))) + (wrap64 (16777216 * (wrap64 (rd l0 (ji11))))))))) : Int) ≤ (l0.length : Int) := of_decide_eq_true (by first | (with_reducible assumption) | assumption); omega)); omega); intro v176 w43 ho hb hg hat; rw [← Ny175.out] at ho; have n0_ := Aside0.mk (Kd.S_after (ok := (fun _ => True)) (by (with_reducible repeat (first | apply Kd.S_alloc | apply Kd.S_drewN | apply Kd.S_drew)); exact HO_4.out) hg hat); have n1_ := Aside0.mk (hb); have n2_ := Aside0.mk (ho); clear HO_4; clear HB; clear HO173; have HO_4 := n0_; have HB := n1_; have HO177 := n2_; clear n0_ n1_ n2_; clear ho hb hg hat))
                                            have n0_ := Aside0.mk (Kd.S_drew HO_4.out)
                                            have n1_ := Aside0.mk (Kd.R_drew HO177.out)
                                            have n2_ := Aside0.mk (below_drew1 HB.out)
                                            clear HO_4
                                            clear HO177
                                            clear HB
                                            have HO_4 := n0_
                                            have HO177 := n1_
                                            have HB := n2_
                                            clear n0_ n1_ n2_
                                            obtain ⟨i045, hi045, _, hsz45, _⟩ := info_parts info5
                                            obtain ⟨A45, hcut45, hA45, hC45⟩ := print_mid_of (P := Try.prog) (Value.int .u8) 0 22 5 .i64 .i64 Try.underlying22 hi045 hsz45 (some ad167) c0 l0 x5_1 (wrap64 ((ji18) + (wrap64 ((wrap64 ((wrap64 ((wrap64 (rd l0 x5_1)) + (wrap64 (256 * (wrap64 (rd l0 (ji5))))))) + (wrap64 (65536 * (wrap64 (rd l0 (ji8))))))) + (wrap64 (16777216 * (wrap64 (rd l0 (ji11))))))))) (of_decide_eq_true (by first | (with_reducible assumption) | assumption)) (by first | omega | exact of_decide_eq_true (by first | (with_reducible assumption) | assumption)) (of_decide_eq_true (by first | (with_reducible assumption) | assumption)) HC0.out
                                            have HR181 := Aside0.mk (Kd.C_of_reads (h1 := fun _ => rfl) (hA45 _ (Kd.reads_of_C HR0.out)))
                                            have HC181 := Aside0.mk hC45
                                            clear hA45 hC45 hi045 hsz45
                                            obtain ⟨Ao46, co46, eo46⟩ := Kd.R_slice HO177.out
                                            (first | subst eo46 | (injection eo46 with f1_ f2_ f3_; have f4_ := f1_.symm; have f5_ := f3_.symm; clear f1_ f2_ f3_; subst f4_; subst f5_))
                                            refine start_ (n := 11) (S := fun w' => True) (ds := []) #[false, false, false, false, false, false, false, false, false, false, false] (by kernel_rfl) rfl rfl trivial (fun hHeld => ?_); refine with_tabW lockgateref04_Scan.tab8 lockgateref04_Scan.bits8 (fun HT_ HW_ => ?_)
                                            generalize w43.drew = w44 at HO_4 HO177 HB HR181 hHeld ⊢
                                            refine pure_ (i := 0) (N := some 65) (v := ?_) (a' := ?_) #[true, false, false, false, false, false, false, false, false, false, false] rfl rfl (any_of HT_.out (by kernel_rfl)) (fun _ _ _ h => h) (Or.inl ⟨by rfl, ?_⟩) ?_ ?_
                                            rotate_left
                                            · intro w'
                                              go_simp
                                              with_reducible rfl
                                            rotate_left
                                            · simp only [Act.put, List.setIfInBounds_toArray, List.set_cons_zero, List.set_cons_succ, i64_w, i32_w]
                                              rfl
                                            refine pure_ (i := 2) (N := some 67) (v := ?_) (a' := ?_) #[true, false, true, false, false, false, false, false, false, false, false] rfl rfl (any_of HT_.out (by kernel_rfl)) (fun _ _ _ h => h) (Or.inl ⟨by rfl, ?_⟩) ?_ ?_
                                            rotate_left
                                            · intro w'
                                              go_simp
                                              with_reducible rfl
                                            rotate_left
                                            · simp only [Act.put, List.setIfInBounds_toArray, List.set_cons_zero, List.set_cons_succ, i64_w, i32_w]
                                              rfl
                                            refine pure_ (i := 3) (N := some 68) (v := ?_) (a' := ?_) #[true, false, true, true, false, false, false, false, false, false, false] rfl rfl (any_of HT_.out (by kernel_rfl)) (fun _ _ _ h => h) (Or.inl ⟨by rfl, ?_⟩) ?_ ?_
                                            rotate_left
                                            · intro w'
                                              go_simp
                                              with_reducible rfl
                                            rotate_left
                                            · simp only [Act.put, List.setIfInBounds_toArray, List.set_cons_zero, List.set_cons_succ, i64_w, i32_w]
                                              rfl
                                            refine pure_ (i := 4) (N := some 69) (v := ?_) (a' := ?_) #[true, false, true, true, true, false, false, false, false, false, false] rfl rfl (any_of HT_.out (by kernel_rfl)) (fun _ _ _ h => h) (Or.inl ⟨by rfl, ?_⟩) ?_ ?_
                                            rotate_left
                                            · intro w'
                                              go_simp
                                              with_reducible rfl
                                            rotate_left
                                            · simp only [Act.put, List.setIfInBounds_toArray, List.set_cons_zero, List.set_cons_succ, i64_w, i32_w]
                                              rfl
                                            refine pure_ (i := 5) (N := some 70) (v := ?_) (a' := ?_) #[true, false, true, true, true, true, false, false, false, false, false] rfl rfl (any_of HT_.out (by kernel_rfl)) (fun _ _ _ h => h) (Or.inl ⟨by rfl, ?_⟩) ?_ ?_
                                            rotate_left
                                            · intro w'
                                              go_simp
                                              with_reducible rfl
                                            rotate_left
                                            · simp only [Act.put, List.setIfInBounds_toArray, List.set_cons_zero, List.set_cons_succ, i64_w, i32_w]
                                              rfl
                                            refine pure_ (i := 6) (N := some 71) (v := ?_) (a' := ?_) #[true, false, true, true, true, true, true, false, false, false, false] rfl rfl (any_of HT_.out (by kernel_rfl)) (fun _ _ _ h => h) (Or.inl ⟨by rfl, ?_⟩) ?_ ?_
                                            rotate_left
                                            · intro w'
                                              go_simp
                                              with_reducible rfl
                                            rotate_left
                                            · simp only [Act.put, List.setIfInBounds_toArray, List.set_cons_zero, List.set_cons_succ, i64_w, i32_w]
                                              rfl
                                            refine pure_ (i := 7) (N := some 72) (v := ?_) (a' := ?_) #[true, false, true, true, true, true, true, true, false, false, false] rfl rfl (any_of HT_.out (by kernel_rfl)) (fun _ _ _ h => h) (Or.inl ⟨by rfl, ?_⟩) ?_ ?_
                                            rotate_left
                                            · intro w'
                                              go_simp
                                              with_reducible rfl
                                            rotate_left
                                            · simp only [Act.put, List.setIfInBounds_toArray, List.set_cons_zero, List.set_cons_succ, i64_w, i32_w]
                                              rfl
                                            refine pure_ (i := 8) (N := some 73) (v := ?_) (a' := ?_) #[true, false, true, true, true, true, true, true, true, false, false] rfl rfl (any_of HT_.out (by kernel_rfl)) (fun _ _ _ h => h) (Or.inl ⟨by rfl, ?_⟩) ?_ ?_
                                            rotate_left
                                            · intro w'
                                              go_simp
                                              with_reducible rfl
                                            rotate_left
                                            · simp only [Act.put, List.setIfInBounds_toArray, List.set_cons_zero, List.set_cons_succ, i64_w, i32_w]
                                              rfl
                                            refine one_ (i := 1) (N := some 66) #[true, true, true, true, true, true, true, true, true, false, false] rfl rfl (one_of HT_.out (by kernel_rfl)) (by decide) (fun K hK => ?_)
                                            refine goes_ Try.func12 (by kernel_rfl) rfl #[.slice Ao46 y175.length co46] (by rfl) rfl rfl (by (try simp only [List.map_toArray, List.map_cons, List.map_nil]); first | done | rfl | (simp only [List.length_drop, List.length_take]; rfl)) ?_
                                            with_reducible refine (lockgateref04_Frame.calls kj13 _ _ y175 t178 _ ?side1 ?side2 A23.out).mono ?_
                                            (case side1 => repeat (first | exact (Kd.R_reads' HO177.out).2.2 | (with_reducible refine Kd.C_alloc ?_ _) | (with_reducible refine Kd.C_drewN ?_ _) | (with_reducible refine Kd.C_drew ?_)))
                                            (case side2 => exact (Kd.R_reads' HO177.out).2.1)
                                            rintro e w47 ⟨v179, rfl, ho0, hb⟩
                                            refine ⟨_, rfl, ?_⟩
                                            have n0_ := Aside0.mk (Kd.S_elder' (by (with_reducible repeat (first | apply Kd.S_alloc | apply Kd.S_drewN | apply Kd.S_drew)); exact HO_4.out) (Kd.R_base ho0) hb)
                                            have n1_ := Aside0.mk (Kd.R_elder' (by (with_reducible repeat (first | apply Kd.R_alloc | apply Kd.R_drewN | apply Kd.R_drew)); exact HO177.out) (Kd.R_base ho0) hb)
                                            have n2_ := Aside0.mk (Kd.R_lower (Kd.R_new' ho0 (Kd.R_lt (by (with_reducible repeat (first | apply Kd.R_alloc | apply Kd.R_drewN | apply Kd.R_drew)); exact HO177.out))) (below_size (by repeat (first | (with_reducible first | exact HB.out | apply below_alloc | apply pw_below_drewN | apply below_drew1) | exact HB.out))))
                                            have n3_ := Aside0.mk (below_step (by repeat (first | (with_reducible first | exact HB.out | apply below_alloc | apply pw_below_drewN | apply below_drew1) | exact HB.out)) hb)
                                            clear HO_4
                                            clear HO177
                                            clear HB
                                            have HO_4 := n0_
                                            have HO177 := n1_
                                            have HO180 := n2_
                                            have HB := n3_
                                            clear n0_ n1_ n2_ n3_
                                            (try clear hb)
                                            (try clear hb2)
                                            (try clear hk)
                                            (try clear hi)
                                            (try clear ho0)
                                            obtain ⟨Ao48, co48, eo48⟩ := Kd.R_slice HO180.out
                                            (first | subst eo48 | (injection eo48 with f1_ f2_ f3_; have f4_ := f1_.symm; have f5_ := f3_.symm; clear f1_ f2_ f3_; subst f4_; subst f5_))
                                            refine hK.out _ _ trivial (fun hHeld => ?_)
                                            clear hK K
                                            refine norm_ (a' := ?_) ?_ ?_
                                            rotate_left
                                            · show Act.put _ (some 66) _ = _
                                              simp only [Act.put, List.setIfInBounds_toArray, List.set_cons_zero, List.set_cons_succ, i64_w, i32_w]
                                              rfl
                                            refine one_ (i := 9) (N := some 74) #[true, true, true, true, true, true, true, true, true, true, false] rfl rfl (one_of HT_.out (by kernel_rfl)) (by decide) (fun K hK => ?_)
                                            refine goes_ Try.func10 (by kernel_rfl) rfl #[.slice Ao48 t178.length co48, .slice A45 ((l0.take ((wrap64 ((ji18) + (wrap64 ((wrap64 ((wrap64 ((wrap64 (rd l0 x5_1)) + (wrap64 (256 * (wrap64 (rd l0 (ji5))))))) + (wrap64 (65536 * (wrap64 (rd l0 (ji8))))))) + (wrap64 (16777216 * (wrap64 (rd l0 (ji11))))))))) : Int).toNat).drop (x5_1 : Int).toNat).length (c0 - x5_1.toNat)] (by rfl) rfl rfl (by (try simp only [List.map_toArray, List.map_cons, List.map_nil]); first | done | (rw [show ((l0.take ((wrap64 ((ji18) + (wrap64 ((wrap64 ((wrap64 ((wrap64 (rd l0 x5_1)) + (wrap64 (256 * (wrap64 (rd l0 (ji5))))))) + (wrap64 (65536 * (wrap64 (rd l0 (ji8))))))) + (wrap64 (16777216 * (wrap64 (rd l0 (ji11))))))))) : Int).toNat).drop (x5_1 : Int).toNat).length = ((wrap64 ((ji18) + (wrap64 ((wrap64 ((wrap64 ((wrap64 (rd l0 x5_1)) + (wrap64 (256 * (wrap64 (rd l0 (ji5))))))) + (wrap64 (65536 * (wrap64 (rd l0 (ji8))))))) + (wrap64 (16777216 * (wrap64 (rd l0 (ji11))))))))).toNat - x5_1.toNat) from (by rw [List.length_drop, List.length_take]; have h_ : ((wrap64 ((ji18) + (wrap64 ((wrap64 ((wrap64 ((wrap64 (rd l0 x5_1)) + (wrap64 (256 * (wrap64 (rd l0 (ji5))))))) + (wrap64 (65536 * (wrap64 (rd l0 (ji8))))))) + (wrap64 (16777216 * (wrap64 (rd l0 (ji11))))))))) : Int) ≤ (l0.length : Int) := of_decide_eq_true (by first | (with_reducible assumption) | assumption); omega)] <;> rfl) | (simp only [hji11, hji18, hji5, hji8]; rfl) | rfl | (simp only [List.length_drop, List.length_take]; rfl)) ?_
                                            with_reducible refine (lockgateref03_Same.calls kj13 _ _ t178 _ _ ((l0.take ((wrap64 ((ji18) + (wrap64 ((wrap64 ((wrap64 ((wrap64 (rd l0 x5_1)) + (wrap64 (256 * (wrap64 (rd l0 (ji5))))))) + (wrap64 (65536 * (wrap64 (rd l0 (ji8))))))) + (wrap64 (16777216 * (wrap64 (rd l0 (ji11))))))))) : Int).toNat).drop (x5_1 : Int).toNat) false _ ?side1 ?side2 ?side3 ?side4 A27.out).mono ?_
                                            (case side1 => repeat (first | exact (Kd.R_reads' HO180.out).2.2 | (with_reducible refine Kd.C_alloc ?_ _) | (with_reducible refine Kd.C_drewN ?_ _) | (with_reducible refine Kd.C_drew ?_)))
                                            (case side2 => exact (Kd.R_reads' HO180.out).2.1)
                                            (case side3 => repeat (first | exact (Kd.C_below HR181.out HB.out) | (with_reducible refine Kd.C_alloc ?_ _) | (with_reducible refine Kd.C_drewN ?_ _) | (with_reducible refine Kd.C_drew ?_)))
                                            (case side4 => exact HC181.out)
                                            rintro e w' ⟨rfl, ⟨nd, rfl⟩⟩
                                            refine ⟨_, rfl, ?_⟩
                                            refine hK.out _ _ trivial (fun hHeld => ?_)
                                            clear hK K
                                            refine norm_ (a' := ?_) ?_ ?_
                                            rotate_left
                                            · show Act.put _ (some 74) _ = _
                                              simp only [Act.put, List.setIfInBounds_toArray, List.set_cons_zero, List.set_cons_succ, i64_w, i32_w]
                                              rfl
                                            refine pure_ (i := 10) (N := some 75) (v := ?_) (a' := ?_) #[true, true, true, true, true, true, true, true, true, true, true] rfl rfl (any_of HT_.out (by kernel_rfl)) (fun _ _ _ h => h) (Or.inl ⟨by rfl, ?_⟩) ?_ ?_
                                            rotate_left
                                            · intro w'
                                              go_simp
                                              with_reducible rfl
                                            rotate_left
                                            · simp only [Act.put, List.setIfInBounds_toArray, List.set_cons_zero, List.set_cons_succ, i64_w, i32_w]
                                              rfl
                                            refine done_ (done_of HT_.out (by kernel_rfl)) ?_
                                            try go_wp2
                                            go_ret2
                                            exact ⟨_, by first | rfl | (simp [errW_none, errW_some] <;> rfl) | (simp only [← hji5, ← hji8, ← hji11, ← hji18]; first | rfl | (simp [errW_none, errW_some] <;> rfl)) | (simp [*, errW_none, errW_some] <;> rfl), by (with_reducible repeat (first | apply Kd.S_alloc | apply Kd.S_drewN | apply Kd.S_drew)); exact Kd.S_mono HO_4.out (fun _ hk => trivial), by repeat (first | (with_reducible first | exact HB.out | apply below_alloc | apply pw_below_drewN | apply below_drew1) | exact HB.out)⟩
                                        · rw [if_neg c25] at H
                                          exact absurd H (by simp)
                                      · rw [if_neg c24] at H
                                        exact absurd H (by simp)
                                    · rw [if_neg c22] at H
                                      exact absurd H (by simp)
                                  · rw [if_neg c21] at H
                                    exact absurd H (by simp)
                                · rw [if_neg c20] at H
                                  exact absurd H (by simp)
                              · rw [if_neg c19] at H
                                exact absurd H (by simp)
                      · rw [if_neg c13] at H
                        exact absurd H (by simp)
                    · rw [if_neg c12] at H
                      exact absurd H (by simp)
                  · rw [if_neg c10] at H
                    exact absurd H (by simp)
                · rw [if_neg c9] at H
                  exact absurd H (by simp)
              · rw [if_neg c7] at H
                exact absurd H (by simp)
            · rw [if_neg c6] at H
              exact absurd H (by simp)
          · rw [if_neg c4] at H
            exact absurd H (by simp)
        · rw [if_neg c3] at H
          exact absurd H (by simp)
      · rw [if_neg c2] at H
        have c2b0 : decide (12 ≤ (wrap64 ((l0.length : Int) - x5_1))) = false := decide_eq_false c2
        clear c2
        simp only [Option.some.injEq, Prod.mk.injEq] at H
        obtain ⟨rfl, rfl⟩ := H
        go_wp2
        go_ret2
        exact ⟨_, by first | rfl | (simp [errW_none, errW_some] <;> rfl) | (simp [*, errW_none, errW_some] <;> rfl), by (with_reducible repeat (first | apply Kd.S_alloc | apply Kd.S_drewN | apply Kd.S_drew)); exact HO_4.out, by repeat (first | (with_reducible first | exact HB.out | apply below_alloc | apply pw_below_drewN | apply below_drew1) | exact HB.out)⟩

end Go.Proofs.Ytfjhioepaekffaa.PFrame
