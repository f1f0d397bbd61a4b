-- Written for this claim by the session's own driver of the kit's printer (mprint.py).
import Derived.Test.YtnieipjofnnpfaaPPlacex0
import Derived.Test.YtnieipjofnnpfaaPPlacex2
import Derived.Test.YtnieipjofnnpfaaPPlacex3
import Derived.Test.YtnieipjofnnpfaaPPlacex4
import Derived.Test.YtnieipjofnnpfaaPPlacex5
namespace Go.Proofs.Ytnieipjofnnpfaa.PPlace
open Go.RowKit Go.Proofs.YtnieipjofnnpfaaW.PrintWords Go.Proofs.YtnieipjofnnpfaaW.PrintLast Go.Proofs.YtnieipjofnnpfaaW.PrintMore
attribute [local go_sem] max2_int min2_int max_two min_two max_three min_three max_four min_four   -- for this text's walks alone
set_option linter.unusedVariables false
set_option linter.unusedSimpArgs false

/-! ### lockgatelaw17_PlaceKeeps: function 4 -/
mutual
def lockgatelaw17_PlaceKeeps.j0 : Nat → Int → List (S24) → List (S24) → Int → Bool → Option (Bool)
  | 0, _, _, _, _, _ => none
  | k + 1, x0, x1, x2, x3, x27 => if x27 = true then ((lockgatelaw17_awake.f).bind fun t193 => (some t193)) else ((place_Chain.f k x0 x1 x2 x3).bind fun t194 => (if (t194.length : Int) < (x1.length : Int) then (lockgatelaw17_PlaceKeeps.j1 k x1 x2 x3 t194 true) else (if 0 ≤ (x1.length : Int) then (if (x1.length : Int) ≤ (t194.length : Int) then ((lockgateref16_Same.f k (t194.take ((x1.length : Int) : Int).toNat) x1).bind fun t201 => (if t201 = true then (if (t194.length : Int) > (x1.length : Int) then (lockgatelaw17_PlaceKeeps.j1 k x1 x2 x3 t194 (decide ((t194.length : Int) > x3))) else (lockgatelaw17_PlaceKeeps.j1 k x1 x2 x3 t194 false)) else (lockgatelaw17_PlaceKeeps.j1 k x1 x2 x3 t194 true))) else (none)) else (none))))
def lockgatelaw17_PlaceKeeps.j1 : Nat → List (S24) → List (S24) → Int → List (S24) → Bool → Option (Bool)
  | 0, _, _, _, _, _ => none
  | k + 1, x1, x2, x3, x9, x60 => if x60 = true then (some false) else (lockgatelaw17_PlaceKeeps.l0 k x1 x2 x3 x9 0 0)
def lockgatelaw17_PlaceKeeps.l0 : Nat → List (S24) → List (S24) → Int → List (S24) → Int → Int → Option (Bool)
  | 0, _, _, _, _, _, _ => none
  | k + 1, x1, x2, x3, x9, x10, x11 => if x11 < (x2.length : Int) then (lockgatelaw17_PlaceKeeps.l1 k x1 x2 x3 x9 x10 x11 false 0) else (lockgatelaw17_PlaceKeeps.l2 k x1 x2 x3 x9 x10 0)
def lockgatelaw17_PlaceKeeps.l1 : Nat → List (S24) → List (S24) → Int → List (S24) → Int → Int → Bool → Int → Option (Bool)
  | 0, _, _, _, _, _, _, _, _ => none
  | k + 1, x1, x2, x3, x9, x10, x11, x12, x13 => if x13 < (x9.length : Int) then (if x12 = true then (lockgatelaw17_PlaceKeeps.l1 k x1 x2 x3 x9 x10 x11 true (wrap64 (x13 + 1))) else (if 0 ≤ x13 then (if 0 ≤ x11 then (if x11 < (x2.length : Int) then (lockgatelaw17_PlaceKeeps.l1 k x1 x2 x3 x9 x10 x11 (((rd_T24 x9 x13).f0) == ((rd_T24 x2 x11).f0)) (wrap64 (x13 + 1))) else (none)) else (none)) else (none))) else (if x12 = true then (lockgatelaw17_PlaceKeeps.l0 k x1 x2 x3 x9 x10 (wrap64 (x11 + 1))) else (lockgatelaw17_PlaceKeeps.l0 k x1 x2 x3 x9 (wrap64 (x10 + 1)) (wrap64 (x11 + 1))))
def lockgatelaw17_PlaceKeeps.l2 : Nat → List (S24) → List (S24) → Int → List (S24) → Int → Int → Option (Bool)
  | 0, _, _, _, _, _, _ => none
  | k + 1, x1, x2, x3, x9, x10, x14 => if x14 < (x9.length : Int) then (if x14 ≥ (x1.length : Int) then (if 0 ≤ x14 then ((lockgateref16_Index.f k x2 ((rd_T24 x9 x14).f0) ((rd_T24 x9 x14).f1)).bind fun t205 => (lockgatelaw17_PlaceKeeps.j5 k x1 x2 x3 x9 x10 x14 (decide (t205 < 0)))) else (none)) else (lockgatelaw17_PlaceKeeps.j5 k x1 x2 x3 x9 x10 x14 false)) else (if x10 = 0 then (some true) else (some (decide ((x9.length : Int) ≥ x3))))
def lockgatelaw17_PlaceKeeps.j5 : Nat → List (S24) → List (S24) → Int → List (S24) → Int → Int → Bool → Option (Bool)
  | 0, _, _, _, _, _, _, _ => none
  | k + 1, x1, x2, x3, x9, x10, x14, x109 => if x109 = true then (some false) else (lockgatelaw17_PlaceKeeps.l3 k x1 x2 x3 x9 x10 x14 0)
def lockgatelaw17_PlaceKeeps.l3 : Nat → List (S24) → List (S24) → Int → List (S24) → Int → Int → Int → Option (Bool)
  | 0, _, _, _, _, _, _, _ => none
  | k + 1, x1, x2, x3, x9, x10, x14, x15 => if x15 < x14 then (if 0 ≤ x15 then (if x15 < (x9.length : Int) then (if 0 ≤ x14 then (if x14 < (x9.length : Int) then (if ((rd_T24 x9 x15).f0) = ((rd_T24 x9 x14).f0) then (some false) else (lockgatelaw17_PlaceKeeps.l3 k x1 x2 x3 x9 x10 x14 (wrap64 (x15 + 1)))) else (none)) else (none)) else (none)) else (none)) else (lockgatelaw17_PlaceKeeps.l2 k x1 x2 x3 x9 x10 (wrap64 (x14 + 1)))
end
def lockgatelaw17_PlaceKeeps.f (k : Nat) (a0 : Int) (l1 : List (S24)) (l2 : List (S24)) (a3 : Int) : Option (Bool) := (lockgatelaw17_awake.f).bind fun t191 => (if t191 = true then (if a0 < 0 then (lockgatelaw17_PlaceKeeps.j0 k a0 l1 l2 a3 true) else ((lockgatelaw17_right.f k l1 l2).bind fun t192 => (lockgatelaw17_PlaceKeeps.j0 k a0 l1 l2 a3 (!t192)))) else (lockgatelaw17_PlaceKeeps.j0 k a0 l1 l2 a3 true))
theorem lockgatelaw17_PlaceKeeps.mono_l : ∀ k, (∀ y0 y1 y2 y3 y4, LeO (lockgatelaw17_PlaceKeeps.j0 k y0 y1 y2 y3 y4) (lockgatelaw17_PlaceKeeps.j0 (k + 1) y0 y1 y2 y3 y4)) ∧ (∀ y0 y1 y2 y3 y4, LeO (lockgatelaw17_PlaceKeeps.j1 k y0 y1 y2 y3 y4) (lockgatelaw17_PlaceKeeps.j1 (k + 1) y0 y1 y2 y3 y4)) ∧ (∀ y0 y1 y2 y3 y4 y5, LeO (lockgatelaw17_PlaceKeeps.l0 k y0 y1 y2 y3 y4 y5) (lockgatelaw17_PlaceKeeps.l0 (k + 1) y0 y1 y2 y3 y4 y5)) ∧ (∀ y0 y1 y2 y3 y4 y5 y6 y7, LeO (lockgatelaw17_PlaceKeeps.l1 k y0 y1 y2 y3 y4 y5 y6 y7) (lockgatelaw17_PlaceKeeps.l1 (k + 1) y0 y1 y2 y3 y4 y5 y6 y7)) ∧ (∀ y0 y1 y2 y3 y4 y5, LeO (lockgatelaw17_PlaceKeeps.l2 k y0 y1 y2 y3 y4 y5) (lockgatelaw17_PlaceKeeps.l2 (k + 1) y0 y1 y2 y3 y4 y5)) ∧ (∀ y0 y1 y2 y3 y4 y5 y6, LeO (lockgatelaw17_PlaceKeeps.j5 k y0 y1 y2 y3 y4 y5 y6) (lockgatelaw17_PlaceKeeps.j5 (k + 1) y0 y1 y2 y3 y4 y5 y6)) ∧ (∀ y0 y1 y2 y3 y4 y5 y6, LeO (lockgatelaw17_PlaceKeeps.l3 k y0 y1 y2 y3 y4 y5 y6) (lockgatelaw17_PlaceKeeps.l3 (k + 1) y0 y1 y2 y3 y4 y5 y6))
  | 0 => ⟨fun _ _ _ _ _ r h => by simp [lockgatelaw17_PlaceKeeps.j0] at h, fun _ _ _ _ _ r h => by simp [lockgatelaw17_PlaceKeeps.j1] at h, fun _ _ _ _ _ _ r h => by simp [lockgatelaw17_PlaceKeeps.l0] at h, fun _ _ _ _ _ _ _ _ r h => by simp [lockgatelaw17_PlaceKeeps.l1] at h, fun _ _ _ _ _ _ r h => by simp [lockgatelaw17_PlaceKeeps.l2] at h, fun _ _ _ _ _ _ _ r h => by simp [lockgatelaw17_PlaceKeeps.j5] at h, fun _ _ _ _ _ _ _ r h => by simp [lockgatelaw17_PlaceKeeps.l3] at h⟩
  | k + 1 => by
    obtain ⟨ih0, ih1, ih2, ih3, ih4, ih5, ih6⟩ := lockgatelaw17_PlaceKeeps.mono_l k
    refine ⟨?_, ?_, ?_, ?_, ?_, ?_, ?_⟩
    · intro y0 y1 y2 y3 y4
      unfold lockgatelaw17_PlaceKeeps.j0
      repeat' first
      | (with_reducible exact ih0 _ _ _ _ _)
      | (with_reducible exact ih1 _ _ _ _ _)
      | (with_reducible exact ih2 _ _ _ _ _ _)
      | (with_reducible exact ih3 _ _ _ _ _ _ _ _)
      | (with_reducible exact ih4 _ _ _ _ _ _)
      | (with_reducible exact ih5 _ _ _ _ _ _ _)
      | (with_reducible exact ih6 _ _ _ _ _ _ _)
      | (with_reducible exact lockgatelaw17_right.mono _ _ _)
      | (with_reducible exact lockgateref16_Index.mono _ _ _ _)
      | (with_reducible exact lockgateref16_Same.mono _ _ _)
      | (with_reducible exact place_Chain.mono _ _ _ _ _)
      | (with_reducible exact LeO.refl _)
      | (with_reducible exact LeO.none _)
      | (with_reducible refine LeO.ite ?_ ?_)
      | (with_reducible refine LeO.bind ?_ (fun _ => ?_))
      | exact ih0 _ _ _ _ _
      | exact ih1 _ _ _ _ _
      | exact ih2 _ _ _ _ _ _
      | exact ih3 _ _ _ _ _ _ _ _
      | exact ih4 _ _ _ _ _ _
      | exact ih5 _ _ _ _ _ _ _
      | exact ih6 _ _ _ _ _ _ _
      | exact lockgatelaw17_right.mono _ _ _
      | exact lockgateref16_Index.mono _ _ _ _
      | exact lockgateref16_Same.mono _ _ _
      | exact place_Chain.mono _ _ _ _ _
      | exact LeO.none _
      | refine LeO.ite ?_ ?_
      | refine LeO.bind ?_ (fun _ => ?_)
    · intro y0 y1 y2 y3 y4
      unfold lockgatelaw17_PlaceKeeps.j1
      repeat' first
      | (with_reducible exact ih0 _ _ _ _ _)
      | (with_reducible exact ih1 _ _ _ _ _)
      | (with_reducible exact ih2 _ _ _ _ _ _)
      | (with_reducible exact ih3 _ _ _ _ _ _ _ _)
      | (with_reducible exact ih4 _ _ _ _ _ _)
      | (with_reducible exact ih5 _ _ _ _ _ _ _)
      | (with_reducible exact ih6 _ _ _ _ _ _ _)
      | (with_reducible exact lockgatelaw17_right.mono _ _ _)
      | (with_reducible exact lockgateref16_Index.mono _ _ _ _)
      | (with_reducible exact lockgateref16_Same.mono _ _ _)
      | (with_reducible exact place_Chain.mono _ _ _ _ _)
      | (with_reducible exact LeO.refl _)
      | (with_reducible exact LeO.none _)
      | (with_reducible refine LeO.ite ?_ ?_)
      | (with_reducible refine LeO.bind ?_ (fun _ => ?_))
      | exact ih0 _ _ _ _ _
      | exact ih1 _ _ _ _ _
      | exact ih2 _ _ _ _ _ _
      | exact ih3 _ _ _ _ _ _ _ _
      | exact ih4 _ _ _ _ _ _
      | exact ih5 _ _ _ _ _ _ _
      | exact ih6 _ _ _ _ _ _ _
      | exact lockgatelaw17_right.mono _ _ _
      | exact lockgateref16_Index.mono _ _ _ _
      | exact lockgateref16_Same.mono _ _ _
      | exact place_Chain.mono _ _ _ _ _
      | exact LeO.none _
      | refine LeO.ite ?_ ?_
      | refine LeO.bind ?_ (fun _ => ?_)
    · intro y0 y1 y2 y3 y4 y5
      unfold lockgatelaw17_PlaceKeeps.l0
      repeat' first
      | (with_reducible exact ih0 _ _ _ _ _)
      | (with_reducible exact ih1 _ _ _ _ _)
      | (with_reducible exact ih2 _ _ _ _ _ _)
      | (with_reducible exact ih3 _ _ _ _ _ _ _ _)
      | (with_reducible exact ih4 _ _ _ _ _ _)
      | (with_reducible exact ih5 _ _ _ _ _ _ _)
      | (with_reducible exact ih6 _ _ _ _ _ _ _)
      | (with_reducible exact lockgatelaw17_right.mono _ _ _)
      | (with_reducible exact lockgateref16_Index.mono _ _ _ _)
      | (with_reducible exact lockgateref16_Same.mono _ _ _)
      | (with_reducible exact place_Chain.mono _ _ _ _ _)
      | (with_reducible exact LeO.refl _)
      | (with_reducible exact LeO.none _)
      | (with_reducible refine LeO.ite ?_ ?_)
      | (with_reducible refine LeO.bind ?_ (fun _ => ?_))
      | exact ih0 _ _ _ _ _
      | exact ih1 _ _ _ _ _
      | exact ih2 _ _ _ _ _ _
      | exact ih3 _ _ _ _ _ _ _ _
      | exact ih4 _ _ _ _ _ _
      | exact ih5 _ _ _ _ _ _ _
      | exact ih6 _ _ _ _ _ _ _
      | exact lockgatelaw17_right.mono _ _ _
      | exact lockgateref16_Index.mono _ _ _ _
      | exact lockgateref16_Same.mono _ _ _
      | exact place_Chain.mono _ _ _ _ _
      | exact LeO.none _
      | refine LeO.ite ?_ ?_
      | refine LeO.bind ?_ (fun _ => ?_)
    · intro y0 y1 y2 y3 y4 y5 y6 y7
      unfold lockgatelaw17_PlaceKeeps.l1
      repeat' first
      | (with_reducible exact ih0 _ _ _ _ _)
      | (with_reducible exact ih1 _ _ _ _ _)
      | (with_reducible exact ih2 _ _ _ _ _ _)
      | (with_reducible exact ih3 _ _ _ _ _ _ _ _)
      | (with_reducible exact ih4 _ _ _ _ _ _)
      | (with_reducible exact ih5 _ _ _ _ _ _ _)
      | (with_reducible exact ih6 _ _ _ _ _ _ _)
      | (with_reducible exact lockgatelaw17_right.mono _ _ _)
      | (with_reducible exact lockgateref16_Index.mono _ _ _ _)
      | (with_reducible exact lockgateref16_Same.mono _ _ _)
      | (with_reducible exact place_Chain.mono _ _ _ _ _)
      | (with_reducible exact LeO.refl _)
      | (with_reducible exact LeO.none _)
      | (with_reducible refine LeO.ite ?_ ?_)
      | (with_reducible refine LeO.bind ?_ (fun _ => ?_))
      | exact ih0 _ _ _ _ _
      | exact ih1 _ _ _ _ _
      | exact ih2 _ _ _ _ _ _
      | exact ih3 _ _ _ _ _ _ _ _
      | exact ih4 _ _ _ _ _ _
      | exact ih5 _ _ _ _ _ _ _
      | exact ih6 _ _ _ _ _ _ _
      | exact lockgatelaw17_right.mono _ _ _
      | exact lockgateref16_Index.mono _ _ _ _
      | exact lockgateref16_Same.mono _ _ _
      | exact place_Chain.mono _ _ _ _ _
      | exact LeO.none _
      | refine LeO.ite ?_ ?_
      | refine LeO.bind ?_ (fun _ => ?_)
    · intro y0 y1 y2 y3 y4 y5
      unfold lockgatelaw17_PlaceKeeps.l2
      repeat' first
      | (with_reducible exact ih0 _ _ _ _ _)
      | (with_reducible exact ih1 _ _ _ _ _)
      | (with_reducible exact ih2 _ _ _ _ _ _)
      | (with_reducible exact ih3 _ _ _ _ _ _ _ _)
      | (with_reducible exact ih4 _ _ _ _ _ _)
      | (with_reducible exact ih5 _ _ _ _ _ _ _)
      | (with_reducible exact ih6 _ _ _ _ _ _ _)
      | (with_reducible exact lockgatelaw17_right.mono _ _ _)
      | (with_reducible exact lockgateref16_Index.mono _ _ _ _)
      | (with_reducible exact lockgateref16_Same.mono _ _ _)
      | (with_reducible exact place_Chain.mono _ _ _ _ _)
      | (with_reducible exact LeO.refl _)
      | (with_reducible exact LeO.none _)
      | (with_reducible refine LeO.ite ?_ ?_)
      | (with_reducible refine LeO.bind ?_ (fun _ => ?_))
      | exact ih0 _ _ _ _ _
      | exact ih1 _ _ _ _ _
      | exact ih2 _ _ _ _ _ _
      | exact ih3 _ _ _ _ _ _ _ _
      | exact ih4 _ _ _ _ _ _
      | exact ih5 _ _ _ _ _ _ _
      | exact ih6 _ _ _ _ _ _ _
      | exact lockgatelaw17_right.mono _ _ _
      | exact lockgateref16_Index.mono _ _ _ _
      | exact lockgateref16_Same.mono _ _ _
      | exact place_Chain.mono _ _ _ _ _
      | exact LeO.none _
      | refine LeO.ite ?_ ?_
      | refine LeO.bind ?_ (fun _ => ?_)
    · intro y0 y1 y2 y3 y4 y5 y6
      unfold lockgatelaw17_PlaceKeeps.j5
      repeat' first
      | (with_reducible exact ih0 _ _ _ _ _)
      | (with_reducible exact ih1 _ _ _ _ _)
      | (with_reducible exact ih2 _ _ _ _ _ _)
      | (with_reducible exact ih3 _ _ _ _ _ _ _ _)
      | (with_reducible exact ih4 _ _ _ _ _ _)
      | (with_reducible exact ih5 _ _ _ _ _ _ _)
      | (with_reducible exact ih6 _ _ _ _ _ _ _)
      | (with_reducible exact lockgatelaw17_right.mono _ _ _)
      | (with_reducible exact lockgateref16_Index.mono _ _ _ _)
      | (with_reducible exact lockgateref16_Same.mono _ _ _)
      | (with_reducible exact place_Chain.mono _ _ _ _ _)
      | (with_reducible exact LeO.refl _)
      | (with_reducible exact LeO.none _)
      | (with_reducible refine LeO.ite ?_ ?_)
      | (with_reducible refine LeO.bind ?_ (fun _ => ?_))
      | exact ih0 _ _ _ _ _
      | exact ih1 _ _ _ _ _
      | exact ih2 _ _ _ _ _ _
      | exact ih3 _ _ _ _ _ _ _ _
      | exact ih4 _ _ _ _ _ _
      | exact ih5 _ _ _ _ _ _ _
      | exact ih6 _ _ _ _ _ _ _
      | exact lockgatelaw17_right.mono _ _ _
      | exact lockgateref16_Index.mono _ _ _ _
      | exact lockgateref16_Same.mono _ _ _
      | exact place_Chain.mono _ _ _ _ _
      | exact LeO.none _
      | refine LeO.ite ?_ ?_
      | refine LeO.bind ?_ (fun _ => ?_)
    · intro y0 y1 y2 y3 y4 y5 y6
      unfold lockgatelaw17_PlaceKeeps.l3
      repeat' first
      | (with_reducible exact ih0 _ _ _ _ _)
      | (with_reducible exact ih1 _ _ _ _ _)
      | (with_reducible exact ih2 _ _ _ _ _ _)
      | (with_reducible exact ih3 _ _ _ _ _ _ _ _)
      | (with_reducible exact ih4 _ _ _ _ _ _)
      | (with_reducible exact ih5 _ _ _ _ _ _ _)
      | (with_reducible exact ih6 _ _ _ _ _ _ _)
      | (with_reducible exact lockgatelaw17_right.mono _ _ _)
      | (with_reducible exact lockgateref16_Index.mono _ _ _ _)
      | (with_reducible exact lockgateref16_Same.mono _ _ _)
      | (with_reducible exact place_Chain.mono _ _ _ _ _)
      | (with_reducible exact LeO.refl _)
      | (with_reducible exact LeO.none _)
      | (with_reducible refine LeO.ite ?_ ?_)
      | (with_reducible refine LeO.bind ?_ (fun _ => ?_))
      | exact ih0 _ _ _ _ _
      | exact ih1 _ _ _ _ _
      | exact ih2 _ _ _ _ _ _
      | exact ih3 _ _ _ _ _ _ _ _
      | exact ih4 _ _ _ _ _ _
      | exact ih5 _ _ _ _ _ _ _
      | exact ih6 _ _ _ _ _ _ _
      | exact lockgatelaw17_right.mono _ _ _
      | exact lockgateref16_Index.mono _ _ _ _
      | exact lockgateref16_Same.mono _ _ _
      | exact place_Chain.mono _ _ _ _ _
      | exact LeO.none _
      | refine LeO.ite ?_ ?_
      | refine LeO.bind ?_ (fun _ => ?_)
theorem lockgatelaw17_PlaceKeeps.mono : ∀ a0 a1 a2 a3 k, LeO (lockgatelaw17_PlaceKeeps.f k a0 a1 a2 a3) (lockgatelaw17_PlaceKeeps.f (k + 1) a0 a1 a2 a3) := by
  intro a0 a1 a2 a3 k
  obtain ⟨ih0, ih1, ih2, ih3, ih4, ih5, ih6⟩ := lockgatelaw17_PlaceKeeps.mono_l k
  unfold lockgatelaw17_PlaceKeeps.f
  repeat' first
      | (with_reducible exact ih0 _ _ _ _ _)
      | (with_reducible exact ih1 _ _ _ _ _)
      | (with_reducible exact ih2 _ _ _ _ _ _)
      | (with_reducible exact ih3 _ _ _ _ _ _ _ _)
      | (with_reducible exact ih4 _ _ _ _ _ _)
      | (with_reducible exact ih5 _ _ _ _ _ _ _)
      | (with_reducible exact ih6 _ _ _ _ _ _ _)
      | (with_reducible exact lockgatelaw17_right.mono _ _ _)
      | (with_reducible exact lockgateref16_Index.mono _ _ _ _)
      | (with_reducible exact lockgateref16_Same.mono _ _ _)
      | (with_reducible exact place_Chain.mono _ _ _ _ _)
      | (with_reducible exact LeO.refl _)
      | (with_reducible exact LeO.none _)
      | (with_reducible refine LeO.ite ?_ ?_)
      | (with_reducible refine LeO.bind ?_ (fun _ => ?_))
      | exact ih0 _ _ _ _ _
      | exact ih1 _ _ _ _ _
      | exact ih2 _ _ _ _ _ _
      | exact ih3 _ _ _ _ _ _ _ _
      | exact ih4 _ _ _ _ _ _
      | exact ih5 _ _ _ _ _ _ _
      | exact ih6 _ _ _ _ _ _ _
      | exact lockgatelaw17_right.mono _ _ _
      | exact lockgateref16_Index.mono _ _ _ _
      | exact lockgateref16_Same.mono _ _ _
      | exact place_Chain.mono _ _ _ _ _
      | exact LeO.none _
      | refine LeO.ite ?_ ?_
      | refine LeO.bind ?_ (fun _ => ?_)
set_option maxHeartbeats 8000000 in
set_option maxRecDepth 100000 in
theorem lockgatelaw17_PlaceKeeps.calls (k : Nat) (a0 : Int) (A1 : Option Addr) (c1 : Nat) (l1 : List (S24)) (A2 : Option Addr) (c2 : Nat) (l2 : List (S24)) (a3 : Int) (r : Bool) (w : World) (hr1 : Kd.C k24 w A1 l1.length l1) (hc1 : l1.length ≤ c1) (hr2 : Kd.C k24 w A2 l2.length l2) (hc2 : l2.length ≤ c2) (h : lockgatelaw17_PlaceKeeps.f k a0 l1 l2 a3 = some r) :
    Calls Try.prog 4 #[.int .i64 a0, .slice A1 l1.length c1, .slice A2 l2.length c2, .int .i64 a3] w fun e w' => e = .returned (.bool r) ∧ Below w.heap.size w w' := by
  have hu24 := Try.underlying24
  have HR1 := Aside0.mk hr1
  have HC1 := Aside0.mk hc1
  clear hr1 hc1
  have HR2 := Aside0.mk hr2
  have HC2 := Aside0.mk hc2
  clear hr2 hc2
  have HB := Aside0.mk (Below.refl w.heap.size w)
  have H : ((lockgatelaw17_awake.f).bind fun t191 => (if t191 = true then (if a0 < 0 then (lockgatelaw17_PlaceKeeps.j0 k a0 l1 l2 a3 true) else ((lockgatelaw17_right.f k l1 l2).bind fun t192 => (lockgatelaw17_PlaceKeeps.j0 k a0 l1 l2 a3 (!t192)))) else (lockgatelaw17_PlaceKeeps.j0 k a0 l1 l2 a3 true))) = some r := h
  clear h
  have HC5 := Aside0.mk H
  clear H
  go_enter Try.func4, Try.ntmps4
  go_upto_region 1 with (fail)
  repeat (go_quiet (fail); go_upto_region 1 with (fail))
  go_cut [27] (fun v27 wc => ∃ (kq : Nat) (x27_4 : Bool), v27 = .bool x27_4 ∧ Aside0 (lockgatelaw17_PlaceKeeps.j0 kq a0 l1 l2 a3 x27_4 = some r) ∧ Aside0 (kq ≤ k) ∧ Aside0 (Below w.heap.size w wc))
  case first =>
    have H := HC5.out
    clear HC5
    replace H := Option.bind_eq_some_iff.mp H
    obtain ⟨t191, A60, H⟩ := H
    replace H : (if t191 = true then (if a0 < 0 then (lockgatelaw17_PlaceKeeps.j0 k a0 l1 l2 a3 true) else ((lockgatelaw17_right.f k l1 l2).bind fun t192 => (lockgatelaw17_PlaceKeeps.j0 k a0 l1 l2 a3 (!t192)))) else (lockgatelaw17_PlaceKeeps.j0 k a0 l1 l2 a3 true)) = some r := H
    have A6 := Aside0.mk A60
    clear A60
    by_cases c7 : t191 = true
    · subst c7
      have H1 : (if a0 < 0 then (lockgatelaw17_PlaceKeeps.j0 k a0 l1 l2 a3 true) else ((lockgatelaw17_right.f k l1 l2).bind fun t192 => (lockgatelaw17_PlaceKeeps.j0 k a0 l1 l2 a3 (!t192)))) = some r := by rw [if_pos rfl] at H; exact H
      clear H
      have H := H1
      clear H1
      by_cases c8 : a0 < 0
      · rw [if_pos c8] at H
        have c8b0 : decide (a0 < 0) = true := decide_eq_true c8
        clear c8
        (first | rw [c8b0] | (simp only [i64_w, i32_w]; rw [c8b0]) | skip)
        have H' := Aside0.mk H
        clear H
        go_wp2_with (first | (go_at_call 7; (with_reducible refine (lockgatelaw17_awake.calls  true _ A6.out).mono ?_); rintro e w9 ⟨rfl, hb⟩; have n0_ := Aside0.mk (below_step (by repeat (first | (with_reducible first | exact HB.out | apply below_alloc | apply pw_below_drewN | apply below_drew1) | exact HB.out)) hb); clear HB; have HB := n0_; clear n0_; (try clear hb); (try clear hb2); (try clear hk); (try clear hi)))
        repeat (go_quiet (first | (go_at_call 7; (with_reducible refine (lockgatelaw17_awake.calls  true _ A6.out).mono ?_); rintro e w9 ⟨rfl, hb⟩; have n0_ := Aside0.mk (below_step (by repeat (first | (with_reducible first | exact HB.out | apply below_alloc | apply pw_below_drewN | apply below_drew1) | exact HB.out)) hb); clear HB; have HB := n0_; clear n0_; (try clear hb); (try clear hb2); (try clear hk); (try clear hi))); try go_wp2_with (first | (go_at_call 7; (with_reducible refine (lockgatelaw17_awake.calls  true _ A6.out).mono ?_); rintro e w9 ⟨rfl, hb⟩; have n0_ := Aside0.mk (below_step (by repeat (first | (with_reducible first | exact HB.out | apply below_alloc | apply pw_below_drewN | apply below_drew1) | exact HB.out)) hb); clear HB; have HB := n0_; clear n0_; (try clear hb); (try clear hb2); (try clear hk); (try clear hi))))
        go_meet
        case rel => exact ⟨_, (true), (by first | rfl | (simp; done) | (simp [*]; done)), H', ⟨by first | omega | exact Nat.le_refl _⟩, ⟨by repeat (first | (with_reducible first | exact HB.out | apply below_alloc | apply pw_below_drewN | apply below_drew1) | exact HB.out)⟩⟩
      · rw [if_neg c8] at H
        have c8b0 : decide (a0 < 0) = false := decide_eq_false c8
        clear c8
        (first | rw [c8b0] | (simp only [i64_w, i32_w]; rw [c8b0]) | skip)
        replace H := Option.bind_eq_some_iff.mp H
        obtain ⟨t192, A100, H⟩ := H
        replace H : (lockgatelaw17_PlaceKeeps.j0 k a0 l1 l2 a3 (!t192)) = some r := H
        have A10 := Aside0.mk A100
        clear A100
        have H' := Aside0.mk H
        clear H
        go_wp2_with (first | (go_at_call 7; (with_reducible refine (lockgatelaw17_awake.calls  true _ A6.out).mono ?_); rintro e w11 ⟨rfl, hb⟩; have n0_ := Aside0.mk (below_step (by repeat (first | (with_reducible first | exact HB.out | apply below_alloc | apply pw_below_drewN | apply below_drew1) | exact HB.out)) hb); clear HB; have HB := n0_; clear n0_; (try clear hb); (try clear hb2); (try clear hk); (try clear hi)) | (go_at_call 8; (with_reducible refine (lockgatelaw17_right.calls k _ _ l1 _ _ l2 t192 _ ?side1 ?side2 ?side3 ?side4 A10.out).mono ?_); (case side1 => repeat (first | exact (Kd.C_below HR1.out HB.out) | (with_reducible refine Kd.C_alloc ?_ _) | (with_reducible refine Kd.C_drewN ?_ _) | (with_reducible refine Kd.C_drew ?_))); (case side2 => exact HC1.out); (case side3 => repeat (first | exact (Kd.C_below HR2.out HB.out) | (with_reducible refine Kd.C_alloc ?_ _) | (with_reducible refine Kd.C_drewN ?_ _) | (with_reducible refine Kd.C_drew ?_))); (case side4 => exact HC2.out); rintro e w' ⟨rfl, ⟨nd, rfl⟩⟩; (try first | exact ⟨rfl, _, World.drewN_drewN _ _ _⟩ | exact ⟨rfl, _, Eq.trans (World.drewN_drewN _ _ _) (congrArg (World.drewN _) (Nat.add_assoc _ _ _))⟩)))
        repeat (go_quiet (first | (go_at_call 7; (with_reducible refine (lockgatelaw17_awake.calls  true _ A6.out).mono ?_); rintro e w11 ⟨rfl, hb⟩; have n0_ := Aside0.mk (below_step (by repeat (first | (with_reducible first | exact HB.out | apply below_alloc | apply pw_below_drewN | apply below_drew1) | exact HB.out)) hb); clear HB; have HB := n0_; clear n0_; (try clear hb); (try clear hb2); (try clear hk); (try clear hi)) | (go_at_call 8; (with_reducible refine (lockgatelaw17_right.calls k _ _ l1 _ _ l2 t192 _ ?side1 ?side2 ?side3 ?side4 A10.out).mono ?_); (case side1 => repeat (first | exact (Kd.C_below HR1.out HB.out) | (with_reducible refine Kd.C_alloc ?_ _) | (with_reducible refine Kd.C_drewN ?_ _) | (with_reducible refine Kd.C_drew ?_))); (case side2 => exact HC1.out); (case side3 => repeat (first | exact (Kd.C_below HR2.out HB.out) | (with_reducible refine Kd.C_alloc ?_ _) | (with_reducible refine Kd.C_drewN ?_ _) | (with_reducible refine Kd.C_drew ?_))); (case side4 => exact HC2.out); rintro e w' ⟨rfl, ⟨nd, rfl⟩⟩; (try first | exact ⟨rfl, _, World.drewN_drewN _ _ _⟩ | exact ⟨rfl, _, Eq.trans (World.drewN_drewN _ _ _) (congrArg (World.drewN _) (Nat.add_assoc _ _ _))⟩))); try go_wp2_with (first | (go_at_call 7; (with_reducible refine (lockgatelaw17_awake.calls  true _ A6.out).mono ?_); rintro e w11 ⟨rfl, hb⟩; have n0_ := Aside0.mk (below_step (by repeat (first | (with_reducible first | exact HB.out | apply below_alloc | apply pw_below_drewN | apply below_drew1) | exact HB.out)) hb); clear HB; have HB := n0_; clear n0_; (try clear hb); (try clear hb2); (try clear hk); (try clear hi)) | (go_at_call 8; (with_reducible refine (lockgatelaw17_right.calls k _ _ l1 _ _ l2 t192 _ ?side1 ?side2 ?side3 ?side4 A10.out).mono ?_); (case side1 => repeat (first | exact (Kd.C_below HR1.out HB.out) | (with_reducible refine Kd.C_alloc ?_ _) | (with_reducible refine Kd.C_drewN ?_ _) | (with_reducible refine Kd.C_drew ?_))); (case side2 => exact HC1.out); (case side3 => repeat (first | exact (Kd.C_below HR2.out HB.out) | (with_reducible refine Kd.C_alloc ?_ _) | (with_reducible refine Kd.C_drewN ?_ _) | (with_reducible refine Kd.C_drew ?_))); (case side4 => exact HC2.out); rintro e w' ⟨rfl, ⟨nd, rfl⟩⟩; (try first | exact ⟨rfl, _, World.drewN_drewN _ _ _⟩ | exact ⟨rfl, _, Eq.trans (World.drewN_drewN _ _ _) (congrArg (World.drewN _) (Nat.add_assoc _ _ _))⟩))))
        go_meet
        case rel => exact ⟨_, (!t192), (by first | rfl | (simp; done) | (simp [*]; done)), H', ⟨by first | omega | exact Nat.le_refl _⟩, ⟨by repeat (first | (with_reducible first | exact HB.out | apply below_alloc | apply pw_below_drewN | apply below_drew1) | exact HB.out)⟩⟩
    · replace c7 := Bool.eq_false_iff.mpr c7
      subst c7
      have H1 : (lockgatelaw17_PlaceKeeps.j0 k a0 l1 l2 a3 true) = some r := by rw [if_neg (show ¬ (false = true) by decide)] at H; exact H
      clear H
      have H := H1
      clear H1
      have H' := Aside0.mk H
      clear H
      go_wp2_with (first | (go_at_call 7; (with_reducible refine (lockgatelaw17_awake.calls  false _ A6.out).mono ?_); rintro e w12 ⟨rfl, hb⟩; have n0_ := Aside0.mk (below_step (by repeat (first | (with_reducible first | exact HB.out | apply below_alloc | apply pw_below_drewN | apply below_drew1) | exact HB.out)) hb); clear HB; have HB := n0_; clear n0_; (try clear hb); (try clear hb2); (try clear hk); (try clear hi)))
      repeat (go_quiet (first | (go_at_call 7; (with_reducible refine (lockgatelaw17_awake.calls  false _ A6.out).mono ?_); rintro e w12 ⟨rfl, hb⟩; have n0_ := Aside0.mk (below_step (by repeat (first | (with_reducible first | exact HB.out | apply below_alloc | apply pw_below_drewN | apply below_drew1) | exact HB.out)) hb); clear HB; have HB := n0_; clear n0_; (try clear hb); (try clear hb2); (try clear hk); (try clear hi))); try go_wp2_with (first | (go_at_call 7; (with_reducible refine (lockgatelaw17_awake.calls  false _ A6.out).mono ?_); rintro e w12 ⟨rfl, hb⟩; have n0_ := Aside0.mk (below_step (by repeat (first | (with_reducible first | exact HB.out | apply below_alloc | apply pw_below_drewN | apply below_drew1) | exact HB.out)) hb); clear HB; have HB := n0_; clear n0_; (try clear hb); (try clear hb2); (try clear hk); (try clear hi))))
      go_meet
      case rel => exact ⟨_, (true), (by first | rfl | (simp; done) | (simp [*]; done)), H', ⟨by first | omega | exact Nat.le_refl _⟩, ⟨by repeat (first | (with_reducible first | exact HB.out | apply below_alloc | apply pw_below_drewN | apply below_drew1) | exact HB.out)⟩⟩
  case rest =>
    clear HC5
    try clear c1
    try clear c2
    try clear p2
    try clear c4
    try clear c7
    try clear c8
    try clear c8b0
    obtain ⟨kq, x27_4, rfl, HA, HJ4, HB⟩ := hcut
    cases kq with
    | zero => exact absurd HA.out (by simp [lockgatelaw17_PlaceKeeps.j0])
    | succ kj4 =>
      have H := HA.out
      clear HA
      simp only [lockgatelaw17_PlaceKeeps.j0] at H
      by_cases c13 : x27_4 = true
      · subst c13
        have H1 : ((lockgatelaw17_awake.f).bind fun t193 => (some t193)) = some r := by rw [if_pos rfl] at H; exact H
        clear H
        have H := H1
        clear H1
        replace H := Option.bind_eq_some_iff.mp H
        obtain ⟨t193, A140, H⟩ := H
        replace H : (some t193) = some r := H
        have A14 := Aside0.mk A140
        clear A140
        obtain rfl := Option.some.inj H
        go_wp2_with (first | (go_at_call 7; (with_reducible refine (lockgatelaw17_awake.calls  t193 _ A14.out).mono ?_); rintro e w15 ⟨rfl, hb⟩; have n0_ := Aside0.mk (below_step (by repeat (first | (with_reducible first | exact HB.out | apply below_alloc | apply pw_below_drewN | apply below_drew1) | exact HB.out)) hb); clear HB; have HB := n0_; clear n0_; (try clear hb); (try clear hb2); (try clear hk); (try clear hi)))
        repeat (go_quiet (first | (go_at_call 7; (with_reducible refine (lockgatelaw17_awake.calls  t193 _ A14.out).mono ?_); rintro e w15 ⟨rfl, hb⟩; have n0_ := Aside0.mk (below_step (by repeat (first | (with_reducible first | exact HB.out | apply below_alloc | apply pw_below_drewN | apply below_drew1) | exact HB.out)) hb); clear HB; have HB := n0_; clear n0_; (try clear hb); (try clear hb2); (try clear hk); (try clear hi))); try go_wp2_with (first | (go_at_call 7; (with_reducible refine (lockgatelaw17_awake.calls  t193 _ A14.out).mono ?_); rintro e w15 ⟨rfl, hb⟩; have n0_ := Aside0.mk (below_step (by repeat (first | (with_reducible first | exact HB.out | apply below_alloc | apply pw_below_drewN | apply below_drew1) | exact HB.out)) hb); clear HB; have HB := n0_; clear n0_; (try clear hb); (try clear hb2); (try clear hk); (try clear hi))))
        go_ret
        exact ⟨by first | rfl | (simp [errW_none, errW_some] <;> rfl) | (simp [*, errW_none, errW_some] <;> rfl), by repeat (first | (with_reducible first | exact HB.out | apply below_alloc | apply pw_below_drewN | apply below_drew1) | exact HB.out)⟩
      · replace c13 := Bool.eq_false_iff.mpr c13
        subst c13
        have H1 : ((place_Chain.f kj4 a0 l1 l2 a3).bind fun t194 => (if (t194.length : Int) < (l1.length : Int) then (lockgatelaw17_PlaceKeeps.j1 kj4 l1 l2 a3 t194 true) else (if 0 ≤ (l1.length : Int) then (if (l1.length : Int) ≤ (t194.length : Int) then ((lockgateref16_Same.f kj4 (t194.take ((l1.length : Int) : Int).toNat) l1).bind fun t201 => (if t201 = true then (if (t194.length : Int) > (l1.length : Int) then (lockgatelaw17_PlaceKeeps.j1 kj4 l1 l2 a3 t194 (decide ((t194.length : Int) > a3))) else (lockgatelaw17_PlaceKeeps.j1 kj4 l1 l2 a3 t194 false)) else (lockgatelaw17_PlaceKeeps.j1 kj4 l1 l2 a3 t194 true))) else (none)) else (none)))) = some r := by rw [if_neg (show ¬ (false = true) by decide)] at H; exact H
        clear H
        have H := H1
        clear H1
        replace H := Option.bind_eq_some_iff.mp H
        obtain ⟨t194, A160, H⟩ := H
        replace H : (if (t194.length : Int) < (l1.length : Int) then (lockgatelaw17_PlaceKeeps.j1 kj4 l1 l2 a3 t194 true) else (if 0 ≤ (l1.length : Int) then (if (l1.length : Int) ≤ (t194.length : Int) then ((lockgateref16_Same.f kj4 (t194.take ((l1.length : Int) : Int).toNat) l1).bind fun t201 => (if t201 = true then (if (t194.length : Int) > (l1.length : Int) then (lockgatelaw17_PlaceKeeps.j1 kj4 l1 l2 a3 t194 (decide ((t194.length : Int) > a3))) else (lockgatelaw17_PlaceKeeps.j1 kj4 l1 l2 a3 t194 false)) else (lockgatelaw17_PlaceKeeps.j1 kj4 l1 l2 a3 t194 true))) else (none)) else (none))) = some r := H
        have A16 := Aside0.mk A160
        clear A160
        have HC17 := Aside0.mk H
        clear H
        go_upto_region 4 with (first | (go_at_call 10; (with_reducible refine (place_Chain.calls kj4 a0 _ _ l1 _ _ l2 a3 t194 _ ?side1 ?side2 ?side3 ?side4 A16.out).mono ?_); (case side1 => repeat (first | exact (Kd.C_below HR1.out HB.out) | (with_reducible refine Kd.C_alloc ?_ _) | (with_reducible refine Kd.C_drewN ?_ _) | (with_reducible refine Kd.C_drew ?_))); (case side2 => exact HC1.out); (case side3 => repeat (first | exact (Kd.C_below HR2.out HB.out) | (with_reducible refine Kd.C_alloc ?_ _) | (with_reducible refine Kd.C_drewN ?_ _) | (with_reducible refine Kd.C_drew ?_))); (case side4 => exact HC2.out); rintro e w18 ⟨v195, rfl, ho0, hb⟩; have n0_ := Aside0.mk (Kd.R_lower ho0 (below_size (by repeat (first | (with_reducible first | exact HB.out | apply below_alloc | apply pw_below_drewN | apply below_drew1) | exact HB.out)))); have n1_ := Aside0.mk (below_step (by repeat (first | (with_reducible first | exact HB.out | apply below_alloc | apply pw_below_drewN | apply below_drew1) | exact HB.out)) hb); clear HB; have HO196 := n0_; have HB := n1_; clear n0_ n1_; (try clear hb); (try clear hb2); (try clear hk); (try clear hi); (try clear ho0)))
        repeat (go_quiet (first | (go_at_call 10; (with_reducible refine (place_Chain.calls kj4 a0 _ _ l1 _ _ l2 a3 t194 _ ?side1 ?side2 ?side3 ?side4 A16.out).mono ?_); (case side1 => repeat (first | exact (Kd.C_below HR1.out HB.out) | (with_reducible refine Kd.C_alloc ?_ _) | (with_reducible refine Kd.C_drewN ?_ _) | (with_reducible refine Kd.C_drew ?_))); (case side2 => exact HC1.out); (case side3 => repeat (first | exact (Kd.C_below HR2.out HB.out) | (with_reducible refine Kd.C_alloc ?_ _) | (with_reducible refine Kd.C_drewN ?_ _) | (with_reducible refine Kd.C_drew ?_))); (case side4 => exact HC2.out); rintro e w18 ⟨v195, rfl, ho0, hb⟩; have n0_ := Aside0.mk (Kd.R_lower ho0 (below_size (by repeat (first | (with_reducible first | exact HB.out | apply below_alloc | apply pw_below_drewN | apply below_drew1) | exact HB.out)))); have n1_ := Aside0.mk (below_step (by repeat (first | (with_reducible first | exact HB.out | apply below_alloc | apply pw_below_drewN | apply below_drew1) | exact HB.out)) hb); clear HB; have HO196 := n0_; have HB := n1_; clear n0_ n1_; (try clear hb); (try clear hb2); (try clear hk); (try clear hi); (try clear ho0))); go_upto_region 4 with (first | (go_at_call 10; (with_reducible refine (place_Chain.calls kj4 a0 _ _ l1 _ _ l2 a3 t194 _ ?side1 ?side2 ?side3 ?side4 A16.out).mono ?_); (case side1 => repeat (first | exact (Kd.C_below HR1.out HB.out) | (with_reducible refine Kd.C_alloc ?_ _) | (with_reducible refine Kd.C_drewN ?_ _) | (with_reducible refine Kd.C_drew ?_))); (case side2 => exact HC1.out); (case side3 => repeat (first | exact (Kd.C_below HR2.out HB.out) | (with_reducible refine Kd.C_alloc ?_ _) | (with_reducible refine Kd.C_drewN ?_ _) | (with_reducible refine Kd.C_drew ?_))); (case side4 => exact HC2.out); rintro e w18 ⟨v195, rfl, ho0, hb⟩; have n0_ := Aside0.mk (Kd.R_lower ho0 (below_size (by repeat (first | (with_reducible first | exact HB.out | apply below_alloc | apply pw_below_drewN | apply below_drew1) | exact HB.out)))); have n1_ := Aside0.mk (below_step (by repeat (first | (with_reducible first | exact HB.out | apply below_alloc | apply pw_below_drewN | apply below_drew1) | exact HB.out)) hb); clear HB; have HO196 := n0_; have HB := n1_; clear n0_ n1_; (try clear hb); (try clear hb2); (try clear hk); (try clear hi); (try clear ho0))))
        (try simp only [Act.put, List.setIfInBounds_toArray, List.set_cons_zero, List.set_cons_succ])
        go_cut [60] (fun v60 wc => ∃ (kq : Nat) (x60_16 : Bool), v60 = .bool x60_16 ∧ Aside0 (lockgatelaw17_PlaceKeeps.j1 kq l1 l2 a3 t194 x60_16 = some r) ∧ Aside0 (kq ≤ kj4) ∧ Aside0 (Kd.R k24 24 wc w.heap.size (fun _ => True) v195 t194) ∧ Aside0 (Below w.heap.size w wc))
        case first =>
          have H := HC17.out
          clear HC17
          by_cases c19 : (t194.length : Int) < (l1.length : Int)
          · rw [if_pos c19] at H
            have c19b0 : decide ((t194.length : Int) < (l1.length : Int)) = true := decide_eq_true c19
            have c19b1 : decide (t194.length < l1.length) = true := decide_eq_true (Int.ofNat_lt.mp c19)
            clear c19
            (first | rw [c19b0] | (simp only [i64_w, i32_w]; rw [c19b0]) | skip)
            have H' := Aside0.mk H
            clear H
            obtain ⟨Ao20, co20, eo20⟩ := Kd.R_slice HO196.out
            subst eo20
            go_wp2
            repeat (go_quiet (fail); try go_wp2)
            go_meet
            case rel => exact ⟨_, (true), (by first | rfl | (simp; done) | (simp [*]; done)), H', ⟨by have := HJ4.out; first | omega | exact Nat.le_refl _⟩, ⟨by (with_reducible repeat (first | apply Kd.R_alloc | apply Kd.R_drewN | apply Kd.R_drew)); exact HO196.out⟩, ⟨by repeat (first | (with_reducible first | exact HB.out | apply below_alloc | apply pw_below_drewN | apply below_drew1) | exact HB.out)⟩⟩
          · rw [if_neg c19] at H
            have c19b0 : decide ((t194.length : Int) < (l1.length : Int)) = false := decide_eq_false c19
            have c19b1 : decide (t194.length < l1.length) = false := decide_eq_false (fun h => c19 (Int.ofNat_lt.mpr h))
            clear c19
            (first | rw [c19b0] | (simp only [i64_w, i32_w]; rw [c19b0]) | skip)
            by_cases c21 : 0 ≤ (l1.length : Int)
            · rw [if_pos c21] at H
              have c21b0 := eq_true c21
              have c21b1 : decide (0 ≤ (l1.length : Int)) = true := decide_eq_true c21
              clear c21
              by_cases c22 : (l1.length : Int) ≤ (t194.length : Int)
              · rw [if_pos c22] at H
                have c22b0 := eq_true c22
                have c22b1 : decide ((l1.length : Int) ≤ (t194.length : Int)) = true := decide_eq_true c22
                clear c22
                obtain ⟨y197, hy197⟩ : ∃ y_ : List (S24), y_ = (t194.take ((l1.length : Int) : Int).toNat) := ⟨_, rfl⟩
                replace H : ((lockgateref16_Same.f kj4 y197 l1).bind fun t201 => (if t201 = true then (if (t194.length : Int) > (l1.length : Int) then (lockgatelaw17_PlaceKeeps.j1 kj4 l1 l2 a3 t194 (decide ((t194.length : Int) > a3))) else (lockgatelaw17_PlaceKeeps.j1 kj4 l1 l2 a3 t194 false)) else (lockgatelaw17_PlaceKeeps.j1 kj4 l1 l2 a3 t194 true))) = some r := by first | (rw [hy197]; with_reducible exact H) | (have H2_ := (Option.bind_some _ _).symm.trans H; rw [hy197]; with_reducible exact H2_) | (have H2_ := (Option.bind_some _ _).symm.trans H; with_reducible exact H2_) | with_reducible exact H | (rw [hy197]; exact H) | exact H
                have Ny197 := Aside0.mk hy197
                clear hy197
                replace H := Option.bind_eq_some_iff.mp H
                obtain ⟨t201, A230, H⟩ := H
                replace H : (if t201 = true then (if (t194.length : Int) > (l1.length : Int) then (lockgatelaw17_PlaceKeeps.j1 kj4 l1 l2 a3 t194 (decide ((t194.length : Int) > a3))) else (lockgatelaw17_PlaceKeeps.j1 kj4 l1 l2 a3 t194 false)) else (lockgatelaw17_PlaceKeeps.j1 kj4 l1 l2 a3 t194 true)) = some r := H
                have A23 := Aside0.mk A230
                clear A230
                by_cases c24 : t201 = true
                · subst c24
                  have H1 : (if (t194.length : Int) > (l1.length : Int) then (lockgatelaw17_PlaceKeeps.j1 kj4 l1 l2 a3 t194 (decide ((t194.length : Int) > a3))) else (lockgatelaw17_PlaceKeeps.j1 kj4 l1 l2 a3 t194 false)) = some r := by rw [if_pos rfl] at H; exact H
                  clear H
                  have H := H1
                  clear H1
                  by_cases c25 : (t194.length : Int) > (l1.length : Int)
                  · rw [if_pos c25] at H
                    have c25b0 : decide ((l1.length : Int) < (t194.length : Int)) = true := decide_eq_true c25
                    have c25b1 : decide (l1.length < t194.length) = true := decide_eq_true (Int.ofNat_lt.mp c25)
                    clear c25
                    have H' := Aside0.mk H
                    clear H
                    obtain ⟨Ao26, co26, eo26⟩ := Kd.R_slice HO196.out
                    subst eo26
                    have q27 : ((l1.length : Int) : Int) ≤ ((t194.length : Int) : Int) := of_decide_eq_true (by first | (with_reducible assumption) | assumption)
                    obtain ⟨i027, hi027, _, hsz27, _⟩ := info_parts info24
                    have hroom27 : t194.length ≤ co26 := (Kd.R_reads' HO196.out).2.1
                    have hC27 : Kd.C k24 _ Ao26 t194.length t194 := (Kd.R_reads' HO196.out).2.2
                    have hcut27 := cut_to (P := Try.prog) 22 24 .i64 Try.underlying22 hi027 Ao26 t194.length co26 (l1.length : Int) (of_decide_eq_true (by first | (with_reducible assumption) | assumption)) q27 hroom27
                    have hr27 := Kd.C_take (m := ((l1.length : Int) : Int).toNat) hC27 (by omega)
                    have hy27 : y197.length = ((l1.length : Int) : Int).toNat := (by rw [Ny197.out, List.length_take]; omega)
                    rw [← Ny197.out] at hr27
                    rw [← hy27] at hcut27
                    have HR200 := Aside0.mk hr27
                    have HC200 := Aside0.mk (show y197.length ≤ co26 from by omega)
                    clear hr27 hC27 hroom27 hi027 hsz27
                    have KY27 := Aside0.mk hy27
                    clear hy27
                    have KL27 := Aside0.mk (show ((l1.length : Int) : Int).toNat ≤ t194.length from by omega)
                    replace q27 := eq_true q27
                    go_wp2_with (first | (go_at_call 9; (with_reducible refine (lockgateref16_Same.calls kj4 _ _ y197 _ _ l1 true _ ?side1 ?side2 ?side3 ?side4 A23.out).mono ?_); (case side1 => repeat (first | exact (by repeat (first | (with_reducible exact HR200.out) | (with_reducible refine Kd.C_alloc ?_ _) | (with_reducible refine Kd.C_drewN ?_ _) | (with_reducible refine Kd.C_drew ?_) | exact HR200.out)) | (with_reducible refine Kd.C_alloc ?_ _) | (with_reducible refine Kd.C_drewN ?_ _) | (with_reducible refine Kd.C_drew ?_))); (case side2 => exact HC200.out); (case side3 => repeat (first | exact (Kd.C_below HR1.out HB.out) | (with_reducible refine Kd.C_alloc ?_ _) | (with_reducible refine Kd.C_drewN ?_ _) | (with_reducible refine Kd.C_drew ?_))); (case side4 => exact HC1.out); rintro e w' ⟨rfl, ⟨nd, rfl⟩⟩; (try first | exact ⟨rfl, _, World.drewN_drewN _ _ _⟩ | exact ⟨rfl, _, Eq.trans (World.drewN_drewN _ _ _) (congrArg (World.drewN _) (Nat.add_assoc _ _ _))⟩)))
                    repeat (go_quiet (first | (go_at_call 9; (with_reducible refine (lockgateref16_Same.calls kj4 _ _ y197 _ _ l1 true _ ?side1 ?side2 ?side3 ?side4 A23.out).mono ?_); (case side1 => repeat (first | exact (by repeat (first | (with_reducible exact HR200.out) | (with_reducible refine Kd.C_alloc ?_ _) | (with_reducible refine Kd.C_drewN ?_ _) | (with_reducible refine Kd.C_drew ?_) | exact HR200.out)) | (with_reducible refine Kd.C_alloc ?_ _) | (with_reducible refine Kd.C_drewN ?_ _) | (with_reducible refine Kd.C_drew ?_))); (case side2 => exact HC200.out); (case side3 => repeat (first | exact (Kd.C_below HR1.out HB.out) | (with_reducible refine Kd.C_alloc ?_ _) | (with_reducible refine Kd.C_drewN ?_ _) | (with_reducible refine Kd.C_drew ?_))); (case side4 => exact HC1.out); rintro e w' ⟨rfl, ⟨nd, rfl⟩⟩; (try first | exact ⟨rfl, _, World.drewN_drewN _ _ _⟩ | exact ⟨rfl, _, Eq.trans (World.drewN_drewN _ _ _) (congrArg (World.drewN _) (Nat.add_assoc _ _ _))⟩))); try go_wp2_with (first | (go_at_call 9; (with_reducible refine (lockgateref16_Same.calls kj4 _ _ y197 _ _ l1 true _ ?side1 ?side2 ?side3 ?side4 A23.out).mono ?_); (case side1 => repeat (first | exact (by repeat (first | (with_reducible exact HR200.out) | (with_reducible refine Kd.C_alloc ?_ _) | (with_reducible refine Kd.C_drewN ?_ _) | (with_reducible refine Kd.C_drew ?_) | exact HR200.out)) | (with_reducible refine Kd.C_alloc ?_ _) | (with_reducible refine Kd.C_drewN ?_ _) | (with_reducible refine Kd.C_drew ?_))); (case side2 => exact HC200.out); (case side3 => repeat (first | exact (Kd.C_below HR1.out HB.out) | (with_reducible refine Kd.C_alloc ?_ _) | (with_reducible refine Kd.C_drewN ?_ _) | (with_reducible refine Kd.C_drew ?_))); (case side4 => exact HC1.out); rintro e w' ⟨rfl, ⟨nd, rfl⟩⟩; (try first | exact ⟨rfl, _, World.drewN_drewN _ _ _⟩ | exact ⟨rfl, _, Eq.trans (World.drewN_drewN _ _ _) (congrArg (World.drewN _) (Nat.add_assoc _ _ _))⟩))))
                    go_meet
                    case rel => exact ⟨_, (decide ((t194.length : Int) > a3)), (by first | rfl | (simp; done) | (simp [*]; done)), H', ⟨by have := HJ4.out; first | omega | exact Nat.le_refl _⟩, ⟨by (with_reducible repeat (first | apply Kd.R_alloc | apply Kd.R_drewN | apply Kd.R_drew)); exact HO196.out⟩, ⟨by repeat (first | (with_reducible first | exact HB.out | apply below_alloc | apply pw_below_drewN | apply below_drew1) | exact HB.out)⟩⟩
                  · rw [if_neg c25] at H
                    have c25b0 : decide ((l1.length : Int) < (t194.length : Int)) = false := decide_eq_false c25
                    have c25b1 : decide (l1.length < t194.length) = false := decide_eq_false (fun h => c25 (Int.ofNat_lt.mpr h))
                    clear c25
                    have H' := Aside0.mk H
                    clear H
                    obtain ⟨Ao28, co28, eo28⟩ := Kd.R_slice HO196.out
                    subst eo28
                    have q29 : ((l1.length : Int) : Int) ≤ ((t194.length : Int) : Int) := of_decide_eq_true (by first | (with_reducible assumption) | assumption)
                    obtain ⟨i029, hi029, _, hsz29, _⟩ := info_parts info24
                    have hroom29 : t194.length ≤ co28 := (Kd.R_reads' HO196.out).2.1
                    have hC29 : Kd.C k24 _ Ao28 t194.length t194 := (Kd.R_reads' HO196.out).2.2
                    have hcut29 := cut_to (P := Try.prog) 22 24 .i64 Try.underlying22 hi029 Ao28 t194.length co28 (l1.length : Int) (of_decide_eq_true (by first | (with_reducible assumption) | assumption)) q29 hroom29
                    have hr29 := Kd.C_take (m := ((l1.length : Int) : Int).toNat) hC29 (by omega)
                    have hy29 : y197.length = ((l1.length : Int) : Int).toNat := (by rw [Ny197.out, List.length_take]; omega)
                    rw [← Ny197.out] at hr29
                    rw [← hy29] at hcut29
                    have HR200 := Aside0.mk hr29
                    have HC200 := Aside0.mk (show y197.length ≤ co28 from by omega)
                    clear hr29 hC29 hroom29 hi029 hsz29
                    have KY29 := Aside0.mk hy29
                    clear hy29
                    have KL29 := Aside0.mk (show ((l1.length : Int) : Int).toNat ≤ t194.length from by omega)
                    replace q29 := eq_true q29
                    go_wp2_with (first | (go_at_call 9; (with_reducible refine (lockgateref16_Same.calls kj4 _ _ y197 _ _ l1 true _ ?side1 ?side2 ?side3 ?side4 A23.out).mono ?_); (case side1 => repeat (first | exact (by repeat (first | (with_reducible exact HR200.out) | (with_reducible refine Kd.C_alloc ?_ _) | (with_reducible refine Kd.C_drewN ?_ _) | (with_reducible refine Kd.C_drew ?_) | exact HR200.out)) | (with_reducible refine Kd.C_alloc ?_ _) | (with_reducible refine Kd.C_drewN ?_ _) | (with_reducible refine Kd.C_drew ?_))); (case side2 => exact HC200.out); (case side3 => repeat (first | exact (Kd.C_below HR1.out HB.out) | (with_reducible refine Kd.C_alloc ?_ _) | (with_reducible refine Kd.C_drewN ?_ _) | (with_reducible refine Kd.C_drew ?_))); (case side4 => exact HC1.out); rintro e w' ⟨rfl, ⟨nd, rfl⟩⟩; (try first | exact ⟨rfl, _, World.drewN_drewN _ _ _⟩ | exact ⟨rfl, _, Eq.trans (World.drewN_drewN _ _ _) (congrArg (World.drewN _) (Nat.add_assoc _ _ _))⟩)))
                    repeat (go_quiet (first | (go_at_call 9; (with_reducible refine (lockgateref16_Same.calls kj4 _ _ y197 _ _ l1 true _ ?side1 ?side2 ?side3 ?side4 A23.out).mono ?_); (case side1 => repeat (first | exact (by repeat (first | (with_reducible exact HR200.out) | (with_reducible refine Kd.C_alloc ?_ _) | (with_reducible refine Kd.C_drewN ?_ _) | (with_reducible refine Kd.C_drew ?_) | exact HR200.out)) | (with_reducible refine Kd.C_alloc ?_ _) | (with_reducible refine Kd.C_drewN ?_ _) | (with_reducible refine Kd.C_drew ?_))); (case side2 => exact HC200.out); (case side3 => repeat (first | exact (Kd.C_below HR1.out HB.out) | (with_reducible refine Kd.C_alloc ?_ _) | (with_reducible refine Kd.C_drewN ?_ _) | (with_reducible refine Kd.C_drew ?_))); (case side4 => exact HC1.out); rintro e w' ⟨rfl, ⟨nd, rfl⟩⟩; (try first | exact ⟨rfl, _, World.drewN_drewN _ _ _⟩ | exact ⟨rfl, _, Eq.trans (World.drewN_drewN _ _ _) (congrArg (World.drewN _) (Nat.add_assoc _ _ _))⟩))); try go_wp2_with (first | (go_at_call 9; (with_reducible refine (lockgateref16_Same.calls kj4 _ _ y197 _ _ l1 true _ ?side1 ?side2 ?side3 ?side4 A23.out).mono ?_); (case side1 => repeat (first | exact (by repeat (first | (with_reducible exact HR200.out) | (with_reducible refine Kd.C_alloc ?_ _) | (with_reducible refine Kd.C_drewN ?_ _) | (with_reducible refine Kd.C_drew ?_) | exact HR200.out)) | (with_reducible refine Kd.C_alloc ?_ _) | (with_reducible refine Kd.C_drewN ?_ _) | (with_reducible refine Kd.C_drew ?_))); (case side2 => exact HC200.out); (case side3 => repeat (first | exact (Kd.C_below HR1.out HB.out) | (with_reducible refine Kd.C_alloc ?_ _) | (with_reducible refine Kd.C_drewN ?_ _) | (with_reducible refine Kd.C_drew ?_))); (case side4 => exact HC1.out); rintro e w' ⟨rfl, ⟨nd, rfl⟩⟩; (try first | exact ⟨rfl, _, World.drewN_drewN _ _ _⟩ | exact ⟨rfl, _, Eq.trans (World.drewN_drewN _ _ _) (congrArg (World.drewN _) (Nat.add_assoc _ _ _))⟩))))
                    go_meet
                    case rel => exact ⟨_, (false), (by first | rfl | (simp; done) | (simp [*]; done)), H', ⟨by have := HJ4.out; first | omega | exact Nat.le_refl _⟩, ⟨by (with_reducible repeat (first | apply Kd.R_alloc | apply Kd.R_drewN | apply Kd.R_drew)); exact HO196.out⟩, ⟨by repeat (first | (with_reducible first | exact HB.out | apply below_alloc | apply pw_below_drewN | apply below_drew1) | exact HB.out)⟩⟩
                · replace c24 := Bool.eq_false_iff.mpr c24
                  subst c24
                  have H1 : (lockgatelaw17_PlaceKeeps.j1 kj4 l1 l2 a3 t194 true) = some r := by rw [if_neg (show ¬ (false = true) by decide)] at H; exact H
                  clear H
                  have H := H1
                  clear H1
                  have H' := Aside0.mk H
                  clear H
                  obtain ⟨Ao30, co30, eo30⟩ := Kd.R_slice HO196.out
                  subst eo30
                  have q31 : ((l1.length : Int) : Int) ≤ ((t194.length : Int) : Int) := of_decide_eq_true (by first | (with_reducible assumption) | assumption)
                  obtain ⟨i031, hi031, _, hsz31, _⟩ := info_parts info24
                  have hroom31 : t194.length ≤ co30 := (Kd.R_reads' HO196.out).2.1
                  have hC31 : Kd.C k24 _ Ao30 t194.length t194 := (Kd.R_reads' HO196.out).2.2
                  have hcut31 := cut_to (P := Try.prog) 22 24 .i64 Try.underlying22 hi031 Ao30 t194.length co30 (l1.length : Int) (of_decide_eq_true (by first | (with_reducible assumption) | assumption)) q31 hroom31
                  have hr31 := Kd.C_take (m := ((l1.length : Int) : Int).toNat) hC31 (by omega)
                  have hy31 : y197.length = ((l1.length : Int) : Int).toNat := (by rw [Ny197.out, List.length_take]; omega)
                  rw [← Ny197.out] at hr31
                  rw [← hy31] at hcut31
                  have HR200 := Aside0.mk hr31
                  have HC200 := Aside0.mk (show y197.length ≤ co30 from by omega)
                  clear hr31 hC31 hroom31 hi031 hsz31
                  have KY31 := Aside0.mk hy31
                  clear hy31
                  have KL31 := Aside0.mk (show ((l1.length : Int) : Int).toNat ≤ t194.length from by omega)
                  replace q31 := eq_true q31
                  go_wp2_with (first | (go_at_call 9; (with_reducible refine (lockgateref16_Same.calls kj4 _ _ y197 _ _ l1 false _ ?side1 ?side2 ?side3 ?side4 A23.out).mono ?_); (case side1 => repeat (first | exact (by repeat (first | (with_reducible exact HR200.out) | (with_reducible refine Kd.C_alloc ?_ _) | (with_reducible refine Kd.C_drewN ?_ _) | (with_reducible refine Kd.C_drew ?_) | exact HR200.out)) | (with_reducible refine Kd.C_alloc ?_ _) | (with_reducible refine Kd.C_drewN ?_ _) | (with_reducible refine Kd.C_drew ?_))); (case side2 => exact HC200.out); (case side3 => repeat (first | exact (Kd.C_below HR1.out HB.out) | (with_reducible refine Kd.C_alloc ?_ _) | (with_reducible refine Kd.C_drewN ?_ _) | (with_reducible refine Kd.C_drew ?_))); (case side4 => exact HC1.out); rintro e w' ⟨rfl, ⟨nd, rfl⟩⟩; (try first | exact ⟨rfl, _, World.drewN_drewN _ _ _⟩ | exact ⟨rfl, _, Eq.trans (World.drewN_drewN _ _ _) (congrArg (World.drewN _) (Nat.add_assoc _ _ _))⟩)))
                  repeat (go_quiet (first | (go_at_call 9; (with_reducible refine (lockgateref16_Same.calls kj4 _ _ y197 _ _ l1 false _ ?side1 ?side2 ?side3 ?side4 A23.out).mono ?_); (case side1 => repeat (first | exact (by repeat (first | (with_reducible exact HR200.out) | (with_reducible refine Kd.C_alloc ?_ _) | (with_reducible refine Kd.C_drewN ?_ _) | (with_reducible refine Kd.C_drew ?_) | exact HR200.out)) | (with_reducible refine Kd.C_alloc ?_ _) | (with_reducible refine Kd.C_drewN ?_ _) | (with_reducible refine Kd.C_drew ?_))); (case side2 => exact HC200.out); (case side3 => repeat (first | exact (Kd.C_below HR1.out HB.out) | (with_reducible refine Kd.C_alloc ?_ _) | (with_reducible refine Kd.C_drewN ?_ _) | (with_reducible refine Kd.C_drew ?_))); (case side4 => exact HC1.out); rintro e w' ⟨rfl, ⟨nd, rfl⟩⟩; (try first | exact ⟨rfl, _, World.drewN_drewN _ _ _⟩ | exact ⟨rfl, _, Eq.trans (World.drewN_drewN _ _ _) (congrArg (World.drewN _) (Nat.add_assoc _ _ _))⟩))); try go_wp2_with (first | (go_at_call 9; (with_reducible refine (lockgateref16_Same.calls kj4 _ _ y197 _ _ l1 false _ ?side1 ?side2 ?side3 ?side4 A23.out).mono ?_); (case side1 => repeat (first | exact (by repeat (first | (with_reducible exact HR200.out) | (with_reducible refine Kd.C_alloc ?_ _) | (with_reducible refine Kd.C_drewN ?_ _) | (with_reducible refine Kd.C_drew ?_) | exact HR200.out)) | (with_reducible refine Kd.C_alloc ?_ _) | (with_reducible refine Kd.C_drewN ?_ _) | (with_reducible refine Kd.C_drew ?_))); (case side2 => exact HC200.out); (case side3 => repeat (first | exact (Kd.C_below HR1.out HB.out) | (with_reducible refine Kd.C_alloc ?_ _) | (with_reducible refine Kd.C_drewN ?_ _) | (with_reducible refine Kd.C_drew ?_))); (case side4 => exact HC1.out); rintro e w' ⟨rfl, ⟨nd, rfl⟩⟩; (try first | exact ⟨rfl, _, World.drewN_drewN _ _ _⟩ | exact ⟨rfl, _, Eq.trans (World.drewN_drewN _ _ _) (congrArg (World.drewN _) (Nat.add_assoc _ _ _))⟩))))
                  go_meet
                  case rel => exact ⟨_, (true), (by first | rfl | (simp; done) | (simp [*]; done)), H', ⟨by have := HJ4.out; first | omega | exact Nat.le_refl _⟩, ⟨by (with_reducible repeat (first | apply Kd.R_alloc | apply Kd.R_drewN | apply Kd.R_drew)); exact HO196.out⟩, ⟨by repeat (first | (with_reducible first | exact HB.out | apply below_alloc | apply pw_below_drewN | apply below_drew1) | exact HB.out)⟩⟩
              · rw [if_neg c22] at H
                exact absurd H (by simp)
            · rw [if_neg c21] at H
              exact absurd H (by simp)
        case rest =>
          clear HC17
          try clear c1
          try clear c2
          try clear p2
          try clear q2
          try clear q3
          try clear c4
          try clear c7
          try clear c8
          try clear c8b0
          try clear c13
          try clear c19
          try clear c19b0
          try clear c19b1
          try clear c21
          try clear c21b0
          try clear c21b1
          try clear c22
          try clear c22b0
          try clear c22b1
          try clear c24
          try clear c25
          try clear c25b0
          try clear c25b1
          try clear q27
          try clear q29
          try clear q31
          try clear p2
          try clear q27
          try clear q29
          try clear q31
          obtain ⟨kq, x60_16, rfl, HA, HJ16, HO_9, HB⟩ := hcut
          cases kq with
          | zero => exact absurd HA.out (by simp [lockgatelaw17_PlaceKeeps.j1])
          | succ kj16 =>
            have H := HA.out
            clear HA
            simp only [lockgatelaw17_PlaceKeeps.j1] at H
            by_cases c32 : x60_16 = true
            · subst c32
              have H1 : (some false) = some r := by rw [if_pos rfl] at H; exact H
              clear H
              have H := H1
              clear H1
              obtain rfl := Option.some.inj H
              go_wp2
              repeat (go_quiet (fail); try go_wp2)
              go_ret
              exact ⟨by first | rfl | (simp [errW_none, errW_some] <;> rfl) | (simp [*, errW_none, errW_some] <;> rfl), by repeat (first | (with_reducible first | exact HB.out | apply below_alloc | apply pw_below_drewN | apply below_drew1) | exact HB.out)⟩
            · replace c32 := Bool.eq_false_iff.mpr c32
              subst c32
              have H1 : (lockgatelaw17_PlaceKeeps.l0 kj16 l1 l2 a3 t194 0 0) = some r := by rw [if_neg (show ¬ (false = true) by decide)] at H; exact H
              clear H
              have H := H1
              clear H1
              have H' := Aside0.mk H
              clear H
              go_wp2
              repeat (go_quiet (fail); try go_wp2)
              go_loopg [10, 11] kj16 (fun kq v10 v11 w' => ∃ (x10_3 : Int) (x11_3 : Int), v10 = .int .i64 x10_3 ∧ v11 = .int .i64 x11_3 ∧ Aside0 (lockgatelaw17_PlaceKeeps.l0 kq l1 l2 a3 t194 x10_3 x11_3 = some r) ∧ Aside0 (kq ≤ kj16) ∧ Aside0 (Kd.R k24 24 w' w.heap.size (fun _ => True) v195 t194) ∧ Aside0 (Below w.heap.size w w'))
              case atStart => exact ⟨(0), (0), (by first | rfl | (simp; done) | (simp [*]; done)), (by first | rfl | (simp; done) | (simp [*]; done)), H', ⟨Nat.le_refl _⟩, ⟨by (with_reducible repeat (first | apply Kd.R_alloc | apply Kd.R_drewN | apply Kd.R_drew)); exact HO_9.out⟩, ⟨by repeat (first | (with_reducible first | exact HB.out | apply below_alloc | apply pw_below_drewN | apply below_drew1) | exact HB.out)⟩⟩
              case round =>
                clear H'
                try clear c1
                try clear c2
                try clear p2
                try clear q2
                try clear c3
                try clear q3
                try clear c4
                try clear c7
                try clear c8
                try clear c8b0
                try clear c13
                try clear c19
                try clear c19b0
                try clear c19b1
                try clear c21
                try clear c21b0
                try clear c21b1
                try clear c22
                try clear c22b0
                try clear c22b1
                try clear c24
                try clear c25
                try clear c25b0
                try clear c25b1
                try clear q27
                try clear q29
                try clear q31
                try clear c32
                try clear p2
                try clear q2
                try clear q27
                try clear q29
                try clear q3
                try clear q31
                obtain ⟨x10_3, x11_3, rfl, rfl, HA, HK3, HO_9, HB⟩ := hrel
                cases gk with
                | zero => exact absurd HA.out (by simp [lockgatelaw17_PlaceKeeps.l0])
                | succ k3 =>
                  have H := HA.out
                  clear HA
                  simp only [lockgatelaw17_PlaceKeeps.l0] at H
                  by_cases c33 : x11_3 < (l2.length : Int)
                  · rw [if_pos c33] at H
                    have c33b0 : decide (x11_3 < (l2.length : Int)) = true := decide_eq_true c33
                    clear c33
                    have H' := Aside0.mk H
                    clear H
                    go_wp2
                    repeat (go_quiet (fail); try go_wp2)
                    go_loopg [12, 13] k3 (fun kq v12 v13 w' => ∃ (x12_4 : Bool) (x13_4 : Int), v12 = .bool x12_4 ∧ v13 = .int .i64 x13_4 ∧ Aside0 (lockgatelaw17_PlaceKeeps.l1 kq l1 l2 a3 t194 x10_3 x11_3 x12_4 x13_4 = some r) ∧ Aside0 (kq ≤ k3) ∧ Aside0 (Kd.R k24 24 w' w.heap.size (fun _ => True) v195 t194) ∧ Aside0 (Below w.heap.size w w'))
                    case atStart => exact ⟨(false), (0), (by first | rfl | (simp; done) | (simp [*]; done)), (by first | rfl | (simp; done) | (simp [*]; done)), H', ⟨Nat.le_refl _⟩, ⟨by (with_reducible repeat (first | apply Kd.R_alloc | apply Kd.R_drewN | apply Kd.R_drew)); exact HO_9.out⟩, ⟨by repeat (first | (with_reducible first | exact HB.out | apply below_alloc | apply pw_below_drewN | apply below_drew1) | exact HB.out)⟩⟩
                    case round =>
                      clear H'
                      try clear c1
                      try clear c2
                      try clear p2
                      try clear q2
                      try clear c3
                      try clear q3
                      try clear c4
                      try clear c7
                      try clear c8
                      try clear c8b0
                      try clear c13
                      try clear c19
                      try clear c19b0
                      try clear c19b1
                      try clear c21
                      try clear c21b0
                      try clear c21b1
                      try clear c22
                      try clear c22b0
                      try clear c22b1
                      try clear c24
                      try clear c25
                      try clear c25b0
                      try clear c25b1
                      try clear q27
                      try clear q29
                      try clear q31
                      try clear c32
                      try clear c33
                      try clear c33b0
                      try clear p2
                      try clear q2
                      try clear q27
                      try clear q29
                      try clear q3
                      try clear q31
                      obtain ⟨x12_4, x13_4, rfl, rfl, HA, HK4, HO_9, HB⟩ := hrel
                      cases gk with
                      | zero => exact absurd HA.out (by simp [lockgatelaw17_PlaceKeeps.l1])
                      | succ k4 =>
                        have H := HA.out
                        clear HA
                        simp only [lockgatelaw17_PlaceKeeps.l1] at H
                        by_cases c34 : x13_4 < (t194.length : Int)
                        · rw [if_pos c34] at H
                          have c34b0 : decide (x13_4 < (t194.length : Int)) = true := decide_eq_true c34
                          clear c34
                          by_cases c35 : x12_4 = true
                          · subst c35
                            have H1 : (lockgatelaw17_PlaceKeeps.l1 k4 l1 l2 a3 t194 x10_3 x11_3 true (wrap64 (x13_4 + 1))) = some r := by rw [if_pos rfl] at H; exact H
                            clear H
                            have H := H1
                            clear H1
                            have H' := Aside0.mk H
                            clear H
                            obtain ⟨Ao36, co36, eo36⟩ := Kd.R_slice HO_9.out
                            subst eo36
                            go_wp2
                            repeat (go_quiet (fail); try go_wp2)
                            go_roundg k4
                            case measure => have := HJ4.out; have := HJ16.out; have := HK3.out; have := HK4.out; omega
                            case rel => exact ⟨(true), (wrap64 (x13_4 + 1)), (by first | rfl | (simp; done) | (simp [*]; done)), (by first | rfl | (simp; done) | (simp [*]; done)), H', ⟨by have := HJ4.out; have := HJ16.out; have := HK3.out; have := HK4.out; omega⟩, ⟨by (with_reducible repeat (first | apply Kd.R_alloc | apply Kd.R_drewN | apply Kd.R_drew)); exact HO_9.out⟩, ⟨by repeat (first | (with_reducible first | exact HB.out | apply below_alloc | apply pw_below_drewN | apply below_drew1) | exact HB.out)⟩⟩
                          · replace c35 := Bool.eq_false_iff.mpr c35
                            subst c35
                            have H1 : (if 0 ≤ x13_4 then (if 0 ≤ x11_3 then (if x11_3 < (l2.length : Int) then (lockgatelaw17_PlaceKeeps.l1 k4 l1 l2 a3 t194 x10_3 x11_3 (((rd_T24 t194 x13_4).f0) == ((rd_T24 l2 x11_3).f0)) (wrap64 (x13_4 + 1))) else (none)) else (none)) else (none)) = some r := by rw [if_neg (show ¬ (false = true) by decide)] at H; exact H
                            clear H
                            have H := H1
                            clear H1
                            by_cases c37 : 0 ≤ x13_4
                            · rw [if_pos c37] at H
                              have c37b0 : decide (0 ≤ x13_4) = true := decide_eq_true c37
                              clear c37
                              by_cases c38 : 0 ≤ x11_3
                              · rw [if_pos c38] at H
                                have c38b0 : decide (0 ≤ x11_3) = true := decide_eq_true c38
                                clear c38
                                by_cases c39 : x11_3 < (l2.length : Int)
                                · rw [if_pos c39] at H
                                  have c39b0 : decide (x11_3 < (l2.length : Int)) = true := decide_eq_true c39
                                  clear c39
                                  have H' := Aside0.mk H
                                  clear H
                                  obtain ⟨Ao40, co40, eo40⟩ := Kd.R_slice HO_9.out
                                  subst eo40
                                  have p202 : 0 ≤ (x13_4 : Int) := of_decide_eq_true (by first | (with_reducible assumption) | assumption)
                                  have q202 : x13_4 < (t194.length : Int) := of_decide_eq_true (by first | (with_reducible assumption) | assumption)
                                  obtain ⟨ad202, e202, hx202_0, hx202_1⟩ := at_T24 (Kd.R_reads' HO_9.out).2.2 x13_4 p202 q202
                                  cases e202
                                  replace p202 := eq_true p202
                                  replace q202 := eq_true q202
                                  have p203 : 0 ≤ (x11_3 : Int) := of_decide_eq_true (by first | (with_reducible assumption) | assumption)
                                  have q203 : x11_3 < (l2.length : Int) := of_decide_eq_true (by first | (with_reducible assumption) | assumption)
                                  obtain ⟨ad203, e203, hx203_0, hx203_1⟩ := at_T24 HR2.out x11_3 p203 q203
                                  cases e203
                                  replace hx203_0 := (HB.out.cell (World.block_lt_of_cell? w _ hx203_0)).trans hx203_0
                                  replace hx203_1 := (HB.out.cell (World.block_lt_of_cell? w _ hx203_1)).trans hx203_1
                                  replace p203 := eq_true p203
                                  replace q203 := eq_true q203
                                  go_wp2
                                  repeat (go_quiet (fail); try go_wp2)
                                  go_roundg k4
                                  case measure => have := HJ4.out; have := HJ16.out; have := HK3.out; have := HK4.out; omega
                                  case rel => exact ⟨((((rd_T24 t194 x13_4).f0) == ((rd_T24 l2 x11_3).f0))), (wrap64 (x13_4 + 1)), (by first | rfl | (simp; done) | (simp [*]; done)), (by first | rfl | (simp; done) | (simp [*]; done)), H', ⟨by have := HJ4.out; have := HJ16.out; have := HK3.out; have := HK4.out; omega⟩, ⟨by (with_reducible repeat (first | apply Kd.R_alloc | apply Kd.R_drewN | apply Kd.R_drew)); exact HO_9.out⟩, ⟨by repeat (first | (with_reducible first | exact HB.out | apply below_alloc | apply pw_below_drewN | apply below_drew1) | exact HB.out)⟩⟩
                                · rw [if_neg c39] at H
                                  exact absurd H (by simp)
                              · rw [if_neg c38] at H
                                exact absurd H (by simp)
                            · rw [if_neg c37] at H
                              exact absurd H (by simp)
                        · rw [if_neg c34] at H
                          have c34b0 : decide (x13_4 < (t194.length : Int)) = false := decide_eq_false c34
                          clear c34
                          by_cases c41 : x12_4 = true
                          · subst c41
                            have H1 : (lockgatelaw17_PlaceKeeps.l0 k4 l1 l2 a3 t194 x10_3 (wrap64 (x11_3 + 1))) = some r := by rw [if_pos rfl] at H; exact H
                            clear H
                            have H := H1
                            clear H1
                            have H' := Aside0.mk H
                            clear H
                            obtain ⟨Ao42, co42, eo42⟩ := Kd.R_slice HO_9.out
                            subst eo42
                            go_wp2
                            repeat (go_quiet (fail); try go_wp2)
                            go_roundg k4
                            case measure => have := HJ4.out; have := HJ16.out; have := HK3.out; have := HK4.out; omega
                            case rel => exact ⟨(x10_3), (wrap64 (x11_3 + 1)), (by first | rfl | (simp; done) | (simp [*]; done)), (by first | rfl | (simp; done) | (simp [*]; done)), H', ⟨by have := HJ4.out; have := HJ16.out; have := HK3.out; have := HK4.out; omega⟩, ⟨by (with_reducible repeat (first | apply Kd.R_alloc | apply Kd.R_drewN | apply Kd.R_drew)); exact HO_9.out⟩, ⟨by repeat (first | (with_reducible first | exact HB.out | apply below_alloc | apply pw_below_drewN | apply below_drew1) | exact HB.out)⟩⟩
                          · replace c41 := Bool.eq_false_iff.mpr c41
                            subst c41
                            have H1 : (lockgatelaw17_PlaceKeeps.l0 k4 l1 l2 a3 t194 (wrap64 (x10_3 + 1)) (wrap64 (x11_3 + 1))) = some r := by rw [if_neg (show ¬ (false = true) by decide)] at H; exact H
                            clear H
                            have H := H1
                            clear H1
                            have H' := Aside0.mk H
                            clear H
                            obtain ⟨Ao43, co43, eo43⟩ := Kd.R_slice HO_9.out
                            subst eo43
                            go_wp2
                            repeat (go_quiet (fail); try go_wp2)
                            go_roundg k4
                            case measure => have := HJ4.out; have := HJ16.out; have := HK3.out; have := HK4.out; omega
                            case rel => exact ⟨(wrap64 (x10_3 + 1)), (wrap64 (x11_3 + 1)), (by first | rfl | (simp; done) | (simp [*]; done)), (by first | rfl | (simp; done) | (simp [*]; done)), H', ⟨by have := HJ4.out; have := HJ16.out; have := HK3.out; have := HK4.out; omega⟩, ⟨by (with_reducible repeat (first | apply Kd.R_alloc | apply Kd.R_drewN | apply Kd.R_drew)); exact HO_9.out⟩, ⟨by repeat (first | (with_reducible first | exact HB.out | apply below_alloc | apply pw_below_drewN | apply below_drew1) | exact HB.out)⟩⟩
                  · rw [if_neg c33] at H
                    have c33b0 : decide (x11_3 < (l2.length : Int)) = false := decide_eq_false c33
                    clear c33
                    have H' := Aside0.mk H
                    clear H
                    go_wp2
                    repeat (go_quiet (fail); try go_wp2)
                    go_loopg [14] k3 (fun kq v14 w' => ∃ (x14_4 : Int), v14 = .int .i64 x14_4 ∧ Aside0 (lockgatelaw17_PlaceKeeps.l2 kq l1 l2 a3 t194 x10_3 x14_4 = some r) ∧ Aside0 (kq ≤ k3) ∧ Aside0 (Kd.R k24 24 w' w.heap.size (fun _ => True) v195 t194) ∧ Aside0 (Below w.heap.size w w'))
                    case atStart => exact ⟨(0), (by first | rfl | (simp; done) | (simp [*]; done)), H', ⟨Nat.le_refl _⟩, ⟨by (with_reducible repeat (first | apply Kd.R_alloc | apply Kd.R_drewN | apply Kd.R_drew)); exact HO_9.out⟩, ⟨by repeat (first | (with_reducible first | exact HB.out | apply below_alloc | apply pw_below_drewN | apply below_drew1) | exact HB.out)⟩⟩
                    case round =>
                      clear H'
                      try clear c1
                      try clear c2
                      try clear p2
                      try clear q2
                      try clear hx2
                      try clear c3
                      try clear q3
                      try clear c4
                      try clear p6
                      try clear c7
                      try clear c8
                      try clear c8b0
                      try clear c13
                      try clear c19
                      try clear c19b0
                      try clear c19b1
                      try clear p20
                      try clear q20
                      try clear hx20
                      try clear c21
                      try clear c21b0
                      try clear c21b1
                      try clear c22
                      try clear c22b0
                      try clear c22b1
                      try clear c24
                      try clear c25
                      try clear c25b0
                      try clear c25b1
                      try clear q27
                      try clear q29
                      try clear q31
                      try clear c32
                      try clear c33
                      try clear c33b0
                      try clear c34
                      try clear c34b0
                      try clear c35
                      try clear c37
                      try clear c37b0
                      try clear c38
                      try clear c38b0
                      try clear c39
                      try clear c39b0
                      try clear c41
                      try clear hx202_0
                      try clear hx202_1
                      try clear hx203_0
                      try clear hx203_1
                      try clear p2
                      try clear p202
                      try clear p203
                      try clear q2
                      try clear q202
                      try clear q203
                      try clear q27
                      try clear q29
                      try clear q3
                      try clear q31
                      obtain ⟨x14_4, rfl, HA, HK4, HO_9, HB⟩ := hrel
                      cases gk with
                      | zero => exact absurd HA.out (by simp [lockgatelaw17_PlaceKeeps.l2])
                      | succ k4 =>
                        have H := HA.out
                        clear HA
                        simp only [lockgatelaw17_PlaceKeeps.l2] at H
                        by_cases c44 : x14_4 < (t194.length : Int)
                        · rw [if_pos c44] at H
                          have c44b0 : decide (x14_4 < (t194.length : Int)) = true := decide_eq_true c44
                          clear c44
                          have HC45 := Aside0.mk H
                          clear H
                          obtain ⟨Ao46, co46, eo46⟩ := Kd.R_slice HO_9.out
                          subst eo46
                          go_upto_region 20 with (fail)
                          repeat (go_quiet (fail); go_upto_region 20 with (fail))
                          go_cut [109] (fun v109 wc => ∃ (kq : Nat) (x109_44 : Bool), v109 = .bool x109_44 ∧ Aside0 (lockgatelaw17_PlaceKeeps.j5 kq l1 l2 a3 t194 x10_3 x14_4 x109_44 = some r) ∧ Aside0 (kq ≤ k4) ∧ Aside0 (Kd.R k24 24 wc w.heap.size (fun _ => True) (.slice Ao46 t194.length co46) t194) ∧ Aside0 (Below w.heap.size w wc))
                          case first =>
                            have H := HC45.out
                            clear HC45
                            by_cases c47 : x14_4 ≥ (l1.length : Int)
                            · rw [if_pos c47] at H
                              have c47b0 : decide ((l1.length : Int) ≤ x14_4) = true := decide_eq_true c47
                              clear c47
                              (first | rw [c47b0] | (simp only [i64_w, i32_w]; rw [c47b0]) | skip)
                              by_cases c48 : 0 ≤ x14_4
                              · rw [if_pos c48] at H
                                have c48b0 : decide (0 ≤ x14_4) = true := decide_eq_true c48
                                clear c48
                                replace H := Option.bind_eq_some_iff.mp H
                                obtain ⟨t205, A490, H⟩ := H
                                replace H : (lockgatelaw17_PlaceKeeps.j5 k4 l1 l2 a3 t194 x10_3 x14_4 (decide (t205 < 0))) = some r := H
                                have A49 := Aside0.mk A490
                                clear A490
                                have H' := Aside0.mk H
                                clear H
                                have p204 : 0 ≤ (x14_4 : Int) := of_decide_eq_true (by first | (with_reducible assumption) | assumption)
                                have q204 : x14_4 < (t194.length : Int) := of_decide_eq_true (by first | (with_reducible assumption) | assumption)
                                obtain ⟨ad204, e204, hx204_0, hx204_1⟩ := at_T24 (Kd.R_reads' HO_9.out).2.2 x14_4 p204 q204
                                cases e204
                                replace p204 := eq_true p204
                                replace q204 := eq_true q204
                                go_wp2_with (first | (go_at_call 16; (with_reducible refine (lockgateref16_Index.calls k4 _ _ l2 ((rd_T24 t194 x14_4).f0) ((rd_T24 t194 x14_4).f1) t205 _ ?side1 ?side2 A49.out).mono ?_); (case side1 => repeat (first | exact (Kd.C_below HR2.out HB.out) | (with_reducible refine Kd.C_alloc ?_ _) | (with_reducible refine Kd.C_drewN ?_ _) | (with_reducible refine Kd.C_drew ?_))); (case side2 => exact HC2.out); rintro e w50 ⟨rfl, hb⟩; have n0_ := Aside0.mk (Kd.R_below (by (with_reducible repeat (first | apply Kd.R_alloc | apply Kd.R_drewN | apply Kd.R_drew)); exact HO_9.out) hb); have n1_ := Aside0.mk (below_step (by repeat (first | (with_reducible first | exact HB.out | apply below_alloc | apply pw_below_drewN | apply below_drew1) | exact HB.out)) hb); clear HO_9; clear HB; have HO_9 := n0_; have HB := n1_; clear n0_ n1_; (try clear hb); (try clear hb2); (try clear hk); (try clear hi)))
                                repeat (go_quiet (first | (go_at_call 16; (with_reducible refine (lockgateref16_Index.calls k4 _ _ l2 ((rd_T24 t194 x14_4).f0) ((rd_T24 t194 x14_4).f1) t205 _ ?side1 ?side2 A49.out).mono ?_); (case side1 => repeat (first | exact (Kd.C_below HR2.out HB.out) | (with_reducible refine Kd.C_alloc ?_ _) | (with_reducible refine Kd.C_drewN ?_ _) | (with_reducible refine Kd.C_drew ?_))); (case side2 => exact HC2.out); rintro e w50 ⟨rfl, hb⟩; have n0_ := Aside0.mk (Kd.R_below (by (with_reducible repeat (first | apply Kd.R_alloc | apply Kd.R_drewN | apply Kd.R_drew)); exact HO_9.out) hb); have n1_ := Aside0.mk (below_step (by repeat (first | (with_reducible first | exact HB.out | apply below_alloc | apply pw_below_drewN | apply below_drew1) | exact HB.out)) hb); clear HO_9; clear HB; have HO_9 := n0_; have HB := n1_; clear n0_ n1_; (try clear hb); (try clear hb2); (try clear hk); (try clear hi))); try go_wp2_with (first | (go_at_call 16; (with_reducible refine (lockgateref16_Index.calls k4 _ _ l2 ((rd_T24 t194 x14_4).f0) ((rd_T24 t194 x14_4).f1) t205 _ ?side1 ?side2 A49.out).mono ?_); (case side1 => repeat (first | exact (Kd.C_below HR2.out HB.out) | (with_reducible refine Kd.C_alloc ?_ _) | (with_reducible refine Kd.C_drewN ?_ _) | (with_reducible refine Kd.C_drew ?_))); (case side2 => exact HC2.out); rintro e w50 ⟨rfl, hb⟩; have n0_ := Aside0.mk (Kd.R_below (by (with_reducible repeat (first | apply Kd.R_alloc | apply Kd.R_drewN | apply Kd.R_drew)); exact HO_9.out) hb); have n1_ := Aside0.mk (below_step (by repeat (first | (with_reducible first | exact HB.out | apply below_alloc | apply pw_below_drewN | apply below_drew1) | exact HB.out)) hb); clear HO_9; clear HB; have HO_9 := n0_; have HB := n1_; clear n0_ n1_; (try clear hb); (try clear hb2); (try clear hk); (try clear hi))))
                                go_meet
                                case rel => exact ⟨_, (decide (t205 < 0)), (by first | rfl | (simp; done) | (simp [*]; done)), H', ⟨by have := HJ4.out; have := HJ16.out; have := HK3.out; have := HK4.out; first | omega | exact Nat.le_refl _⟩, ⟨by (with_reducible repeat (first | apply Kd.R_alloc | apply Kd.R_drewN | apply Kd.R_drew)); exact HO_9.out⟩, ⟨by repeat (first | (with_reducible first | exact HB.out | apply below_alloc | apply pw_below_drewN | apply below_drew1) | exact HB.out)⟩⟩
                              · rw [if_neg c48] at H
                                exact absurd H (by simp)
                            · rw [if_neg c47] at H
                              have c47b0 : decide ((l1.length : Int) ≤ x14_4) = false := decide_eq_false c47
                              clear c47
                              (first | rw [c47b0] | (simp only [i64_w, i32_w]; rw [c47b0]) | skip)
                              have H' := Aside0.mk H
                              clear H
                              go_wp2
                              repeat (go_quiet (fail); try go_wp2)
                              go_meet
                              case rel => exact ⟨_, (false), (by first | rfl | (simp; done) | (simp [*]; done)), H', ⟨by have := HJ4.out; have := HJ16.out; have := HK3.out; have := HK4.out; first | omega | exact Nat.le_refl _⟩, ⟨by (with_reducible repeat (first | apply Kd.R_alloc | apply Kd.R_drewN | apply Kd.R_drew)); exact HO_9.out⟩, ⟨by repeat (first | (with_reducible first | exact HB.out | apply below_alloc | apply pw_below_drewN | apply below_drew1) | exact HB.out)⟩⟩
                          case rest =>
                            clear HC45
                            try clear c1
                            try clear c2
                            try clear p2
                            try clear q2
                            try clear hx2
                            try clear c3
                            try clear q3
                            try clear c4
                            try clear p6
                            try clear c7
                            try clear c8
                            try clear c8b0
                            try clear c13
                            try clear c19
                            try clear c19b0
                            try clear c19b1
                            try clear p20
                            try clear q20
                            try clear hx20
                            try clear c21
                            try clear c21b0
                            try clear c21b1
                            try clear c22
                            try clear c22b0
                            try clear c22b1
                            try clear c24
                            try clear c25
                            try clear c25b0
                            try clear c25b1
                            try clear q27
                            try clear q29
                            try clear q31
                            try clear c32
                            try clear c33
                            try clear c33b0
                            try clear c34
                            try clear c34b0
                            try clear c35
                            try clear c37
                            try clear c37b0
                            try clear c38
                            try clear c38b0
                            try clear c39
                            try clear c39b0
                            try clear c41
                            try clear c44
                            try clear c44b0
                            try clear c47
                            try clear c47b0
                            try clear c48
                            try clear c48b0
                            try clear hx202_0
                            try clear hx202_1
                            try clear hx203_0
                            try clear hx203_1
                            try clear hx204_0
                            try clear hx204_1
                            try clear p2
                            try clear p20
                            try clear p202
                            try clear p203
                            try clear p204
                            try clear p6
                            try clear q2
                            try clear q20
                            try clear q202
                            try clear q203
                            try clear q204
                            try clear q27
                            try clear q29
                            try clear q3
                            try clear q31
                            obtain ⟨kq, x109_44, rfl, HA, HJ44, HO_9, HB⟩ := hcut
                            cases kq with
                            | zero => exact absurd HA.out (by simp [lockgatelaw17_PlaceKeeps.j5])
                            | succ kj44 =>
                              have H := HA.out
                              clear HA
                              simp only [lockgatelaw17_PlaceKeeps.j5] at H
                              by_cases c51 : x109_44 = true
                              · subst c51
                                have H1 : (some false) = some r := by rw [if_pos rfl] at H; exact H
                                clear H
                                have H := H1
                                clear H1
                                obtain rfl := Option.some.inj H
                                go_wp2
                                repeat (go_quiet (fail); try go_wp2)
                                go_ret
                                exact ⟨by first | rfl | (simp [errW_none, errW_some] <;> rfl) | (simp [*, errW_none, errW_some] <;> rfl), by repeat (first | (with_reducible first | exact HB.out | apply below_alloc | apply pw_below_drewN | apply below_drew1) | exact HB.out)⟩
                              · replace c51 := Bool.eq_false_iff.mpr c51
                                subst c51
                                have H1 : (lockgatelaw17_PlaceKeeps.l3 kj44 l1 l2 a3 t194 x10_3 x14_4 0) = some r := by rw [if_neg (show ¬ (false = true) by decide)] at H; exact H
                                clear H
                                have H := H1
                                clear H1
                                have H' := Aside0.mk H
                                clear H
                                go_wp2
                                repeat (go_quiet (fail); try go_wp2)
                                go_loopg [15] kj44 (fun kq v15 w' => ∃ (x15_6 : Int), v15 = .int .i64 x15_6 ∧ Aside0 (lockgatelaw17_PlaceKeeps.l3 kq l1 l2 a3 t194 x10_3 x14_4 x15_6 = some r) ∧ Aside0 (kq ≤ kj44) ∧ Aside0 (Kd.R k24 24 w' w.heap.size (fun _ => True) (.slice Ao46 t194.length co46) t194) ∧ Aside0 (Below w.heap.size w w'))
                                case atStart => exact ⟨(0), (by first | rfl | (simp; done) | (simp [*]; done)), H', ⟨Nat.le_refl _⟩, ⟨by (with_reducible repeat (first | apply Kd.R_alloc | apply Kd.R_drewN | apply Kd.R_drew)); exact HO_9.out⟩, ⟨by repeat (first | (with_reducible first | exact HB.out | apply below_alloc | apply pw_below_drewN | apply below_drew1) | exact HB.out)⟩⟩
                                case round =>
                                  clear H'
                                  try clear c1
                                  try clear c2
                                  try clear p2
                                  try clear q2
                                  try clear hx2
                                  try clear c3
                                  try clear q3
                                  try clear c4
                                  try clear c5
                                  try clear p6
                                  try clear c7
                                  try clear c8
                                  try clear c8b0
                                  try clear c13
                                  try clear c19
                                  try clear c19b0
                                  try clear c19b1
                                  try clear p20
                                  try clear q20
                                  try clear hx20
                                  try clear c21
                                  try clear c21b0
                                  try clear c21b1
                                  try clear c22
                                  try clear c22b0
                                  try clear c22b1
                                  try clear c24
                                  try clear c25
                                  try clear c25b0
                                  try clear c25b1
                                  try clear q27
                                  try clear q29
                                  try clear q31
                                  try clear c32
                                  try clear c33
                                  try clear c33b0
                                  try clear c34
                                  try clear c34b0
                                  try clear c35
                                  try clear c37
                                  try clear c37b0
                                  try clear c38
                                  try clear c38b0
                                  try clear c39
                                  try clear c39b0
                                  try clear c41
                                  try clear c44
                                  try clear c44b0
                                  try clear c47
                                  try clear c47b0
                                  try clear c48
                                  try clear c48b0
                                  try clear c51
                                  try clear hx202_0
                                  try clear hx202_1
                                  try clear hx203_0
                                  try clear hx203_1
                                  try clear hx204_0
                                  try clear hx204_1
                                  try clear p2
                                  try clear p20
                                  try clear p202
                                  try clear p203
                                  try clear p204
                                  try clear p6
                                  try clear q2
                                  try clear q20
                                  try clear q202
                                  try clear q203
                                  try clear q204
                                  try clear q27
                                  try clear q29
                                  try clear q3
                                  try clear q31
                                  obtain ⟨x15_6, rfl, HA, HK6, HO_9, HB⟩ := hrel
                                  cases gk with
                                  | zero => exact absurd HA.out (by simp [lockgatelaw17_PlaceKeeps.l3])
                                  | succ k6 =>
                                    have H := HA.out
                                    clear HA
                                    simp only [lockgatelaw17_PlaceKeeps.l3] at H
                                    by_cases c52 : x15_6 < x14_4
                                    · rw [if_pos c52] at H
                                      have c52b0 : decide (x15_6 < x14_4) = true := decide_eq_true c52
                                      clear c52
                                      by_cases c53 : 0 ≤ x15_6
                                      · rw [if_pos c53] at H
                                        have c53b0 : decide (0 ≤ x15_6) = true := decide_eq_true c53
                                        clear c53
                                        by_cases c54 : x15_6 < (t194.length : Int)
                                        · rw [if_pos c54] at H
                                          have c54b0 : decide (x15_6 < (t194.length : Int)) = true := decide_eq_true c54
                                          clear c54
                                          by_cases c55 : 0 ≤ x14_4
                                          · rw [if_pos c55] at H
                                            have c55b0 : decide (0 ≤ x14_4) = true := decide_eq_true c55
                                            clear c55
                                            by_cases c56 : x14_4 < (t194.length : Int)
                                            · rw [if_pos c56] at H
                                              have c56b0 : decide (x14_4 < (t194.length : Int)) = true := decide_eq_true c56
                                              clear c56
                                              by_cases c57 : ((rd_T24 t194 x15_6).f0) = ((rd_T24 t194 x14_4).f0)
                                              · rw [if_pos c57] at H
                                                have c57b0 : (((rd_T24 t194 x15_6).f0) == ((rd_T24 t194 x14_4).f0)) = true := beq_iff_eq.mpr c57
                                                have c57b1 : (((rd_T24 t194 x15_6).f0) != ((rd_T24 t194 x14_4).f0)) = false := bne_eq_false_iff_eq.mpr c57
                                                clear c57
                                                obtain rfl := Option.some.inj H
                                                have p206 : 0 ≤ (x15_6 : Int) := of_decide_eq_true (by first | (with_reducible assumption) | assumption)
                                                have q206 : x15_6 < (t194.length : Int) := of_decide_eq_true (by first | (with_reducible assumption) | assumption)
                                                obtain ⟨ad206, e206, hx206_0, hx206_1⟩ := at_T24 (Kd.R_reads' HO_9.out).2.2 x15_6 p206 q206
                                                cases e206
                                                replace p206 := eq_true p206
                                                replace q206 := eq_true q206
                                                have p207 : 0 ≤ (x14_4 : Int) := of_decide_eq_true (by first | (with_reducible assumption) | assumption)
                                                have q207 : x14_4 < (t194.length : Int) := of_decide_eq_true (by first | (with_reducible assumption) | assumption)
                                                obtain ⟨ad207, e207, hx207_0, hx207_1⟩ := at_T24 (Kd.R_reads' HO_9.out).2.2 x14_4 p207 q207
                                                obtain rfl : ad206 = ad207 := (by injection e207)
                                                replace p207 := eq_true p207
                                                replace q207 := eq_true q207
                                                go_wp2
                                                repeat (go_quiet (fail); try go_wp2)
                                                go_ret
                                                exact ⟨by first | rfl | (simp [errW_none, errW_some] <;> rfl) | (simp [*, errW_none, errW_some] <;> rfl), by repeat (first | (with_reducible first | exact HB.out | apply below_alloc | apply pw_below_drewN | apply below_drew1) | exact HB.out)⟩
                                              · rw [if_neg c57] at H
                                                have c57b0 : (((rd_T24 t194 x15_6).f0) == ((rd_T24 t194 x14_4).f0)) = false := beq_eq_false_iff_ne.mpr c57
                                                have c57b1 : (((rd_T24 t194 x15_6).f0) != ((rd_T24 t194 x14_4).f0)) = true := bne_iff_ne.mpr c57
                                                have H' := Aside0.mk H
                                                clear H
                                                have p206 : 0 ≤ (x15_6 : Int) := of_decide_eq_true (by first | (with_reducible assumption) | assumption)
                                                have q206 : x15_6 < (t194.length : Int) := of_decide_eq_true (by first | (with_reducible assumption) | assumption)
                                                obtain ⟨ad206, e206, hx206_0, hx206_1⟩ := at_T24 (Kd.R_reads' HO_9.out).2.2 x15_6 p206 q206
                                                cases e206
                                                replace p206 := eq_true p206
                                                replace q206 := eq_true q206
                                                have p207 : 0 ≤ (x14_4 : Int) := of_decide_eq_true (by first | (with_reducible assumption) | assumption)
                                                have q207 : x14_4 < (t194.length : Int) := of_decide_eq_true (by first | (with_reducible assumption) | assumption)
                                                obtain ⟨ad207, e207, hx207_0, hx207_1⟩ := at_T24 (Kd.R_reads' HO_9.out).2.2 x14_4 p207 q207
                                                obtain rfl : ad206 = ad207 := (by injection e207)
                                                replace p207 := eq_true p207
                                                replace q207 := eq_true q207
                                                go_wp2
                                                repeat (go_quiet (fail); try go_wp2)
                                                go_roundg k6
                                                case measure => have := HJ4.out; have := HJ16.out; have := HK3.out; have := HK4.out; have := HJ44.out; have := HK6.out; omega
                                                case rel => exact ⟨(wrap64 (x15_6 + 1)), (by first | rfl | (simp; done) | (simp [*]; done)), H', ⟨by have := HJ4.out; have := HJ16.out; have := HK3.out; have := HK4.out; have := HJ44.out; have := HK6.out; omega⟩, ⟨by (with_reducible repeat (first | apply Kd.R_alloc | apply Kd.R_drewN | apply Kd.R_drew)); exact HO_9.out⟩, ⟨by repeat (first | (with_reducible first | exact HB.out | apply below_alloc | apply pw_below_drewN | apply below_drew1) | exact HB.out)⟩⟩
                                            · rw [if_neg c56] at H
                                              exact absurd H (by simp)
                                          · rw [if_neg c55] at H
                                            exact absurd H (by simp)
                                        · rw [if_neg c54] at H
                                          exact absurd H (by simp)
                                      · rw [if_neg c53] at H
                                        exact absurd H (by simp)
                                    · rw [if_neg c52] at H
                                      have c52b0 : decide (x15_6 < x14_4) = false := decide_eq_false c52
                                      clear c52
                                      have H' := Aside0.mk H
                                      clear H
                                      go_wp2
                                      repeat (go_quiet (fail); try go_wp2)
                                      go_roundg k6
                                      case measure => have := HJ4.out; have := HJ16.out; have := HK3.out; have := HK4.out; have := HJ44.out; have := HK6.out; omega
                                      case rel => exact ⟨(wrap64 (x14_4 + 1)), (by first | rfl | (simp; done) | (simp [*]; done)), H', ⟨by have := HJ4.out; have := HJ16.out; have := HK3.out; have := HK4.out; have := HJ44.out; have := HK6.out; omega⟩, ⟨by (with_reducible repeat (first | apply Kd.R_alloc | apply Kd.R_drewN | apply Kd.R_drew)); exact HO_9.out⟩, ⟨by repeat (first | (with_reducible first | exact HB.out | apply below_alloc | apply pw_below_drewN | apply below_drew1) | exact HB.out)⟩⟩
                        · rw [if_neg c44] at H
                          have c44b0 : decide (x14_4 < (t194.length : Int)) = false := decide_eq_false c44
                          clear c44
                          by_cases c58 : x10_3 = 0
                          · rw [if_pos c58] at H
                            have c58b0 : (x10_3 == 0) = true := beq_iff_eq.mpr c58
                            have c58b1 : (x10_3 != 0) = false := bne_eq_false_iff_eq.mpr c58
                            clear c58
                            obtain rfl := Option.some.inj H
                            obtain ⟨Ao59, co59, eo59⟩ := Kd.R_slice HO_9.out
                            subst eo59
                            go_wp2
                            repeat (go_quiet (fail); try go_wp2)
                            go_ret
                            exact ⟨by first | rfl | (simp [errW_none, errW_some] <;> rfl) | (simp [*, errW_none, errW_some] <;> rfl), by repeat (first | (with_reducible first | exact HB.out | apply below_alloc | apply pw_below_drewN | apply below_drew1) | exact HB.out)⟩
                          · rw [if_neg c58] at H
                            have c58b0 : (x10_3 == 0) = false := beq_eq_false_iff_ne.mpr c58
                            have c58b1 : (x10_3 != 0) = true := bne_iff_ne.mpr c58
                            obtain rfl := Option.some.inj H
                            obtain ⟨Ao60, co60, eo60⟩ := Kd.R_slice HO_9.out
                            subst eo60
                            go_wp2
                            repeat (go_quiet (fail); try go_wp2)
                            go_ret
                            exact ⟨by first | rfl | (simp [errW_none, errW_some] <;> rfl) | (simp [*, errW_none, errW_some] <;> rfl), by repeat (first | (with_reducible first | exact HB.out | apply below_alloc | apply pw_below_drewN | apply below_drew1) | exact HB.out)⟩

end Go.Proofs.Ytnieipjofnnpfaa.PPlace
