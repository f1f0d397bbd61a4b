-- Written for this claim by the session's own driver of the kit's printer (mprint.py).
import Derived.Test.YtnieipjofnnpfaaPPlacex0
import Derived.Test.YtnieipjofnnpfaaPPlacex1
import Derived.Test.YtnieipjofnnpfaaPPlacex3
import Derived.Test.YtnieipjofnnpfaaPPlacex4
namespace Go.Proofs.Ytnieipjofnnpfaa.PPlace
open Go.RowKit Go.Proofs.YtnieipjofnnpfaaW.PrintWords Go.Proofs.YtnieipjofnnpfaaW.PrintLast Go.Proofs.YtnieipjofnnpfaaW.PrintMore
attribute [local go_sem] max2_int min2_int max_two min_two max_three min_three max_four min_four   -- for this text's walks alone
set_option linter.unusedVariables false
set_option linter.unusedSimpArgs false

attribute [local go_sem high] eqA24
/-! ### lockgatelaw17_PlaceLead: function 5 -/
mutual
def lockgatelaw17_PlaceLead.j0 : Nat → List (S24) → Int → Bool → Option (Bool)
  | 0, _, _, _ => none
  | k + 1, x0, x1, x19 => if x19 = true then ((lockgatelaw17_awake.f).bind fun t210 => (some t210)) else (if (x0.length : Int) = 0 then (none) else (if 0 ≤ (Int.tmod (wrap64 (x1)) (x0.length : Int)) then (if (Int.tmod (wrap64 (x1)) (x0.length : Int)) < (x0.length : Int) then ((place_Lead.f x0 ((rd_T24 x0 (Int.tmod (wrap64 (x1)) (x0.length : Int))).f0) ((rd_T24 x0 (Int.tmod (wrap64 (x1)) (x0.length : Int))).f1)).bind fun t212 => (if (t212.length : Int) = (x0.length : Int) then (if 0 < (t212.length : Int) then (lockgatelaw17_PlaceLead.j1 k x0 (Int.tmod (wrap64 (x1)) (x0.length : Int)) t212 (!(((rd_T24 t212 0).f0) == ((rd_T24 x0 (Int.tmod (wrap64 (x1)) (x0.length : Int))).f0)) || (!(((rd_T24 t212 0).f1) == ((rd_T24 x0 (Int.tmod (wrap64 (x1)) (x0.length : Int))).f1))))) else (none)) else (lockgatelaw17_PlaceLead.j1 k x0 (Int.tmod (wrap64 (x1)) (x0.length : Int)) t212 true))) else (none)) else (none)))
def lockgatelaw17_PlaceLead.j1 : Nat → List (S24) → Int → List (S24) → Bool → Option (Bool)
  | 0, _, _, _, _ => none
  | k + 1, x0, x5, x6, x46 => if x46 = true then (some false) else (lockgatelaw17_PlaceLead.l0 k x0 x5 x6 0)
def lockgatelaw17_PlaceLead.l0 : Nat → List (S24) → Int → List (S24) → Int → Option (Bool)
  | 0, _, _, _, _ => none
  | k + 1, x0, x5, x6, x7 => if x7 < (x0.length : Int) then (if x7 < x5 then (if 0 ≤ (wrap64 (x7 + 1)) then (if (wrap64 (x7 + 1)) < (x6.length : Int) then (if 0 ≤ x7 then (if (!(((rd_T24 x6 (wrap64 (x7 + 1))).f0) == ((rd_T24 x0 x7).f0)) || (!(((rd_T24 x6 (wrap64 (x7 + 1))).f1) == ((rd_T24 x0 x7).f1)))) = true then (some false) else (if x7 > x5 then (if x7 < (x6.length : Int) then (if (!(((rd_T24 x6 x7).f0) == ((rd_T24 x0 x7).f0)) || (!(((rd_T24 x6 x7).f1) == ((rd_T24 x0 x7).f1)))) = true then (some false) else (lockgatelaw17_PlaceLead.l0 k x0 x5 x6 (wrap64 (x7 + 1)))) else (none)) else (lockgatelaw17_PlaceLead.l0 k x0 x5 x6 (wrap64 (x7 + 1))))) else (none)) else (none)) else (none)) else (if x7 > x5 then (if 0 ≤ x7 then (if x7 < (x6.length : Int) then (if (!(((rd_T24 x6 x7).f0) == ((rd_T24 x0 x7).f0)) || (!(((rd_T24 x6 x7).f1) == ((rd_T24 x0 x7).f1)))) = true then (some false) else (lockgatelaw17_PlaceLead.l0 k x0 x5 x6 (wrap64 (x7 + 1)))) else (none)) else (none)) else (lockgatelaw17_PlaceLead.l0 k x0 x5 x6 (wrap64 (x7 + 1))))) else (some true)
end
def lockgatelaw17_PlaceLead.f (k : Nat) (l0 : List (S24)) (a1 : Int) : Option (Bool) := (lockgatelaw17_awake.f).bind fun t208 => (if t208 = true then ((lockgateref17_Single.f k l0).bind fun t209 => (if t209 = true then (lockgatelaw17_PlaceLead.j0 k l0 a1 ((l0.length : Int) == 0)) else (lockgatelaw17_PlaceLead.j0 k l0 a1 true))) else (lockgatelaw17_PlaceLead.j0 k l0 a1 true))
theorem lockgatelaw17_PlaceLead.mono_l : ∀ k, (∀ y0 y1 y2, LeO (lockgatelaw17_PlaceLead.j0 k y0 y1 y2) (lockgatelaw17_PlaceLead.j0 (k + 1) y0 y1 y2)) ∧ (∀ y0 y1 y2 y3, LeO (lockgatelaw17_PlaceLead.j1 k y0 y1 y2 y3) (lockgatelaw17_PlaceLead.j1 (k + 1) y0 y1 y2 y3)) ∧ (∀ y0 y1 y2 y3, LeO (lockgatelaw17_PlaceLead.l0 k y0 y1 y2 y3) (lockgatelaw17_PlaceLead.l0 (k + 1) y0 y1 y2 y3))
  | 0 => ⟨fun _ _ _ r h => by simp [lockgatelaw17_PlaceLead.j0] at h, fun _ _ _ _ r h => by simp [lockgatelaw17_PlaceLead.j1] at h, fun _ _ _ _ r h => by simp [lockgatelaw17_PlaceLead.l0] at h⟩
  | k + 1 => by
    obtain ⟨ih0, ih1, ih2⟩ := lockgatelaw17_PlaceLead.mono_l k
    refine ⟨?_, ?_, ?_⟩
    · intro y0 y1 y2
      unfold lockgatelaw17_PlaceLead.j0
      repeat' first
      | (with_reducible exact ih0 _ _ _)
      | (with_reducible exact ih1 _ _ _ _)
      | (with_reducible exact ih2 _ _ _ _)
      | (with_reducible exact lockgateref17_Single.mono _ _)
      | (with_reducible exact LeO.refl _)
      | (with_reducible exact LeO.none _)
      | (with_reducible refine LeO.ite ?_ ?_)
      | (with_reducible refine LeO.bind ?_ (fun _ => ?_))
      | exact ih0 _ _ _
      | exact ih1 _ _ _ _
      | exact ih2 _ _ _ _
      | exact lockgateref17_Single.mono _ _
      | exact LeO.none _
      | refine LeO.ite ?_ ?_
      | refine LeO.bind ?_ (fun _ => ?_)
    · intro y0 y1 y2 y3
      unfold lockgatelaw17_PlaceLead.j1
      repeat' first
      | (with_reducible exact ih0 _ _ _)
      | (with_reducible exact ih1 _ _ _ _)
      | (with_reducible exact ih2 _ _ _ _)
      | (with_reducible exact lockgateref17_Single.mono _ _)
      | (with_reducible exact LeO.refl _)
      | (with_reducible exact LeO.none _)
      | (with_reducible refine LeO.ite ?_ ?_)
      | (with_reducible refine LeO.bind ?_ (fun _ => ?_))
      | exact ih0 _ _ _
      | exact ih1 _ _ _ _
      | exact ih2 _ _ _ _
      | exact lockgateref17_Single.mono _ _
      | exact LeO.none _
      | refine LeO.ite ?_ ?_
      | refine LeO.bind ?_ (fun _ => ?_)
    · intro y0 y1 y2 y3
      unfold lockgatelaw17_PlaceLead.l0
      repeat' first
      | (with_reducible exact ih0 _ _ _)
      | (with_reducible exact ih1 _ _ _ _)
      | (with_reducible exact ih2 _ _ _ _)
      | (with_reducible exact lockgateref17_Single.mono _ _)
      | (with_reducible exact LeO.refl _)
      | (with_reducible exact LeO.none _)
      | (with_reducible refine LeO.ite ?_ ?_)
      | (with_reducible refine LeO.bind ?_ (fun _ => ?_))
      | exact ih0 _ _ _
      | exact ih1 _ _ _ _
      | exact ih2 _ _ _ _
      | exact lockgateref17_Single.mono _ _
      | exact LeO.none _
      | refine LeO.ite ?_ ?_
      | refine LeO.bind ?_ (fun _ => ?_)
theorem lockgatelaw17_PlaceLead.mono : ∀ a0 a1 k, LeO (lockgatelaw17_PlaceLead.f k a0 a1) (lockgatelaw17_PlaceLead.f (k + 1) a0 a1) := by
  intro a0 a1 k
  obtain ⟨ih0, ih1, ih2⟩ := lockgatelaw17_PlaceLead.mono_l k
  unfold lockgatelaw17_PlaceLead.f
  repeat' first
      | (with_reducible exact ih0 _ _ _)
      | (with_reducible exact ih1 _ _ _ _)
      | (with_reducible exact ih2 _ _ _ _)
      | (with_reducible exact lockgateref17_Single.mono _ _)
      | (with_reducible exact LeO.refl _)
      | (with_reducible exact LeO.none _)
      | (with_reducible refine LeO.ite ?_ ?_)
      | (with_reducible refine LeO.bind ?_ (fun _ => ?_))
      | exact ih0 _ _ _
      | exact ih1 _ _ _ _
      | exact ih2 _ _ _ _
      | exact lockgateref17_Single.mono _ _
      | exact LeO.none _
      | refine LeO.ite ?_ ?_
      | refine LeO.bind ?_ (fun _ => ?_)
set_option maxHeartbeats 8000000 in
set_option maxRecDepth 100000 in
theorem lockgatelaw17_PlaceLead.calls (k : Nat) (A0 : Option Addr) (c0 : Nat) (l0 : List (S24)) (a1 : Int) (r : Bool) (w : World) (hr0 : Kd.C k24 w A0 l0.length l0) (hc0 : l0.length ≤ c0) (h : lockgatelaw17_PlaceLead.f k l0 a1 = some r) :
    Calls Try.prog 5 #[.slice A0 l0.length c0, .int .u8 a1] w fun e w' => e = .returned (.bool r) ∧ Below w.heap.size w w' := by
  have hu24 := Try.underlying24
  have HR0 := Aside0.mk hr0
  have HC0 := Aside0.mk hc0
  clear hr0 hc0
  have HB := Aside0.mk (Below.refl w.heap.size w)
  have H : ((lockgatelaw17_awake.f).bind fun t208 => (if t208 = true then ((lockgateref17_Single.f k l0).bind fun t209 => (if t209 = true then (lockgatelaw17_PlaceLead.j0 k l0 a1 ((l0.length : Int) == 0)) else (lockgatelaw17_PlaceLead.j0 k l0 a1 true))) else (lockgatelaw17_PlaceLead.j0 k l0 a1 true))) = some r := h
  clear h
  have HC3 := Aside0.mk H
  clear H
  go_enter Try.func5, Try.ntmps5
  go_upto_region 1 with (fail)
  repeat (go_quiet (fail); go_upto_region 1 with (fail))
  go_cut [19] (fun v19 wc => ∃ (kq : Nat) (x19_2 : Bool), v19 = .bool x19_2 ∧ Aside0 (lockgatelaw17_PlaceLead.j0 kq l0 a1 x19_2 = some r) ∧ Aside0 (kq ≤ k) ∧ Aside0 (Below w.heap.size w wc))
  case first =>
    have H := HC3.out
    clear HC3
    replace H := Option.bind_eq_some_iff.mp H
    obtain ⟨t208, A40, H⟩ := H
    replace H : (if t208 = true then ((lockgateref17_Single.f k l0).bind fun t209 => (if t209 = true then (lockgatelaw17_PlaceLead.j0 k l0 a1 ((l0.length : Int) == 0)) else (lockgatelaw17_PlaceLead.j0 k l0 a1 true))) else (lockgatelaw17_PlaceLead.j0 k l0 a1 true)) = some r := H
    have A4 := Aside0.mk A40
    clear A40
    by_cases c5 : t208 = true
    · subst c5
      have H1 : ((lockgateref17_Single.f k l0).bind fun t209 => (if t209 = true then (lockgatelaw17_PlaceLead.j0 k l0 a1 ((l0.length : Int) == 0)) else (lockgatelaw17_PlaceLead.j0 k l0 a1 true))) = some r := by rw [if_pos rfl] at H; exact H
      clear H
      have H := H1
      clear H1
      replace H := Option.bind_eq_some_iff.mp H
      obtain ⟨t209, A60, H⟩ := H
      replace H : (if t209 = true then (lockgatelaw17_PlaceLead.j0 k l0 a1 ((l0.length : Int) == 0)) else (lockgatelaw17_PlaceLead.j0 k l0 a1 true)) = some r := H
      have A6 := Aside0.mk A60
      clear A60
      by_cases c7 : t209 = true
      · subst c7
        have H1 : (lockgatelaw17_PlaceLead.j0 k l0 a1 ((l0.length : Int) == 0)) = some r := by rw [if_pos rfl] at H; exact H
        clear H
        have H := H1
        clear H1
        have H' := Aside0.mk H
        clear H
        go_wp2_with (first | (go_at_call 7; (with_reducible refine (lockgatelaw17_awake.calls  true _ A4.out).mono ?_); rintro e w8 ⟨rfl, hb⟩; have n0_ := Aside0.mk (below_step (by repeat (first | (with_reducible first | exact HB.out | apply below_alloc | apply pw_below_drewN | apply below_drew1) | exact HB.out)) hb); clear HB; have HB := n0_; clear n0_; (try clear hb); (try clear hb2); (try clear hk); (try clear hi)) | (go_at_call 17; (with_reducible refine (lockgateref17_Single.calls k _ _ l0 true _ ?side1 ?side2 A6.out).mono ?_); (case side1 => repeat (first | exact (Kd.C_below HR0.out HB.out) | (with_reducible refine Kd.C_alloc ?_ _) | (with_reducible refine Kd.C_drewN ?_ _) | (with_reducible refine Kd.C_drew ?_))); (case side2 => exact HC0.out); rintro e w' ⟨rfl, ⟨nd, rfl⟩⟩; (try first | exact ⟨rfl, _, World.drewN_drewN _ _ _⟩ | exact ⟨rfl, _, Eq.trans (World.drewN_drewN _ _ _) (congrArg (World.drewN _) (Nat.add_assoc _ _ _))⟩)))
        repeat (go_quiet (first | (go_at_call 7; (with_reducible refine (lockgatelaw17_awake.calls  true _ A4.out).mono ?_); rintro e w8 ⟨rfl, hb⟩; have n0_ := Aside0.mk (below_step (by repeat (first | (with_reducible first | exact HB.out | apply below_alloc | apply pw_below_drewN | apply below_drew1) | exact HB.out)) hb); clear HB; have HB := n0_; clear n0_; (try clear hb); (try clear hb2); (try clear hk); (try clear hi)) | (go_at_call 17; (with_reducible refine (lockgateref17_Single.calls k _ _ l0 true _ ?side1 ?side2 A6.out).mono ?_); (case side1 => repeat (first | exact (Kd.C_below HR0.out HB.out) | (with_reducible refine Kd.C_alloc ?_ _) | (with_reducible refine Kd.C_drewN ?_ _) | (with_reducible refine Kd.C_drew ?_))); (case side2 => exact HC0.out); rintro e w' ⟨rfl, ⟨nd, rfl⟩⟩; (try first | exact ⟨rfl, _, World.drewN_drewN _ _ _⟩ | exact ⟨rfl, _, Eq.trans (World.drewN_drewN _ _ _) (congrArg (World.drewN _) (Nat.add_assoc _ _ _))⟩))); try go_wp2_with (first | (go_at_call 7; (with_reducible refine (lockgatelaw17_awake.calls  true _ A4.out).mono ?_); rintro e w8 ⟨rfl, hb⟩; have n0_ := Aside0.mk (below_step (by repeat (first | (with_reducible first | exact HB.out | apply below_alloc | apply pw_below_drewN | apply below_drew1) | exact HB.out)) hb); clear HB; have HB := n0_; clear n0_; (try clear hb); (try clear hb2); (try clear hk); (try clear hi)) | (go_at_call 17; (with_reducible refine (lockgateref17_Single.calls k _ _ l0 true _ ?side1 ?side2 A6.out).mono ?_); (case side1 => repeat (first | exact (Kd.C_below HR0.out HB.out) | (with_reducible refine Kd.C_alloc ?_ _) | (with_reducible refine Kd.C_drewN ?_ _) | (with_reducible refine Kd.C_drew ?_))); (case side2 => exact HC0.out); rintro e w' ⟨rfl, ⟨nd, rfl⟩⟩; (try first | exact ⟨rfl, _, World.drewN_drewN _ _ _⟩ | exact ⟨rfl, _, Eq.trans (World.drewN_drewN _ _ _) (congrArg (World.drewN _) (Nat.add_assoc _ _ _))⟩))))
        go_meet
        case rel => exact ⟨_, (((l0.length : Int) == 0)), (by first | rfl | (simp; done) | (simp [*]; done)), H', ⟨by first | omega | exact Nat.le_refl _⟩, ⟨by repeat (first | (with_reducible first | exact HB.out | apply below_alloc | apply pw_below_drewN | apply below_drew1) | exact HB.out)⟩⟩
      · replace c7 := Bool.eq_false_iff.mpr c7
        subst c7
        have H1 : (lockgatelaw17_PlaceLead.j0 k l0 a1 true) = some r := by rw [if_neg (show ¬ (false = true) by decide)] at H; exact H
        clear H
        have H := H1
        clear H1
        have H' := Aside0.mk H
        clear H
        go_wp2_with (first | (go_at_call 7; (with_reducible refine (lockgatelaw17_awake.calls  true _ A4.out).mono ?_); rintro e w9 ⟨rfl, hb⟩; have n0_ := Aside0.mk (below_step (by repeat (first | (with_reducible first | exact HB.out | apply below_alloc | apply pw_below_drewN | apply below_drew1) | exact HB.out)) hb); clear HB; have HB := n0_; clear n0_; (try clear hb); (try clear hb2); (try clear hk); (try clear hi)) | (go_at_call 17; (with_reducible refine (lockgateref17_Single.calls k _ _ l0 false _ ?side1 ?side2 A6.out).mono ?_); (case side1 => repeat (first | exact (Kd.C_below HR0.out HB.out) | (with_reducible refine Kd.C_alloc ?_ _) | (with_reducible refine Kd.C_drewN ?_ _) | (with_reducible refine Kd.C_drew ?_))); (case side2 => exact HC0.out); rintro e w' ⟨rfl, ⟨nd, rfl⟩⟩; (try first | exact ⟨rfl, _, World.drewN_drewN _ _ _⟩ | exact ⟨rfl, _, Eq.trans (World.drewN_drewN _ _ _) (congrArg (World.drewN _) (Nat.add_assoc _ _ _))⟩)))
        repeat (go_quiet (first | (go_at_call 7; (with_reducible refine (lockgatelaw17_awake.calls  true _ A4.out).mono ?_); rintro e w9 ⟨rfl, hb⟩; have n0_ := Aside0.mk (below_step (by repeat (first | (with_reducible first | exact HB.out | apply below_alloc | apply pw_below_drewN | apply below_drew1) | exact HB.out)) hb); clear HB; have HB := n0_; clear n0_; (try clear hb); (try clear hb2); (try clear hk); (try clear hi)) | (go_at_call 17; (with_reducible refine (lockgateref17_Single.calls k _ _ l0 false _ ?side1 ?side2 A6.out).mono ?_); (case side1 => repeat (first | exact (Kd.C_below HR0.out HB.out) | (with_reducible refine Kd.C_alloc ?_ _) | (with_reducible refine Kd.C_drewN ?_ _) | (with_reducible refine Kd.C_drew ?_))); (case side2 => exact HC0.out); rintro e w' ⟨rfl, ⟨nd, rfl⟩⟩; (try first | exact ⟨rfl, _, World.drewN_drewN _ _ _⟩ | exact ⟨rfl, _, Eq.trans (World.drewN_drewN _ _ _) (congrArg (World.drewN _) (Nat.add_assoc _ _ _))⟩))); try go_wp2_with (first | (go_at_call 7; (with_reducible refine (lockgatelaw17_awake.calls  true _ A4.out).mono ?_); rintro e w9 ⟨rfl, hb⟩; have n0_ := Aside0.mk (below_step (by repeat (first | (with_reducible first | exact HB.out | apply below_alloc | apply pw_below_drewN | apply below_drew1) | exact HB.out)) hb); clear HB; have HB := n0_; clear n0_; (try clear hb); (try clear hb2); (try clear hk); (try clear hi)) | (go_at_call 17; (with_reducible refine (lockgateref17_Single.calls k _ _ l0 false _ ?side1 ?side2 A6.out).mono ?_); (case side1 => repeat (first | exact (Kd.C_below HR0.out HB.out) | (with_reducible refine Kd.C_alloc ?_ _) | (with_reducible refine Kd.C_drewN ?_ _) | (with_reducible refine Kd.C_drew ?_))); (case side2 => exact HC0.out); rintro e w' ⟨rfl, ⟨nd, rfl⟩⟩; (try first | exact ⟨rfl, _, World.drewN_drewN _ _ _⟩ | exact ⟨rfl, _, Eq.trans (World.drewN_drewN _ _ _) (congrArg (World.drewN _) (Nat.add_assoc _ _ _))⟩))))
        go_meet
        case rel => exact ⟨_, (true), (by first | rfl | (simp; done) | (simp [*]; done)), H', ⟨by first | omega | exact Nat.le_refl _⟩, ⟨by repeat (first | (with_reducible first | exact HB.out | apply below_alloc | apply pw_below_drewN | apply below_drew1) | exact HB.out)⟩⟩
    · replace c5 := Bool.eq_false_iff.mpr c5
      subst c5
      have H1 : (lockgatelaw17_PlaceLead.j0 k l0 a1 true) = some r := by rw [if_neg (show ¬ (false = true) by decide)] at H; exact H
      clear H
      have H := H1
      clear H1
      have H' := Aside0.mk H
      clear H
      go_wp2_with (first | (go_at_call 7; (with_reducible refine (lockgatelaw17_awake.calls  false _ A4.out).mono ?_); rintro e w10 ⟨rfl, hb⟩; have n0_ := Aside0.mk (below_step (by repeat (first | (with_reducible first | exact HB.out | apply below_alloc | apply pw_below_drewN | apply below_drew1) | exact HB.out)) hb); clear HB; have HB := n0_; clear n0_; (try clear hb); (try clear hb2); (try clear hk); (try clear hi)))
      repeat (go_quiet (first | (go_at_call 7; (with_reducible refine (lockgatelaw17_awake.calls  false _ A4.out).mono ?_); rintro e w10 ⟨rfl, hb⟩; have n0_ := Aside0.mk (below_step (by repeat (first | (with_reducible first | exact HB.out | apply below_alloc | apply pw_below_drewN | apply below_drew1) | exact HB.out)) hb); clear HB; have HB := n0_; clear n0_; (try clear hb); (try clear hb2); (try clear hk); (try clear hi))); try go_wp2_with (first | (go_at_call 7; (with_reducible refine (lockgatelaw17_awake.calls  false _ A4.out).mono ?_); rintro e w10 ⟨rfl, hb⟩; have n0_ := Aside0.mk (below_step (by repeat (first | (with_reducible first | exact HB.out | apply below_alloc | apply pw_below_drewN | apply below_drew1) | exact HB.out)) hb); clear HB; have HB := n0_; clear n0_; (try clear hb); (try clear hb2); (try clear hk); (try clear hi))))
      go_meet
      case rel => exact ⟨_, (true), (by first | rfl | (simp; done) | (simp [*]; done)), H', ⟨by first | omega | exact Nat.le_refl _⟩, ⟨by repeat (first | (with_reducible first | exact HB.out | apply below_alloc | apply pw_below_drewN | apply below_drew1) | exact HB.out)⟩⟩
  case rest =>
    clear HC3
    try clear p2
    try clear c5
    try clear c7
    obtain ⟨kq, x19_2, rfl, HA, HJ2, HB⟩ := hcut
    cases kq with
    | zero => exact absurd HA.out (by simp [lockgatelaw17_PlaceLead.j0])
    | succ kj2 =>
      have H := HA.out
      clear HA
      simp only [lockgatelaw17_PlaceLead.j0] at H
      by_cases c11 : x19_2 = true
      · subst c11
        have H1 : ((lockgatelaw17_awake.f).bind fun t210 => (some t210)) = some r := by rw [if_pos rfl] at H; exact H
        clear H
        have H := H1
        clear H1
        replace H := Option.bind_eq_some_iff.mp H
        obtain ⟨t210, A120, H⟩ := H
        replace H : (some t210) = some r := H
        have A12 := Aside0.mk A120
        clear A120
        obtain rfl := Option.some.inj H
        go_wp2_with (first | (go_at_call 7; (with_reducible refine (lockgatelaw17_awake.calls  t210 _ A12.out).mono ?_); rintro e w13 ⟨rfl, hb⟩; have n0_ := Aside0.mk (below_step (by repeat (first | (with_reducible first | exact HB.out | apply below_alloc | apply pw_below_drewN | apply below_drew1) | exact HB.out)) hb); clear HB; have HB := n0_; clear n0_; (try clear hb); (try clear hb2); (try clear hk); (try clear hi)))
        repeat (go_quiet (first | (go_at_call 7; (with_reducible refine (lockgatelaw17_awake.calls  t210 _ A12.out).mono ?_); rintro e w13 ⟨rfl, hb⟩; have n0_ := Aside0.mk (below_step (by repeat (first | (with_reducible first | exact HB.out | apply below_alloc | apply pw_below_drewN | apply below_drew1) | exact HB.out)) hb); clear HB; have HB := n0_; clear n0_; (try clear hb); (try clear hb2); (try clear hk); (try clear hi))); try go_wp2_with (first | (go_at_call 7; (with_reducible refine (lockgatelaw17_awake.calls  t210 _ A12.out).mono ?_); rintro e w13 ⟨rfl, hb⟩; have n0_ := Aside0.mk (below_step (by repeat (first | (with_reducible first | exact HB.out | apply below_alloc | apply pw_below_drewN | apply below_drew1) | exact HB.out)) hb); clear HB; have HB := n0_; clear n0_; (try clear hb); (try clear hb2); (try clear hk); (try clear hi))))
        go_ret
        exact ⟨by first | rfl | (simp [errW_none, errW_some] <;> rfl) | (simp [*, errW_none, errW_some] <;> rfl), by repeat (first | (with_reducible first | exact HB.out | apply below_alloc | apply pw_below_drewN | apply below_drew1) | exact HB.out)⟩
      · replace c11 := Bool.eq_false_iff.mpr c11
        subst c11
        have H1 : (if (l0.length : Int) = 0 then (none) else (if 0 ≤ (Int.tmod (wrap64 (a1)) (l0.length : Int)) then (if (Int.tmod (wrap64 (a1)) (l0.length : Int)) < (l0.length : Int) then ((place_Lead.f l0 ((rd_T24 l0 (Int.tmod (wrap64 (a1)) (l0.length : Int))).f0) ((rd_T24 l0 (Int.tmod (wrap64 (a1)) (l0.length : Int))).f1)).bind fun t212 => (if (t212.length : Int) = (l0.length : Int) then (if 0 < (t212.length : Int) then (lockgatelaw17_PlaceLead.j1 kj2 l0 (Int.tmod (wrap64 (a1)) (l0.length : Int)) t212 (!(((rd_T24 t212 0).f0) == ((rd_T24 l0 (Int.tmod (wrap64 (a1)) (l0.length : Int))).f0)) || (!(((rd_T24 t212 0).f1) == ((rd_T24 l0 (Int.tmod (wrap64 (a1)) (l0.length : Int))).f1))))) else (none)) else (lockgatelaw17_PlaceLead.j1 kj2 l0 (Int.tmod (wrap64 (a1)) (l0.length : Int)) t212 true))) else (none)) else (none))) = some r := by rw [if_neg (show ¬ (false = true) by decide)] at H; exact H
        clear H
        have H := H1
        clear H1
        by_cases c14 : (l0.length : Int) = 0
        · rw [if_pos c14] at H
          exact absurd H (by simp)
        · rw [if_neg c14] at H
          have c14b0 : ((l0.length : Int) == 0) = false := beq_eq_false_iff_ne.mpr c14
          have c14b1 : ((l0.length : Int) != 0) = true := bne_iff_ne.mpr c14
          have c14b2 : ¬ (l0 = []) := fun h_ => c14 (by rw [h_]; rfl)
          obtain ⟨ji15, hji15⟩ : ∃ j_ : Int, (Int.tmod (wrap64 (a1)) (l0.length : Int)) = j_ := ⟨_, rfl⟩
          replace H : (if 0 ≤ (ji15) then (if (ji15) < (l0.length : Int) then ((place_Lead.f l0 ((rd_T24 l0 (ji15)).f0) ((rd_T24 l0 (ji15)).f1)).bind fun t212 => (if (t212.length : Int) = (l0.length : Int) then (if 0 < (t212.length : Int) then (lockgatelaw17_PlaceLead.j1 kj2 l0 ji15 t212 (!(((rd_T24 t212 0).f0) == ((rd_T24 l0 (ji15)).f0)) || (!(((rd_T24 t212 0).f1) == ((rd_T24 l0 (ji15)).f1))))) else (none)) else (lockgatelaw17_PlaceLead.j1 kj2 l0 ji15 t212 true))) else (none)) else (none)) = some r := by first | (rw [hji15] at H; exact H) | (simp only [hji15] at H ⊢; exact H)
          by_cases c16 : 0 ≤ (ji15)
          · rw [if_pos c16] at H
            have c16b0 : decide (0 ≤ (ji15)) = true := decide_eq_true c16
            clear c16
            by_cases c17 : (ji15) < (l0.length : Int)
            · rw [if_pos c17] at H
              have c17b0 : decide ((ji15) < (l0.length : Int)) = true := decide_eq_true c17
              clear c17
              replace H := Option.bind_eq_some_iff.mp H
              obtain ⟨t212, A180, H⟩ := H
              replace H : (if (t212.length : Int) = (l0.length : Int) then (if 0 < (t212.length : Int) then (lockgatelaw17_PlaceLead.j1 kj2 l0 ji15 t212 (!(((rd_T24 t212 0).f0) == ((rd_T24 l0 (ji15)).f0)) || (!(((rd_T24 t212 0).f1) == ((rd_T24 l0 (ji15)).f1))))) else (none)) else (lockgatelaw17_PlaceLead.j1 kj2 l0 ji15 t212 true)) = some r := H
              have A18 := Aside0.mk A180
              clear A180
              have HC19 := Aside0.mk H
              clear H
              have p211 : 0 ≤ ((ji15) : Int) := of_decide_eq_true (by first | (with_reducible assumption) | assumption)
              have q211 : (ji15) < (l0.length : Int) := of_decide_eq_true (by first | (with_reducible assumption) | assumption)
              obtain ⟨ad211, e211, hx211_0, hx211_1⟩ := at_T24 HR0.out (ji15) p211 q211
              cases e211
              replace hx211_0 := (HB.out.cell (World.block_lt_of_cell? w _ hx211_0)).trans hx211_0
              replace hx211_1 := (HB.out.cell (World.block_lt_of_cell? w _ hx211_1)).trans hx211_1
              replace p211 := eq_true p211
              replace q211 := eq_true q211
              go_upto_region 5 with (first | (go_at_call 14; (with_reducible refine (place_Lead.calls _ _ l0 ((rd_T24 l0 (ji15)).f0) ((rd_T24 l0 (ji15)).f1) t212 _ ?side1 ?side2 A18.out).mono ?_); (case side1 => repeat (first | exact (Kd.C_below HR0.out HB.out) | (with_reducible refine Kd.C_alloc ?_ _) | (with_reducible refine Kd.C_drewN ?_ _) | (with_reducible refine Kd.C_drew ?_))); (case side2 => exact HC0.out); rintro e w20 ⟨v213, rfl, ho0, hb⟩; have n0_ := Aside0.mk (Kd.R_lower ho0 (below_size (by repeat (first | (with_reducible first | exact HB.out | apply below_alloc | apply pw_below_drewN | apply below_drew1) | exact HB.out)))); have n1_ := Aside0.mk (below_step (by repeat (first | (with_reducible first | exact HB.out | apply below_alloc | apply pw_below_drewN | apply below_drew1) | exact HB.out)) hb); clear HB; have HO214 := n0_; have HB := n1_; clear n0_ n1_; (try clear hb); (try clear hb2); (try clear hk); (try clear hi); (try clear ho0)))
              repeat (go_quiet (first | (go_at_call 14; (with_reducible refine (place_Lead.calls _ _ l0 ((rd_T24 l0 (ji15)).f0) ((rd_T24 l0 (ji15)).f1) t212 _ ?side1 ?side2 A18.out).mono ?_); (case side1 => repeat (first | exact (Kd.C_below HR0.out HB.out) | (with_reducible refine Kd.C_alloc ?_ _) | (with_reducible refine Kd.C_drewN ?_ _) | (with_reducible refine Kd.C_drew ?_))); (case side2 => exact HC0.out); rintro e w20 ⟨v213, rfl, ho0, hb⟩; have n0_ := Aside0.mk (Kd.R_lower ho0 (below_size (by repeat (first | (with_reducible first | exact HB.out | apply below_alloc | apply pw_below_drewN | apply below_drew1) | exact HB.out)))); have n1_ := Aside0.mk (below_step (by repeat (first | (with_reducible first | exact HB.out | apply below_alloc | apply pw_below_drewN | apply below_drew1) | exact HB.out)) hb); clear HB; have HO214 := n0_; have HB := n1_; clear n0_ n1_; (try clear hb); (try clear hb2); (try clear hk); (try clear hi); (try clear ho0))); go_upto_region 5 with (first | (go_at_call 14; (with_reducible refine (place_Lead.calls _ _ l0 ((rd_T24 l0 (ji15)).f0) ((rd_T24 l0 (ji15)).f1) t212 _ ?side1 ?side2 A18.out).mono ?_); (case side1 => repeat (first | exact (Kd.C_below HR0.out HB.out) | (with_reducible refine Kd.C_alloc ?_ _) | (with_reducible refine Kd.C_drewN ?_ _) | (with_reducible refine Kd.C_drew ?_))); (case side2 => exact HC0.out); rintro e w20 ⟨v213, rfl, ho0, hb⟩; have n0_ := Aside0.mk (Kd.R_lower ho0 (below_size (by repeat (first | (with_reducible first | exact HB.out | apply below_alloc | apply pw_below_drewN | apply below_drew1) | exact HB.out)))); have n1_ := Aside0.mk (below_step (by repeat (first | (with_reducible first | exact HB.out | apply below_alloc | apply pw_below_drewN | apply below_drew1) | exact HB.out)) hb); clear HB; have HO214 := n0_; have HB := n1_; clear n0_ n1_; (try clear hb); (try clear hb2); (try clear hk); (try clear hi); (try clear ho0))))
              (try simp only [Act.put, List.setIfInBounds_toArray, List.set_cons_zero, List.set_cons_succ])
              go_cut [46] (fun v46 wc => ∃ (kq : Nat) (x46_18 : Bool), v46 = .bool x46_18 ∧ Aside0 (lockgatelaw17_PlaceLead.j1 kq l0 ji15 t212 x46_18 = some r) ∧ Aside0 (kq ≤ kj2) ∧ Aside0 (Kd.R k24 24 wc w.heap.size (fun _ => True) v213 t212) ∧ Aside0 (Below w.heap.size w wc))
              case first =>
                have H := HC19.out
                clear HC19
                by_cases c21 : (t212.length : Int) = (l0.length : Int)
                · rw [if_pos c21] at H
                  have c21b0 : ((t212.length : Int) == (l0.length : Int)) = true := beq_iff_eq.mpr c21
                  have c21b1 : ((t212.length : Int) != (l0.length : Int)) = false := bne_eq_false_iff_eq.mpr c21
                  have c21b2 : (t212.length == l0.length) = true := by first | simpa using c21 | (simp at c21 ⊢; omega)
                  clear c21
                  (first | rw [c21b0] | (simp only [i64_w, i32_w]; rw [c21b0]) | skip)
                  by_cases c22 : 0 < (t212.length : Int)
                  · rw [if_pos c22] at H
                    have c22b0 : decide (0 < (t212.length : Int)) = true := decide_eq_true c22
                    have c22b1 : decide (0 < t212.length) = true := decide_eq_true (by omega)
                    clear c22
                    have H' := Aside0.mk H
                    clear H
                    obtain ⟨Ao23, co23, eo23⟩ := Kd.R_slice HO214.out
                    subst eo23
                    have p215 : 0 ≤ (0 : Int) := (by omega)
                    have q215 : 0 < (t212.length : Int) := of_decide_eq_true (by first | (with_reducible assumption) | assumption)
                    obtain ⟨ad215, e215, hx215_0, hx215_1⟩ := at_T24 (Kd.R_reads' HO214.out).2.2 0 p215 q215
                    cases e215
                    have qi215 : (0 < t212.length) = True := eq_true (by omega)
                    (try rw [show ((0 : Int)).toNat = 0 from rfl] at hx215_0)
                    (try rw [show 0 * 2 = 0 from rfl] at hx215_0)
                    (try rw [Addr.add_zero'] at hx215_0)
                    (try rw [show ((0 : Int)).toNat = 0 from rfl] at hx215_1)
                    (try rw [show 0 * 2 = 0 from rfl] at hx215_1)
                    (try rw [Addr.add_zero'] at hx215_1)
                    replace p215 := eq_true p215
                    replace q215 := eq_true q215
                    have p216 : 0 ≤ ((ji15) : Int) := of_decide_eq_true (by first | (with_reducible assumption) | assumption)
                    have q216 : (ji15) < (l0.length : Int) := of_decide_eq_true (by first | (with_reducible assumption) | assumption)
                    obtain ⟨ad216, e216, hx216_0, hx216_1⟩ := at_T24 HR0.out (ji15) p216 q216
                    obtain rfl : ad211 = ad216 := (by injection e216)
                    replace hx216_0 := (HB.out.cell (World.block_lt_of_cell? w _ hx216_0)).trans hx216_0
                    replace hx216_1 := (HB.out.cell (World.block_lt_of_cell? w _ hx216_1)).trans hx216_1
                    replace p216 := eq_true p216
                    replace q216 := eq_true q216
                    go_wp2
                    repeat (go_quiet (fail); try go_wp2)
                    go_meet
                    case rel => exact ⟨_, ((!(((rd_T24 t212 0).f0) == ((rd_T24 l0 (ji15)).f0)) || (!(((rd_T24 t212 0).f1) == ((rd_T24 l0 (ji15)).f1))))), (by first | rfl | (simp; done) | (simp only [← hji15] <;> (first | rfl | simp)) | (simp [*]; done)), H', ⟨by have := HJ2.out; first | omega | exact Nat.le_refl _⟩, ⟨by (with_reducible repeat (first | apply Kd.R_alloc | apply Kd.R_drewN | apply Kd.R_drew)); exact HO214.out⟩, ⟨by repeat (first | (with_reducible first | exact HB.out | apply below_alloc | apply pw_below_drewN | apply below_drew1) | exact HB.out)⟩⟩
                  · rw [if_neg c22] at H
                    exact absurd H (by simp)
                · rw [if_neg c21] at H
                  have c21b0 : ((t212.length : Int) == (l0.length : Int)) = false := beq_eq_false_iff_ne.mpr c21
                  have c21b1 : ((t212.length : Int) != (l0.length : Int)) = true := bne_iff_ne.mpr c21
                  have c21b2 : (t212.length == l0.length) = false := by first | simpa using c21 | (simp at c21 ⊢; omega)
                  (first | rw [c21b0] | (simp only [i64_w, i32_w]; rw [c21b0]) | skip)
                  have H' := Aside0.mk H
                  clear H
                  obtain ⟨Ao24, co24, eo24⟩ := Kd.R_slice HO214.out
                  subst eo24
                  go_wp2
                  repeat (go_quiet (fail); try go_wp2)
                  go_meet
                  case rel => exact ⟨_, (true), (by first | rfl | (simp; done) | (simp [*]; done)), H', ⟨by have := HJ2.out; first | omega | exact Nat.le_refl _⟩, ⟨by (with_reducible repeat (first | apply Kd.R_alloc | apply Kd.R_drewN | apply Kd.R_drew)); exact HO214.out⟩, ⟨by repeat (first | (with_reducible first | exact HB.out | apply below_alloc | apply pw_below_drewN | apply below_drew1) | exact HB.out)⟩⟩
              case rest =>
                clear HC19
                try clear c1
                try clear c2
                try clear p2
                try clear q2
                try clear hx2
                try clear qi2
                try clear c5
                try clear p6
                try clear c7
                try clear c11
                try clear c14
                try clear c14b0
                try clear c14b1
                try clear c14b2
                try clear c16
                try clear c16b0
                try clear c17
                try clear c17b0
                try clear c21
                try clear c21b0
                try clear c21b1
                try clear c21b2
                try clear p21
                try clear q21
                try clear hx21
                try clear qi21
                try clear c22
                try clear c22b0
                try clear c22b1
                try clear hx211_0
                try clear hx211_1
                try clear hx215_0
                try clear hx215_1
                try clear hx216_0
                try clear hx216_1
                try clear p2
                try clear p211
                try clear p215
                try clear p216
                try clear q211
                try clear q215
                try clear q216
                obtain ⟨kq, x46_18, rfl, HA, HJ18, HO_6, HB⟩ := hcut
                cases kq with
                | zero => exact absurd HA.out (by simp [lockgatelaw17_PlaceLead.j1])
                | succ kj18 =>
                  have H := HA.out
                  clear HA
                  simp only [lockgatelaw17_PlaceLead.j1] at H
                  by_cases c25 : x46_18 = true
                  · subst c25
                    have H1 : (some false) = some r := by rw [if_pos rfl] at H; exact H
                    clear H
                    have H := H1
                    clear H1
                    obtain rfl := Option.some.inj H
                    go_wp2
                    repeat (go_quiet (fail); try go_wp2)
                    go_ret
                    exact ⟨by first | rfl | (simp [errW_none, errW_some] <;> rfl) | (simp only [← hji15]; first | rfl | (simp [errW_none, errW_some] <;> rfl)) | (simp [*, errW_none, errW_some] <;> rfl), by repeat (first | (with_reducible first | exact HB.out | apply below_alloc | apply pw_below_drewN | apply below_drew1) | exact HB.out)⟩
                  · replace c25 := Bool.eq_false_iff.mpr c25
                    subst c25
                    have H1 : (lockgatelaw17_PlaceLead.l0 kj18 l0 ji15 t212 0) = some r := by rw [if_neg (show ¬ (false = true) by decide)] at H; exact H
                    clear H
                    have H := H1
                    clear H1
                    have H' := Aside0.mk H
                    clear H
                    go_wp2
                    repeat (go_quiet (fail); try go_wp2)
                    go_loopg [7] kj18 (fun kq v7 w' => ∃ (x7_3 : Int), v7 = .int .i64 x7_3 ∧ Aside0 (lockgatelaw17_PlaceLead.l0 kq l0 ji15 t212 x7_3 = some r) ∧ Aside0 (kq ≤ kj18) ∧ Aside0 (Kd.R k24 24 w' w.heap.size (fun _ => True) v213 t212) ∧ Aside0 (Below w.heap.size w w'))
                    case atStart => exact ⟨(0), (by first | rfl | (simp; done) | (simp [*]; done)), H', ⟨Nat.le_refl _⟩, ⟨by (with_reducible repeat (first | apply Kd.R_alloc | apply Kd.R_drewN | apply Kd.R_drew)); exact HO_6.out⟩, ⟨by repeat (first | (with_reducible first | exact HB.out | apply below_alloc | apply pw_below_drewN | apply below_drew1) | exact HB.out)⟩⟩
                    case round =>
                      clear H'
                      try clear c1
                      try clear c2
                      try clear p2
                      try clear q2
                      try clear hx2
                      try clear qi2
                      try clear c5
                      try clear p6
                      try clear c7
                      try clear c11
                      try clear c14
                      try clear c14b0
                      try clear c14b1
                      try clear c14b2
                      try clear c16
                      try clear c16b0
                      try clear c17
                      try clear c17b0
                      try clear c21
                      try clear c21b0
                      try clear c21b1
                      try clear c21b2
                      try clear p21
                      try clear q21
                      try clear hx21
                      try clear qi21
                      try clear c22
                      try clear c22b0
                      try clear c22b1
                      try clear c25
                      try clear hx211_0
                      try clear hx211_1
                      try clear hx215_0
                      try clear hx215_1
                      try clear hx216_0
                      try clear hx216_1
                      try clear p2
                      try clear p21
                      try clear p211
                      try clear p215
                      try clear p216
                      try clear p6
                      try clear q2
                      try clear q21
                      try clear q211
                      try clear q215
                      try clear q216
                      obtain ⟨x7_3, rfl, HA, HK3, HO_6, HB⟩ := hrel
                      cases gk with
                      | zero => exact absurd HA.out (by simp [lockgatelaw17_PlaceLead.l0])
                      | succ k3 =>
                        have H := HA.out
                        clear HA
                        simp only [lockgatelaw17_PlaceLead.l0] at H
                        by_cases c26 : x7_3 < (l0.length : Int)
                        · rw [if_pos c26] at H
                          have c26b0 : decide (x7_3 < (l0.length : Int)) = true := decide_eq_true c26
                          clear c26
                          by_cases c27 : x7_3 < ji15
                          · rw [if_pos c27] at H
                            have c27b0 : decide (x7_3 < ji15) = true := decide_eq_true c27
                            clear c27
                            obtain ⟨ji28, hji28⟩ : ∃ j_ : Int, (wrap64 (x7_3 + 1)) = j_ := ⟨_, rfl⟩
                            replace H : (if 0 ≤ (ji28) then (if (ji28) < (t212.length : Int) then (if 0 ≤ x7_3 then (if (!(((rd_T24 t212 (ji28)).f0) == ((rd_T24 l0 x7_3).f0)) || (!(((rd_T24 t212 (ji28)).f1) == ((rd_T24 l0 x7_3).f1)))) = true then (some false) else (if x7_3 > ji15 then (if x7_3 < (t212.length : Int) then (if (!(((rd_T24 t212 x7_3).f0) == ((rd_T24 l0 x7_3).f0)) || (!(((rd_T24 t212 x7_3).f1) == ((rd_T24 l0 x7_3).f1)))) = true then (some false) else (lockgatelaw17_PlaceLead.l0 k3 l0 ji15 t212 ji28)) else (none)) else (lockgatelaw17_PlaceLead.l0 k3 l0 ji15 t212 ji28))) else (none)) else (none)) else (none)) = some r := by first | (rw [hji28] at H; exact H) | (simp only [hji28] at H ⊢; exact H)
                            have hji28w : (IntKind.i64.wrap (x7_3 + 1)) = ji28 := (i64_w _).trans hji28
                            by_cases c29 : 0 ≤ (ji28)
                            · rw [if_pos c29] at H
                              have c29b0 : decide (0 ≤ (ji28)) = true := decide_eq_true c29
                              clear c29
                              by_cases c30 : (ji28) < (t212.length : Int)
                              · rw [if_pos c30] at H
                                have c30b0 : decide ((ji28) < (t212.length : Int)) = true := decide_eq_true c30
                                clear c30
                                by_cases c31 : 0 ≤ x7_3
                                · rw [if_pos c31] at H
                                  have c31b0 : decide (0 ≤ x7_3) = true := decide_eq_true c31
                                  clear c31
                                  by_cases c32 : (!(((rd_T24 t212 (ji28)).f0) == ((rd_T24 l0 x7_3).f0)) || (!(((rd_T24 t212 (ji28)).f1) == ((rd_T24 l0 x7_3).f1)))) = true
                                  · rw [if_pos c32] at H
                                    have c32b0 : (!(((rd_T24 t212 (ji28)).f0) == ((rd_T24 l0 x7_3).f0)) || (!(((rd_T24 t212 (ji28)).f1) == ((rd_T24 l0 x7_3).f1)))) = true := c32
                                    clear c32
                                    obtain rfl := Option.some.inj H
                                    obtain ⟨Ao33, co33, eo33⟩ := Kd.R_slice HO_6.out
                                    subst eo33
                                    have p217 : 0 ≤ ((ji28) : Int) := of_decide_eq_true (by first | (with_reducible assumption) | assumption)
                                    have q217 : (ji28) < (t212.length : Int) := of_decide_eq_true (by first | (with_reducible assumption) | assumption)
                                    obtain ⟨ad217, e217, hx217_0, hx217_1⟩ := at_T24 (Kd.R_reads' HO_6.out).2.2 (ji28) p217 q217
                                    cases e217
                                    replace p217 := eq_true p217
                                    replace q217 := eq_true q217
                                    have p218 : 0 ≤ (x7_3 : Int) := of_decide_eq_true (by first | (with_reducible assumption) | assumption)
                                    have q218 : x7_3 < (l0.length : Int) := of_decide_eq_true (by first | (with_reducible assumption) | assumption)
                                    obtain ⟨ad218, e218, hx218_0, hx218_1⟩ := at_T24 HR0.out x7_3 p218 q218
                                    obtain rfl : ad211 = ad218 := (by injection e218)
                                    replace hx218_0 := (HB.out.cell (World.block_lt_of_cell? w _ hx218_0)).trans hx218_0
                                    replace hx218_1 := (HB.out.cell (World.block_lt_of_cell? w _ hx218_1)).trans hx218_1
                                    replace p218 := eq_true p218
                                    replace q218 := eq_true q218
                                    go_wp2
                                    repeat (go_quiet (fail); try go_wp2)
                                    go_ret
                                    exact ⟨by first | rfl | (simp [errW_none, errW_some] <;> rfl) | (simp only [← hji15, ← hji28]; first | rfl | (simp [errW_none, errW_some] <;> rfl)) | (simp [*, errW_none, errW_some] <;> rfl), by repeat (first | (with_reducible first | exact HB.out | apply below_alloc | apply pw_below_drewN | apply below_drew1) | exact HB.out)⟩
                                  · rw [if_neg c32] at H
                                    have c32b0 : (!(((rd_T24 t212 (ji28)).f0) == ((rd_T24 l0 x7_3).f0)) || (!(((rd_T24 t212 (ji28)).f1) == ((rd_T24 l0 x7_3).f1)))) = false := by simpa using c32
                                    clear c32
                                    by_cases c34 : x7_3 > ji15
                                    · rw [if_pos c34] at H
                                      have c34b0 : decide (ji15 < x7_3) = true := decide_eq_true c34
                                      clear c34
                                      by_cases c35 : x7_3 < (t212.length : Int)
                                      · rw [if_pos c35] at H
                                        have c35b0 : decide (x7_3 < (t212.length : Int)) = true := decide_eq_true c35
                                        clear c35
                                        by_cases c36 : (!(((rd_T24 t212 x7_3).f0) == ((rd_T24 l0 x7_3).f0)) || (!(((rd_T24 t212 x7_3).f1) == ((rd_T24 l0 x7_3).f1)))) = true
                                        · rw [if_pos c36] at H
                                          have c36b0 : (!(((rd_T24 t212 x7_3).f0) == ((rd_T24 l0 x7_3).f0)) || (!(((rd_T24 t212 x7_3).f1) == ((rd_T24 l0 x7_3).f1)))) = true := c36
                                          clear c36
                                          obtain rfl := Option.some.inj H
                                          obtain ⟨Ao37, co37, eo37⟩ := Kd.R_slice HO_6.out
                                          subst eo37
                                          have p217 : 0 ≤ ((ji28) : Int) := of_decide_eq_true (by first | (with_reducible assumption) | assumption)
                                          have q217 : (ji28) < (t212.length : Int) := of_decide_eq_true (by first | (with_reducible assumption) | assumption)
                                          obtain ⟨ad217, e217, hx217_0, hx217_1⟩ := at_T24 (Kd.R_reads' HO_6.out).2.2 (ji28) p217 q217
                                          cases e217
                                          replace p217 := eq_true p217
                                          replace q217 := eq_true q217
                                          have p218 : 0 ≤ (x7_3 : Int) := of_decide_eq_true (by first | (with_reducible assumption) | assumption)
                                          have q218 : x7_3 < (l0.length : Int) := of_decide_eq_true (by first | (with_reducible assumption) | assumption)
                                          obtain ⟨ad218, e218, hx218_0, hx218_1⟩ := at_T24 HR0.out x7_3 p218 q218
                                          obtain rfl : ad211 = ad218 := (by injection e218)
                                          replace hx218_0 := (HB.out.cell (World.block_lt_of_cell? w _ hx218_0)).trans hx218_0
                                          replace hx218_1 := (HB.out.cell (World.block_lt_of_cell? w _ hx218_1)).trans hx218_1
                                          replace p218 := eq_true p218
                                          replace q218 := eq_true q218
                                          have p219 : 0 ≤ (x7_3 : Int) := of_decide_eq_true (by first | (with_reducible assumption) | assumption)
                                          have q219 : x7_3 < (t212.length : Int) := of_decide_eq_true (by first | (with_reducible assumption) | assumption)
                                          obtain ⟨ad219, e219, hx219_0, hx219_1⟩ := at_T24 (Kd.R_reads' HO_6.out).2.2 x7_3 p219 q219
                                          obtain rfl : ad217 = ad219 := (by injection e219)
                                          replace p219 := eq_true p219
                                          replace q219 := eq_true q219
                                          have p220 : 0 ≤ (x7_3 : Int) := of_decide_eq_true (by first | (with_reducible assumption) | assumption)
                                          have q220 : x7_3 < (l0.length : Int) := of_decide_eq_true (by first | (with_reducible assumption) | assumption)
                                          obtain ⟨ad220, e220, hx220_0, hx220_1⟩ := at_T24 HR0.out x7_3 p220 q220
                                          obtain rfl : ad211 = ad220 := (by injection e220)
                                          replace hx220_0 := (HB.out.cell (World.block_lt_of_cell? w _ hx220_0)).trans hx220_0
                                          replace hx220_1 := (HB.out.cell (World.block_lt_of_cell? w _ hx220_1)).trans hx220_1
                                          replace p220 := eq_true p220
                                          replace q220 := eq_true q220
                                          go_wp2
                                          repeat (go_quiet (fail); try go_wp2)
                                          go_ret
                                          exact ⟨by first | rfl | (simp [errW_none, errW_some] <;> rfl) | (simp only [← hji15, ← hji28]; first | rfl | (simp [errW_none, errW_some] <;> rfl)) | (simp [*, errW_none, errW_some] <;> rfl), by repeat (first | (with_reducible first | exact HB.out | apply below_alloc | apply pw_below_drewN | apply below_drew1) | exact HB.out)⟩
                                        · rw [if_neg c36] at H
                                          have c36b0 : (!(((rd_T24 t212 x7_3).f0) == ((rd_T24 l0 x7_3).f0)) || (!(((rd_T24 t212 x7_3).f1) == ((rd_T24 l0 x7_3).f1)))) = false := by simpa using c36
                                          clear c36
                                          have H' := Aside0.mk H
                                          clear H
                                          obtain ⟨Ao38, co38, eo38⟩ := Kd.R_slice HO_6.out
                                          subst eo38
                                          have p217 : 0 ≤ ((ji28) : Int) := of_decide_eq_true (by first | (with_reducible assumption) | assumption)
                                          have q217 : (ji28) < (t212.length : Int) := of_decide_eq_true (by first | (with_reducible assumption) | assumption)
                                          obtain ⟨ad217, e217, hx217_0, hx217_1⟩ := at_T24 (Kd.R_reads' HO_6.out).2.2 (ji28) p217 q217
                                          cases e217
                                          replace p217 := eq_true p217
                                          replace q217 := eq_true q217
                                          have p218 : 0 ≤ (x7_3 : Int) := of_decide_eq_true (by first | (with_reducible assumption) | assumption)
                                          have q218 : x7_3 < (l0.length : Int) := of_decide_eq_true (by first | (with_reducible assumption) | assumption)
                                          obtain ⟨ad218, e218, hx218_0, hx218_1⟩ := at_T24 HR0.out x7_3 p218 q218
                                          obtain rfl : ad211 = ad218 := (by injection e218)
                                          replace hx218_0 := (HB.out.cell (World.block_lt_of_cell? w _ hx218_0)).trans hx218_0
                                          replace hx218_1 := (HB.out.cell (World.block_lt_of_cell? w _ hx218_1)).trans hx218_1
                                          replace p218 := eq_true p218
                                          replace q218 := eq_true q218
                                          have p219 : 0 ≤ (x7_3 : Int) := of_decide_eq_true (by first | (with_reducible assumption) | assumption)
                                          have q219 : x7_3 < (t212.length : Int) := of_decide_eq_true (by first | (with_reducible assumption) | assumption)
                                          obtain ⟨ad219, e219, hx219_0, hx219_1⟩ := at_T24 (Kd.R_reads' HO_6.out).2.2 x7_3 p219 q219
                                          obtain rfl : ad217 = ad219 := (by injection e219)
                                          replace p219 := eq_true p219
                                          replace q219 := eq_true q219
                                          have p220 : 0 ≤ (x7_3 : Int) := of_decide_eq_true (by first | (with_reducible assumption) | assumption)
                                          have q220 : x7_3 < (l0.length : Int) := of_decide_eq_true (by first | (with_reducible assumption) | assumption)
                                          obtain ⟨ad220, e220, hx220_0, hx220_1⟩ := at_T24 HR0.out x7_3 p220 q220
                                          obtain rfl : ad211 = ad220 := (by injection e220)
                                          replace hx220_0 := (HB.out.cell (World.block_lt_of_cell? w _ hx220_0)).trans hx220_0
                                          replace hx220_1 := (HB.out.cell (World.block_lt_of_cell? w _ hx220_1)).trans hx220_1
                                          replace p220 := eq_true p220
                                          replace q220 := eq_true q220
                                          go_wp2
                                          repeat (go_quiet (fail); try go_wp2)
                                          go_roundg k3
                                          case measure => have := HJ2.out; have := HJ18.out; have := HK3.out; omega
                                          case rel => exact ⟨(ji28), (by first | rfl | (simp; done) | (simp only [← hji28] <;> (first | rfl | simp)) | (simp [*]; done)), H', ⟨by have := HJ2.out; have := HJ18.out; have := HK3.out; omega⟩, ⟨by (with_reducible repeat (first | apply Kd.R_alloc | apply Kd.R_drewN | apply Kd.R_drew)); exact HO_6.out⟩, ⟨by repeat (first | (with_reducible first | exact HB.out | apply below_alloc | apply pw_below_drewN | apply below_drew1) | exact HB.out)⟩⟩
                                      · rw [if_neg c35] at H
                                        exact absurd H (by simp)
                                    · rw [if_neg c34] at H
                                      have c34b0 : decide (ji15 < x7_3) = false := decide_eq_false c34
                                      clear c34
                                      have H' := Aside0.mk H
                                      clear H
                                      obtain ⟨Ao39, co39, eo39⟩ := Kd.R_slice HO_6.out
                                      subst eo39
                                      have p217 : 0 ≤ ((ji28) : Int) := of_decide_eq_true (by first | (with_reducible assumption) | assumption)
                                      have q217 : (ji28) < (t212.length : Int) := of_decide_eq_true (by first | (with_reducible assumption) | assumption)
                                      obtain ⟨ad217, e217, hx217_0, hx217_1⟩ := at_T24 (Kd.R_reads' HO_6.out).2.2 (ji28) p217 q217
                                      cases e217
                                      replace p217 := eq_true p217
                                      replace q217 := eq_true q217
                                      have p218 : 0 ≤ (x7_3 : Int) := of_decide_eq_true (by first | (with_reducible assumption) | assumption)
                                      have q218 : x7_3 < (l0.length : Int) := of_decide_eq_true (by first | (with_reducible assumption) | assumption)
                                      obtain ⟨ad218, e218, hx218_0, hx218_1⟩ := at_T24 HR0.out x7_3 p218 q218
                                      obtain rfl : ad211 = ad218 := (by injection e218)
                                      replace hx218_0 := (HB.out.cell (World.block_lt_of_cell? w _ hx218_0)).trans hx218_0
                                      replace hx218_1 := (HB.out.cell (World.block_lt_of_cell? w _ hx218_1)).trans hx218_1
                                      replace p218 := eq_true p218
                                      replace q218 := eq_true q218
                                      go_wp2
                                      repeat (go_quiet (fail); try go_wp2)
                                      go_roundg k3
                                      case measure => have := HJ2.out; have := HJ18.out; have := HK3.out; omega
                                      case rel => exact ⟨(ji28), (by first | rfl | (simp; done) | (simp only [← hji28] <;> (first | rfl | simp)) | (simp [*]; done)), H', ⟨by have := HJ2.out; have := HJ18.out; have := HK3.out; omega⟩, ⟨by (with_reducible repeat (first | apply Kd.R_alloc | apply Kd.R_drewN | apply Kd.R_drew)); exact HO_6.out⟩, ⟨by repeat (first | (with_reducible first | exact HB.out | apply below_alloc | apply pw_below_drewN | apply below_drew1) | exact HB.out)⟩⟩
                                · rw [if_neg c31] at H
                                  exact absurd H (by simp)
                              · rw [if_neg c30] at H
                                exact absurd H (by simp)
                            · rw [if_neg c29] at H
                              exact absurd H (by simp)
                          · rw [if_neg c27] at H
                            have c27b0 : decide (x7_3 < ji15) = false := decide_eq_false c27
                            clear c27
                            by_cases c40 : x7_3 > ji15
                            · rw [if_pos c40] at H
                              have c40b0 : decide (ji15 < x7_3) = true := decide_eq_true c40
                              clear c40
                              by_cases c41 : 0 ≤ x7_3
                              · rw [if_pos c41] at H
                                have c41b0 : decide (0 ≤ x7_3) = true := decide_eq_true c41
                                clear c41
                                by_cases c42 : x7_3 < (t212.length : Int)
                                · rw [if_pos c42] at H
                                  have c42b0 : decide (x7_3 < (t212.length : Int)) = true := decide_eq_true c42
                                  clear c42
                                  by_cases c43 : (!(((rd_T24 t212 x7_3).f0) == ((rd_T24 l0 x7_3).f0)) || (!(((rd_T24 t212 x7_3).f1) == ((rd_T24 l0 x7_3).f1)))) = true
                                  · rw [if_pos c43] at H
                                    have c43b0 : (!(((rd_T24 t212 x7_3).f0) == ((rd_T24 l0 x7_3).f0)) || (!(((rd_T24 t212 x7_3).f1) == ((rd_T24 l0 x7_3).f1)))) = true := c43
                                    clear c43
                                    obtain rfl := Option.some.inj H
                                    obtain ⟨Ao44, co44, eo44⟩ := Kd.R_slice HO_6.out
                                    subst eo44
                                    have p221 : 0 ≤ (x7_3 : Int) := of_decide_eq_true (by first | (with_reducible assumption) | assumption)
                                    have q221 : x7_3 < (t212.length : Int) := of_decide_eq_true (by first | (with_reducible assumption) | assumption)
                                    obtain ⟨ad221, e221, hx221_0, hx221_1⟩ := at_T24 (Kd.R_reads' HO_6.out).2.2 x7_3 p221 q221
                                    cases e221
                                    replace p221 := eq_true p221
                                    replace q221 := eq_true q221
                                    have p222 : 0 ≤ (x7_3 : Int) := of_decide_eq_true (by first | (with_reducible assumption) | assumption)
                                    have q222 : x7_3 < (l0.length : Int) := of_decide_eq_true (by first | (with_reducible assumption) | assumption)
                                    obtain ⟨ad222, e222, hx222_0, hx222_1⟩ := at_T24 HR0.out x7_3 p222 q222
                                    obtain rfl : ad211 = ad222 := (by injection e222)
                                    replace hx222_0 := (HB.out.cell (World.block_lt_of_cell? w _ hx222_0)).trans hx222_0
                                    replace hx222_1 := (HB.out.cell (World.block_lt_of_cell? w _ hx222_1)).trans hx222_1
                                    replace p222 := eq_true p222
                                    replace q222 := eq_true q222
                                    go_wp2
                                    repeat (go_quiet (fail); try go_wp2)
                                    go_ret
                                    exact ⟨by first | rfl | (simp [errW_none, errW_some] <;> rfl) | (simp only [← hji15]; first | rfl | (simp [errW_none, errW_some] <;> rfl)) | (simp [*, errW_none, errW_some] <;> rfl), by repeat (first | (with_reducible first | exact HB.out | apply below_alloc | apply pw_below_drewN | apply below_drew1) | exact HB.out)⟩
                                  · rw [if_neg c43] at H
                                    have c43b0 : (!(((rd_T24 t212 x7_3).f0) == ((rd_T24 l0 x7_3).f0)) || (!(((rd_T24 t212 x7_3).f1) == ((rd_T24 l0 x7_3).f1)))) = false := by simpa using c43
                                    clear c43
                                    have H' := Aside0.mk H
                                    clear H
                                    obtain ⟨Ao45, co45, eo45⟩ := Kd.R_slice HO_6.out
                                    subst eo45
                                    have p221 : 0 ≤ (x7_3 : Int) := of_decide_eq_true (by first | (with_reducible assumption) | assumption)
                                    have q221 : x7_3 < (t212.length : Int) := of_decide_eq_true (by first | (with_reducible assumption) | assumption)
                                    obtain ⟨ad221, e221, hx221_0, hx221_1⟩ := at_T24 (Kd.R_reads' HO_6.out).2.2 x7_3 p221 q221
                                    cases e221
                                    replace p221 := eq_true p221
                                    replace q221 := eq_true q221
                                    have p222 : 0 ≤ (x7_3 : Int) := of_decide_eq_true (by first | (with_reducible assumption) | assumption)
                                    have q222 : x7_3 < (l0.length : Int) := of_decide_eq_true (by first | (with_reducible assumption) | assumption)
                                    obtain ⟨ad222, e222, hx222_0, hx222_1⟩ := at_T24 HR0.out x7_3 p222 q222
                                    obtain rfl : ad211 = ad222 := (by injection e222)
                                    replace hx222_0 := (HB.out.cell (World.block_lt_of_cell? w _ hx222_0)).trans hx222_0
                                    replace hx222_1 := (HB.out.cell (World.block_lt_of_cell? w _ hx222_1)).trans hx222_1
                                    replace p222 := eq_true p222
                                    replace q222 := eq_true q222
                                    go_wp2
                                    repeat (go_quiet (fail); try go_wp2)
                                    go_roundg k3
                                    case measure => have := HJ2.out; have := HJ18.out; have := HK3.out; omega
                                    case rel => exact ⟨(wrap64 (x7_3 + 1)), (by first | rfl | (simp; done) | (simp [*]; done)), H', ⟨by have := HJ2.out; have := HJ18.out; have := HK3.out; omega⟩, ⟨by (with_reducible repeat (first | apply Kd.R_alloc | apply Kd.R_drewN | apply Kd.R_drew)); exact HO_6.out⟩, ⟨by repeat (first | (with_reducible first | exact HB.out | apply below_alloc | apply pw_below_drewN | apply below_drew1) | exact HB.out)⟩⟩
                                · rw [if_neg c42] at H
                                  exact absurd H (by simp)
                              · rw [if_neg c41] at H
                                exact absurd H (by simp)
                            · rw [if_neg c40] at H
                              have c40b0 : decide (ji15 < x7_3) = false := decide_eq_false c40
                              clear c40
                              have H' := Aside0.mk H
                              clear H
                              go_wp2
                              repeat (go_quiet (fail); try go_wp2)
                              go_roundg k3
                              case measure => have := HJ2.out; have := HJ18.out; have := HK3.out; omega
                              case rel => exact ⟨(wrap64 (x7_3 + 1)), (by first | rfl | (simp; done) | (simp [*]; done)), H', ⟨by have := HJ2.out; have := HJ18.out; have := HK3.out; omega⟩, ⟨by (with_reducible repeat (first | apply Kd.R_alloc | apply Kd.R_drewN | apply Kd.R_drew)); exact HO_6.out⟩, ⟨by repeat (first | (with_reducible first | exact HB.out | apply below_alloc | apply pw_below_drewN | apply below_drew1) | exact HB.out)⟩⟩
                        · rw [if_neg c26] at H
                          have c26b0 : decide (x7_3 < (l0.length : Int)) = false := decide_eq_false c26
                          clear c26
                          obtain rfl := Option.some.inj H
                          go_wp2
                          repeat (go_quiet (fail); try go_wp2)
                          go_ret
                          exact ⟨by first | rfl | (simp [errW_none, errW_some] <;> rfl) | (simp only [← hji15]; first | rfl | (simp [errW_none, errW_some] <;> rfl)) | (simp [*, errW_none, errW_some] <;> rfl), by repeat (first | (with_reducible first | exact HB.out | apply below_alloc | apply pw_below_drewN | apply below_drew1) | exact HB.out)⟩
            · rw [if_neg c17] at H
              exact absurd H (by simp)
          · rw [if_neg c16] at H
            exact absurd H (by simp)

end Go.Proofs.Ytnieipjofnnpfaa.PPlace
