-- Written for this claim by the session's own driver of the kit's printer (mprint.py).
import Derived.Test.YtnieipjofnnpfaaPPlacex0
import Derived.Test.YtnieipjofnnpfaaPPlacex2
import Derived.Test.YtnieipjofnnpfaaPPlacex3
import Derived.Test.YtnieipjofnnpfaaPPlacex4
namespace Go.Proofs.Ytnieipjofnnpfaa.PPlace
open Go.RowKit Go.Proofs.YtnieipjofnnpfaaW.PrintWords Go.Proofs.YtnieipjofnnpfaaW.PrintLast Go.Proofs.YtnieipjofnnpfaaW.PrintMore
attribute [local go_sem] max2_int min2_int max_two min_two max_three min_three max_four min_four   -- for this text's walks alone
set_option linter.unusedVariables false
set_option linter.unusedSimpArgs false

/-! ### lockgatelaw17_PlaceMemory: function 6 -/
mutual
def lockgatelaw17_PlaceMemory.j0 : Nat → Int → List (S24) → List (S24) → Bool → Option (Bool)
  | 0, _, _, _, _ => none
  | k + 1, x0, x1, x2, x26 => if x26 = true then ((lockgatelaw17_awake.f).bind fun t225 => (some t225)) else ((some (([] : List (S24)) : List (S24))).bind fun y226 => (if y226.length + x1.length < 8796093022208 then ((some (([] : List (S24)) : List (S24))).bind fun y232 => (if y232.length + x2.length < 8796093022208 then ((place_Chain.f k x0 x1 x2 9).bind fun t238 => ((place_Both.f x1 x2).bind fun t241 => ((place_Lead.f x1 (-9) 0).bind fun t244 => (lockgatelaw17_PlaceMemory.l0 k x1 x2 (y226 ++ x1) (y232 ++ x2) t238 t241 t244 0)))) else (none))) else (none)))
def lockgatelaw17_PlaceMemory.l0 : Nat → List (S24) → List (S24) → List (S24) → List (S24) → List (S24) → List (S24) → List (S24) → Int → Option (Bool)
  | 0, _, _, _, _, _, _, _, _ => none
  | k + 1, x1, x2, x7, x8, x9, x10, x11, x12 => if x12 < (x9.length : Int) then (if 0 ≤ x12 then (lockgatelaw17_PlaceMemory.l0 k x1 x2 x7 x8 (x9.set (x12 : Int).toNat (⟨(-7), (rd_T24 x9 x12).f1⟩ : S24)) x10 x11 (wrap64 (x12 + 1))) else (none)) else (lockgatelaw17_PlaceMemory.l1 k x1 x2 x7 x8 x10 x11 0)
def lockgatelaw17_PlaceMemory.l1 : Nat → List (S24) → List (S24) → List (S24) → List (S24) → List (S24) → List (S24) → Int → Option (Bool)
  | 0, _, _, _, _, _, _, _ => none
  | k + 1, x1, x2, x7, x8, x10, x11, x13 => if x13 < (x10.length : Int) then (if 0 ≤ x13 then (lockgatelaw17_PlaceMemory.l1 k x1 x2 x7 x8 (x10.set (x13 : Int).toNat (⟨(-7), (rd_T24 x10 x13).f1⟩ : S24)) x11 (wrap64 (x13 + 1))) else (none)) else (lockgatelaw17_PlaceMemory.l2 k x1 x2 x7 x8 x11 0)
def lockgatelaw17_PlaceMemory.l2 : Nat → List (S24) → List (S24) → List (S24) → List (S24) → List (S24) → Int → Option (Bool)
  | 0, _, _, _, _, _, _ => none
  | k + 1, x1, x2, x7, x8, x11, x14 => if x14 < (x11.length : Int) then (if 0 ≤ x14 then (lockgatelaw17_PlaceMemory.l2 k x1 x2 x7 x8 (x11.set (x14 : Int).toNat (⟨(-7), (rd_T24 x11 x14).f1⟩ : S24)) (wrap64 (x14 + 1))) else (none)) else ((lockgateref16_Same.f k x1 x7).bind fun t250 => (if t250 = true then ((lockgateref16_Same.f k x2 x8).bind fun t251 => (some t251)) else (some false)))
end
def lockgatelaw17_PlaceMemory.f (k : Nat) (a0 : Int) (l1 : List (S24)) (l2 : List (S24)) : Option (Bool) := (lockgatelaw17_awake.f).bind fun t223 => (if t223 = true then (if a0 < 0 then (lockgatelaw17_PlaceMemory.j0 k a0 l1 l2 true) else ((lockgatelaw17_right.f k l1 l2).bind fun t224 => (lockgatelaw17_PlaceMemory.j0 k a0 l1 l2 (!t224)))) else (lockgatelaw17_PlaceMemory.j0 k a0 l1 l2 true))
theorem lockgatelaw17_PlaceMemory.mono_l : ∀ k, (∀ y0 y1 y2 y3, LeO (lockgatelaw17_PlaceMemory.j0 k y0 y1 y2 y3) (lockgatelaw17_PlaceMemory.j0 (k + 1) y0 y1 y2 y3)) ∧ (∀ y0 y1 y2 y3 y4 y5 y6 y7, LeO (lockgatelaw17_PlaceMemory.l0 k y0 y1 y2 y3 y4 y5 y6 y7) (lockgatelaw17_PlaceMemory.l0 (k + 1) y0 y1 y2 y3 y4 y5 y6 y7)) ∧ (∀ y0 y1 y2 y3 y4 y5 y6, LeO (lockgatelaw17_PlaceMemory.l1 k y0 y1 y2 y3 y4 y5 y6) (lockgatelaw17_PlaceMemory.l1 (k + 1) y0 y1 y2 y3 y4 y5 y6)) ∧ (∀ y0 y1 y2 y3 y4 y5, LeO (lockgatelaw17_PlaceMemory.l2 k y0 y1 y2 y3 y4 y5) (lockgatelaw17_PlaceMemory.l2 (k + 1) y0 y1 y2 y3 y4 y5))
  | 0 => ⟨fun _ _ _ _ r h => by simp [lockgatelaw17_PlaceMemory.j0] at h, fun _ _ _ _ _ _ _ _ r h => by simp [lockgatelaw17_PlaceMemory.l0] at h, fun _ _ _ _ _ _ _ r h => by simp [lockgatelaw17_PlaceMemory.l1] at h, fun _ _ _ _ _ _ r h => by simp [lockgatelaw17_PlaceMemory.l2] at h⟩
  | k + 1 => by
    obtain ⟨ih0, ih1, ih2, ih3⟩ := lockgatelaw17_PlaceMemory.mono_l k
    refine ⟨?_, ?_, ?_, ?_⟩
    · intro y0 y1 y2 y3
      unfold lockgatelaw17_PlaceMemory.j0
      repeat' first
      | (with_reducible exact ih0 _ _ _ _)
      | (with_reducible exact ih1 _ _ _ _ _ _ _ _)
      | (with_reducible exact ih2 _ _ _ _ _ _ _)
      | (with_reducible exact ih3 _ _ _ _ _ _)
      | (with_reducible exact lockgatelaw17_right.mono _ _ _)
      | (with_reducible exact lockgateref16_Same.mono _ _ _)
      | (with_reducible exact place_Chain.mono _ _ _ _ _)
      | (with_reducible exact LeO.refl _)
      | (with_reducible exact LeO.none _)
      | (with_reducible refine LeO.ite ?_ ?_)
      | (with_reducible refine LeO.bind ?_ (fun _ => ?_))
      | exact ih0 _ _ _ _
      | exact ih1 _ _ _ _ _ _ _ _
      | exact ih2 _ _ _ _ _ _ _
      | exact ih3 _ _ _ _ _ _
      | exact lockgatelaw17_right.mono _ _ _
      | exact lockgateref16_Same.mono _ _ _
      | exact place_Chain.mono _ _ _ _ _
      | exact LeO.none _
      | refine LeO.ite ?_ ?_
      | refine LeO.bind ?_ (fun _ => ?_)
    · intro y0 y1 y2 y3 y4 y5 y6 y7
      unfold lockgatelaw17_PlaceMemory.l0
      repeat' first
      | (with_reducible exact ih0 _ _ _ _)
      | (with_reducible exact ih1 _ _ _ _ _ _ _ _)
      | (with_reducible exact ih2 _ _ _ _ _ _ _)
      | (with_reducible exact ih3 _ _ _ _ _ _)
      | (with_reducible exact lockgatelaw17_right.mono _ _ _)
      | (with_reducible exact lockgateref16_Same.mono _ _ _)
      | (with_reducible exact place_Chain.mono _ _ _ _ _)
      | (with_reducible exact LeO.refl _)
      | (with_reducible exact LeO.none _)
      | (with_reducible refine LeO.ite ?_ ?_)
      | (with_reducible refine LeO.bind ?_ (fun _ => ?_))
      | exact ih0 _ _ _ _
      | exact ih1 _ _ _ _ _ _ _ _
      | exact ih2 _ _ _ _ _ _ _
      | exact ih3 _ _ _ _ _ _
      | exact lockgatelaw17_right.mono _ _ _
      | exact lockgateref16_Same.mono _ _ _
      | exact place_Chain.mono _ _ _ _ _
      | exact LeO.none _
      | refine LeO.ite ?_ ?_
      | refine LeO.bind ?_ (fun _ => ?_)
    · intro y0 y1 y2 y3 y4 y5 y6
      unfold lockgatelaw17_PlaceMemory.l1
      repeat' first
      | (with_reducible exact ih0 _ _ _ _)
      | (with_reducible exact ih1 _ _ _ _ _ _ _ _)
      | (with_reducible exact ih2 _ _ _ _ _ _ _)
      | (with_reducible exact ih3 _ _ _ _ _ _)
      | (with_reducible exact lockgatelaw17_right.mono _ _ _)
      | (with_reducible exact lockgateref16_Same.mono _ _ _)
      | (with_reducible exact place_Chain.mono _ _ _ _ _)
      | (with_reducible exact LeO.refl _)
      | (with_reducible exact LeO.none _)
      | (with_reducible refine LeO.ite ?_ ?_)
      | (with_reducible refine LeO.bind ?_ (fun _ => ?_))
      | exact ih0 _ _ _ _
      | exact ih1 _ _ _ _ _ _ _ _
      | exact ih2 _ _ _ _ _ _ _
      | exact ih3 _ _ _ _ _ _
      | exact lockgatelaw17_right.mono _ _ _
      | exact lockgateref16_Same.mono _ _ _
      | exact place_Chain.mono _ _ _ _ _
      | exact LeO.none _
      | refine LeO.ite ?_ ?_
      | refine LeO.bind ?_ (fun _ => ?_)
    · intro y0 y1 y2 y3 y4 y5
      unfold lockgatelaw17_PlaceMemory.l2
      repeat' first
      | (with_reducible exact ih0 _ _ _ _)
      | (with_reducible exact ih1 _ _ _ _ _ _ _ _)
      | (with_reducible exact ih2 _ _ _ _ _ _ _)
      | (with_reducible exact ih3 _ _ _ _ _ _)
      | (with_reducible exact lockgatelaw17_right.mono _ _ _)
      | (with_reducible exact lockgateref16_Same.mono _ _ _)
      | (with_reducible exact place_Chain.mono _ _ _ _ _)
      | (with_reducible exact LeO.refl _)
      | (with_reducible exact LeO.none _)
      | (with_reducible refine LeO.ite ?_ ?_)
      | (with_reducible refine LeO.bind ?_ (fun _ => ?_))
      | exact ih0 _ _ _ _
      | exact ih1 _ _ _ _ _ _ _ _
      | exact ih2 _ _ _ _ _ _ _
      | exact ih3 _ _ _ _ _ _
      | exact lockgatelaw17_right.mono _ _ _
      | exact lockgateref16_Same.mono _ _ _
      | exact place_Chain.mono _ _ _ _ _
      | exact LeO.none _
      | refine LeO.ite ?_ ?_
      | refine LeO.bind ?_ (fun _ => ?_)
theorem lockgatelaw17_PlaceMemory.mono : ∀ a0 a1 a2 k, LeO (lockgatelaw17_PlaceMemory.f k a0 a1 a2) (lockgatelaw17_PlaceMemory.f (k + 1) a0 a1 a2) := by
  intro a0 a1 a2 k
  obtain ⟨ih0, ih1, ih2, ih3⟩ := lockgatelaw17_PlaceMemory.mono_l k
  unfold lockgatelaw17_PlaceMemory.f
  repeat' first
      | (with_reducible exact ih0 _ _ _ _)
      | (with_reducible exact ih1 _ _ _ _ _ _ _ _)
      | (with_reducible exact ih2 _ _ _ _ _ _ _)
      | (with_reducible exact ih3 _ _ _ _ _ _)
      | (with_reducible exact lockgatelaw17_right.mono _ _ _)
      | (with_reducible exact lockgateref16_Same.mono _ _ _)
      | (with_reducible exact place_Chain.mono _ _ _ _ _)
      | (with_reducible exact LeO.refl _)
      | (with_reducible exact LeO.none _)
      | (with_reducible refine LeO.ite ?_ ?_)
      | (with_reducible refine LeO.bind ?_ (fun _ => ?_))
      | exact ih0 _ _ _ _
      | exact ih1 _ _ _ _ _ _ _ _
      | exact ih2 _ _ _ _ _ _ _
      | exact ih3 _ _ _ _ _ _
      | exact lockgatelaw17_right.mono _ _ _
      | exact lockgateref16_Same.mono _ _ _
      | exact place_Chain.mono _ _ _ _ _
      | exact LeO.none _
      | refine LeO.ite ?_ ?_
      | refine LeO.bind ?_ (fun _ => ?_)
set_option maxHeartbeats 8000000 in
set_option maxRecDepth 100000 in
theorem lockgatelaw17_PlaceMemory.calls (k : Nat) (a0 : Int) (A1 : Option Addr) (c1 : Nat) (l1 : List (S24)) (A2 : Option Addr) (c2 : Nat) (l2 : List (S24)) (r : Bool) (w : World) (hr1 : Kd.C k24 w A1 l1.length l1) (hc1 : l1.length ≤ c1) (hr2 : Kd.C k24 w A2 l2.length l2) (hc2 : l2.length ≤ c2) (h : lockgatelaw17_PlaceMemory.f k a0 l1 l2 = some r) :
    Calls Try.prog 6 #[.int .i64 a0, .slice A1 l1.length c1, .slice A2 l2.length c2] w fun e w' => e = .returned (.bool r) ∧ Below w.heap.size w w' := by
  have hu24 := Try.underlying24
  have HR1 := Aside0.mk hr1
  have HC1 := Aside0.mk hc1
  clear hr1 hc1
  have HR2 := Aside0.mk hr2
  have HC2 := Aside0.mk hc2
  clear hr2 hc2
  have HB := Aside0.mk (Below.refl w.heap.size w)
  have H : ((lockgatelaw17_awake.f).bind fun t223 => (if t223 = true then (if a0 < 0 then (lockgatelaw17_PlaceMemory.j0 k a0 l1 l2 true) else ((lockgatelaw17_right.f k l1 l2).bind fun t224 => (lockgatelaw17_PlaceMemory.j0 k a0 l1 l2 (!t224)))) else (lockgatelaw17_PlaceMemory.j0 k a0 l1 l2 true))) = some r := h
  clear h
  have HC4 := Aside0.mk H
  clear H
  go_enter Try.func6, Try.ntmps6
  go_upto_region 1 with (fail)
  go_cut [26] (fun v26 wc => ∃ (kq : Nat) (x26_3 : Bool), v26 = .bool x26_3 ∧ Aside0 (lockgatelaw17_PlaceMemory.j0 kq a0 l1 l2 x26_3 = some r) ∧ Aside0 (kq ≤ k) ∧ Aside0 (Below w.heap.size w wc))
  case first =>
    have H := HC4.out
    clear HC4
    replace H := Option.bind_eq_some_iff.mp H
    obtain ⟨t223, A50, H⟩ := H
    replace H : (if t223 = true then (if a0 < 0 then (lockgatelaw17_PlaceMemory.j0 k a0 l1 l2 true) else ((lockgatelaw17_right.f k l1 l2).bind fun t224 => (lockgatelaw17_PlaceMemory.j0 k a0 l1 l2 (!t224)))) else (lockgatelaw17_PlaceMemory.j0 k a0 l1 l2 true)) = some r := H
    have A5 := Aside0.mk A50
    clear A50
    by_cases c6 : t223 = true
    · subst c6
      have H1 : (if a0 < 0 then (lockgatelaw17_PlaceMemory.j0 k a0 l1 l2 true) else ((lockgatelaw17_right.f k l1 l2).bind fun t224 => (lockgatelaw17_PlaceMemory.j0 k a0 l1 l2 (!t224)))) = some r := by rw [if_pos rfl] at H; exact H
      clear H
      have H := H1
      clear H1
      by_cases c7 : a0 < 0
      · rw [if_pos c7] at H
        have c7b0 : decide (a0 < 0) = true := decide_eq_true c7
        clear c7
        (first | rw [c7b0] | (simp only [i64_w, i32_w]; rw [c7b0]) | skip)
        have H' := Aside0.mk H
        clear H
        go_wp2_with (first | ((with_reducible refine gate_callee (f := 7) rfl ?_); refine goesL_ (some 15) rfl rfl Try.func7 (by kernel_rfl) rfl #[] rfl (by (try simp only [List.map_toArray, List.map_cons, List.map_nil]); first | done | rfl | (simp only [List.length_drop, List.length_take]; rfl)) ?_; (with_reducible refine (lockgatelaw17_awake.calls  true _ A5.out).mono ?_); rintro e w8 ⟨rfl, hb⟩; refine ⟨_, rfl, ?_⟩; have n0_ := Aside0.mk (below_step (by repeat (first | (with_reducible first | exact HB.out | apply below_alloc | apply pw_below_drewN | apply below_drew1) | exact HB.out)) hb); clear HB; have HB := n0_; clear n0_; (try clear hb); (try clear hb2); (try clear hk); (try clear hi)))
        go_meet
        case rel => exact ⟨_, (true), (by first | rfl | (simp; done) | (simp [*]; done)), H', ⟨by first | omega | exact Nat.le_refl _⟩, ⟨by repeat (first | (with_reducible first | exact HB.out | apply below_alloc | apply pw_below_drewN | apply below_drew1) | exact HB.out)⟩⟩
      · rw [if_neg c7] at H
        have c7b0 : decide (a0 < 0) = false := decide_eq_false c7
        clear c7
        (first | rw [c7b0] | (simp only [i64_w, i32_w]; rw [c7b0]) | skip)
        replace H := Option.bind_eq_some_iff.mp H
        obtain ⟨t224, A90, H⟩ := H
        replace H : (lockgatelaw17_PlaceMemory.j0 k a0 l1 l2 (!t224)) = some r := H
        have A9 := Aside0.mk A90
        clear A90
        have H' := Aside0.mk H
        clear H
        go_wp2_with (first | ((with_reducible refine gate_callee (f := 7) rfl ?_); refine goesL_ (some 15) rfl rfl Try.func7 (by kernel_rfl) rfl #[] rfl (by (try simp only [List.map_toArray, List.map_cons, List.map_nil]); first | done | rfl | (simp only [List.length_drop, List.length_take]; rfl)) ?_; (with_reducible refine (lockgatelaw17_awake.calls  true _ A5.out).mono ?_); rintro e w10 ⟨rfl, hb⟩; refine ⟨_, rfl, ?_⟩; have n0_ := Aside0.mk (below_step (by repeat (first | (with_reducible first | exact HB.out | apply below_alloc | apply pw_below_drewN | apply below_drew1) | exact HB.out)) hb); clear HB; have HB := n0_; clear n0_; (try clear hb); (try clear hb2); (try clear hk); (try clear hi)) | (go_at_call 8; (with_reducible refine (lockgatelaw17_right.calls k _ _ l1 _ _ l2 t224 _ ?side1 ?side2 ?side3 ?side4 A9.out).mono ?_); (case side1 => repeat (first | exact (Kd.C_below HR1.out HB.out) | (with_reducible refine Kd.C_alloc ?_ _) | (with_reducible refine Kd.C_drewN ?_ _) | (with_reducible refine Kd.C_drew ?_))); (case side2 => exact HC1.out); (case side3 => repeat (first | exact (Kd.C_below HR2.out HB.out) | (with_reducible refine Kd.C_alloc ?_ _) | (with_reducible refine Kd.C_drewN ?_ _) | (with_reducible refine Kd.C_drew ?_))); (case side4 => exact HC2.out); rintro e w' ⟨rfl, ⟨nd, rfl⟩⟩))
        go_meet
        case rel => exact ⟨_, (!t224), (by first | rfl | (simp; done) | (simp [*]; done)), H', ⟨by first | omega | exact Nat.le_refl _⟩, ⟨by repeat (first | (with_reducible first | exact HB.out | apply below_alloc | apply pw_below_drewN | apply below_drew1) | exact HB.out)⟩⟩
    · replace c6 := Bool.eq_false_iff.mpr c6
      subst c6
      have H1 : (lockgatelaw17_PlaceMemory.j0 k a0 l1 l2 true) = some r := by rw [if_neg (show ¬ (false = true) by decide)] at H; exact H
      clear H
      have H := H1
      clear H1
      have H' := Aside0.mk H
      clear H
      go_wp2_with (first | ((with_reducible refine gate_callee (f := 7) rfl ?_); refine goesL_ (some 15) rfl rfl Try.func7 (by kernel_rfl) rfl #[] rfl (by (try simp only [List.map_toArray, List.map_cons, List.map_nil]); first | done | rfl | (simp only [List.length_drop, List.length_take]; rfl)) ?_; (with_reducible refine (lockgatelaw17_awake.calls  false _ A5.out).mono ?_); rintro e w11 ⟨rfl, hb⟩; refine ⟨_, rfl, ?_⟩; have n0_ := Aside0.mk (below_step (by repeat (first | (with_reducible first | exact HB.out | apply below_alloc | apply pw_below_drewN | apply below_drew1) | exact HB.out)) hb); clear HB; have HB := n0_; clear n0_; (try clear hb); (try clear hb2); (try clear hk); (try clear hi)))
      go_meet
      case rel => exact ⟨_, (true), (by first | rfl | (simp; done) | (simp [*]; done)), H', ⟨by first | omega | exact Nat.le_refl _⟩, ⟨by repeat (first | (with_reducible first | exact HB.out | apply below_alloc | apply pw_below_drewN | apply below_drew1) | exact HB.out)⟩⟩
  case rest =>
    clear HC4
    try clear c1
    try clear c2
    try clear p2
    try clear c6
    try clear c7
    try clear c7b0
    obtain ⟨kq, x26_3, rfl, HA, HJ3, HB⟩ := hcut
    cases kq with
    | zero => exact absurd HA.out (by simp [lockgatelaw17_PlaceMemory.j0])
    | succ kj3 =>
      have H := HA.out
      clear HA
      simp only [lockgatelaw17_PlaceMemory.j0] at H
      by_cases c12 : x26_3 = true
      · subst c12
        have H1 : ((lockgatelaw17_awake.f).bind fun t225 => (some t225)) = some r := by rw [if_pos rfl] at H; exact H
        clear H
        have H := H1
        clear H1
        replace H := Option.bind_eq_some_iff.mp H
        obtain ⟨t225, A130, H⟩ := H
        replace H : (some t225) = some r := H
        have A13 := Aside0.mk A130
        clear A130
        obtain rfl := Option.some.inj H
        go_wp2_with (first | ((with_reducible refine gate_callee (f := 7) rfl ?_); refine goesL_ (some 27) rfl rfl Try.func7 (by kernel_rfl) rfl #[] rfl (by (try simp only [List.map_toArray, List.map_cons, List.map_nil]); first | done | rfl | (simp only [List.length_drop, List.length_take]; rfl)) ?_; (with_reducible refine (lockgatelaw17_awake.calls  t225 _ A13.out).mono ?_); rintro e w14 ⟨rfl, hb⟩; refine ⟨_, rfl, ?_⟩; have n0_ := Aside0.mk (below_step (by repeat (first | (with_reducible first | exact HB.out | apply below_alloc | apply pw_below_drewN | apply below_drew1) | exact HB.out)) hb); clear HB; have HB := n0_; clear n0_; (try clear hb); (try clear hb2); (try clear hk); (try clear hi)))
        go_ret
        exact ⟨by first | rfl | (simp [errW_none, errW_some] <;> rfl) | (simp [*, errW_none, errW_some] <;> rfl), by repeat (first | (with_reducible first | exact HB.out | apply below_alloc | apply pw_below_drewN | apply below_drew1) | exact HB.out)⟩
      · replace c12 := Bool.eq_false_iff.mpr c12
        subst c12
        have H1 : ((some (([] : List (S24)) : List (S24))).bind fun y226 => (if y226.length + l1.length < 8796093022208 then ((some (([] : List (S24)) : List (S24))).bind fun y232 => (if y232.length + l2.length < 8796093022208 then ((place_Chain.f kj3 a0 l1 l2 9).bind fun t238 => ((place_Both.f l1 l2).bind fun t241 => ((place_Lead.f l1 (-9) 0).bind fun t244 => (lockgatelaw17_PlaceMemory.l0 kj3 l1 l2 (y226 ++ l1) (y232 ++ l2) t238 t241 t244 0)))) else (none))) else (none))) = some r := by rw [if_neg (show ¬ (false = true) by decide)] at H; exact H
        clear H
        have H := H1
        clear H1
        obtain ⟨y226, hy226⟩ : ∃ y_ : List (S24), y_ = (([] : List (S24))) := ⟨_, rfl⟩
        replace H : (if y226.length + l1.length < 8796093022208 then ((some (([] : List (S24)) : List (S24))).bind fun y232 => (if y232.length + l2.length < 8796093022208 then ((place_Chain.f kj3 a0 l1 l2 9).bind fun t238 => ((place_Both.f l1 l2).bind fun t241 => ((place_Lead.f l1 (-9) 0).bind fun t244 => (lockgatelaw17_PlaceMemory.l0 kj3 l1 l2 (y226 ++ l1) (y232 ++ l2) t238 t241 t244 0)))) else (none))) else (none)) = some r := by first | (rw [hy226]; with_reducible exact H) | (have H2_ := (Option.bind_some _ _).symm.trans H; rw [hy226]; with_reducible exact H2_) | (have H2_ := (Option.bind_some _ _).symm.trans H; with_reducible exact H2_) | with_reducible exact H | (rw [hy226]; exact H) | exact H
        have Ny226 := Aside0.mk hy226
        clear hy226
        by_cases c15 : y226.length + l1.length < 8796093022208
        · rw [if_pos c15] at H
          have LMc15 := Aside0.mk c15
          clear c15
          obtain ⟨y229, hy229⟩ : ∃ y_ : List (S24), y_ = (y226 ++ l1) := ⟨_, rfl⟩
          replace H : ((some (([] : List (S24)) : List (S24))).bind fun y232 => (if y232.length + l2.length < 8796093022208 then ((place_Chain.f kj3 a0 l1 l2 9).bind fun t238 => ((place_Both.f l1 l2).bind fun t241 => ((place_Lead.f l1 (-9) 0).bind fun t244 => (lockgatelaw17_PlaceMemory.l0 kj3 l1 l2 y229 (y232 ++ l2) t238 t241 t244 0)))) else (none))) = some r := by first | (rw [hy229]; with_reducible exact H) | (have H2_ := (Option.bind_some _ _).symm.trans H; rw [hy229]; with_reducible exact H2_) | (have H2_ := (Option.bind_some _ _).symm.trans H; with_reducible exact H2_) | with_reducible exact H | (rw [hy229]; exact H) | exact H
          have Ny229 := Aside0.mk hy229
          clear hy229
          obtain ⟨y232, hy232⟩ : ∃ y_ : List (S24), y_ = (([] : List (S24))) := ⟨_, rfl⟩
          replace H : (if y232.length + l2.length < 8796093022208 then ((place_Chain.f kj3 a0 l1 l2 9).bind fun t238 => ((place_Both.f l1 l2).bind fun t241 => ((place_Lead.f l1 (-9) 0).bind fun t244 => (lockgatelaw17_PlaceMemory.l0 kj3 l1 l2 y229 (y232 ++ l2) t238 t241 t244 0)))) else (none)) = some r := by first | (rw [hy232]; with_reducible exact H) | (have H2_ := (Option.bind_some _ _).symm.trans H; rw [hy232]; with_reducible exact H2_) | (have H2_ := (Option.bind_some _ _).symm.trans H; with_reducible exact H2_) | with_reducible exact H | (rw [hy232]; exact H) | exact H
          have Ny232 := Aside0.mk hy232
          clear hy232
          by_cases c16 : y232.length + l2.length < 8796093022208
          · rw [if_pos c16] at H
            have LMc16 := Aside0.mk c16
            clear c16
            obtain ⟨y235, hy235⟩ : ∃ y_ : List (S24), y_ = (y232 ++ l2) := ⟨_, rfl⟩
            replace H : ((place_Chain.f kj3 a0 l1 l2 9).bind fun t238 => ((place_Both.f l1 l2).bind fun t241 => ((place_Lead.f l1 (-9) 0).bind fun t244 => (lockgatelaw17_PlaceMemory.l0 kj3 l1 l2 y229 y235 t238 t241 t244 0)))) = some r := by first | (rw [hy235]; with_reducible exact H) | (have H2_ := (Option.bind_some _ _).symm.trans H; rw [hy235]; with_reducible exact H2_) | (have H2_ := (Option.bind_some _ _).symm.trans H; with_reducible exact H2_) | with_reducible exact H | (rw [hy235]; exact H) | exact H
            have Ny235 := Aside0.mk hy235
            clear hy235
            replace H := Option.bind_eq_some_iff.mp H
            obtain ⟨t238, A170, H⟩ := H
            replace H : ((place_Both.f l1 l2).bind fun t241 => ((place_Lead.f l1 (-9) 0).bind fun t244 => (lockgatelaw17_PlaceMemory.l0 kj3 l1 l2 y229 y235 t238 t241 t244 0))) = some r := H
            have A17 := Aside0.mk A170
            clear A170
            replace H := Option.bind_eq_some_iff.mp H
            obtain ⟨t241, A180, H⟩ := H
            replace H : ((place_Lead.f l1 (-9) 0).bind fun t244 => (lockgatelaw17_PlaceMemory.l0 kj3 l1 l2 y229 y235 t238 t241 t244 0)) = some r := H
            have A18 := Aside0.mk A180
            clear A180
            replace H := Option.bind_eq_some_iff.mp H
            obtain ⟨t244, A190, H⟩ := H
            replace H : (lockgatelaw17_PlaceMemory.l0 kj3 l1 l2 y229 y235 t238 t241 t244 0) = some r := H
            have A19 := Aside0.mk A190
            clear A190
            have H' := Aside0.mk H
            clear H
            go_wp2_with (first | ((with_reducible refine gate_dst (N := 28) rfl ?_); refine Kd.R_lit k24 _ 24 ?hg (N := 28) ?hd (xs := ([] : List (S24))) (inner := []) (ok := fun _ => True) (okp := fun _ => True) ?hr ?hp (fun _ hk => hk) trivial (Below.refl _ _) (Nat.le_refl _) (by simp) ?_; (case hd => rfl); (case hg => rfl); (case hr => first | (go_simp; done) | (go_simp; rfl)); (case hp => exact (Reps.none _ _)); intro v227 w20 ho21 hb hg_ hnew_; clear hg_ hnew_; (first | rw [← Ny226.out] at ho21 | (simp only [Int.reduceToNat] at ho21; rw [← Ny226.out] at ho21)); have n0_ := Aside0.mk (Kd.R_lower ho21 (below_size (by repeat (first | (with_reducible first | exact HB.out | apply below_alloc | apply pw_below_drewN | apply below_drew1) | exact HB.out)))); have n1_ := Aside0.mk (below_step (by repeat (first | (with_reducible first | exact HB.out | apply below_alloc | apply pw_below_drewN | apply below_drew1) | exact HB.out)) hb); clear HB; have HO228 := n0_; have HB := n1_; clear n0_ n1_; clear hb ho21) | ((with_reducible refine gate_builtin (b := .append) (xs := #[.tmp 28, .tmp 29]) rfl ?_); at_builtin; refine Kd.R_append_rows k24 (w0 := w) w.heap.size rfl (.tmp 28) (.tmp 29) 22 24 (.agg #[(.int .i64 0), (.int .i64 0)]) 16 rfl Try.underlying22 info24 rfl (by decide) (by omega) v227 y226 l1 _ _ _ (fun _ => True) (fun _ => False) rfl rfl ?aO ?aR (fun _ _ h => h) (fun _ h => h.elim) ?aF ?aB ?aS ?aL ?_; (case aR => repeat (first | exact (Kd.C_below HR1.out HB.out) | (with_reducible refine Kd.C_alloc ?_ _) | (with_reducible refine Kd.C_drewN ?_ _) | (with_reducible refine Kd.C_drew ?_))); (case aB => exact (by repeat (first | (with_reducible first | exact HB.out | apply below_alloc | apply pw_below_drewN | apply below_drew1) | exact HB.out))); (case aF => exact (fun _ _ => trivial)); (case aO => exact (by (with_reducible repeat (first | apply Kd.R_alloc | apply Kd.R_drewN | apply Kd.R_drew)); exact HO228.out)); (case aS => exact (below_size (by repeat (first | (with_reducible first | exact HB.out | apply below_alloc | apply pw_below_drewN | apply below_drew1) | exact HB.out)))); (case aL => have := LMc15.out; omega); intro v230 w22 ho hb hg hat; rw [← Ny229.out] at ho; have n0_ := Aside0.mk (hb); have n1_ := Aside0.mk (ho); clear HB; clear HO228; have HB := n0_; have HO231 := n1_; clear n0_ n1_; clear ho hb hg hat) | ((with_reducible refine gate_dst (N := 31) rfl ?_); refine Kd.R_lit k24 _ 24 ?hg (N := 31) ?hd (xs := ([] : List (S24))) (inner := []) (ok := fun _ => True) (okp := fun _ => True) ?hr ?hp (fun _ hk => hk) trivial (Below.refl _ _) (Nat.le_refl _) (by simp) ?_; (case hd => rfl); (case hg => rfl); (case hr => first | (go_simp; done) | (go_simp; rfl)); (case hp => exact (Reps.none _ _)); intro v233 w23 ho24 hb hg_ hnew_; clear hg_ hnew_; (first | rw [← Ny232.out] at ho24 | (simp only [Int.reduceToNat] at ho24; rw [← Ny232.out] at ho24)); have n0_ := Aside0.mk (Kd.R_elder' (by (with_reducible repeat (first | apply Kd.R_alloc | apply Kd.R_drewN | apply Kd.R_drew)); exact HO231.out) (Kd.R_base ho24) hb); have n1_ := Aside0.mk (Kd.R_lower (Kd.R_new' ho24 (Kd.R_lt (by (with_reducible repeat (first | apply Kd.R_alloc | apply Kd.R_drewN | apply Kd.R_drew)); exact HO231.out))) (below_size (by repeat (first | (with_reducible first | exact HB.out | apply below_alloc | apply pw_below_drewN | apply below_drew1) | exact HB.out)))); have n2_ := Aside0.mk (below_step (by repeat (first | (with_reducible first | exact HB.out | apply below_alloc | apply pw_below_drewN | apply below_drew1) | exact HB.out)) hb); clear HO231; clear HB; have HO231 := n0_; have HO234 := n1_; have HB := n2_; clear n0_ n1_ n2_; clear hb ho24) | ((with_reducible refine gate_builtin (b := .append) (xs := #[.tmp 31, .tmp 32]) rfl ?_); at_builtin; refine Kd.R_append_rows k24 (w0 := w) w.heap.size rfl (.tmp 31) (.tmp 32) 22 24 (.agg #[(.int .i64 0), (.int .i64 0)]) 16 rfl Try.underlying22 info24 rfl (by decide) (by omega) v233 y232 l2 _ _ _ (fun k_ => some k_ ≠ (v230 : Value).ownBlock) (fun _ => False) rfl rfl ?aO ?aR (fun _ _ h => h) (fun _ h => h.elim) ?aF ?aB ?aS ?aL ?_; (case aR => repeat (first | exact (Kd.C_below HR2.out HB.out) | (with_reducible refine Kd.C_alloc ?_ _) | (with_reducible refine Kd.C_drewN ?_ _) | (with_reducible refine Kd.C_drew ?_))); (case aB => exact (by repeat (first | (with_reducible first | exact HB.out | apply below_alloc | apply pw_below_drewN | apply below_drew1) | exact HB.out))); (case aF => exact (fun k_ hk => Kd.fresh' (Kd.R_lt (by (with_reducible repeat (first | apply Kd.R_alloc | apply Kd.R_drewN | apply Kd.R_drew)); exact HO231.out)) k_ hk)); (case aO => exact (by (with_reducible repeat (first | apply Kd.R_alloc | apply Kd.R_drewN | apply Kd.R_drew)); exact Kd.R_mono HO234.out (fun _ hk => hk.2))); (case aS => exact (below_size (by repeat (first | (with_reducible first | exact HB.out | apply below_alloc | apply pw_below_drewN | apply below_drew1) | exact HB.out)))); (case aL => have := LMc16.out; omega); intro v236 w25 ho hb hg hat; rw [← Ny235.out] at ho; have n0_ := Aside0.mk (Kd.R_after (ok := (fun _ => True)) (by (with_reducible repeat (first | apply Kd.R_alloc | apply Kd.R_drewN | apply Kd.R_drew)); exact HO231.out) hg hat); have n1_ := Aside0.mk (hb); have n2_ := Aside0.mk (ho); clear HO231; clear HB; clear HO234; have HO231 := n0_; have HB := n1_; have HO237 := n2_; clear n0_ n1_ n2_; clear ho hb hg hat) | ((with_reducible refine gate_callee (f := 10) rfl ?_); refine goesL_ (some 37) rfl rfl Try.func10 (by kernel_rfl) rfl #[.int .i64 a0, .slice A1 l1.length c1, .slice A2 l2.length c2, .int .i64 9] rfl (by (try simp only [List.map_toArray, List.map_cons, List.map_nil]); first | done | rfl | (simp only [List.length_drop, List.length_take]; rfl)) ?_; (with_reducible refine (place_Chain.calls kj3 a0 _ _ l1 _ _ l2 9 t238 _ ?side1 ?side2 ?side3 ?side4 A17.out).mono ?_); (case side1 => repeat (first | exact (Kd.C_below HR1.out HB.out) | (with_reducible refine Kd.C_alloc ?_ _) | (with_reducible refine Kd.C_drewN ?_ _) | (with_reducible refine Kd.C_drew ?_))); (case side2 => exact HC1.out); (case side3 => repeat (first | exact (Kd.C_below HR2.out HB.out) | (with_reducible refine Kd.C_alloc ?_ _) | (with_reducible refine Kd.C_drewN ?_ _) | (with_reducible refine Kd.C_drew ?_))); (case side4 => exact HC2.out); rintro e w26 ⟨v239, rfl, ho0, hb⟩; refine ⟨_, rfl, ?_⟩; have n0_ := Aside0.mk (Kd.R_elder' (by (with_reducible repeat (first | apply Kd.R_alloc | apply Kd.R_drewN | apply Kd.R_drew)); exact HO231.out) (Kd.R_base ho0) hb); have n1_ := Aside0.mk (Kd.R_elder' (by (with_reducible repeat (first | apply Kd.R_alloc | apply Kd.R_drewN | apply Kd.R_drew)); exact HO237.out) (Kd.R_base ho0) hb); have n2_ := Aside0.mk (Kd.R_lower (Kd.R_new' (Kd.R_new' ho0 (Kd.R_lt (by (with_reducible repeat (first | apply Kd.R_alloc | apply Kd.R_drewN | apply Kd.R_drew)); exact HO231.out))) (Kd.R_lt (by (with_reducible repeat (first | apply Kd.R_alloc | apply Kd.R_drewN | apply Kd.R_drew)); exact HO237.out))) (below_size (by repeat (first | (with_reducible first | exact HB.out | apply below_alloc | apply pw_below_drewN | apply below_drew1) | exact HB.out)))); have n3_ := Aside0.mk (below_step (by repeat (first | (with_reducible first | exact HB.out | apply below_alloc | apply pw_below_drewN | apply below_drew1) | exact HB.out)) hb); clear HO231; clear HO237; clear HB; have HO231 := n0_; have HO237 := n1_; have HO240 := n2_; have HB := n3_; clear n0_ n1_ n2_ n3_; (try clear hb); (try clear hb2); (try clear hk); (try clear hi); (try clear ho0)) | ((with_reducible refine gate_callee (f := 12) rfl ?_); refine goesL_ (some 40) rfl rfl Try.func12 (by kernel_rfl) rfl #[.slice A1 l1.length c1, .slice A2 l2.length c2] rfl (by (try simp only [List.map_toArray, List.map_cons, List.map_nil]); first | done | rfl | (simp only [List.length_drop, List.length_take]; rfl)) ?_; (with_reducible refine (place_Both.calls _ _ l1 _ _ l2 t241 _ ?side1 ?side2 ?side3 ?side4 A18.out).mono ?_); (case side1 => repeat (first | exact (Kd.C_below HR1.out HB.out) | (with_reducible refine Kd.C_alloc ?_ _) | (with_reducible refine Kd.C_drewN ?_ _) | (with_reducible refine Kd.C_drew ?_))); (case side2 => exact HC1.out); (case side3 => repeat (first | exact (Kd.C_below HR2.out HB.out) | (with_reducible refine Kd.C_alloc ?_ _) | (with_reducible refine Kd.C_drewN ?_ _) | (with_reducible refine Kd.C_drew ?_))); (case side4 => exact HC2.out); rintro e w27 ⟨v242, rfl, ho0, hb⟩; refine ⟨_, rfl, ?_⟩; have n0_ := Aside0.mk (Kd.R_elder' (by (with_reducible repeat (first | apply Kd.R_alloc | apply Kd.R_drewN | apply Kd.R_drew)); exact HO231.out) (Kd.R_base ho0) hb); have n1_ := Aside0.mk (Kd.R_elder' (by (with_reducible repeat (first | apply Kd.R_alloc | apply Kd.R_drewN | apply Kd.R_drew)); exact HO237.out) (Kd.R_base ho0) hb); have n2_ := Aside0.mk (Kd.R_elder' (by (with_reducible repeat (first | apply Kd.R_alloc | apply Kd.R_drewN | apply Kd.R_drew)); exact HO240.out) (Kd.R_base ho0) hb); have n3_ := Aside0.mk (Kd.R_lower (Kd.R_new' (Kd.R_new' (Kd.R_new' ho0 (Kd.R_lt (by (with_reducible repeat (first | apply Kd.R_alloc | apply Kd.R_drewN | apply Kd.R_drew)); exact HO231.out))) (Kd.R_lt (by (with_reducible repeat (first | apply Kd.R_alloc | apply Kd.R_drewN | apply Kd.R_drew)); exact HO237.out))) (Kd.R_lt (by (with_reducible repeat (first | apply Kd.R_alloc | apply Kd.R_drewN | apply Kd.R_drew)); exact HO240.out))) (below_size (by repeat (first | (with_reducible first | exact HB.out | apply below_alloc | apply pw_below_drewN | apply below_drew1) | exact HB.out)))); have n4_ := Aside0.mk (below_step (by repeat (first | (with_reducible first | exact HB.out | apply below_alloc | apply pw_below_drewN | apply below_drew1) | exact HB.out)) hb); clear HO231; clear HO237; clear HO240; clear HB; have HO231 := n0_; have HO237 := n1_; have HO240 := n2_; have HO243 := n3_; have HB := n4_; clear n0_ n1_ n2_ n3_ n4_; (try clear hb); (try clear hb2); (try clear hk); (try clear hi); (try clear ho0)) | ((with_reducible refine gate_callee (f := 14) rfl ?_); refine goesL_ (some 43) rfl rfl Try.func14 (by kernel_rfl) rfl #[.slice A1 l1.length c1, .agg #[.int .i64 (-9), .int .i64 0]] rfl (by (try simp only [List.map_toArray, List.map_cons, List.map_nil]); first | done | rfl | (simp only [List.length_drop, List.length_take]; rfl)) ?_; (with_reducible refine (place_Lead.calls _ _ l1 (-9) 0 t244 _ ?side1 ?side2 A19.out).mono ?_); (case side1 => repeat (first | exact (Kd.C_below HR1.out HB.out) | (with_reducible refine Kd.C_alloc ?_ _) | (with_reducible refine Kd.C_drewN ?_ _) | (with_reducible refine Kd.C_drew ?_))); (case side2 => exact HC1.out); rintro e w28 ⟨v245, rfl, ho0, hb⟩; refine ⟨_, rfl, ?_⟩; have n0_ := Aside0.mk (Kd.R_elder' (by (with_reducible repeat (first | apply Kd.R_alloc | apply Kd.R_drewN | apply Kd.R_drew)); exact HO231.out) (Kd.R_base ho0) hb); have n1_ := Aside0.mk (Kd.R_elder' (by (with_reducible repeat (first | apply Kd.R_alloc | apply Kd.R_drewN | apply Kd.R_drew)); exact HO237.out) (Kd.R_base ho0) hb); have n2_ := Aside0.mk (Kd.R_elder' (by (with_reducible repeat (first | apply Kd.R_alloc | apply Kd.R_drewN | apply Kd.R_drew)); exact HO240.out) (Kd.R_base ho0) hb); have n3_ := Aside0.mk (Kd.R_elder' (by (with_reducible repeat (first | apply Kd.R_alloc | apply Kd.R_drewN | apply Kd.R_drew)); exact HO243.out) (Kd.R_base ho0) hb); have n4_ := Aside0.mk (Kd.R_lower (Kd.R_new' (Kd.R_new' (Kd.R_new' (Kd.R_new' ho0 (Kd.R_lt (by (with_reducible repeat (first | apply Kd.R_alloc | apply Kd.R_drewN | apply Kd.R_drew)); exact HO231.out))) (Kd.R_lt (by (with_reducible repeat (first | apply Kd.R_alloc | apply Kd.R_drewN | apply Kd.R_drew)); exact HO237.out))) (Kd.R_lt (by (with_reducible repeat (first | apply Kd.R_alloc | apply Kd.R_drewN | apply Kd.R_drew)); exact HO240.out))) (Kd.R_lt (by (with_reducible repeat (first | apply Kd.R_alloc | apply Kd.R_drewN | apply Kd.R_drew)); exact HO243.out))) (below_size (by repeat (first | (with_reducible first | exact HB.out | apply below_alloc | apply pw_below_drewN | apply below_drew1) | exact HB.out)))); have n5_ := Aside0.mk (below_step (by repeat (first | (with_reducible first | exact HB.out | apply below_alloc | apply pw_below_drewN | apply below_drew1) | exact HB.out)) hb); clear HO231; clear HO237; clear HO240; clear HO243; clear HB; have HO231 := n0_; have HO237 := n1_; have HO240 := n2_; have HO243 := n3_; have HO246 := n4_; have HB := n5_; clear n0_ n1_ n2_ n3_ n4_ n5_; (try clear hb); (try clear hb2); (try clear hk); (try clear hi); (try clear ho0)))
            go_loopg [12] kj3 (fun kq v12 w' => ∃ (x9_2 : List (S24)) (x12_2 : Int), v12 = .int .i64 x12_2 ∧ Aside0 (lockgatelaw17_PlaceMemory.l0 kq l1 l2 y229 y235 x9_2 t241 t244 x12_2 = some r) ∧ Aside0 (kq ≤ kj3) ∧ Aside0 (Kd.R k24 24 w' w.heap.size (fun k_ => some k_ ≠ (v236 : Value).ownBlock ∧ some k_ ≠ (v239 : Value).ownBlock ∧ some k_ ≠ (v242 : Value).ownBlock ∧ some k_ ≠ (v245 : Value).ownBlock) v230 y229) ∧ Aside0 (Kd.R k24 24 w' w.heap.size (fun k_ => some k_ ≠ (v230 : Value).ownBlock ∧ some k_ ≠ (v239 : Value).ownBlock ∧ some k_ ≠ (v242 : Value).ownBlock ∧ some k_ ≠ (v245 : Value).ownBlock) v236 y235) ∧ Aside0 (Kd.R k24 24 w' w.heap.size (fun k_ => some k_ ≠ (v230 : Value).ownBlock ∧ some k_ ≠ (v236 : Value).ownBlock ∧ some k_ ≠ (v242 : Value).ownBlock ∧ some k_ ≠ (v245 : Value).ownBlock) v239 x9_2) ∧ Aside0 (Kd.R k24 24 w' w.heap.size (fun k_ => some k_ ≠ (v230 : Value).ownBlock ∧ some k_ ≠ (v236 : Value).ownBlock ∧ some k_ ≠ (v239 : Value).ownBlock ∧ some k_ ≠ (v245 : Value).ownBlock) v242 t241) ∧ Aside0 (Kd.R k24 24 w' w.heap.size (fun k_ => some k_ ≠ (v230 : Value).ownBlock ∧ some k_ ≠ (v236 : Value).ownBlock ∧ some k_ ≠ (v239 : Value).ownBlock ∧ some k_ ≠ (v242 : Value).ownBlock) v245 t244) ∧ Aside0 (Below w.heap.size w w'))
            case atStart => exact ⟨(t238), (0), (by first | rfl | (simp; done) | (simp [*]; done)), H', ⟨Nat.le_refl _⟩, ⟨by (with_reducible repeat (first | apply Kd.R_alloc | apply Kd.R_drewN | apply Kd.R_drew)); exact Kd.R_mono HO231.out (fun _ hk => ⟨hk.1.1.1.2, ⟨hk.1.1.2, ⟨hk.1.2, hk.2⟩⟩⟩)⟩, ⟨by (with_reducible repeat (first | apply Kd.R_alloc | apply Kd.R_drewN | apply Kd.R_drew)); exact Kd.R_mono HO237.out (fun _ hk => ⟨hk.1.1.1, ⟨hk.1.1.2, ⟨hk.1.2, hk.2⟩⟩⟩)⟩, ⟨by (with_reducible repeat (first | apply Kd.R_alloc | apply Kd.R_drewN | apply Kd.R_drew)); exact Kd.R_mono HO240.out (fun _ hk => ⟨hk.1.1.1.2, ⟨hk.1.1.2, ⟨hk.1.2, hk.2⟩⟩⟩)⟩, ⟨by (with_reducible repeat (first | apply Kd.R_alloc | apply Kd.R_drewN | apply Kd.R_drew)); exact Kd.R_mono HO243.out (fun _ hk => ⟨hk.1.1.1.2, ⟨hk.1.1.2, ⟨hk.1.2, hk.2⟩⟩⟩)⟩, ⟨by (with_reducible repeat (first | apply Kd.R_alloc | apply Kd.R_drewN | apply Kd.R_drew)); exact Kd.R_mono HO246.out (fun _ hk => ⟨hk.1.1.1.2, ⟨hk.1.1.2, ⟨hk.1.2, hk.2⟩⟩⟩)⟩, ⟨by repeat (first | (with_reducible first | exact HB.out | apply below_alloc | apply pw_below_drewN | apply below_drew1) | exact HB.out)⟩⟩
            case round =>
              clear H'
              try clear c1
              try clear c2
              try clear p2
              try clear c6
              try clear c7
              try clear c7b0
              try clear c10
              try clear c12
              try clear c14
              try clear c15
              try clear c16
              try clear p2
              obtain ⟨x9_2, x12_2, rfl, HA, HK2, HO_7, HO_8, HO_9, HO_10, HO_11, HB⟩ := hrel
              cases gk with
              | zero => exact absurd HA.out (by simp [lockgatelaw17_PlaceMemory.l0])
              | succ k2 =>
                have H := HA.out
                clear HA
                simp only [lockgatelaw17_PlaceMemory.l0] at H
                by_cases c29 : x12_2 < (x9_2.length : Int)
                · rw [if_pos c29] at H
                  have c29b0 : decide (x12_2 < (x9_2.length : Int)) = true := decide_eq_true c29
                  clear c29
                  by_cases c30 : 0 ≤ x12_2
                  · rw [if_pos c30] at H
                    have c30b0 : decide (0 ≤ x12_2) = true := decide_eq_true c30
                    clear c30
                    obtain ⟨y247, hy247⟩ : ∃ y_ : List (S24), y_ = (x9_2.set (x12_2 : Int).toNat (⟨(-7), (rd_T24 x9_2 x12_2).f1⟩ : S24)) := ⟨_, rfl⟩
                    replace H : (lockgatelaw17_PlaceMemory.l0 k2 l1 l2 y229 y235 y247 t241 t244 (wrap64 (x12_2 + 1))) = some r := by first | (rw [hy247]; with_reducible exact H) | (have H2_ := (Option.bind_some _ _).symm.trans H; rw [hy247]; with_reducible exact H2_) | (have H2_ := (Option.bind_some _ _).symm.trans H; with_reducible exact H2_) | with_reducible exact H | (rw [hy247]; exact H) | exact H
                    have Ny247 := Aside0.mk hy247
                    clear hy247
                    have H' := Aside0.mk H
                    clear H
                    obtain ⟨Ao32, co32, eo32⟩ := Kd.R_slice HO_9.out
                    subst eo32
                    have p31 : 0 ≤ (x12_2 : Int) := of_decide_eq_true (by first | (with_reducible assumption) | assumption)
                    have q31 : (x12_2 : Int) < ((x9_2.length : Int) : Int) := of_decide_eq_true (by first | (with_reducible assumption) | assumption)
                    obtain ⟨go31, co31, eo31, gb31, gl31, cl31, HG31⟩ := Kd.R_form HO_9.out (by omega)
                    (first | cases eo31 | (injection eo31 with ea_ en_ ec_; (first | subst ea_ | (injection ea_ with ea_; subst ea_)); subst ec_; clear en_))
                    have GB31 := Aside0.mk gb31
                    have GG31 := Aside0.mk HG31
                    clear gb31 gl31 HG31
                    obtain ⟨ce31, hcl31, hM31, hcc31, hfr31⟩ := Kd.R_elem HO_9.out z24 (x12_2 : Int) p31 q31
                    obtain rfl := k24_openM hM31
                    have hx31_0 : wr.cell? ⟨go31, (x12_2 : Int).toNat * 2, none⟩ = some (.int .i64 ((rd_T24 x9_2 x12_2).f0)) := hcc31 0 _ rfl
                    have hx31_1 : wr.cell? ⟨go31, (x12_2 : Int).toNat * 2 + 1, none⟩ = some (.int .i64 ((rd_T24 x9_2 x12_2).f1)) := hcc31 1 _ rfl
                    have hf31_0 : wr.frozen? ⟨go31, (x12_2 : Int).toNat * 2, none⟩ = false := hfr31 0
                    have hf31_1 : wr.frozen? ⟨go31, (x12_2 : Int).toNat * 2 + 1, none⟩ = false := hfr31 1
                    clear hcl31 hcc31 hfr31 hM31
                    replace p31 := eq_true p31
                    replace q31 := eq_true q31
                    have HX33 := Aside0.mk (show Kd.R k24 24 wr w.heap.size (fun k_ => some k_ ≠ (v230 : Value).ownBlock ∧ some k_ ≠ (v236 : Value).ownBlock ∧ some k_ ≠ (v242 : Value).ownBlock ∧ some k_ ≠ (v245 : Value).ownBlock) (.slice (some ⟨go31, 0, none⟩) x9_2.length co32) x9_2 from (by (with_reducible repeat (first | apply Kd.R_alloc | apply Kd.R_drewN | apply Kd.R_drew)); exact HO_9.out))
                    obtain ⟨ce33, hcl33, hM33, hcc33, hfr33⟩ := Kd.R_elem HX33.out z24 (x12_2 : Int) (of_decide_eq_true (by first | (with_reducible assumption) | assumption)) (by have h_ : (x12_2 : Int) < ((x9_2.length : Int) : Int) := of_decide_eq_true (by first | (with_reducible assumption) | assumption); first | exact h_ | (have e_ := (Kd.R_reads' HO_9.out).1; omega) | simpa using h_)
                    obtain rfl := k24_openM hM33
                    have HP33 := Kd.R_seg HX33.out (x12_2 : Int) (of_decide_eq_true (by first | (with_reducible assumption) | assumption)) (by have h_ : (x12_2 : Int) < ((x9_2.length : Int) : Int) := of_decide_eq_true (by first | (with_reducible assumption) | assumption); first | exact h_ | (have e_ := (Kd.R_reads' HO_9.out).1; omega) | simpa using h_) (seg := [.int .i64 (-7)]) (j := 0) hcl33 hcc33 (show 1 ≤ 2 from by decide) (x' := (⟨(-7), (rd_T24 x9_2 x12_2).f1⟩ : S24)) (k24_mkM _ _ _ (⟨(-7), (rd_T24 x9_2 x12_2).f1⟩ : S24) ) (fun _ hk => hk)
                    have hx33_0 := hcc33 0 _ rfl
                    (try simp only [show (k24).sz = 2 from rfl, Nat.mul_one, Nat.add_zero] at hx33_0)
                    have hf33_0 := hfr33 0
                    (try simp only [show (k24).sz = 2 from rfl, Nat.mul_one, Nat.add_zero] at hf33_0)
                    clear hcl33 hcc33 hfr33 hM33
                    go_wp2_with (first | ((with_reducible refine gate_store (t := 3) (p := 53) rfl ?_); refine store_event (t := 3) (p := 53) (v := ?vo_w34) (w1 := (wr.setCell ⟨go31, (x12_2 : Int).toNat * 2, none⟩ (.int .i64 (-7)))) ?hg ?ho ?hn ?hr ?_; (case ho => rfl); (case hg => rfl); (case hn => rfl); (case hr => first | (go_simp; done) | (go_simp; rfl)); intro w34 hw; have hg : wr.grownBy w34 (some go31) := (by rw [hw]; exact HP33.2); have hp_ : Kd.R k24 24 w34 w.heap.size (fun k_ => some k_ ≠ (v230 : Value).ownBlock ∧ some k_ ≠ (v236 : Value).ownBlock ∧ some k_ ≠ (v242 : Value).ownBlock ∧ some k_ ≠ (v245 : Value).ownBlock) (.slice (some ⟨go31, 0, none⟩) x9_2.length co32) y247 := (by rw [hw, Ny247.out]; exact HP33.1); clear HP33; have n0_ := Aside0.mk (Kd.R_after (v := (.slice (some ⟨go31, 0, none⟩) x9_2.length co32)) (v1 := (.slice (some ⟨go31, 0, none⟩) x9_2.length co32)) (ok := (fun k_ => some k_ ≠ (v236 : Value).ownBlock ∧ some k_ ≠ (v242 : Value).ownBlock ∧ some k_ ≠ (v245 : Value).ownBlock)) (by (with_reducible repeat (first | apply Kd.R_alloc | apply Kd.R_drewN | apply Kd.R_drew)); exact Kd.R_mono HO_7.out (fun _ hk => ⟨⟨hk.1, ⟨hk.2.2.1, hk.2.2.2⟩⟩, hk.2.1⟩)) hg (.inl rfl)); have n1_ := Aside0.mk (Kd.R_after (v := (.slice (some ⟨go31, 0, none⟩) x9_2.length co32)) (v1 := (.slice (some ⟨go31, 0, none⟩) x9_2.length co32)) (ok := (fun k_ => some k_ ≠ (v230 : Value).ownBlock ∧ some k_ ≠ (v242 : Value).ownBlock ∧ some k_ ≠ (v245 : Value).ownBlock)) (by (with_reducible repeat (first | apply Kd.R_alloc | apply Kd.R_drewN | apply Kd.R_drew)); exact Kd.R_mono HO_8.out (fun _ hk => ⟨⟨hk.1, ⟨hk.2.2.1, hk.2.2.2⟩⟩, hk.2.1⟩)) hg (.inl rfl)); have n2_ := Aside0.mk (hp_); have n3_ := Aside0.mk (Kd.R_after (v := (.slice (some ⟨go31, 0, none⟩) x9_2.length co32)) (v1 := (.slice (some ⟨go31, 0, none⟩) x9_2.length co32)) (ok := (fun k_ => some k_ ≠ (v230 : Value).ownBlock ∧ some k_ ≠ (v236 : Value).ownBlock ∧ some k_ ≠ (v245 : Value).ownBlock)) (by (with_reducible repeat (first | apply Kd.R_alloc | apply Kd.R_drewN | apply Kd.R_drew)); exact Kd.R_mono HO_10.out (fun _ hk => ⟨⟨hk.1, ⟨hk.2.1, hk.2.2.2⟩⟩, hk.2.2.1⟩)) hg (.inl rfl)); have n4_ := Aside0.mk (Kd.R_after (v := (.slice (some ⟨go31, 0, none⟩) x9_2.length co32)) (v1 := (.slice (some ⟨go31, 0, none⟩) x9_2.length co32)) (ok := (fun k_ => some k_ ≠ (v230 : Value).ownBlock ∧ some k_ ≠ (v236 : Value).ownBlock ∧ some k_ ≠ (v242 : Value).ownBlock)) (by (with_reducible repeat (first | apply Kd.R_alloc | apply Kd.R_drewN | apply Kd.R_drew)); exact Kd.R_mono HO_11.out (fun _ hk => ⟨⟨hk.1, ⟨hk.2.1, hk.2.2.2⟩⟩, hk.2.2.1⟩)) hg (.inl rfl)); have n5_ := Aside0.mk ((by rw [hw]; exact below_set (HB.out) GB31.out : Below w.heap.size w w34)); clear HO_7; clear HO_8; clear HO_9; clear HO_10; clear HO_11; clear HB; have HO_7 := n0_; have HO_8 := n1_; have HO_9 := n2_; have HO_10 := n3_; have HO_11 := n4_; have HB := n5_; clear n0_ n1_ n2_ n3_ n4_ n5_; clear hg hw hp_))
                    go_roundg k2
                    case measure => have := HJ3.out; have := HK2.out; omega
                    case rel => exact ⟨(y247), (wrap64 (x12_2 + 1)), (by first | rfl | (simp; done) | (simp [*]; done)), H', ⟨by have := HJ3.out; have := HK2.out; omega⟩, ⟨by (with_reducible repeat (first | apply Kd.R_alloc | apply Kd.R_drewN | apply Kd.R_drew)); exact Kd.R_mono HO_7.out (fun _ hk => ⟨hk.1.1, ⟨hk.2, ⟨hk.1.2.1, hk.1.2.2⟩⟩⟩)⟩, ⟨by (with_reducible repeat (first | apply Kd.R_alloc | apply Kd.R_drewN | apply Kd.R_drew)); exact Kd.R_mono HO_8.out (fun _ hk => ⟨hk.1.1, ⟨hk.2, ⟨hk.1.2.1, hk.1.2.2⟩⟩⟩)⟩, ⟨by (with_reducible repeat (first | apply Kd.R_alloc | apply Kd.R_drewN | apply Kd.R_drew)); exact HO_9.out⟩, ⟨by (with_reducible repeat (first | apply Kd.R_alloc | apply Kd.R_drewN | apply Kd.R_drew)); exact Kd.R_mono HO_10.out (fun _ hk => ⟨hk.1.1, ⟨hk.1.2.1, ⟨hk.2, hk.1.2.2⟩⟩⟩)⟩, ⟨by (with_reducible repeat (first | apply Kd.R_alloc | apply Kd.R_drewN | apply Kd.R_drew)); exact Kd.R_mono HO_11.out (fun _ hk => ⟨hk.1.1, ⟨hk.1.2.1, ⟨hk.2, hk.1.2.2⟩⟩⟩)⟩, ⟨by repeat (first | (with_reducible first | exact HB.out | apply below_alloc | apply pw_below_drewN | apply below_drew1) | exact HB.out)⟩⟩
                  · rw [if_neg c30] at H
                    exact absurd H (by simp)
                · rw [if_neg c29] at H
                  have c29b0 : decide (x12_2 < (x9_2.length : Int)) = false := decide_eq_false c29
                  clear c29
                  have H' := Aside0.mk H
                  clear H
                  obtain ⟨Ao35, co35, eo35⟩ := Kd.R_slice HO_9.out
                  subst eo35
                  go_wp2
                  go_loopg [13] k2 (fun kq v13 w' => ∃ (x10_3 : List (S24)) (x13_3 : Int), v13 = .int .i64 x13_3 ∧ Aside0 (lockgatelaw17_PlaceMemory.l1 kq l1 l2 y229 y235 x10_3 t244 x13_3 = some r) ∧ Aside0 (kq ≤ k2) ∧ Aside0 (Kd.R k24 24 w' w.heap.size (fun k_ => some k_ ≠ (v236 : Value).ownBlock ∧ some k_ ≠ (v242 : Value).ownBlock ∧ some k_ ≠ (v245 : Value).ownBlock) v230 y229) ∧ Aside0 (Kd.R k24 24 w' w.heap.size (fun k_ => some k_ ≠ (v230 : Value).ownBlock ∧ some k_ ≠ (v242 : Value).ownBlock ∧ some k_ ≠ (v245 : Value).ownBlock) v236 y235) ∧ Aside0 (Kd.R k24 24 w' w.heap.size (fun k_ => some k_ ≠ (v230 : Value).ownBlock ∧ some k_ ≠ (v236 : Value).ownBlock ∧ some k_ ≠ (v245 : Value).ownBlock) v242 x10_3) ∧ Aside0 (Kd.R k24 24 w' w.heap.size (fun k_ => some k_ ≠ (v230 : Value).ownBlock ∧ some k_ ≠ (v236 : Value).ownBlock ∧ some k_ ≠ (v242 : Value).ownBlock) v245 t244) ∧ Aside0 (Below w.heap.size w w'))
                  case atStart => exact ⟨(t241), (0), (by first | rfl | (simp; done) | (simp [*]; done)), H', ⟨Nat.le_refl _⟩, ⟨by (with_reducible repeat (first | apply Kd.R_alloc | apply Kd.R_drewN | apply Kd.R_drew)); exact Kd.R_mono HO_7.out (fun _ hk => ⟨hk.1, ⟨hk.2.2.1, hk.2.2.2⟩⟩)⟩, ⟨by (with_reducible repeat (first | apply Kd.R_alloc | apply Kd.R_drewN | apply Kd.R_drew)); exact Kd.R_mono HO_8.out (fun _ hk => ⟨hk.1, ⟨hk.2.2.1, hk.2.2.2⟩⟩)⟩, ⟨by (with_reducible repeat (first | apply Kd.R_alloc | apply Kd.R_drewN | apply Kd.R_drew)); exact Kd.R_mono HO_10.out (fun _ hk => ⟨hk.1, ⟨hk.2.1, hk.2.2.2⟩⟩)⟩, ⟨by (with_reducible repeat (first | apply Kd.R_alloc | apply Kd.R_drewN | apply Kd.R_drew)); exact Kd.R_mono HO_11.out (fun _ hk => ⟨hk.1, ⟨hk.2.1, hk.2.2.2⟩⟩)⟩, ⟨by repeat (first | (with_reducible first | exact HB.out | apply below_alloc | apply pw_below_drewN | apply below_drew1) | exact HB.out)⟩⟩
                  case round =>
                    clear H'
                    try clear c1
                    try clear c2
                    try clear p2
                    try clear c3
                    try clear p3
                    try clear q3
                    try clear hx3
                    try clear hf3
                    try clear c6
                    try clear p6
                    try clear c7
                    try clear c7b0
                    try clear c10
                    try clear c12
                    try clear c14
                    try clear c15
                    try clear c16
                    try clear c29
                    try clear c29b0
                    try clear c30
                    try clear c30b0
                    try clear c31
                    try clear p31
                    try clear q31
                    try clear hx31
                    try clear hf31
                    try clear c33
                    try clear hx33
                    try clear hf33
                    try clear hx31_0
                    try clear hx31_1
                    try clear hx33_0
                    try clear p2
                    try clear p31
                    try clear q31
                    obtain ⟨x10_3, x13_3, rfl, HA, HK3, HO_7, HO_8, HO_10, HO_11, HB⟩ := hrel
                    cases gk with
                    | zero => exact absurd HA.out (by simp [lockgatelaw17_PlaceMemory.l1])
                    | succ k3 =>
                      have H := HA.out
                      clear HA
                      simp only [lockgatelaw17_PlaceMemory.l1] at H
                      by_cases c36 : x13_3 < (x10_3.length : Int)
                      · rw [if_pos c36] at H
                        have c36b0 : decide (x13_3 < (x10_3.length : Int)) = true := decide_eq_true c36
                        clear c36
                        by_cases c37 : 0 ≤ x13_3
                        · rw [if_pos c37] at H
                          have c37b0 : decide (0 ≤ x13_3) = true := decide_eq_true c37
                          clear c37
                          obtain ⟨y248, hy248⟩ : ∃ y_ : List (S24), y_ = (x10_3.set (x13_3 : Int).toNat (⟨(-7), (rd_T24 x10_3 x13_3).f1⟩ : S24)) := ⟨_, rfl⟩
                          replace H : (lockgatelaw17_PlaceMemory.l1 k3 l1 l2 y229 y235 y248 t244 (wrap64 (x13_3 + 1))) = some r := by first | (rw [hy248]; with_reducible exact H) | (have H2_ := (Option.bind_some _ _).symm.trans H; rw [hy248]; with_reducible exact H2_) | (have H2_ := (Option.bind_some _ _).symm.trans H; with_reducible exact H2_) | with_reducible exact H | (rw [hy248]; exact H) | exact H
                          have Ny248 := Aside0.mk hy248
                          clear hy248
                          have H' := Aside0.mk H
                          clear H
                          obtain ⟨Ao39, co39, eo39⟩ := Kd.R_slice HO_10.out
                          subst eo39
                          have p38 : 0 ≤ (x13_3 : Int) := of_decide_eq_true (by first | (with_reducible assumption) | assumption)
                          have q38 : (x13_3 : Int) < ((x10_3.length : Int) : Int) := of_decide_eq_true (by first | (with_reducible assumption) | assumption)
                          obtain ⟨go38, co38, eo38, gb38, gl38, cl38, HG38⟩ := Kd.R_form HO_10.out (by omega)
                          (first | cases eo38 | (injection eo38 with ea_ en_ ec_; (first | subst ea_ | (injection ea_ with ea_; subst ea_)); subst ec_; clear en_))
                          have GB38 := Aside0.mk gb38
                          have GG38 := Aside0.mk HG38
                          clear gb38 gl38 HG38
                          obtain ⟨ce38, hcl38, hM38, hcc38, hfr38⟩ := Kd.R_elem HO_10.out z24 (x13_3 : Int) p38 q38
                          obtain rfl := k24_openM hM38
                          have hx38_0 : wr.cell? ⟨go38, (x13_3 : Int).toNat * 2, none⟩ = some (.int .i64 ((rd_T24 x10_3 x13_3).f0)) := hcc38 0 _ rfl
                          have hx38_1 : wr.cell? ⟨go38, (x13_3 : Int).toNat * 2 + 1, none⟩ = some (.int .i64 ((rd_T24 x10_3 x13_3).f1)) := hcc38 1 _ rfl
                          have hf38_0 : wr.frozen? ⟨go38, (x13_3 : Int).toNat * 2, none⟩ = false := hfr38 0
                          have hf38_1 : wr.frozen? ⟨go38, (x13_3 : Int).toNat * 2 + 1, none⟩ = false := hfr38 1
                          clear hcl38 hcc38 hfr38 hM38
                          replace p38 := eq_true p38
                          replace q38 := eq_true q38
                          have HX40 := Aside0.mk (show Kd.R k24 24 wr w.heap.size (fun k_ => some k_ ≠ (v230 : Value).ownBlock ∧ some k_ ≠ (v236 : Value).ownBlock ∧ some k_ ≠ (v245 : Value).ownBlock) (.slice (some ⟨go38, 0, none⟩) x10_3.length co39) x10_3 from (by (with_reducible repeat (first | apply Kd.R_alloc | apply Kd.R_drewN | apply Kd.R_drew)); exact HO_10.out))
                          obtain ⟨ce40, hcl40, hM40, hcc40, hfr40⟩ := Kd.R_elem HX40.out z24 (x13_3 : Int) (of_decide_eq_true (by first | (with_reducible assumption) | assumption)) (by have h_ : (x13_3 : Int) < ((x10_3.length : Int) : Int) := of_decide_eq_true (by first | (with_reducible assumption) | assumption); first | exact h_ | (have e_ := (Kd.R_reads' HO_10.out).1; omega) | simpa using h_)
                          obtain rfl := k24_openM hM40
                          have HP40 := Kd.R_seg HX40.out (x13_3 : Int) (of_decide_eq_true (by first | (with_reducible assumption) | assumption)) (by have h_ : (x13_3 : Int) < ((x10_3.length : Int) : Int) := of_decide_eq_true (by first | (with_reducible assumption) | assumption); first | exact h_ | (have e_ := (Kd.R_reads' HO_10.out).1; omega) | simpa using h_) (seg := [.int .i64 (-7)]) (j := 0) hcl40 hcc40 (show 1 ≤ 2 from by decide) (x' := (⟨(-7), (rd_T24 x10_3 x13_3).f1⟩ : S24)) (k24_mkM _ _ _ (⟨(-7), (rd_T24 x10_3 x13_3).f1⟩ : S24) ) (fun _ hk => hk)
                          have hx40_0 := hcc40 0 _ rfl
                          (try simp only [show (k24).sz = 2 from rfl, Nat.mul_one, Nat.add_zero] at hx40_0)
                          have hf40_0 := hfr40 0
                          (try simp only [show (k24).sz = 2 from rfl, Nat.mul_one, Nat.add_zero] at hf40_0)
                          clear hcl40 hcc40 hfr40 hM40
                          go_wp2_with (first | ((with_reducible refine gate_store (t := 3) (p := 63) rfl ?_); refine store_event (t := 3) (p := 63) (v := ?vo_w41) (w1 := (wr.setCell ⟨go38, (x13_3 : Int).toNat * 2, none⟩ (.int .i64 (-7)))) ?hg ?ho ?hn ?hr ?_; (case ho => rfl); (case hg => rfl); (case hn => rfl); (case hr => first | (go_simp; done) | (go_simp; rfl)); intro w41 hw; have hg : wr.grownBy w41 (some go38) := (by rw [hw]; exact HP40.2); have hp_ : Kd.R k24 24 w41 w.heap.size (fun k_ => some k_ ≠ (v230 : Value).ownBlock ∧ some k_ ≠ (v236 : Value).ownBlock ∧ some k_ ≠ (v245 : Value).ownBlock) (.slice (some ⟨go38, 0, none⟩) x10_3.length co39) y248 := (by rw [hw, Ny248.out]; exact HP40.1); clear HP40; have n0_ := Aside0.mk (Kd.R_after (v := (.slice (some ⟨go38, 0, none⟩) x10_3.length co39)) (v1 := (.slice (some ⟨go38, 0, none⟩) x10_3.length co39)) (ok := (fun k_ => some k_ ≠ (v236 : Value).ownBlock ∧ some k_ ≠ (v245 : Value).ownBlock)) (by (with_reducible repeat (first | apply Kd.R_alloc | apply Kd.R_drewN | apply Kd.R_drew)); exact Kd.R_mono HO_7.out (fun _ hk => ⟨⟨hk.1, hk.2.2⟩, hk.2.1⟩)) hg (.inl rfl)); have n1_ := Aside0.mk (Kd.R_after (v := (.slice (some ⟨go38, 0, none⟩) x10_3.length co39)) (v1 := (.slice (some ⟨go38, 0, none⟩) x10_3.length co39)) (ok := (fun k_ => some k_ ≠ (v230 : Value).ownBlock ∧ some k_ ≠ (v245 : Value).ownBlock)) (by (with_reducible repeat (first | apply Kd.R_alloc | apply Kd.R_drewN | apply Kd.R_drew)); exact Kd.R_mono HO_8.out (fun _ hk => ⟨⟨hk.1, hk.2.2⟩, hk.2.1⟩)) hg (.inl rfl)); have n2_ := Aside0.mk (hp_); have n3_ := Aside0.mk (Kd.R_after (v := (.slice (some ⟨go38, 0, none⟩) x10_3.length co39)) (v1 := (.slice (some ⟨go38, 0, none⟩) x10_3.length co39)) (ok := (fun k_ => some k_ ≠ (v230 : Value).ownBlock ∧ some k_ ≠ (v236 : Value).ownBlock)) (by (with_reducible repeat (first | apply Kd.R_alloc | apply Kd.R_drewN | apply Kd.R_drew)); exact Kd.R_mono HO_11.out (fun _ hk => ⟨⟨hk.1, hk.2.1⟩, hk.2.2⟩)) hg (.inl rfl)); have n4_ := Aside0.mk ((by rw [hw]; exact below_set (HB.out) GB38.out : Below w.heap.size w w41)); clear HO_7; clear HO_8; clear HO_10; clear HO_11; clear HB; have HO_7 := n0_; have HO_8 := n1_; have HO_10 := n2_; have HO_11 := n3_; have HB := n4_; clear n0_ n1_ n2_ n3_ n4_; clear hg hw hp_))
                          go_roundg k3
                          case measure => have := HJ3.out; have := HK2.out; have := HK3.out; omega
                          case rel => exact ⟨(y248), (wrap64 (x13_3 + 1)), (by first | rfl | (simp; done) | (simp [*]; done)), H', ⟨by have := HJ3.out; have := HK2.out; have := HK3.out; omega⟩, ⟨by (with_reducible repeat (first | apply Kd.R_alloc | apply Kd.R_drewN | apply Kd.R_drew)); exact Kd.R_mono HO_7.out (fun _ hk => ⟨hk.1.1, ⟨hk.2, hk.1.2⟩⟩)⟩, ⟨by (with_reducible repeat (first | apply Kd.R_alloc | apply Kd.R_drewN | apply Kd.R_drew)); exact Kd.R_mono HO_8.out (fun _ hk => ⟨hk.1.1, ⟨hk.2, hk.1.2⟩⟩)⟩, ⟨by (with_reducible repeat (first | apply Kd.R_alloc | apply Kd.R_drewN | apply Kd.R_drew)); exact HO_10.out⟩, ⟨by (with_reducible repeat (first | apply Kd.R_alloc | apply Kd.R_drewN | apply Kd.R_drew)); exact Kd.R_mono HO_11.out (fun _ hk => ⟨hk.1.1, ⟨hk.1.2, hk.2⟩⟩)⟩, ⟨by repeat (first | (with_reducible first | exact HB.out | apply below_alloc | apply pw_below_drewN | apply below_drew1) | exact HB.out)⟩⟩
                        · rw [if_neg c37] at H
                          exact absurd H (by simp)
                      · rw [if_neg c36] at H
                        have c36b0 : decide (x13_3 < (x10_3.length : Int)) = false := decide_eq_false c36
                        clear c36
                        have H' := Aside0.mk H
                        clear H
                        obtain ⟨Ao42, co42, eo42⟩ := Kd.R_slice HO_10.out
                        subst eo42
                        go_wp2
                        go_loopg [14] k3 (fun kq v14 w' => ∃ (x11_4 : List (S24)) (x14_4 : Int), v14 = .int .i64 x14_4 ∧ Aside0 (lockgatelaw17_PlaceMemory.l2 kq l1 l2 y229 y235 x11_4 x14_4 = some r) ∧ Aside0 (kq ≤ k3) ∧ Aside0 (Kd.R k24 24 w' w.heap.size (fun k_ => some k_ ≠ (v236 : Value).ownBlock ∧ some k_ ≠ (v245 : Value).ownBlock) v230 y229) ∧ Aside0 (Kd.R k24 24 w' w.heap.size (fun k_ => some k_ ≠ (v230 : Value).ownBlock ∧ some k_ ≠ (v245 : Value).ownBlock) v236 y235) ∧ Aside0 (Kd.R k24 24 w' w.heap.size (fun k_ => some k_ ≠ (v230 : Value).ownBlock ∧ some k_ ≠ (v236 : Value).ownBlock) v245 x11_4) ∧ Aside0 (Below w.heap.size w w'))
                        case atStart => exact ⟨(t244), (0), (by first | rfl | (simp; done) | (simp [*]; done)), H', ⟨Nat.le_refl _⟩, ⟨by (with_reducible repeat (first | apply Kd.R_alloc | apply Kd.R_drewN | apply Kd.R_drew)); exact Kd.R_mono HO_7.out (fun _ hk => ⟨hk.1, hk.2.2⟩)⟩, ⟨by (with_reducible repeat (first | apply Kd.R_alloc | apply Kd.R_drewN | apply Kd.R_drew)); exact Kd.R_mono HO_8.out (fun _ hk => ⟨hk.1, hk.2.2⟩)⟩, ⟨by (with_reducible repeat (first | apply Kd.R_alloc | apply Kd.R_drewN | apply Kd.R_drew)); exact Kd.R_mono HO_11.out (fun _ hk => ⟨hk.1, hk.2.1⟩)⟩, ⟨by repeat (first | (with_reducible first | exact HB.out | apply below_alloc | apply pw_below_drewN | apply below_drew1) | exact HB.out)⟩⟩
                        case round =>
                          clear H'
                          try clear c1
                          try clear c2
                          try clear p2
                          try clear c3
                          try clear p3
                          try clear q3
                          try clear hx3
                          try clear hf3
                          try clear c4
                          try clear hx4
                          try clear hf4
                          try clear c6
                          try clear p6
                          try clear c7
                          try clear c7b0
                          try clear c10
                          try clear c12
                          try clear c14
                          try clear c15
                          try clear c16
                          try clear c29
                          try clear c29b0
                          try clear c30
                          try clear c30b0
                          try clear c31
                          try clear p31
                          try clear q31
                          try clear hx31
                          try clear hf31
                          try clear c33
                          try clear hx33
                          try clear hf33
                          try clear c36
                          try clear c36b0
                          try clear c37
                          try clear c37b0
                          try clear c38
                          try clear p38
                          try clear q38
                          try clear hx38
                          try clear hf38
                          try clear c40
                          try clear hx40
                          try clear hf40
                          try clear hx31_0
                          try clear hx31_1
                          try clear hx33_0
                          try clear hx38_0
                          try clear hx38_1
                          try clear hx40_0
                          try clear p2
                          try clear p3
                          try clear p31
                          try clear p38
                          try clear p6
                          try clear q3
                          try clear q31
                          try clear q38
                          obtain ⟨x11_4, x14_4, rfl, HA, HK4, HO_7, HO_8, HO_11, HB⟩ := hrel
                          cases gk with
                          | zero => exact absurd HA.out (by simp [lockgatelaw17_PlaceMemory.l2])
                          | succ k4 =>
                            have H := HA.out
                            clear HA
                            simp only [lockgatelaw17_PlaceMemory.l2] at H
                            by_cases c43 : x14_4 < (x11_4.length : Int)
                            · rw [if_pos c43] at H
                              have c43b0 : decide (x14_4 < (x11_4.length : Int)) = true := decide_eq_true c43
                              clear c43
                              by_cases c44 : 0 ≤ x14_4
                              · rw [if_pos c44] at H
                                have c44b0 : decide (0 ≤ x14_4) = true := decide_eq_true c44
                                clear c44
                                obtain ⟨y249, hy249⟩ : ∃ y_ : List (S24), y_ = (x11_4.set (x14_4 : Int).toNat (⟨(-7), (rd_T24 x11_4 x14_4).f1⟩ : S24)) := ⟨_, rfl⟩
                                replace H : (lockgatelaw17_PlaceMemory.l2 k4 l1 l2 y229 y235 y249 (wrap64 (x14_4 + 1))) = some r := by first | (rw [hy249]; with_reducible exact H) | (have H2_ := (Option.bind_some _ _).symm.trans H; rw [hy249]; with_reducible exact H2_) | (have H2_ := (Option.bind_some _ _).symm.trans H; with_reducible exact H2_) | with_reducible exact H | (rw [hy249]; exact H) | exact H
                                have Ny249 := Aside0.mk hy249
                                clear hy249
                                have H' := Aside0.mk H
                                clear H
                                obtain ⟨Ao46, co46, eo46⟩ := Kd.R_slice HO_11.out
                                subst eo46
                                have p45 : 0 ≤ (x14_4 : Int) := of_decide_eq_true (by first | (with_reducible assumption) | assumption)
                                have q45 : (x14_4 : Int) < ((x11_4.length : Int) : Int) := of_decide_eq_true (by first | (with_reducible assumption) | assumption)
                                obtain ⟨go45, co45, eo45, gb45, gl45, cl45, HG45⟩ := Kd.R_form HO_11.out (by omega)
                                (first | cases eo45 | (injection eo45 with ea_ en_ ec_; (first | subst ea_ | (injection ea_ with ea_; subst ea_)); subst ec_; clear en_))
                                have GB45 := Aside0.mk gb45
                                have GG45 := Aside0.mk HG45
                                clear gb45 gl45 HG45
                                obtain ⟨ce45, hcl45, hM45, hcc45, hfr45⟩ := Kd.R_elem HO_11.out z24 (x14_4 : Int) p45 q45
                                obtain rfl := k24_openM hM45
                                have hx45_0 : wr.cell? ⟨go45, (x14_4 : Int).toNat * 2, none⟩ = some (.int .i64 ((rd_T24 x11_4 x14_4).f0)) := hcc45 0 _ rfl
                                have hx45_1 : wr.cell? ⟨go45, (x14_4 : Int).toNat * 2 + 1, none⟩ = some (.int .i64 ((rd_T24 x11_4 x14_4).f1)) := hcc45 1 _ rfl
                                have hf45_0 : wr.frozen? ⟨go45, (x14_4 : Int).toNat * 2, none⟩ = false := hfr45 0
                                have hf45_1 : wr.frozen? ⟨go45, (x14_4 : Int).toNat * 2 + 1, none⟩ = false := hfr45 1
                                clear hcl45 hcc45 hfr45 hM45
                                replace p45 := eq_true p45
                                replace q45 := eq_true q45
                                have HX47 := Aside0.mk (show Kd.R k24 24 wr w.heap.size (fun k_ => some k_ ≠ (v230 : Value).ownBlock ∧ some k_ ≠ (v236 : Value).ownBlock) (.slice (some ⟨go45, 0, none⟩) x11_4.length co46) x11_4 from (by (with_reducible repeat (first | apply Kd.R_alloc | apply Kd.R_drewN | apply Kd.R_drew)); exact HO_11.out))
                                obtain ⟨ce47, hcl47, hM47, hcc47, hfr47⟩ := Kd.R_elem HX47.out z24 (x14_4 : Int) (of_decide_eq_true (by first | (with_reducible assumption) | assumption)) (by have h_ : (x14_4 : Int) < ((x11_4.length : Int) : Int) := of_decide_eq_true (by first | (with_reducible assumption) | assumption); first | exact h_ | (have e_ := (Kd.R_reads' HO_11.out).1; omega) | simpa using h_)
                                obtain rfl := k24_openM hM47
                                have HP47 := Kd.R_seg HX47.out (x14_4 : Int) (of_decide_eq_true (by first | (with_reducible assumption) | assumption)) (by have h_ : (x14_4 : Int) < ((x11_4.length : Int) : Int) := of_decide_eq_true (by first | (with_reducible assumption) | assumption); first | exact h_ | (have e_ := (Kd.R_reads' HO_11.out).1; omega) | simpa using h_) (seg := [.int .i64 (-7)]) (j := 0) hcl47 hcc47 (show 1 ≤ 2 from by decide) (x' := (⟨(-7), (rd_T24 x11_4 x14_4).f1⟩ : S24)) (k24_mkM _ _ _ (⟨(-7), (rd_T24 x11_4 x14_4).f1⟩ : S24) ) (fun _ hk => hk)
                                have hx47_0 := hcc47 0 _ rfl
                                (try simp only [show (k24).sz = 2 from rfl, Nat.mul_one, Nat.add_zero] at hx47_0)
                                have hf47_0 := hfr47 0
                                (try simp only [show (k24).sz = 2 from rfl, Nat.mul_one, Nat.add_zero] at hf47_0)
                                clear hcl47 hcc47 hfr47 hM47
                                go_wp2_with (first | ((with_reducible refine gate_store (t := 3) (p := 73) rfl ?_); refine store_event (t := 3) (p := 73) (v := ?vo_w48) (w1 := (wr.setCell ⟨go45, (x14_4 : Int).toNat * 2, none⟩ (.int .i64 (-7)))) ?hg ?ho ?hn ?hr ?_; (case ho => rfl); (case hg => rfl); (case hn => rfl); (case hr => first | (go_simp; done) | (go_simp; rfl)); intro w48 hw; have hg : wr.grownBy w48 (some go45) := (by rw [hw]; exact HP47.2); have hp_ : Kd.R k24 24 w48 w.heap.size (fun k_ => some k_ ≠ (v230 : Value).ownBlock ∧ some k_ ≠ (v236 : Value).ownBlock) (.slice (some ⟨go45, 0, none⟩) x11_4.length co46) y249 := (by rw [hw, Ny249.out]; exact HP47.1); clear HP47; have n0_ := Aside0.mk (Kd.R_after (v := (.slice (some ⟨go45, 0, none⟩) x11_4.length co46)) (v1 := (.slice (some ⟨go45, 0, none⟩) x11_4.length co46)) (ok := (fun k_ => some k_ ≠ (v236 : Value).ownBlock)) (by (with_reducible repeat (first | apply Kd.R_alloc | apply Kd.R_drewN | apply Kd.R_drew)); exact HO_7.out) hg (.inl rfl)); have n1_ := Aside0.mk (Kd.R_after (v := (.slice (some ⟨go45, 0, none⟩) x11_4.length co46)) (v1 := (.slice (some ⟨go45, 0, none⟩) x11_4.length co46)) (ok := (fun k_ => some k_ ≠ (v230 : Value).ownBlock)) (by (with_reducible repeat (first | apply Kd.R_alloc | apply Kd.R_drewN | apply Kd.R_drew)); exact HO_8.out) hg (.inl rfl)); have n2_ := Aside0.mk (hp_); have n3_ := Aside0.mk ((by rw [hw]; exact below_set (HB.out) GB45.out : Below w.heap.size w w48)); clear HO_7; clear HO_8; clear HO_11; clear HB; have HO_7 := n0_; have HO_8 := n1_; have HO_11 := n2_; have HB := n3_; clear n0_ n1_ n2_ n3_; clear hg hw hp_))
                                go_roundg k4
                                case measure => have := HJ3.out; have := HK2.out; have := HK3.out; have := HK4.out; omega
                                case rel => exact ⟨(y249), (wrap64 (x14_4 + 1)), (by first | rfl | (simp; done) | (simp [*]; done)), H', ⟨by have := HJ3.out; have := HK2.out; have := HK3.out; have := HK4.out; omega⟩, ⟨by (with_reducible repeat (first | apply Kd.R_alloc | apply Kd.R_drewN | apply Kd.R_drew)); exact HO_7.out⟩, ⟨by (with_reducible repeat (first | apply Kd.R_alloc | apply Kd.R_drewN | apply Kd.R_drew)); exact HO_8.out⟩, ⟨by (with_reducible repeat (first | apply Kd.R_alloc | apply Kd.R_drewN | apply Kd.R_drew)); exact HO_11.out⟩, ⟨by repeat (first | (with_reducible first | exact HB.out | apply below_alloc | apply pw_below_drewN | apply below_drew1) | exact HB.out)⟩⟩
                              · rw [if_neg c44] at H
                                exact absurd H (by simp)
                            · rw [if_neg c43] at H
                              have c43b0 : decide (x14_4 < (x11_4.length : Int)) = false := decide_eq_false c43
                              clear c43
                              replace H := Option.bind_eq_some_iff.mp H
                              obtain ⟨t250, A490, H⟩ := H
                              replace H : (if t250 = true then ((lockgateref16_Same.f k4 l2 y235).bind fun t251 => (some t251)) else (some false)) = some r := H
                              have A49 := Aside0.mk A490
                              clear A490
                              by_cases c50 : t250 = true
                              · subst c50
                                have H1 : ((lockgateref16_Same.f k4 l2 y235).bind fun t251 => (some t251)) = some r := by rw [if_pos rfl] at H; exact H
                                clear H
                                have H := H1
                                clear H1
                                replace H := Option.bind_eq_some_iff.mp H
                                obtain ⟨t251, A510, H⟩ := H
                                replace H : (some t251) = some r := H
                                have A51 := Aside0.mk A510
                                clear A510
                                obtain rfl := Option.some.inj H
                                obtain ⟨Ao52, co52, eo52⟩ := Kd.R_slice HO_11.out
                                subst eo52
                                obtain ⟨Ao53, co53, eo53⟩ := Kd.R_slice HO_7.out
                                subst eo53
                                go_wp2_with (first | ((with_reducible refine gate_callee (f := 9) rfl ?_); refine goesL_ (some 76) rfl rfl Try.func9 (by kernel_rfl) rfl #[.slice A1 l1.length c1, .slice Ao53 y229.length co53] rfl (by (try simp only [List.map_toArray, List.map_cons, List.map_nil]); first | done | rfl | (simp only [List.length_drop, List.length_take]; rfl)) ?_; (with_reducible refine (lockgateref16_Same.calls k4 _ _ l1 _ _ y229 true _ ?side1 ?side2 ?side3 ?side4 A49.out).mono ?_); (case side1 => repeat (first | exact (Kd.C_below HR1.out HB.out) | (with_reducible refine Kd.C_alloc ?_ _) | (with_reducible refine Kd.C_drewN ?_ _) | (with_reducible refine Kd.C_drew ?_))); (case side2 => exact HC1.out); (case side3 => repeat (first | exact (Kd.R_reads' HO_7.out).2.2 | (with_reducible refine Kd.C_alloc ?_ _) | (with_reducible refine Kd.C_drewN ?_ _) | (with_reducible refine Kd.C_drew ?_))); (case side4 => exact (Kd.R_reads' HO_7.out).2.1); rintro e w' ⟨rfl, ⟨nd, rfl⟩⟩; refine ⟨_, rfl, ?_⟩; obtain ⟨Ao54, co54, eo54⟩ := Kd.R_slice HO_8.out; subst eo54) | (go_at_call 9; (with_reducible refine (lockgateref16_Same.calls k4 _ _ l2 _ _ y235 t251 _ ?side1 ?side2 ?side3 ?side4 A51.out).mono ?_); (case side1 => repeat (first | exact (Kd.C_below HR2.out (by repeat (first | (with_reducible first | exact HB.out | apply below_alloc | apply pw_below_drewN | apply below_drew1) | exact HB.out))) | (with_reducible refine Kd.C_alloc ?_ _) | (with_reducible refine Kd.C_drewN ?_ _) | (with_reducible refine Kd.C_drew ?_))); (case side2 => exact HC2.out); (case side3 => repeat (first | exact (Kd.R_reads' HO_8.out).2.2 | (with_reducible refine Kd.C_alloc ?_ _) | (with_reducible refine Kd.C_drewN ?_ _) | (with_reducible refine Kd.C_drew ?_))); (case side4 => exact (Kd.R_reads' HO_8.out).2.1); rintro e w' ⟨rfl, ⟨nd, rfl⟩⟩))
                                go_ret
                                exact ⟨by first | rfl | (simp [errW_none, errW_some] <;> rfl) | (simp [*, errW_none, errW_some] <;> rfl), by repeat (first | (with_reducible first | exact HB.out | apply below_alloc | apply pw_below_drewN | apply below_drew1) | exact HB.out)⟩
                              · replace c50 := Bool.eq_false_iff.mpr c50
                                subst c50
                                have H1 : (some false) = some r := by rw [if_neg (show ¬ (false = true) by decide)] at H; exact H
                                clear H
                                have H := H1
                                clear H1
                                obtain rfl := Option.some.inj H
                                obtain ⟨Ao55, co55, eo55⟩ := Kd.R_slice HO_11.out
                                subst eo55
                                obtain ⟨Ao56, co56, eo56⟩ := Kd.R_slice HO_7.out
                                subst eo56
                                go_wp2_with (first | ((with_reducible refine gate_callee (f := 9) rfl ?_); refine goesL_ (some 76) rfl rfl Try.func9 (by kernel_rfl) rfl #[.slice A1 l1.length c1, .slice Ao56 y229.length co56] rfl (by (try simp only [List.map_toArray, List.map_cons, List.map_nil]); first | done | rfl | (simp only [List.length_drop, List.length_take]; rfl)) ?_; (with_reducible refine (lockgateref16_Same.calls k4 _ _ l1 _ _ y229 false _ ?side1 ?side2 ?side3 ?side4 A49.out).mono ?_); (case side1 => repeat (first | exact (Kd.C_below HR1.out HB.out) | (with_reducible refine Kd.C_alloc ?_ _) | (with_reducible refine Kd.C_drewN ?_ _) | (with_reducible refine Kd.C_drew ?_))); (case side2 => exact HC1.out); (case side3 => repeat (first | exact (Kd.R_reads' HO_7.out).2.2 | (with_reducible refine Kd.C_alloc ?_ _) | (with_reducible refine Kd.C_drewN ?_ _) | (with_reducible refine Kd.C_drew ?_))); (case side4 => exact (Kd.R_reads' HO_7.out).2.1); rintro e w' ⟨rfl, ⟨nd, rfl⟩⟩; refine ⟨_, rfl, ?_⟩))
                                go_ret
                                exact ⟨by first | rfl | (simp [errW_none, errW_some] <;> rfl) | (simp [*, errW_none, errW_some] <;> rfl), by repeat (first | (with_reducible first | exact HB.out | apply below_alloc | apply pw_below_drewN | apply below_drew1) | exact HB.out)⟩
          · rw [if_neg c16] at H
            exact absurd H (by simp)
        · rw [if_neg c15] at H
          exact absurd H (by simp)

end Go.Proofs.Ytnieipjofnnpfaa.PPlace
