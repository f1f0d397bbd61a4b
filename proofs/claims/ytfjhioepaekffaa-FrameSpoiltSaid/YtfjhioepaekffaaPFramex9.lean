-- Written for this claim by the session's own driver of the kit's printer (mprint.py).
import Derived.Test.YtfjhioepaekffaaPFramex0
import Derived.Test.YtfjhioepaekffaaPFramex2
import Derived.Test.YtfjhioepaekffaaPFramex3
import Derived.Test.YtfjhioepaekffaaPFramex6
import Derived.Test.YtfjhioepaekffaaPFramex7
namespace Go.Proofs.Ytfjhioepaekffaa.PFrame
open Go.RowKit Go.Proofs.YtfjhioepaekffaaW.PrintWords Go.Proofs.YtfjhioepaekffaaW.PrintLast Go.Proofs.YtfjhioepaekffaaW.PrintMore
attribute [local go_sem] max2_int min2_int max_two min_two max_three min_three max_four min_four   -- for this text's walks alone
set_option linter.unusedVariables false
set_option linter.unusedSimpArgs false

/-! ### lockgatelaw04_FrameKeeps: function 8 -/
mutual
def lockgatelaw04_FrameKeeps.j0 : Nat → List (List Int) → Bool → Option (Bool)
  | 0, _, _ => none
  | k + 1, x0, x15 => if x15 = true then ((lockgatelaw04_awake.f).bind fun t268 => (some t268)) else ((lockgatelaw04_row.f k x0).bind fun t269 => ((some (([] : List Int) : List Int)).bind fun y272 => (if y272.length + t269.length < 140737488355328 then ((frame_Scan.f k t269).bind fun bt278 => (lockgatelaw04_FrameKeeps.l0 k t269 (y272 ++ t269) bt278.1 0)) else (none))))
def lockgatelaw04_FrameKeeps.l0 : Nat → List Int → List Int → List (List Int) → Int → Option (Bool)
  | 0, _, _, _, _ => none
  | k + 1, x3, x4, x5, x7 => if x7 < (x5.length : Int) then (lockgatelaw04_FrameKeeps.l1 k x3 x4 x5 x7 0) else ((lockgateref03_Same.f k x3 x4).bind fun t282 => (some t282))
def lockgatelaw04_FrameKeeps.l1 : Nat → List Int → List Int → List (List Int) → Int → Int → Option (Bool)
  | 0, _, _, _, _, _ => none
  | k + 1, x3, x4, x5, x7, x8 => if 0 ≤ x7 then (if x7 < (x5.length : Int) then (if x8 < ((rd_L1 x5 x7).length : Int) then (if 0 ≤ x8 then (lockgatelaw04_FrameKeeps.l1 k x3 x4 (x5.set (x7 : Int).toNat ((rd_L1 x5 x7).set (x8 : Int).toNat 99)) x7 (wrap64 (x8 + 1))) else (none)) else (lockgatelaw04_FrameKeeps.l0 k x3 x4 x5 (wrap64 (x7 + 1)))) else (none)) else (none)
end
def lockgatelaw04_FrameKeeps.f (k : Nat) (l0 : List (List Int)) : Option (Bool) := (lockgatelaw04_awake.f).bind fun t266 => (if t266 = true then ((lockgateref04_Few.f k l0).bind fun t267 => (lockgatelaw04_FrameKeeps.j0 k l0 (!t267))) else (lockgatelaw04_FrameKeeps.j0 k l0 true))
theorem lockgatelaw04_FrameKeeps.mono_l : ∀ k, (∀ y0 y1, LeO (lockgatelaw04_FrameKeeps.j0 k y0 y1) (lockgatelaw04_FrameKeeps.j0 (k + 1) y0 y1)) ∧ (∀ y0 y1 y2 y3, LeO (lockgatelaw04_FrameKeeps.l0 k y0 y1 y2 y3) (lockgatelaw04_FrameKeeps.l0 (k + 1) y0 y1 y2 y3)) ∧ (∀ y0 y1 y2 y3 y4, LeO (lockgatelaw04_FrameKeeps.l1 k y0 y1 y2 y3 y4) (lockgatelaw04_FrameKeeps.l1 (k + 1) y0 y1 y2 y3 y4))
  | 0 => ⟨fun _ _ r h => by simp [lockgatelaw04_FrameKeeps.j0] at h, fun _ _ _ _ r h => by simp [lockgatelaw04_FrameKeeps.l0] at h, fun _ _ _ _ _ r h => by simp [lockgatelaw04_FrameKeeps.l1] at h⟩
  | k + 1 => by
    obtain ⟨ih0, ih1, ih2⟩ := lockgatelaw04_FrameKeeps.mono_l k
    refine ⟨?_, ?_, ?_⟩
    · intro y0 y1
      unfold lockgatelaw04_FrameKeeps.j0
      repeat' first
      | (with_reducible exact ih0 _ _)
      | (with_reducible exact ih1 _ _ _ _)
      | (with_reducible exact ih2 _ _ _ _ _)
      | (with_reducible exact frame_Scan.mono _ _)
      | (with_reducible exact lockgatelaw04_row.mono _ _)
      | (with_reducible exact lockgateref03_Same.mono _ _ _)
      | (with_reducible exact lockgateref04_Few.mono _ _)
      | (with_reducible exact LeO.refl _)
      | (with_reducible exact LeO.none _)
      | (with_reducible refine LeO.ite ?_ ?_)
      | (with_reducible refine LeO.bind ?_ (fun _ => ?_))
      | exact ih0 _ _
      | exact ih1 _ _ _ _
      | exact ih2 _ _ _ _ _
      | exact frame_Scan.mono _ _
      | exact lockgatelaw04_row.mono _ _
      | exact lockgateref03_Same.mono _ _ _
      | exact lockgateref04_Few.mono _ _
      | exact LeO.none _
      | refine LeO.ite ?_ ?_
      | refine LeO.bind ?_ (fun _ => ?_)
    · intro y0 y1 y2 y3
      unfold lockgatelaw04_FrameKeeps.l0
      repeat' first
      | (with_reducible exact ih0 _ _)
      | (with_reducible exact ih1 _ _ _ _)
      | (with_reducible exact ih2 _ _ _ _ _)
      | (with_reducible exact frame_Scan.mono _ _)
      | (with_reducible exact lockgatelaw04_row.mono _ _)
      | (with_reducible exact lockgateref03_Same.mono _ _ _)
      | (with_reducible exact lockgateref04_Few.mono _ _)
      | (with_reducible exact LeO.refl _)
      | (with_reducible exact LeO.none _)
      | (with_reducible refine LeO.ite ?_ ?_)
      | (with_reducible refine LeO.bind ?_ (fun _ => ?_))
      | exact ih0 _ _
      | exact ih1 _ _ _ _
      | exact ih2 _ _ _ _ _
      | exact frame_Scan.mono _ _
      | exact lockgatelaw04_row.mono _ _
      | exact lockgateref03_Same.mono _ _ _
      | exact lockgateref04_Few.mono _ _
      | exact LeO.none _
      | refine LeO.ite ?_ ?_
      | refine LeO.bind ?_ (fun _ => ?_)
    · intro y0 y1 y2 y3 y4
      unfold lockgatelaw04_FrameKeeps.l1
      repeat' first
      | (with_reducible exact ih0 _ _)
      | (with_reducible exact ih1 _ _ _ _)
      | (with_reducible exact ih2 _ _ _ _ _)
      | (with_reducible exact frame_Scan.mono _ _)
      | (with_reducible exact lockgatelaw04_row.mono _ _)
      | (with_reducible exact lockgateref03_Same.mono _ _ _)
      | (with_reducible exact lockgateref04_Few.mono _ _)
      | (with_reducible exact LeO.refl _)
      | (with_reducible exact LeO.none _)
      | (with_reducible refine LeO.ite ?_ ?_)
      | (with_reducible refine LeO.bind ?_ (fun _ => ?_))
      | exact ih0 _ _
      | exact ih1 _ _ _ _
      | exact ih2 _ _ _ _ _
      | exact frame_Scan.mono _ _
      | exact lockgatelaw04_row.mono _ _
      | exact lockgateref03_Same.mono _ _ _
      | exact lockgateref04_Few.mono _ _
      | exact LeO.none _
      | refine LeO.ite ?_ ?_
      | refine LeO.bind ?_ (fun _ => ?_)
theorem lockgatelaw04_FrameKeeps.mono : ∀ a0 k, LeO (lockgatelaw04_FrameKeeps.f k a0) (lockgatelaw04_FrameKeeps.f (k + 1) a0) := by
  intro a0 k
  obtain ⟨ih0, ih1, ih2⟩ := lockgatelaw04_FrameKeeps.mono_l k
  unfold lockgatelaw04_FrameKeeps.f
  repeat' first
      | (with_reducible exact ih0 _ _)
      | (with_reducible exact ih1 _ _ _ _)
      | (with_reducible exact ih2 _ _ _ _ _)
      | (with_reducible exact frame_Scan.mono _ _)
      | (with_reducible exact lockgatelaw04_row.mono _ _)
      | (with_reducible exact lockgateref03_Same.mono _ _ _)
      | (with_reducible exact lockgateref04_Few.mono _ _)
      | (with_reducible exact LeO.refl _)
      | (with_reducible exact LeO.none _)
      | (with_reducible refine LeO.ite ?_ ?_)
      | (with_reducible refine LeO.bind ?_ (fun _ => ?_))
      | exact ih0 _ _
      | exact ih1 _ _ _ _
      | exact ih2 _ _ _ _ _
      | exact frame_Scan.mono _ _
      | exact lockgatelaw04_row.mono _ _
      | exact lockgateref03_Same.mono _ _ _
      | exact lockgateref04_Few.mono _ _
      | exact LeO.none _
      | refine LeO.ite ?_ ?_
      | refine LeO.bind ?_ (fun _ => ?_)
set_option maxHeartbeats 8000000 in
set_option maxRecDepth 100000 in
theorem lockgatelaw04_FrameKeeps.calls (k : Nat) (A0 : Option Addr) (c0 : Nat) (l0 : List (List Int)) (r : Bool) (w : World) (hr0 : Kd.C (Kd.slice 5 (Kd.int .u8)) w A0 l0.length l0) (hc0 : l0.length ≤ c0) (h : lockgatelaw04_FrameKeeps.f k l0 = some r) :
    Calls Try.prog 8 #[.slice A0 l0.length c0] w fun e w' => e = .returned (.bool r) ∧ Below w.heap.size w w' := by
  have HR0 := Aside0.mk hr0
  have HC0 := Aside0.mk hc0
  clear hr0 hc0
  have HB := Aside0.mk (Below.refl w.heap.size w)
  have H : ((lockgatelaw04_awake.f).bind fun t266 => (if t266 = true then ((lockgateref04_Few.f k l0).bind fun t267 => (lockgatelaw04_FrameKeeps.j0 k l0 (!t267))) else (lockgatelaw04_FrameKeeps.j0 k l0 true))) = some r := h
  clear h
  have HC2 := Aside0.mk H
  clear H
  go_enter Try.func8, Try.ntmps8
  go_upto_region 1 with (fail)
  go_cut [15] (fun v15 wc => ∃ (kq : Nat) (x15_1 : Bool), v15 = .bool x15_1 ∧ Aside0 (lockgatelaw04_FrameKeeps.j0 kq l0 x15_1 = some r) ∧ Aside0 (kq ≤ k) ∧ Aside0 (Below w.heap.size w wc))
  case first =>
    have H := HC2.out
    clear HC2
    replace H := Option.bind_eq_some_iff.mp H
    obtain ⟨t266, A30, H⟩ := H
    replace H : (if t266 = true then ((lockgateref04_Few.f k l0).bind fun t267 => (lockgatelaw04_FrameKeeps.j0 k l0 (!t267))) else (lockgatelaw04_FrameKeeps.j0 k l0 true)) = some r := H
    have A3 := Aside0.mk A30
    clear A30
    by_cases c4 : t266 = true
    · subst c4
      have H1 : ((lockgateref04_Few.f k l0).bind fun t267 => (lockgatelaw04_FrameKeeps.j0 k l0 (!t267))) = some r := by rw [if_pos rfl] at H; exact H
      clear H
      have H := H1
      clear H1
      replace H := Option.bind_eq_some_iff.mp H
      obtain ⟨t267, A50, H⟩ := H
      replace H : (lockgatelaw04_FrameKeeps.j0 k l0 (!t267)) = some r := H
      have A5 := Aside0.mk A50
      clear A50
      have H' := Aside0.mk H
      clear H
      go_wp2_with (first | ((with_reducible refine gate_callee (f := 9) rfl ?_); refine goesL_ (some 9) rfl rfl Try.func9 (by kernel_rfl) rfl #[] rfl (by (try simp only [List.map_toArray, List.map_cons, List.map_nil]); first | done | rfl | (simp only [List.length_drop, List.length_take]; rfl)) ?_; (with_reducible refine (lockgatelaw04_awake.calls  true _ A3.out).mono ?_); rintro e w6 ⟨rfl, hb⟩; refine ⟨_, rfl, ?_⟩; have n0_ := Aside0.mk (below_step (by repeat (first | (with_reducible first | exact HB.out | apply below_alloc | apply pw_below_drewN | apply below_drew1) | exact HB.out)) hb); clear HB; have HB := n0_; clear n0_; (try clear hb); (try clear hb2); (try clear hk); (try clear hi)) | (go_at_call 16; (with_reducible refine (lockgateref04_Few.calls k _ _ l0 t267 _ ?side1 ?side2 A5.out).mono ?_); (case side1 => repeat (first | exact (Kd.C_below HR0.out HB.out) | (with_reducible refine Kd.C_alloc ?_ _) | (with_reducible refine Kd.C_drewN ?_ _) | (with_reducible refine Kd.C_drew ?_))); (case side2 => exact HC0.out); rintro e w' ⟨rfl, ⟨nd, rfl⟩⟩))
      go_meet
      case rel => exact ⟨_, (!t267), (by first | rfl | (simp; done) | (simp [*]; done)), H', ⟨by first | omega | exact Nat.le_refl _⟩, ⟨by repeat (first | (with_reducible first | exact HB.out | apply below_alloc | apply pw_below_drewN | apply below_drew1) | exact HB.out)⟩⟩
    · replace c4 := Bool.eq_false_iff.mpr c4
      subst c4
      have H1 : (lockgatelaw04_FrameKeeps.j0 k l0 true) = some r := by rw [if_neg (show ¬ (false = true) by decide)] at H; exact H
      clear H
      have H := H1
      clear H1
      have H' := Aside0.mk H
      clear H
      go_wp2_with (first | ((with_reducible refine gate_callee (f := 9) rfl ?_); refine goesL_ (some 9) rfl rfl Try.func9 (by kernel_rfl) rfl #[] rfl (by (try simp only [List.map_toArray, List.map_cons, List.map_nil]); first | done | rfl | (simp only [List.length_drop, List.length_take]; rfl)) ?_; (with_reducible refine (lockgatelaw04_awake.calls  false _ A3.out).mono ?_); rintro e w7 ⟨rfl, hb⟩; refine ⟨_, rfl, ?_⟩; have n0_ := Aside0.mk (below_step (by repeat (first | (with_reducible first | exact HB.out | apply below_alloc | apply pw_below_drewN | apply below_drew1) | exact HB.out)) hb); clear HB; have HB := n0_; clear n0_; (try clear hb); (try clear hb2); (try clear hk); (try clear hi)))
      go_meet
      case rel => exact ⟨_, (true), (by first | rfl | (simp; done) | (simp [*]; done)), H', ⟨by first | omega | exact Nat.le_refl _⟩, ⟨by repeat (first | (with_reducible first | exact HB.out | apply below_alloc | apply pw_below_drewN | apply below_drew1) | exact HB.out)⟩⟩
  case rest =>
    clear HC2
    try clear p2
    try clear c4
    obtain ⟨kq, x15_1, rfl, HA, HJ1, HB⟩ := hcut
    cases kq with
    | zero => exact absurd HA.out (by simp [lockgatelaw04_FrameKeeps.j0])
    | succ kj1 =>
      have H := HA.out
      clear HA
      simp only [lockgatelaw04_FrameKeeps.j0] at H
      by_cases c8 : x15_1 = true
      · subst c8
        have H1 : ((lockgatelaw04_awake.f).bind fun t268 => (some t268)) = some r := by rw [if_pos rfl] at H; exact H
        clear H
        have H := H1
        clear H1
        replace H := Option.bind_eq_some_iff.mp H
        obtain ⟨t268, A90, H⟩ := H
        replace H : (some t268) = some r := H
        have A9 := Aside0.mk A90
        clear A90
        obtain rfl := Option.some.inj H
        go_wp2_with (first | ((with_reducible refine gate_callee (f := 9) rfl ?_); refine goesL_ (some 16) rfl rfl Try.func9 (by kernel_rfl) rfl #[] rfl (by (try simp only [List.map_toArray, List.map_cons, List.map_nil]); first | done | rfl | (simp only [List.length_drop, List.length_take]; rfl)) ?_; (with_reducible refine (lockgatelaw04_awake.calls  t268 _ A9.out).mono ?_); rintro e w10 ⟨rfl, hb⟩; refine ⟨_, rfl, ?_⟩; have n0_ := Aside0.mk (below_step (by repeat (first | (with_reducible first | exact HB.out | apply below_alloc | apply pw_below_drewN | apply below_drew1) | exact HB.out)) hb); clear HB; have HB := n0_; clear n0_; (try clear hb); (try clear hb2); (try clear hk); (try clear hi)))
        go_ret
        exact ⟨by first | rfl | (simp [errW_none, errW_some] <;> rfl) | (simp [*, errW_none, errW_some] <;> rfl), by repeat (first | (with_reducible first | exact HB.out | apply below_alloc | apply pw_below_drewN | apply below_drew1) | exact HB.out)⟩
      · replace c8 := Bool.eq_false_iff.mpr c8
        subst c8
        have H1 : ((lockgatelaw04_row.f kj1 l0).bind fun t269 => ((some (([] : List Int) : List Int)).bind fun y272 => (if y272.length + t269.length < 140737488355328 then ((frame_Scan.f kj1 t269).bind fun bt278 => (lockgatelaw04_FrameKeeps.l0 kj1 t269 (y272 ++ t269) bt278.1 0)) else (none)))) = some r := by rw [if_neg (show ¬ (false = true) by decide)] at H; exact H
        clear H
        have H := H1
        clear H1
        replace H := Option.bind_eq_some_iff.mp H
        obtain ⟨t269, A110, H⟩ := H
        replace H : ((some (([] : List Int) : List Int)).bind fun y272 => (if y272.length + t269.length < 140737488355328 then ((frame_Scan.f kj1 t269).bind fun bt278 => (lockgatelaw04_FrameKeeps.l0 kj1 t269 (y272 ++ t269) bt278.1 0)) else (none))) = some r := H
        have A11 := Aside0.mk A110
        clear A110
        obtain ⟨y272, hy272⟩ : ∃ y_ : List Int, y_ = (([] : List Int)) := ⟨_, rfl⟩
        replace H : (if y272.length + t269.length < 140737488355328 then ((frame_Scan.f kj1 t269).bind fun bt278 => (lockgatelaw04_FrameKeeps.l0 kj1 t269 (y272 ++ t269) bt278.1 0)) else (none)) = some r := by first | (rw [hy272]; with_reducible exact H) | (have H2_ := (Option.bind_some _ _).symm.trans H; rw [hy272]; with_reducible exact H2_) | (have H2_ := (Option.bind_some _ _).symm.trans H; with_reducible exact H2_) | with_reducible exact H | (rw [hy272]; exact H) | exact H
        have Ny272 := Aside0.mk hy272
        clear hy272
        by_cases c12 : y272.length + t269.length < 140737488355328
        · rw [if_pos c12] at H
          have LMc12 := Aside0.mk c12
          clear c12
          obtain ⟨y275, hy275⟩ : ∃ y_ : List Int, y_ = (y272 ++ t269) := ⟨_, rfl⟩
          replace H : ((frame_Scan.f kj1 t269).bind fun bt278 => (lockgatelaw04_FrameKeeps.l0 kj1 t269 y275 bt278.1 0)) = some r := by first | (rw [hy275]; with_reducible exact H) | (have H2_ := (Option.bind_some _ _).symm.trans H; rw [hy275]; with_reducible exact H2_) | (have H2_ := (Option.bind_some _ _).symm.trans H; with_reducible exact H2_) | with_reducible exact H | (rw [hy275]; exact H) | exact H
          have Ny275 := Aside0.mk hy275
          clear hy275
          replace H := Option.bind_eq_some_iff.mp H
          obtain ⟨⟨t278, t279⟩, A130, H⟩ := H
          replace H : (lockgatelaw04_FrameKeeps.l0 kj1 t269 y275 t278 0) = some r := H
          have A13 := Aside0.mk A130
          clear A130
          have H' := Aside0.mk H
          clear H
          go_wp2_with (first | ((with_reducible refine gate_callee (f := 17) rfl ?_); refine goesL_ (some 18) rfl rfl Try.func17 (by kernel_rfl) rfl #[.slice A0 l0.length c0] rfl (by (try simp only [List.map_toArray, List.map_cons, List.map_nil]); first | done | rfl | (simp only [List.length_drop, List.length_take]; rfl)) ?_; (with_reducible refine (lockgatelaw04_row.calls kj1 _ _ l0 t269 _ ?side1 ?side2 A11.out).mono ?_); (case side1 => repeat (first | exact (Kd.C_below HR0.out HB.out) | (with_reducible refine Kd.C_alloc ?_ _) | (with_reducible refine Kd.C_drewN ?_ _) | (with_reducible refine Kd.C_drew ?_))); (case side2 => exact HC0.out); rintro e w14 ⟨v270, rfl, ho0, hb⟩; refine ⟨_, rfl, ?_⟩; have n0_ := Aside0.mk (Kd.R_lower ho0 (below_size (by repeat (first | (with_reducible first | exact HB.out | apply below_alloc | apply pw_below_drewN | apply below_drew1) | exact HB.out)))); have n1_ := Aside0.mk (below_step (by repeat (first | (with_reducible first | exact HB.out | apply below_alloc | apply pw_below_drewN | apply below_drew1) | exact HB.out)) hb); clear HB; have HO271 := n0_; have HB := n1_; clear n0_ n1_; (try clear hb); (try clear hb2); (try clear hk); (try clear hi); (try clear ho0)) | ((with_reducible refine gate_dst (N := 19) rfl ?_); refine Kd.R_lit (Kd.int .u8) _ 5 ?hg (N := 19) ?hd (xs := ([] : List Int)) (inner := []) (ok := fun _ => True) (okp := fun _ => True) ?hr ?hp (fun _ hk => hk) trivial (Below.refl _ _) (Nat.le_refl _) (by simp) ?_; (case hd => rfl); (case hg => rfl); (case hr => first | (go_simp; done) | (go_simp; rfl)); (case hp => exact (Reps.none _ _)); intro v273 w15 ho16 hb hg_ hnew_; clear hg_ hnew_; (first | rw [← Ny272.out] at ho16 | (simp only [Int.reduceToNat] at ho16; rw [← Ny272.out] at ho16)); have n0_ := Aside0.mk (Kd.R_elder' (by (with_reducible repeat (first | apply Kd.R_alloc | apply Kd.R_drewN | apply Kd.R_drew)); exact HO271.out) (Kd.R_base ho16) hb); have n1_ := Aside0.mk (Kd.R_lower (Kd.R_new' ho16 (Kd.R_lt (by (with_reducible repeat (first | apply Kd.R_alloc | apply Kd.R_drewN | apply Kd.R_drew)); exact HO271.out))) (below_size (by repeat (first | (with_reducible first | exact HB.out | apply below_alloc | apply pw_below_drewN | apply below_drew1) | exact HB.out)))); have n2_ := Aside0.mk (below_step (by repeat (first | (with_reducible first | exact HB.out | apply below_alloc | apply pw_below_drewN | apply below_drew1) | exact HB.out)) hb); clear HO271; clear HB; have HO271 := n0_; have HO274 := n1_; have HB := n2_; clear n0_ n1_ n2_; clear hb ho16; obtain ⟨Ao18, co18, eo18⟩ := Kd.R_slice HO271.out; subst eo18) | ((with_reducible refine gate_builtin (b := .append) (xs := #[.tmp 19, .tmp 20]) rfl ?_); at_builtin; refine Kd.R_append_rows (Kd.int .u8) (w0 := w) w.heap.size rfl (.tmp 19) (.tmp 20) 22 5 (.int .u8 0) 1 rfl Try.underlying22 info5 rfl (by decide) (by omega) v273 y272 t269 _ _ _ (fun k_ => some k_ ≠ (.slice Ao18 t269.length co18 : Value).ownBlock) (fun _ => False) rfl rfl ?aO ?aR (fun _ _ h => h) (fun _ h => h.elim) ?aF ?aB ?aS ?aL ?_; (case aR => repeat (first | exact (Kd.R_reads' HO271.out).2.2 | (with_reducible refine Kd.C_alloc ?_ _) | (with_reducible refine Kd.C_drewN ?_ _) | (with_reducible refine Kd.C_drew ?_))); (case aB => exact (by repeat (first | (with_reducible first | exact HB.out | apply below_alloc | apply pw_below_drewN | apply below_drew1) | exact HB.out))); (case aF => exact (fun k_ hk => Kd.fresh' (Kd.R_lt (by (with_reducible repeat (first | apply Kd.R_alloc | apply Kd.R_drewN | apply Kd.R_drew)); exact HO271.out)) k_ hk)); (case aO => exact (by (with_reducible repeat (first | apply Kd.R_alloc | apply Kd.R_drewN | apply Kd.R_drew)); exact Kd.R_mono HO274.out (fun _ hk => hk.2))); (case aS => exact (below_size (by repeat (first | (with_reducible first | exact HB.out | apply below_alloc | apply pw_below_drewN | apply below_drew1) | exact HB.out)))); (case aL => have := LMc12.out; omega); intro v276 w17 ho hb hg hat; rw [← Ny275.out] at ho; have n0_ := Aside0.mk (Kd.R_after (ok := (fun _ => True)) (by (with_reducible repeat (first | apply Kd.R_alloc | apply Kd.R_drewN | apply Kd.R_drew)); exact HO271.out) hg hat); have n1_ := Aside0.mk (hb); have n2_ := Aside0.mk (ho); clear HO271; clear HB; clear HO274; have HO271 := n0_; have HB := n1_; have HO277 := n2_; clear n0_ n1_ n2_; clear ho hb hg hat) | ((with_reducible refine gate_callee (f := 13) rfl ?_); refine goesL_ (some 24) rfl rfl Try.func13 (by kernel_rfl) rfl #[.slice Ao18 t269.length co18] rfl (by (try simp only [List.map_toArray, List.map_cons, List.map_nil]); first | done | rfl | (simp only [List.length_drop, List.length_take]; rfl)) ?_; (with_reducible refine (frame_Scan.calls kj1 _ _ t269 t278 t279 _ ?side1 ?side2 A13.out).mono ?_); (case side1 => repeat (first | exact (Kd.R_reads' HO271.out).2.2 | (with_reducible refine Kd.C_alloc ?_ _) | (with_reducible refine Kd.C_drewN ?_ _) | (with_reducible refine Kd.C_drew ?_))); (case side2 => exact (Kd.R_reads' HO271.out).2.1); rintro e w19 ⟨v280, rfl, ho0, hb⟩; refine ⟨_, rfl, ?_⟩; have n0_ := Aside0.mk (Kd.R_below (by (with_reducible repeat (first | apply Kd.R_alloc | apply Kd.R_drewN | apply Kd.R_drew)); exact HO271.out) hb); have n1_ := Aside0.mk (Kd.R_below (by (with_reducible repeat (first | apply Kd.R_alloc | apply Kd.R_drewN | apply Kd.R_drew)); exact HO277.out) hb); have n2_ := Aside0.mk (Kd.S_lower (Kd.S_new' (Kd.S_new' ho0 (Kd.R_lt (by (with_reducible repeat (first | apply Kd.R_alloc | apply Kd.R_drewN | apply Kd.R_drew)); exact HO271.out))) (Kd.R_lt (by (with_reducible repeat (first | apply Kd.R_alloc | apply Kd.R_drewN | apply Kd.R_drew)); exact HO277.out))) (below_size (by repeat (first | (with_reducible first | exact HB.out | apply below_alloc | apply pw_below_drewN | apply below_drew1) | exact HB.out)))); have n3_ := Aside0.mk (below_step (by repeat (first | (with_reducible first | exact HB.out | apply below_alloc | apply pw_below_drewN | apply below_drew1) | exact HB.out)) hb); clear HO271; clear HO277; clear HB; have HO271 := n0_; have HO277 := n1_; have HO281 := n2_; have HB := n3_; clear n0_ n1_ n2_ n3_; (try clear hb); (try clear hb2); (try clear hk); (try clear hi); (try clear ho0)))
          go_loopg [7] kj1 (fun kq v7 w' => ∃ (x3_2 : List Int) (x4_2 : List Int) (x5_2 : List (List Int)) (x7_2 : Int), v7 = .int .i64 x7_2 ∧ Aside0 (lockgatelaw04_FrameKeeps.l0 kq x3_2 x4_2 x5_2 x7_2 = some r) ∧ Aside0 (kq ≤ kj1) ∧ Aside0 (Kd.R (Kd.int .u8) 5 w' w.heap.size (fun k_ => some k_ ≠ (v276 : Value).ownBlock) (.slice Ao18 t269.length co18) x3_2) ∧ Aside0 (Kd.R (Kd.int .u8) 5 w' w.heap.size (fun k_ => some k_ ≠ ((.slice Ao18 t269.length co18) : Value).ownBlock) v276 x4_2) ∧ Aside0 (Kd.S (Kd.slice 5 (Kd.int .u8)) 22 w' w.heap.size (fun k_ => some k_ ≠ ((.slice Ao18 t269.length co18) : Value).ownBlock ∧ some k_ ≠ (v276 : Value).ownBlock) v280 x5_2) ∧ Aside0 (Below w.heap.size w w'))
          case atStart => exact ⟨(t269), (y275), (t278), (0), (by first | rfl | (simp; done) | (simp [*]; done)), H', ⟨Nat.le_refl _⟩, ⟨by (with_reducible repeat (first | apply Kd.R_alloc | apply Kd.R_drewN | apply Kd.R_drew)); exact Kd.R_mono HO271.out (fun _ hk => hk.2)⟩, ⟨by (with_reducible repeat (first | apply Kd.R_alloc | apply Kd.R_drewN | apply Kd.R_drew)); exact HO277.out⟩, ⟨by (with_reducible repeat (first | apply Kd.S_alloc | apply Kd.S_drewN | apply Kd.S_drew)); exact Kd.S_mono HO281.out (fun _ hk => ⟨hk.1.2, hk.2⟩)⟩, ⟨by repeat (first | (with_reducible first | exact HB.out | apply below_alloc | apply pw_below_drewN | apply below_drew1) | exact HB.out)⟩⟩
          case round =>
            clear H'
            try clear c1
            try clear p2
            try clear c4
            try clear c8
            try clear c9
            try clear c12
            try clear c13
            try clear c17
            try clear p2
            obtain ⟨x3_2, x4_2, x5_2, x7_2, rfl, HA, HK2, HO_3, HO_4, HO_5, HB⟩ := hrel
            have hl3_2 := (Kd.R_reads' HO_3.out).1
            rw [hl3_2] at HO_3
            (try simp only [hl3_2])
            (try simp only [hl3_2] at HO_4)
            (try simp only [hl3_2] at HO_5)
            cases gk with
            | zero => exact absurd HA.out (by simp [lockgatelaw04_FrameKeeps.l0])
            | succ k2 =>
              have H := HA.out
              clear HA
              simp only [lockgatelaw04_FrameKeeps.l0] at H
              by_cases c20 : x7_2 < (x5_2.length : Int)
              · rw [if_pos c20] at H
                have c20b0 : decide (x7_2 < (x5_2.length : Int)) = true := decide_eq_true c20
                clear c20
                have H' := Aside0.mk H
                clear H
                obtain ⟨Ao21, co21, eo21⟩ := Kd.S_slice HO_5.out
                subst eo21
                go_wp2
                go_loopg [8] k2 (fun kq v8 w' => ∃ (x3_3 : List Int) (x4_3 : List Int) (x5_3 : List (List Int)) (x8_3 : Int), v8 = .int .i64 x8_3 ∧ Aside0 (lockgatelaw04_FrameKeeps.l1 kq x3_3 x4_3 x5_3 x7_2 x8_3 = some r) ∧ Aside0 (kq ≤ k2) ∧ Aside0 (Kd.R (Kd.int .u8) 5 w' w.heap.size (fun k_ => some k_ ≠ (v276 : Value).ownBlock) (.slice Ao18 x3_2.length co18) x3_3) ∧ Aside0 (Kd.R (Kd.int .u8) 5 w' w.heap.size (fun k_ => some k_ ≠ ((.slice Ao18 x3_2.length co18) : Value).ownBlock) v276 x4_3) ∧ Aside0 (Kd.S (Kd.slice 5 (Kd.int .u8)) 22 w' w.heap.size (fun k_ => some k_ ≠ ((.slice Ao18 x3_2.length co18) : Value).ownBlock ∧ some k_ ≠ (v276 : Value).ownBlock) (.slice Ao21 x5_2.length co21) x5_3) ∧ Aside0 (Below w.heap.size w w'))
                case atStart => exact ⟨(x3_2), (x4_2), (x5_2), (0), (by first | rfl | (simp; done) | (simp [*]; done)), H', ⟨Nat.le_refl _⟩, ⟨by (try simp only [hl3_2]); (with_reducible repeat (first | apply Kd.R_alloc | apply Kd.R_drewN | apply Kd.R_drew)); exact HO_3.out⟩, ⟨by (try simp only [hl3_2]); (with_reducible repeat (first | apply Kd.R_alloc | apply Kd.R_drewN | apply Kd.R_drew)); exact HO_4.out⟩, ⟨by (try simp only [hl3_2]); (with_reducible repeat (first | apply Kd.S_alloc | apply Kd.S_drewN | apply Kd.S_drew)); exact HO_5.out⟩, ⟨by repeat (first | (with_reducible first | exact HB.out | apply below_alloc | apply pw_below_drewN | apply below_drew1) | exact HB.out)⟩⟩
                case round =>
                  clear H'
                  try clear c1
                  try clear c2
                  try clear p2
                  try clear c4
                  try clear c8
                  try clear c9
                  try clear c12
                  try clear c13
                  try clear c17
                  try clear c20
                  try clear c20b0
                  try clear p2
                  obtain ⟨x3_3, x4_3, x5_3, x8_3, rfl, HA, HK3, HO_3, HO_4, HO_5, HB⟩ := hrel
                  have hl3_3 := (Kd.R_reads' HO_3.out).1
                  rw [hl3_3] at HO_3
                  (try simp only [hl3_3])
                  (try simp only [hl3_3] at HO_4)
                  (try simp only [hl3_3] at HO_5)
                  have hl5_3 := (Kd.S_reads' HO_5.out).1
                  rw [hl5_3] at HO_5
                  (try simp only [hl5_3])
                  (try simp only [hl5_3] at HO_3)
                  (try simp only [hl5_3] at HO_4)
                  cases gk with
                  | zero => exact absurd HA.out (by simp [lockgatelaw04_FrameKeeps.l1])
                  | succ k3 =>
                    have H := HA.out
                    clear HA
                    simp only [lockgatelaw04_FrameKeeps.l1] at H
                    by_cases c22 : 0 ≤ x7_2
                    · rw [if_pos c22] at H
                      have c22b0 : decide (0 ≤ x7_2) = true := decide_eq_true c22
                      clear c22
                      by_cases c23 : x7_2 < (x5_3.length : Int)
                      · rw [if_pos c23] at H
                        have c23b0 : decide (x7_2 < (x5_3.length : Int)) = true := decide_eq_true c23
                        clear c23
                        by_cases c24 : x8_3 < ((rd_L1 x5_3 x7_2).length : Int)
                        · rw [if_pos c24] at H
                          have c24b0 : decide (x8_3 < ((rd_L1 x5_3 x7_2).length : Int)) = true := decide_eq_true c24
                          clear c24
                          by_cases c25 : 0 ≤ x8_3
                          · rw [if_pos c25] at H
                            have c25b0 : decide (0 ≤ x8_3) = true := decide_eq_true c25
                            clear c25
                            obtain ⟨y285, hy285⟩ : ∃ y_ : List Int, y_ = ((rd_L1 x5_3 x7_2).set (x8_3 : Int).toNat 99) := ⟨_, rfl⟩
                            replace H : (lockgatelaw04_FrameKeeps.l1 k3 x3_3 x4_3 (x5_3.set (x7_2 : Int).toNat y285) x7_2 (wrap64 (x8_3 + 1))) = some r := by first | (rw [hy285]; with_reducible exact H) | (have H2_ := (Option.bind_some _ _).symm.trans H; rw [hy285]; with_reducible exact H2_) | (have H2_ := (Option.bind_some _ _).symm.trans H; with_reducible exact H2_) | with_reducible exact H | (rw [hy285]; exact H) | exact H
                            have Ny285 := Aside0.mk hy285
                            clear hy285
                            obtain ⟨y287, hy287⟩ : ∃ y_ : List (List Int), y_ = (x5_3.set (x7_2 : Int).toNat y285) := ⟨_, rfl⟩
                            replace H : (lockgatelaw04_FrameKeeps.l1 k3 x3_3 x4_3 y287 x7_2 (wrap64 (x8_3 + 1))) = some r := by first | (rw [hy287]; with_reducible exact H) | (have H2_ := (Option.bind_some _ _).symm.trans H; rw [hy287]; with_reducible exact H2_) | (have H2_ := (Option.bind_some _ _).symm.trans H; with_reducible exact H2_) | with_reducible exact H | (rw [hy287]; exact H) | exact H
                            have Ny287 := Aside0.mk hy287
                            clear hy287
                            have H' := Aside0.mk H
                            clear H
                            have p283 : 0 ≤ (x7_2 : Int) := of_decide_eq_true (by first | (with_reducible assumption) | assumption)
                            have q283 : x7_2 < (x5_3.length : Int) := of_decide_eq_true (by first | (with_reducible assumption) | assumption)
                            obtain ⟨ad283, A283_0, c283_0, e283, hx283_0, hl283_0, hi283_0⟩ := at_L1 (Kd.S_reads' HO_5.out).2.2 x7_2 p283 q283
                            cases e283
                            obtain ⟨ce283, hce283, hMe283, hcc283⟩ := Kd.S_get HO_5.out [] x7_2 p283 (by first | exact q283 | exact of_decide_eq_true (by first | (with_reducible assumption) | assumption) | (have e_ := (Kd.S_reads' HO_5.out).1; omega))
                            obtain ⟨ve283_0, rfl, ge283_0⟩ := hMe283
                            have hv283_0 := hcc283 0 _ rfl
                            rw [Nat.add_zero, show ((Kd.slice 5 (Kd.int .u8))).sz = 1 from rfl, Nat.mul_one] at hv283_0
                            replace hv283_0 := Option.some.inj (hv283_0.symm.trans hx283_0)
                            rw [hv283_0] at ge283_0
                            have HL283_0 := Aside0.mk (show Kd.R (Kd.int .u8) 5 _ _ _ _ (rd_L1 x5_3 x7_2) from ge283_0)
                            clear hv283_0 ge283_0
                            have HX283_0 := Aside0.mk hx283_0
                            clear hcc283 hce283
                            have HR283_0 := Aside0.mk hi283_0
                            have HC283_0 := Aside0.mk hl283_0
                            clear hi283_0 hl283_0
                            replace p283 := eq_true p283
                            replace q283 := eq_true q283
                            have p284 : 0 ≤ (x7_2 : Int) := of_decide_eq_true (by first | (with_reducible assumption) | assumption)
                            have q284 : x7_2 < (x5_3.length : Int) := of_decide_eq_true (by first | (with_reducible assumption) | assumption)
                            obtain ⟨ad284, A284_0, c284_0, e284, hx284_0, hl284_0, hi284_0⟩ := at_L1 (Kd.S_reads' HO_5.out).2.2 x7_2 p284 q284
                            obtain rfl : ad283 = ad284 := (by injection e284)
                            obtain ⟨ce284, hce284, hMe284, hcc284⟩ := Kd.S_get HO_5.out [] x7_2 p284 (by first | exact q284 | exact of_decide_eq_true (by first | (with_reducible assumption) | assumption) | (have e_ := (Kd.S_reads' HO_5.out).1; omega))
                            obtain ⟨ve284_0, rfl, ge284_0⟩ := hMe284
                            have hv284_0 := hcc284 0 _ rfl
                            rw [Nat.add_zero, show ((Kd.slice 5 (Kd.int .u8))).sz = 1 from rfl, Nat.mul_one] at hv284_0
                            replace hv284_0 := Option.some.inj (hv284_0.symm.trans hx284_0)
                            rw [hv284_0] at ge284_0
                            have HL284_0 := Aside0.mk (show Kd.R (Kd.int .u8) 5 _ _ _ _ (rd_L1 x5_3 x7_2) from ge284_0)
                            clear hv284_0 ge284_0
                            have HX284_0 := Aside0.mk hx284_0
                            clear hcc284 hce284
                            have HR284_0 := Aside0.mk hi284_0
                            have HC284_0 := Aside0.mk hl284_0
                            clear hi284_0 hl284_0
                            replace p284 := eq_true p284
                            replace q284 := eq_true q284
                            have ea_ := Option.some.inj (hx283_0.symm.trans hx284_0)
                            injection ea_ with ea_ en_ ec_
                            subst ea_
                            subst ec_
                            clear en_
                            have p26 : 0 ≤ (x8_3 : Int) := of_decide_eq_true (by first | (with_reducible assumption) | assumption)
                            have q26 : (x8_3 : Int) < (((rd_L1 x5_3 x7_2).length : Int) : Int) := of_decide_eq_true (by first | (with_reducible assumption) | assumption)
                            obtain ⟨go26, co26, eo26, gb26, gl26, cl26, HG26⟩ := Kd.R_form HL284_0.out (by omega)
                            (first | cases eo26 | (injection eo26 with ea_ en_ ec_; (first | subst ea_ | (injection ea_ with ea_; subst ea_)); subst ec_; clear en_))
                            have GB26 := Aside0.mk gb26
                            have GG26 := Aside0.mk HG26
                            clear gb26 gl26 HG26
                            obtain ⟨hx26_0, hf26_0⟩ := Kd.R_celln 0 HL284_0.out (x8_3 : Int) p26 q26
                            replace p26 := eq_true p26
                            replace q26 := eq_true q26
                            have hq27 : (x7_2 : Int) < (x5_3.length : Int) := (by have h_ : (x7_2 : Int) < ((x5_3.length : Int) : Int) := of_decide_eq_true (by first | (with_reducible assumption) | assumption); first | exact h_ | (have e_ := (Kd.S_reads' HO_5.out).1; omega) | simpa only [List.length_set, List.length_set] using h_)
                            obtain ⟨oki27, ce27, hcl27, hM27, hcc27, hok27, hbk27⟩ := Kd.S_borrow HO_5.out [] (x7_2 : Int) (of_decide_eq_true (by first | (with_reducible assumption) | assumption)) hq27
                            obtain ⟨ve27_0, rfl, ge27_0⟩ := hM27
                            have hv27 := hcc27 0 _ rfl
                            rw [Nat.add_zero, show ((Kd.slice 5 (Kd.int .u8))).sz = 1 from rfl, Nat.mul_one] at hv27
                            replace hv27 := Option.some.inj (hv27.symm.trans HX284_0.out)
                            subst hv27
                            clear hcc27 hcl27
                            replace ge27_0 := (show Kd.R (Kd.int .u8) 5 _ _ _ _ (rd_L1 x5_3 x7_2) from ge27_0)
                            have HP27 := Kd.R_putg ge27_0 (x8_3 : Int) 99
                            go_wp2_with (first | ((with_reducible refine gate_store (t := 5) (p := 47) rfl ?_); refine store_event (t := 5) (p := 47) (v := ?vo_w28) (w1 := (wr.setCell ⟨go26, (x8_3 : Int).toNat, none⟩ (.int .u8 99))) ?hg ?ho ?hn ?hr ?_; (case ho => rfl); (case hg => rfl); (case hn => rfl); (case hr => first | (go_simp; done) | (go_simp; rfl)); intro w28 hw; have hg : wr.grownBy w28 (some go26) := (by rw [hw]; exact HP27.2); have hz_ : Kd.R (Kd.int .u8) 5 w28 w.heap.size oki27 (.slice (some ⟨go26, 0, none⟩) (rd_L1 x5_3 x7_2).length c283_0) y285 := (by rw [hw, Ny285.out]; exact HP27.1); have hp_ : Kd.S (Kd.slice 5 (Kd.int .u8)) 22 w28 w.heap.size (fun k_ => some k_ ≠ (.slice Ao18 x3_3.length co18 : Value).ownBlock ∧ some k_ ≠ (v276 : Value).ownBlock) (.slice (some ad283) x5_3.length co21) y287 := (by rw [Ny287.out]; exact hbk27 hg (fun k_ e_ => by injection e_ with e_; subst e_; exact ge27_0.1 _ rfl) (Kd.M_row hz_)); have hm_ := Kd.R_mono hz_ hok27; clear HP27 hbk27; have n0_ := Aside0.mk (Kd.R_grown1 (by (with_reducible repeat (first | apply Kd.R_alloc | apply Kd.R_drewN | apply Kd.R_drew)); exact HO_3.out) rfl hg ((HL284_0.out.1 _ rfl).1.1)); have n1_ := Aside0.mk (Kd.R_grown1 (by (with_reducible repeat (first | apply Kd.R_alloc | apply Kd.R_drewN | apply Kd.R_drew)); exact HO_4.out) rfl hg ((HL284_0.out.1 _ rfl).1.2)); have n2_ := Aside0.mk (hp_); have n3_ := Aside0.mk ((by rw [hw]; exact below_set (HB.out) GB26.out : Below w.heap.size w w28)); have n4_ := Aside0.mk (hm_); have n5_ := Aside0.mk ((Kd.R_reads' hm_).2.1); clear HO_3; clear HO_4; clear HO_5; clear HB; clear HL283_0; clear HL284_0; have HO_3 := n0_; have HO_4 := n1_; have HO_5 := n2_; have HB := n3_; have HL288 := n4_; have HC286 := n5_; clear n0_ n1_ n2_ n3_ n4_ n5_; clear hg hw hp_ hz_ hm_ hok27))
                            (try simp only [← hl3_3, ← hl5_3])
                            go_roundg k3
                            case measure => have := HJ1.out; have := HK2.out; have := HK3.out; omega
                            case rel => exact ⟨(x3_3), (x4_3), (y287), (wrap64 (x8_3 + 1)), (by first | rfl | (simp; done) | (simp [*]; done)), H', ⟨by have := HJ1.out; have := HK2.out; have := HK3.out; omega⟩, ⟨by (try simp only [hl3_2]); (try simp only [hl3_3]); (try simp only [hl5_3]); (with_reducible repeat (first | apply Kd.R_alloc | apply Kd.R_drewN | apply Kd.R_drew)); exact HO_3.out⟩, ⟨by (try simp only [hl3_2]); (try simp only [hl3_3]); (try simp only [hl5_3]); (with_reducible repeat (first | apply Kd.R_alloc | apply Kd.R_drewN | apply Kd.R_drew)); exact HO_4.out⟩, ⟨by (try simp only [hl3_2]); (try simp only [hl3_3]); (try simp only [hl5_3]); (with_reducible repeat (first | apply Kd.S_alloc | apply Kd.S_drewN | apply Kd.S_drew)); exact HO_5.out⟩, ⟨by repeat (first | (with_reducible first | exact HB.out | apply below_alloc | apply pw_below_drewN | apply below_drew1) | exact HB.out)⟩⟩
                          · rw [if_neg c25] at H
                            exact absurd H (by simp)
                        · rw [if_neg c24] at H
                          have c24b0 : decide (x8_3 < ((rd_L1 x5_3 x7_2).length : Int)) = false := decide_eq_false c24
                          clear c24
                          have H' := Aside0.mk H
                          clear H
                          have p283 : 0 ≤ (x7_2 : Int) := of_decide_eq_true (by first | (with_reducible assumption) | assumption)
                          have q283 : x7_2 < (x5_3.length : Int) := of_decide_eq_true (by first | (with_reducible assumption) | assumption)
                          obtain ⟨ad283, A283_0, c283_0, e283, hx283_0, hl283_0, hi283_0⟩ := at_L1 (Kd.S_reads' HO_5.out).2.2 x7_2 p283 q283
                          cases e283
                          obtain ⟨ce283, hce283, hMe283, hcc283⟩ := Kd.S_get HO_5.out [] x7_2 p283 (by first | exact q283 | exact of_decide_eq_true (by first | (with_reducible assumption) | assumption) | (have e_ := (Kd.S_reads' HO_5.out).1; omega))
                          obtain ⟨ve283_0, rfl, ge283_0⟩ := hMe283
                          have hv283_0 := hcc283 0 _ rfl
                          rw [Nat.add_zero, show ((Kd.slice 5 (Kd.int .u8))).sz = 1 from rfl, Nat.mul_one] at hv283_0
                          replace hv283_0 := Option.some.inj (hv283_0.symm.trans hx283_0)
                          rw [hv283_0] at ge283_0
                          have HL283_0 := Aside0.mk (show Kd.R (Kd.int .u8) 5 _ _ _ _ (rd_L1 x5_3 x7_2) from ge283_0)
                          clear hv283_0 ge283_0
                          have HX283_0 := Aside0.mk hx283_0
                          clear hcc283 hce283
                          have HR283_0 := Aside0.mk hi283_0
                          have HC283_0 := Aside0.mk hl283_0
                          clear hi283_0 hl283_0
                          replace p283 := eq_true p283
                          replace q283 := eq_true q283
                          go_wp2
                          (try simp only [← hl3_2, ← hl3_3, ← hl5_3])
                          go_roundg k3
                          case measure => have := HJ1.out; have := HK2.out; have := HK3.out; omega
                          case rel => exact ⟨(x3_3), (x4_3), (x5_3), (wrap64 (x7_2 + 1)), (by first | rfl | (simp; done) | (simp [*]; done)), H', ⟨by have := HJ1.out; have := HK2.out; have := HK3.out; omega⟩, ⟨by (try simp only [hl3_2]); (try simp only [hl3_3]); (try simp only [hl5_3]); (with_reducible repeat (first | apply Kd.R_alloc | apply Kd.R_drewN | apply Kd.R_drew)); exact HO_3.out⟩, ⟨by (try simp only [hl3_2]); (try simp only [hl3_3]); (try simp only [hl5_3]); (with_reducible repeat (first | apply Kd.R_alloc | apply Kd.R_drewN | apply Kd.R_drew)); exact HO_4.out⟩, ⟨by (try simp only [hl3_2]); (try simp only [hl3_3]); (try simp only [hl5_3]); (with_reducible repeat (first | apply Kd.S_alloc | apply Kd.S_drewN | apply Kd.S_drew)); exact HO_5.out⟩, ⟨by repeat (first | (with_reducible first | exact HB.out | apply below_alloc | apply pw_below_drewN | apply below_drew1) | exact HB.out)⟩⟩
                      · rw [if_neg c23] at H
                        exact absurd H (by simp)
                    · rw [if_neg c22] at H
                      exact absurd H (by simp)
              · rw [if_neg c20] at H
                have c20b0 : decide (x7_2 < (x5_2.length : Int)) = false := decide_eq_false c20
                clear c20
                replace H := Option.bind_eq_some_iff.mp H
                obtain ⟨t282, A290, H⟩ := H
                replace H : (some t282) = some r := H
                have A29 := Aside0.mk A290
                clear A290
                obtain rfl := Option.some.inj H
                obtain ⟨Ao30, co30, eo30⟩ := Kd.S_slice HO_5.out
                subst eo30
                obtain ⟨Ao31, co31, eo31⟩ := Kd.R_slice HO_4.out
                subst eo31
                go_wp2_with (first | ((with_reducible refine gate_callee (f := 10) rfl ?_); refine goesL_ (some 50) rfl rfl Try.func10 (by kernel_rfl) rfl #[.slice Ao18 x3_2.length co18, .slice Ao31 x4_2.length co31] rfl (by (try simp only [List.map_toArray, List.map_cons, List.map_nil]); first | done | rfl | (simp only [List.length_drop, List.length_take]; rfl)) ?_; (with_reducible refine (lockgateref03_Same.calls k2 _ _ x3_2 _ _ x4_2 t282 _ ?side1 ?side2 ?side3 ?side4 A29.out).mono ?_); (case side1 => repeat (first | exact (Kd.R_reads' HO_3.out).2.2 | (with_reducible refine Kd.C_alloc ?_ _) | (with_reducible refine Kd.C_drewN ?_ _) | (with_reducible refine Kd.C_drew ?_))); (case side2 => exact (Kd.R_reads' HO_3.out).2.1); (case side3 => repeat (first | exact (Kd.R_reads' HO_4.out).2.2 | (with_reducible refine Kd.C_alloc ?_ _) | (with_reducible refine Kd.C_drewN ?_ _) | (with_reducible refine Kd.C_drew ?_))); (case side4 => exact (Kd.R_reads' HO_4.out).2.1); rintro e w' ⟨rfl, ⟨nd, rfl⟩⟩; refine ⟨_, rfl, ?_⟩))
                go_ret
                exact ⟨by first | rfl | (simp [errW_none, errW_some] <;> rfl) | (simp [*, errW_none, errW_some] <;> rfl), by repeat (first | (with_reducible first | exact HB.out | apply below_alloc | apply pw_below_drewN | apply below_drew1) | exact HB.out)⟩
        · rw [if_neg c12] at H
          exact absurd H (by simp)

end Go.Proofs.Ytfjhioepaekffaa.PFrame
