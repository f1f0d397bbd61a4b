-- Written for this claim by the session's own driver of the kit's printer (mprint.py).
import Derived.Test.YtaphejpphlcchaaPNetx0
import Derived.Test.YtaphejpphlcchaaPNetx1
import Derived.Test.YtaphejpphlcchaaPNetx2
import Derived.Test.YtaphejpphlcchaaPNetx3
import Derived.Test.YtaphejpphlcchaaPNetx4
import Derived.Test.YtaphejpphlcchaaPNetx5
import Derived.Test.YtaphejpphlcchaaPNetx6
namespace Go.Proofs.Ytaphejpphlcchaa.PNet
open Go.RowKit Go.Proofs.YtaphejpphlcchaaW.PrintWords Go.Proofs.YtaphejpphlcchaaW.PrintLast Go.Proofs.YtaphejpphlcchaaW.PrintMore
attribute [local go_sem] max2_int min2_int max_two min_two max_three min_three max_four min_four   -- for this text's walks alone
set_option linter.unusedVariables false
set_option linter.unusedSimpArgs false

/-! ### lockgatelaw11_NetActs: function 5 -/
def lockgatelaw11_NetActs.j0 : Nat → Int → List Int → Int → Bool → Int → List (S29) → Option (Bool)
  | 0, _, _, _, _, _, _ => none
  | k + 1, x1, x2, x3, x30, x270000, x270001 => if x30 = true then ((lockgatelaw11_awake.f).bind fun t272 => (some t272)) else ((net_Take.f k x270000 x270001 x3).bind fun bt273 => ((lockgateref11_Take.f k x270000 x270001 x3).bind fun bt285 => ((lockgateref11_SamePacket.f k bt273.1 bt273.2.1 bt273.2.2.1 bt285.1 bt285.2.1 bt285.2.2.1).bind fun t297 => (if t297 = true then ((lockgateref11_Same.f k bt273.2.2.2.1 bt273.2.2.2.2.1 bt285.2.2.2.1 bt285.2.2.2.2.1).bind fun t298 => (if t298 = true then (if (bt273.2.2.2.2.2 == bt285.2.2.2.2.2) = true then ((net_Send.f k x270000 x270001 x1 x2).bind fun bt299 => ((lockgateref11_Send.f k x270000 x270001 x1 x2).bind fun bt303 => ((lockgateref11_Same.f k bt299.1 bt299.2 bt303.1 bt303.2).bind fun t307 => (if t307 = true then ((net_Drop.f k x270000 x270001 x3).bind fun bt308 => ((lockgateref11_Same.f k bt308.1 bt308.2 bt285.2.2.2.1 bt285.2.2.2.2.1).bind fun t312 => (if t312 = true then ((net_Copy.f k x270000 x270001 x3).bind fun bt313 => ((lockgateref11_Copy.f k x270000 x270001 x3).bind fun bt317 => ((lockgateref11_Same.f k bt313.1 bt313.2 bt317.1 bt317.2).bind fun t321 => (if t321 = true then ((net_Cut.f k x270000 x270001 x1).bind fun bt322 => ((lockgateref11_Cut.f k x270000 x270001 x1).bind fun bt326 => ((lockgateref11_Same.f k bt322.1 bt322.2 bt326.1 bt326.2).bind fun t330 => (some t330)))) else (some false))))) else (some false)))) else (some false))))) else (some false)) else (some false))) else (some false)))))
def lockgatelaw11_NetActs.f (k : Nat) (a0_0 : Int) (l0_1 : List (S29)) (a1 : Int) (l2 : List Int) (a3 : Int) : Option (Bool) := (lockgatelaw11_awake.f).bind fun t270 => (if t270 = true then ((lockgateref11_Right.f k a0_0 l0_1).bind fun t271 => (if t271 = true then (if (l2.length : Int) > 500 then (lockgatelaw11_NetActs.j0 k a1 l2 a3 true a0_0 l0_1) else (lockgatelaw11_NetActs.j0 k a1 l2 a3 (decide (a3 < 0)) a0_0 l0_1)) else (lockgatelaw11_NetActs.j0 k a1 l2 a3 true a0_0 l0_1))) else (lockgatelaw11_NetActs.j0 k a1 l2 a3 true a0_0 l0_1))
theorem lockgatelaw11_NetActs.mono_l : ∀ k, (∀ y0 y1 y2 y3 y4 y5, LeO (lockgatelaw11_NetActs.j0 k y0 y1 y2 y3 y4 y5) (lockgatelaw11_NetActs.j0 (k + 1) y0 y1 y2 y3 y4 y5))
  | 0 => fun _ _ _ _ _ _ r h => by simp [lockgatelaw11_NetActs.j0] at h
  | k + 1 => by
    have ih0 := lockgatelaw11_NetActs.mono_l k
    · intro y0 y1 y2 y3 y4 y5
      unfold lockgatelaw11_NetActs.j0
      repeat' first
      | (with_reducible exact ih0 _ _ _ _ _ _)
      | (with_reducible exact lockgateref11_Copy.mono _ _ _ _)
      | (with_reducible exact lockgateref11_Cut.mono _ _ _ _)
      | (with_reducible exact lockgateref11_Right.mono _ _ _)
      | (with_reducible exact lockgateref11_Same.mono _ _ _ _ _)
      | (with_reducible exact lockgateref11_SamePacket.mono _ _ _ _ _ _ _)
      | (with_reducible exact lockgateref11_Send.mono _ _ _ _ _)
      | (with_reducible exact lockgateref11_Take.mono _ _ _ _)
      | (with_reducible exact net_Copy.mono _ _ _ _)
      | (with_reducible exact net_Cut.mono _ _ _ _)
      | (with_reducible exact net_Drop.mono _ _ _ _)
      | (with_reducible exact net_Send.mono _ _ _ _ _)
      | (with_reducible exact net_Take.mono _ _ _ _)
      | (with_reducible exact LeO.refl _)
      | (with_reducible exact LeO.none _)
      | (with_reducible refine LeO.ite ?_ ?_)
      | (with_reducible refine LeO.bind ?_ (fun _ => ?_))
      | exact ih0 _ _ _ _ _ _
      | exact lockgateref11_Copy.mono _ _ _ _
      | exact lockgateref11_Cut.mono _ _ _ _
      | exact lockgateref11_Right.mono _ _ _
      | exact lockgateref11_Same.mono _ _ _ _ _
      | exact lockgateref11_SamePacket.mono _ _ _ _ _ _ _
      | exact lockgateref11_Send.mono _ _ _ _ _
      | exact lockgateref11_Take.mono _ _ _ _
      | exact net_Copy.mono _ _ _ _
      | exact net_Cut.mono _ _ _ _
      | exact net_Drop.mono _ _ _ _
      | exact net_Send.mono _ _ _ _ _
      | exact net_Take.mono _ _ _ _
      | exact LeO.none _
      | refine LeO.ite ?_ ?_
      | refine LeO.bind ?_ (fun _ => ?_)
theorem lockgatelaw11_NetActs.mono : ∀ a0 a1 a2 a3 a4 k, LeO (lockgatelaw11_NetActs.f k a0 a1 a2 a3 a4) (lockgatelaw11_NetActs.f (k + 1) a0 a1 a2 a3 a4) := by
  intro a0 a1 a2 a3 a4 k
  have ih0 := lockgatelaw11_NetActs.mono_l k
  unfold lockgatelaw11_NetActs.f
  repeat' first
      | (with_reducible exact ih0 _ _ _ _ _ _)
      | (with_reducible exact lockgateref11_Copy.mono _ _ _ _)
      | (with_reducible exact lockgateref11_Cut.mono _ _ _ _)
      | (with_reducible exact lockgateref11_Right.mono _ _ _)
      | (with_reducible exact lockgateref11_Same.mono _ _ _ _ _)
      | (with_reducible exact lockgateref11_SamePacket.mono _ _ _ _ _ _ _)
      | (with_reducible exact lockgateref11_Send.mono _ _ _ _ _)
      | (with_reducible exact lockgateref11_Take.mono _ _ _ _)
      | (with_reducible exact net_Copy.mono _ _ _ _)
      | (with_reducible exact net_Cut.mono _ _ _ _)
      | (with_reducible exact net_Drop.mono _ _ _ _)
      | (with_reducible exact net_Send.mono _ _ _ _ _)
      | (with_reducible exact net_Take.mono _ _ _ _)
      | (with_reducible exact LeO.refl _)
      | (with_reducible exact LeO.none _)
      | (with_reducible refine LeO.ite ?_ ?_)
      | (with_reducible refine LeO.bind ?_ (fun _ => ?_))
      | exact ih0 _ _ _ _ _ _
      | exact lockgateref11_Copy.mono _ _ _ _
      | exact lockgateref11_Cut.mono _ _ _ _
      | exact lockgateref11_Right.mono _ _ _
      | exact lockgateref11_Same.mono _ _ _ _ _
      | exact lockgateref11_SamePacket.mono _ _ _ _ _ _ _
      | exact lockgateref11_Send.mono _ _ _ _ _
      | exact lockgateref11_Take.mono _ _ _ _
      | exact net_Copy.mono _ _ _ _
      | exact net_Cut.mono _ _ _ _
      | exact net_Drop.mono _ _ _ _
      | exact net_Send.mono _ _ _ _ _
      | exact net_Take.mono _ _ _ _
      | exact LeO.none _
      | refine LeO.ite ?_ ?_
      | refine LeO.bind ?_ (fun _ => ?_)
def lockgatelaw11_NetActs.T5 : Bool × List (List Nat × List Nat) := (true, [([], []), ([], []), ([0, 1], [0, 1]), ([2, 2], [2]), ([3], [3]), ([3], [3]), ([4, 5, 3, 3], [3, 4, 5]), ([3, 6], [3, 6]), ([7, 6], [7]), ([8], [8]), ([8], [8]), ([9, 10, 8], [8, 9, 10]), ([8, 11], [8, 11]), ([12, 8], [12]), ([13], [13]), ([13], [13]), ([13], [13]), ([14, 15, 16, 13, 13], [13, 14, 15, 16]), ([13], [13]), ([13], [13]), ([13], [13]), ([18, 19, 20, 17, 13], [13, 18, 19, 20]), ([17, 21, 21, 13], [13, 17, 21]), ([13, 22], [13, 22]), ([23, 22], [23]), ([24], [24]), ([24], [24]), ([25, 26, 24, 24], [24, 25, 26]), ([24], [24]), ([27, 28, 27, 24], [24, 27, 28]), ([24, 29], [24, 29]), ([30, 29], [30]), ([31], [31]), ([31], [31]), ([32, 33, 31, 31], [31, 32, 33]), ([31], [31]), ([31], [31]), ([35, 36, 34, 31], [31, 35, 36]), ([34, 37, 37, 31], [31, 34, 37]), ([31, 38], [31, 38]), ([39, 38], [39]), ([40], [40]), ([40], [40]), ([41, 42, 40, 40], [40, 41, 42]), ([40], [40]), ([40], [40]), ([44, 45, 43, 40], [40, 44, 45]), ([43, 46, 46, 40], [40, 43, 46]), ([40, 47], [40, 47]), ([48, 47, 0, 1, 2, 3, 4, 5, 6, 7, 8, 9, 10, 11, 12, 13, 14, 15, 16, 17, 18, 19, 20, 21, 22, 23, 24, 25, 26, 27, 28, 29, 30, 31, 32, 33, 34, 35, 36, 37, 38, 39, 40, 41, 42, 43, 44, 45, 46, 47, 48], [48])])
def lockgatelaw11_NetActs.B5 : List Nat := [0, 0, 3, 7, 15, 15, 63, 127, 255, 511, 511, 2047, 4095, 8191, 16383, 16383, 16383, 131071, 16383, 16383, 16383, 2097151, 4194303, 8388607, 16777215, 33554431, 33554431, 134217727, 33554431, 536870911, 1073741823, 2147483647, 4294967295, 4294967295, 17179869183, 4294967295, 4294967295, 137438953471, 274877906943, 549755813887, 1099511627775, 2199023255551, 2199023255551, 8796093022207, 2199023255551, 2199023255551, 70368744177663, 140737488355327, 281474976710655, 562949953421311]
theorem lockgatelaw11_NetActs.tab5 : rtab .any (opsOf Try.f5 5) = lockgatelaw11_NetActs.T5 := by kernel_rfl
theorem lockgatelaw11_NetActs.bits5 : waitsOk lockgatelaw11_NetActs.T5.2 lockgatelaw11_NetActs.B5 = true := by kernel_rfl
set_option maxHeartbeats 8000000 in
set_option maxRecDepth 100000 in
theorem lockgatelaw11_NetActs.calls (k : Nat) (a0_0 : Int) (A0_1 : Option Addr) (c0_1 : Nat) (l0_1 : List (S29)) (a1 : Int) (A2 : Option Addr) (c2 : Nat) (l2 : List Int) (a3 : Int) (r : Bool) (w : World) (hr0_1 : Kd.C k29 w A0_1 l0_1.length l0_1) (hc0_1 : l0_1.length ≤ c0_1) (hr2 : Kd.C (Kd.int .u8) w A2 l2.length l2) (hc2 : l2.length ≤ c2) (h : lockgatelaw11_NetActs.f k a0_0 l0_1 a1 l2 a3 = some r) (HR_ : Aside0 (r = true)) :
    Calls Try.prog 5 #[.agg #[.int .i64 a0_0, .slice A0_1 l0_1.length c0_1], .int .i64 a1, .slice A2 l2.length c2, .int .i64 a3] w fun e w' => e = .returned (.bool r) ∧ Below w.heap.size w w' := by
  have hu24 := Try.underlying24
  have hu29 := Try.underlying29
  have HR0_1 := Aside0.mk hr0_1
  have HC0_1 := Aside0.mk hc0_1
  clear hr0_1 hc0_1
  have HR2 := Aside0.mk hr2
  have HC2 := Aside0.mk hc2
  clear hr2 hc2
  have HB := Aside0.mk (Below.refl w.heap.size w)
  have H : ((lockgatelaw11_awake.f).bind fun t270 => (if t270 = true then ((lockgateref11_Right.f k a0_0 l0_1).bind fun t271 => (if t271 = true then (if (l2.length : Int) > 500 then (lockgatelaw11_NetActs.j0 k a1 l2 a3 true a0_0 l0_1) else (lockgatelaw11_NetActs.j0 k a1 l2 a3 (decide (a3 < 0)) a0_0 l0_1)) else (lockgatelaw11_NetActs.j0 k a1 l2 a3 true a0_0 l0_1))) else (lockgatelaw11_NetActs.j0 k a1 l2 a3 true a0_0 l0_1))) = some r := h
  clear h
  have HC5 := Aside0.mk H
  clear H
  go_enter Try.func5, Try.ntmps5
  go_upto_region 1 with (first | ((with_reducible refine gate_dst (N := 4) rfl ?_); (try (refine gate_guard (by rfl) ?_; dsimp only)); refine box_event ?hg (N := 4) ?hd (cs := #[.int .i64 a0_0, .slice A0_1 l0_1.length c0_1]) (t := 24) ?hr ?_; (case hd => rfl); (case hg => rfl); (case hr => first | (go_simp; done) | (go_simp; rfl)); intro gb269 hg w6 hbox hb; have n0_ := Aside0.mk (below_step (by repeat (first | (with_reducible first | exact HB.out | apply below_alloc | apply pw_below_drewN | apply below_drew1) | exact HB.out)) hb); have n1_ := Aside0.mk (hbox); have n2_ := Aside0.mk ((by rw [hg]; exact (below_size (by repeat (first | (with_reducible first | exact HB.out | apply below_alloc | apply pw_below_drewN | apply below_drew1) | exact HB.out))) : w.heap.size ≤ gb269)); have n3_ := Aside0.mk ((by rw [hg]; exact (below_size (by repeat (first | (with_reducible first | exact HB.out | apply below_alloc | apply pw_below_drewN | apply below_drew1) | exact HB.out))) : w.heap.size ≤ gb269)); clear HB; have HB := n0_; have BK269 := n1_; have GW269 := n2_; have GE269 := n3_; clear n0_ n1_ n2_ n3_; clear hb hbox hg))
  (try simp only [Act.put, List.setIfInBounds_toArray, List.set_cons_zero, List.set_cons_succ])
  go_cut [30] (fun v30 wc => ∃ (kq : Nat) (x30_4 : Bool), v30 = .bool x30_4 ∧ Aside0 (lockgatelaw11_NetActs.j0 kq a1 l2 a3 x30_4 a0_0 l0_1 = some r) ∧ Aside0 (kq ≤ k) ∧ Aside0 (wc.heap[gb269]? = some (.cells #[.int .i64 a0_0, (.slice A0_1 l0_1.length c0_1)] 24 (0, 0))) ∧ Aside0 (Below w.heap.size w wc))
  case first =>
    have H := HC5.out
    clear HC5
    replace H := Option.bind_eq_some_iff.mp H
    obtain ⟨t270, A70, H⟩ := H
    replace H : (if t270 = true then ((lockgateref11_Right.f k a0_0 l0_1).bind fun t271 => (if t271 = true then (if (l2.length : Int) > 500 then (lockgatelaw11_NetActs.j0 k a1 l2 a3 true a0_0 l0_1) else (lockgatelaw11_NetActs.j0 k a1 l2 a3 (decide (a3 < 0)) a0_0 l0_1)) else (lockgatelaw11_NetActs.j0 k a1 l2 a3 true a0_0 l0_1))) else (lockgatelaw11_NetActs.j0 k a1 l2 a3 true a0_0 l0_1)) = some r := H
    have A7 := Aside0.mk A70
    clear A70
    by_cases c8 : t270 = true
    · subst c8
      have H1 : ((lockgateref11_Right.f k a0_0 l0_1).bind fun t271 => (if t271 = true then (if (l2.length : Int) > 500 then (lockgatelaw11_NetActs.j0 k a1 l2 a3 true a0_0 l0_1) else (lockgatelaw11_NetActs.j0 k a1 l2 a3 (decide (a3 < 0)) a0_0 l0_1)) else (lockgatelaw11_NetActs.j0 k a1 l2 a3 true a0_0 l0_1))) = some r := by rw [if_pos rfl] at H; exact H
      clear H
      have H := H1
      clear H1
      replace H := Option.bind_eq_some_iff.mp H
      obtain ⟨t271, A90, H⟩ := H
      replace H : (if t271 = true then (if (l2.length : Int) > 500 then (lockgatelaw11_NetActs.j0 k a1 l2 a3 true a0_0 l0_1) else (lockgatelaw11_NetActs.j0 k a1 l2 a3 (decide (a3 < 0)) a0_0 l0_1)) else (lockgatelaw11_NetActs.j0 k a1 l2 a3 true a0_0 l0_1)) = some r := H
      have A9 := Aside0.mk A90
      clear A90
      by_cases c10 : t271 = true
      · subst c10
        have H1 : (if (l2.length : Int) > 500 then (lockgatelaw11_NetActs.j0 k a1 l2 a3 true a0_0 l0_1) else (lockgatelaw11_NetActs.j0 k a1 l2 a3 (decide (a3 < 0)) a0_0 l0_1)) = some r := by rw [if_pos rfl] at H; exact H
        clear H
        have H := H1
        clear H1
        by_cases c11 : (l2.length : Int) > 500
        · rw [if_pos c11] at H
          have c11b0 : decide (500 < (l2.length : Int)) = true := decide_eq_true c11
          have c11b1 : decide (500 < l2.length) = true := decide_eq_true (by omega)
          clear c11
          (first | rw [c11b0] | (simp only [i64_w, i32_w]; rw [c11b0]) | skip)
          have H' := Aside0.mk H
          clear H
          go_wp2_with (first | ((with_reducible refine gate_callee (f := 7) rfl ?_); refine goesL_ (some 15) rfl rfl Try.func7 (by kernel_rfl) rfl #[] rfl (by (try simp only [List.map_toArray, List.map_cons, List.map_nil]); first | done | rfl | (simp only [List.length_drop, List.length_take]; rfl)) ?_; (with_reducible refine (lockgatelaw11_awake.calls  true _ A7.out).mono ?_); rintro e w12 ⟨rfl, hb⟩; refine ⟨_, rfl, ?_⟩; have n0_ := Aside0.mk (blk_below (g := gb269) (o := .cells #[.int .i64 a0_0, .slice A0_1 l0_1.length c0_1] 24 (0, 0)) (by (with_reducible repeat (first | refine blk_drewN ?_ _ | refine blk_drew ?_ | refine blk_alloc ?_ _)); exact BK269.out) hb); have n1_ := Aside0.mk (below_step (by repeat (first | (with_reducible first | exact HB.out | apply below_alloc | apply pw_below_drewN | apply below_drew1 | refine below_set ?_ GE269.out) | exact HB.out)) hb); clear BK269; clear HB; have BK269 := n0_; have HB := n1_; clear n0_ n1_; (try clear hb); (try clear hb2); (try clear hk); (try clear hi); have hcz13_0 : w12.cell? ⟨gb269, 0, none⟩ = some (.int .i64 a0_0) := (blk_cell BK269.out 0).trans rfl; have hcz13_1 : w12.cell? ⟨gb269, 1, none⟩ = some (.slice A0_1 l0_1.length c0_1) := (blk_cell BK269.out 1).trans rfl; have hfz13_0 := blk_frozen BK269.out 0; have hfz13_1 := blk_frozen BK269.out 1) | (go_at_call 8; (with_reducible refine (lockgateref11_Right.calls k a0_0 _ _ l0_1 true _ ?side1 ?side2 A9.out).mono ?_); (case side1 => repeat (first | exact (Kd.C_below HR0_1.out HB.out) | (with_reducible refine Kd.C_alloc ?_ _) | (with_reducible refine Kd.C_drewN ?_ _) | (with_reducible refine Kd.C_drew ?_))); (case side2 => exact HC0_1.out); rintro e w14 ⟨rfl, hb⟩; have n0_ := Aside0.mk (blk_below (g := gb269) (o := .cells #[.int .i64 a0_0, .slice A0_1 l0_1.length c0_1] 24 (0, 0)) (by (with_reducible repeat (first | refine blk_drewN ?_ _ | refine blk_drew ?_ | refine blk_alloc ?_ _)); exact BK269.out) hb); have n1_ := Aside0.mk (below_step (by repeat (first | (with_reducible first | exact HB.out | apply below_alloc | apply pw_below_drewN | apply below_drew1 | refine below_set ?_ GE269.out) | exact HB.out)) hb); clear BK269; clear HB; have BK269 := n0_; have HB := n1_; clear n0_ n1_; (try clear hb); (try clear hb2); (try clear hk); (try clear hi)))
          go_meet
          case rel => exact ⟨_, (true), (by first | rfl | (simp; done) | (simp [*]; done)), H', ⟨by first | omega | exact Nat.le_refl _⟩, ⟨by (with_reducible repeat (first | refine blk_drewN ?_ _ | refine blk_drew ?_ | refine blk_alloc ?_ _)); exact BK269.out⟩, ⟨by repeat (first | (with_reducible first | exact HB.out | apply below_alloc | apply pw_below_drewN | apply below_drew1 | refine below_set ?_ GE269.out) | exact HB.out)⟩⟩
        · rw [if_neg c11] at H
          have c11b0 : decide (500 < (l2.length : Int)) = false := decide_eq_false c11
          have c11b1 : decide (500 < l2.length) = false := decide_eq_false (by omega)
          clear c11
          (first | rw [c11b0] | (simp only [i64_w, i32_w]; rw [c11b0]) | skip)
          have H' := Aside0.mk H
          clear H
          go_wp2_with (first | ((with_reducible refine gate_callee (f := 7) rfl ?_); refine goesL_ (some 15) rfl rfl Try.func7 (by kernel_rfl) rfl #[] rfl (by (try simp only [List.map_toArray, List.map_cons, List.map_nil]); first | done | rfl | (simp only [List.length_drop, List.length_take]; rfl)) ?_; (with_reducible refine (lockgatelaw11_awake.calls  true _ A7.out).mono ?_); rintro e w15 ⟨rfl, hb⟩; refine ⟨_, rfl, ?_⟩; have n0_ := Aside0.mk (blk_below (g := gb269) (o := .cells #[.int .i64 a0_0, .slice A0_1 l0_1.length c0_1] 24 (0, 0)) (by (with_reducible repeat (first | refine blk_drewN ?_ _ | refine blk_drew ?_ | refine blk_alloc ?_ _)); exact BK269.out) hb); have n1_ := Aside0.mk (below_step (by repeat (first | (with_reducible first | exact HB.out | apply below_alloc | apply pw_below_drewN | apply below_drew1 | refine below_set ?_ GE269.out) | exact HB.out)) hb); clear BK269; clear HB; have BK269 := n0_; have HB := n1_; clear n0_ n1_; (try clear hb); (try clear hb2); (try clear hk); (try clear hi); have hcz16_0 : w15.cell? ⟨gb269, 0, none⟩ = some (.int .i64 a0_0) := (blk_cell BK269.out 0).trans rfl; have hcz16_1 : w15.cell? ⟨gb269, 1, none⟩ = some (.slice A0_1 l0_1.length c0_1) := (blk_cell BK269.out 1).trans rfl; have hfz16_0 := blk_frozen BK269.out 0; have hfz16_1 := blk_frozen BK269.out 1) | (go_at_call 8; (with_reducible refine (lockgateref11_Right.calls k a0_0 _ _ l0_1 true _ ?side1 ?side2 A9.out).mono ?_); (case side1 => repeat (first | exact (Kd.C_below HR0_1.out HB.out) | (with_reducible refine Kd.C_alloc ?_ _) | (with_reducible refine Kd.C_drewN ?_ _) | (with_reducible refine Kd.C_drew ?_))); (case side2 => exact HC0_1.out); rintro e w17 ⟨rfl, hb⟩; have n0_ := Aside0.mk (blk_below (g := gb269) (o := .cells #[.int .i64 a0_0, .slice A0_1 l0_1.length c0_1] 24 (0, 0)) (by (with_reducible repeat (first | refine blk_drewN ?_ _ | refine blk_drew ?_ | refine blk_alloc ?_ _)); exact BK269.out) hb); have n1_ := Aside0.mk (below_step (by repeat (first | (with_reducible first | exact HB.out | apply below_alloc | apply pw_below_drewN | apply below_drew1 | refine below_set ?_ GE269.out) | exact HB.out)) hb); clear BK269; clear HB; have BK269 := n0_; have HB := n1_; clear n0_ n1_; (try clear hb); (try clear hb2); (try clear hk); (try clear hi)))
          go_meet
          case rel => exact ⟨_, (decide (a3 < 0)), (by first | rfl | (simp; done) | (simp [*]; done)), H', ⟨by first | omega | exact Nat.le_refl _⟩, ⟨by (with_reducible repeat (first | refine blk_drewN ?_ _ | refine blk_drew ?_ | refine blk_alloc ?_ _)); exact BK269.out⟩, ⟨by repeat (first | (with_reducible first | exact HB.out | apply below_alloc | apply pw_below_drewN | apply below_drew1 | refine below_set ?_ GE269.out) | exact HB.out)⟩⟩
      · replace c10 := Bool.eq_false_iff.mpr c10
        subst c10
        have H1 : (lockgatelaw11_NetActs.j0 k a1 l2 a3 true a0_0 l0_1) = some r := by rw [if_neg (show ¬ (false = true) by decide)] at H; exact H
        clear H
        have H := H1
        clear H1
        have H' := Aside0.mk H
        clear H
        go_wp2_with (first | ((with_reducible refine gate_callee (f := 7) rfl ?_); refine goesL_ (some 15) rfl rfl Try.func7 (by kernel_rfl) rfl #[] rfl (by (try simp only [List.map_toArray, List.map_cons, List.map_nil]); first | done | rfl | (simp only [List.length_drop, List.length_take]; rfl)) ?_; (with_reducible refine (lockgatelaw11_awake.calls  true _ A7.out).mono ?_); rintro e w18 ⟨rfl, hb⟩; refine ⟨_, rfl, ?_⟩; have n0_ := Aside0.mk (blk_below (g := gb269) (o := .cells #[.int .i64 a0_0, .slice A0_1 l0_1.length c0_1] 24 (0, 0)) (by (with_reducible repeat (first | refine blk_drewN ?_ _ | refine blk_drew ?_ | refine blk_alloc ?_ _)); exact BK269.out) hb); have n1_ := Aside0.mk (below_step (by repeat (first | (with_reducible first | exact HB.out | apply below_alloc | apply pw_below_drewN | apply below_drew1 | refine below_set ?_ GE269.out) | exact HB.out)) hb); clear BK269; clear HB; have BK269 := n0_; have HB := n1_; clear n0_ n1_; (try clear hb); (try clear hb2); (try clear hk); (try clear hi); have hcz19_0 : w18.cell? ⟨gb269, 0, none⟩ = some (.int .i64 a0_0) := (blk_cell BK269.out 0).trans rfl; have hcz19_1 : w18.cell? ⟨gb269, 1, none⟩ = some (.slice A0_1 l0_1.length c0_1) := (blk_cell BK269.out 1).trans rfl; have hfz19_0 := blk_frozen BK269.out 0; have hfz19_1 := blk_frozen BK269.out 1) | (go_at_call 8; (with_reducible refine (lockgateref11_Right.calls k a0_0 _ _ l0_1 false _ ?side1 ?side2 A9.out).mono ?_); (case side1 => repeat (first | exact (Kd.C_below HR0_1.out HB.out) | (with_reducible refine Kd.C_alloc ?_ _) | (with_reducible refine Kd.C_drewN ?_ _) | (with_reducible refine Kd.C_drew ?_))); (case side2 => exact HC0_1.out); rintro e w20 ⟨rfl, hb⟩; have n0_ := Aside0.mk (blk_below (g := gb269) (o := .cells #[.int .i64 a0_0, .slice A0_1 l0_1.length c0_1] 24 (0, 0)) (by (with_reducible repeat (first | refine blk_drewN ?_ _ | refine blk_drew ?_ | refine blk_alloc ?_ _)); exact BK269.out) hb); have n1_ := Aside0.mk (below_step (by repeat (first | (with_reducible first | exact HB.out | apply below_alloc | apply pw_below_drewN | apply below_drew1 | refine below_set ?_ GE269.out) | exact HB.out)) hb); clear BK269; clear HB; have BK269 := n0_; have HB := n1_; clear n0_ n1_; (try clear hb); (try clear hb2); (try clear hk); (try clear hi)))
        go_meet
        case rel => exact ⟨_, (true), (by first | rfl | (simp; done) | (simp [*]; done)), H', ⟨by first | omega | exact Nat.le_refl _⟩, ⟨by (with_reducible repeat (first | refine blk_drewN ?_ _ | refine blk_drew ?_ | refine blk_alloc ?_ _)); exact BK269.out⟩, ⟨by repeat (first | (with_reducible first | exact HB.out | apply below_alloc | apply pw_below_drewN | apply below_drew1 | refine below_set ?_ GE269.out) | exact HB.out)⟩⟩
    · replace c8 := Bool.eq_false_iff.mpr c8
      subst c8
      have H1 : (lockgatelaw11_NetActs.j0 k a1 l2 a3 true a0_0 l0_1) = some r := by rw [if_neg (show ¬ (false = true) by decide)] at H; exact H
      clear H
      have H := H1
      clear H1
      have H' := Aside0.mk H
      clear H
      go_wp2_with (first | ((with_reducible refine gate_callee (f := 7) rfl ?_); refine goesL_ (some 15) rfl rfl Try.func7 (by kernel_rfl) rfl #[] rfl (by (try simp only [List.map_toArray, List.map_cons, List.map_nil]); first | done | rfl | (simp only [List.length_drop, List.length_take]; rfl)) ?_; (with_reducible refine (lockgatelaw11_awake.calls  false _ A7.out).mono ?_); rintro e w21 ⟨rfl, hb⟩; refine ⟨_, rfl, ?_⟩; have n0_ := Aside0.mk (blk_below (g := gb269) (o := .cells #[.int .i64 a0_0, .slice A0_1 l0_1.length c0_1] 24 (0, 0)) (by (with_reducible repeat (first | refine blk_drewN ?_ _ | refine blk_drew ?_ | refine blk_alloc ?_ _)); exact BK269.out) hb); have n1_ := Aside0.mk (below_step (by repeat (first | (with_reducible first | exact HB.out | apply below_alloc | apply pw_below_drewN | apply below_drew1 | refine below_set ?_ GE269.out) | exact HB.out)) hb); clear BK269; clear HB; have BK269 := n0_; have HB := n1_; clear n0_ n1_; (try clear hb); (try clear hb2); (try clear hk); (try clear hi)))
      go_meet
      case rel => exact ⟨_, (true), (by first | rfl | (simp; done) | (simp [*]; done)), H', ⟨by first | omega | exact Nat.le_refl _⟩, ⟨by (with_reducible repeat (first | refine blk_drewN ?_ _ | refine blk_drew ?_ | refine blk_alloc ?_ _)); exact BK269.out⟩, ⟨by repeat (first | (with_reducible first | exact HB.out | apply below_alloc | apply pw_below_drewN | apply below_drew1 | refine below_set ?_ GE269.out) | exact HB.out)⟩⟩
  case rest =>
    clear HC5
    try clear c1
    try clear c2
    try clear p2
    try clear c5
    try clear c7
    try clear c8
    try clear c10
    try clear c11
    try clear c11b0
    try clear c11b1
    try clear hcz13_0
    try clear hcz13_1
    try clear hcz16_0
    try clear hcz16_1
    try clear hcz19_0
    try clear hcz19_1
    try clear hfz13_0
    try clear hfz13_1
    try clear hfz16_0
    try clear hfz16_1
    try clear hfz19_0
    try clear hfz19_1
    obtain ⟨kq, x30_4, rfl, HA, HJ4, BK269, HB⟩ := hcut
    cases kq with
    | zero => exact absurd HA.out (by simp [lockgatelaw11_NetActs.j0])
    | succ kj4 =>
      have H := HA.out
      clear HA
      simp only [lockgatelaw11_NetActs.j0] at H
      by_cases c22 : x30_4 = true
      · subst c22
        have H1 : ((lockgatelaw11_awake.f).bind fun t272 => (some t272)) = some r := by rw [if_pos rfl] at H; exact H
        clear H
        have H := H1
        clear H1
        replace H := Option.bind_eq_some_iff.mp H
        obtain ⟨t272, A230, H⟩ := H
        replace H : (some t272) = some r := H
        have A23 := Aside0.mk A230
        clear A230
        obtain rfl := Option.some.inj H
        go_wp2_with (first | ((with_reducible refine gate_callee (f := 7) rfl ?_); refine goesL_ (some 31) rfl rfl Try.func7 (by kernel_rfl) rfl #[] rfl (by (try simp only [List.map_toArray, List.map_cons, List.map_nil]); first | done | rfl | (simp only [List.length_drop, List.length_take]; rfl)) ?_; (with_reducible refine (lockgatelaw11_awake.calls  t272 _ A23.out).mono ?_); rintro e w24 ⟨rfl, hb⟩; refine ⟨_, rfl, ?_⟩; have n0_ := Aside0.mk (blk_below (g := gb269) (o := .cells #[.int .i64 a0_0, .slice A0_1 l0_1.length c0_1] 24 (0, 0)) (by (with_reducible repeat (first | refine blk_drewN ?_ _ | refine blk_drew ?_ | refine blk_alloc ?_ _)); exact BK269.out) hb); have n1_ := Aside0.mk (below_step (by repeat (first | (with_reducible first | exact HB.out | apply below_alloc | apply pw_below_drewN | apply below_drew1 | refine below_set ?_ GE269.out) | exact HB.out)) hb); clear BK269; clear HB; have BK269 := n0_; have HB := n1_; clear n0_ n1_; (try clear hb); (try clear hb2); (try clear hk); (try clear hi)))
        go_ret
        exact ⟨by first | rfl | (simp [errW_none, errW_some] <;> rfl) | (simp [*, errW_none, errW_some] <;> rfl), by repeat (first | (with_reducible first | exact HB.out | apply below_alloc | apply pw_below_drewN | apply below_drew1 | refine below_set ?_ GE269.out) | exact HB.out)⟩
      · replace c22 := Bool.eq_false_iff.mpr c22
        subst c22
        have H1 : ((net_Take.f kj4 a0_0 l0_1 a3).bind fun bt273 => ((lockgateref11_Take.f kj4 a0_0 l0_1 a3).bind fun bt285 => ((lockgateref11_SamePacket.f kj4 bt273.1 bt273.2.1 bt273.2.2.1 bt285.1 bt285.2.1 bt285.2.2.1).bind fun t297 => (if t297 = true then ((lockgateref11_Same.f kj4 bt273.2.2.2.1 bt273.2.2.2.2.1 bt285.2.2.2.1 bt285.2.2.2.2.1).bind fun t298 => (if t298 = true then (if (bt273.2.2.2.2.2 == bt285.2.2.2.2.2) = true then ((net_Send.f kj4 a0_0 l0_1 a1 l2).bind fun bt299 => ((lockgateref11_Send.f kj4 a0_0 l0_1 a1 l2).bind fun bt303 => ((lockgateref11_Same.f kj4 bt299.1 bt299.2 bt303.1 bt303.2).bind fun t307 => (if t307 = true then ((net_Drop.f kj4 a0_0 l0_1 a3).bind fun bt308 => ((lockgateref11_Same.f kj4 bt308.1 bt308.2 bt285.2.2.2.1 bt285.2.2.2.2.1).bind fun t312 => (if t312 = true then ((net_Copy.f kj4 a0_0 l0_1 a3).bind fun bt313 => ((lockgateref11_Copy.f kj4 a0_0 l0_1 a3).bind fun bt317 => ((lockgateref11_Same.f kj4 bt313.1 bt313.2 bt317.1 bt317.2).bind fun t321 => (if t321 = true then ((net_Cut.f kj4 a0_0 l0_1 a1).bind fun bt322 => ((lockgateref11_Cut.f kj4 a0_0 l0_1 a1).bind fun bt326 => ((lockgateref11_Same.f kj4 bt322.1 bt322.2 bt326.1 bt326.2).bind fun t330 => (some t330)))) else (some false))))) else (some false)))) else (some false))))) else (some false)) else (some false))) else (some false))))) = some r := by rw [if_neg (show ¬ (false = true) by decide)] at H; exact H
        clear H
        have H := H1
        clear H1
        replace H := Option.bind_eq_some_iff.mp H
        obtain ⟨⟨t273, t274, t275, t278, t279, t282⟩, A250, H⟩ := H
        replace H : ((lockgateref11_Take.f kj4 a0_0 l0_1 a3).bind fun bt285 => ((lockgateref11_SamePacket.f kj4 t273 t274 t275 bt285.1 bt285.2.1 bt285.2.2.1).bind fun t297 => (if t297 = true then ((lockgateref11_Same.f kj4 t278 t279 bt285.2.2.2.1 bt285.2.2.2.2.1).bind fun t298 => (if t298 = true then (if (t282 == bt285.2.2.2.2.2) = true then ((net_Send.f kj4 a0_0 l0_1 a1 l2).bind fun bt299 => ((lockgateref11_Send.f kj4 a0_0 l0_1 a1 l2).bind fun bt303 => ((lockgateref11_Same.f kj4 bt299.1 bt299.2 bt303.1 bt303.2).bind fun t307 => (if t307 = true then ((net_Drop.f kj4 a0_0 l0_1 a3).bind fun bt308 => ((lockgateref11_Same.f kj4 bt308.1 bt308.2 bt285.2.2.2.1 bt285.2.2.2.2.1).bind fun t312 => (if t312 = true then ((net_Copy.f kj4 a0_0 l0_1 a3).bind fun bt313 => ((lockgateref11_Copy.f kj4 a0_0 l0_1 a3).bind fun bt317 => ((lockgateref11_Same.f kj4 bt313.1 bt313.2 bt317.1 bt317.2).bind fun t321 => (if t321 = true then ((net_Cut.f kj4 a0_0 l0_1 a1).bind fun bt322 => ((lockgateref11_Cut.f kj4 a0_0 l0_1 a1).bind fun bt326 => ((lockgateref11_Same.f kj4 bt322.1 bt322.2 bt326.1 bt326.2).bind fun t330 => (some t330)))) else (some false))))) else (some false)))) else (some false))))) else (some false)) else (some false))) else (some false)))) = some r := H
        have A25 := Aside0.mk A250
        clear A250
        replace H := Option.bind_eq_some_iff.mp H
        obtain ⟨⟨t285, t286, t287, t290, t291, t294⟩, A260, H⟩ := H
        replace H : ((lockgateref11_SamePacket.f kj4 t273 t274 t275 t285 t286 t287).bind fun t297 => (if t297 = true then ((lockgateref11_Same.f kj4 t278 t279 t290 t291).bind fun t298 => (if t298 = true then (if (t282 == t294) = true then ((net_Send.f kj4 a0_0 l0_1 a1 l2).bind fun bt299 => ((lockgateref11_Send.f kj4 a0_0 l0_1 a1 l2).bind fun bt303 => ((lockgateref11_Same.f kj4 bt299.1 bt299.2 bt303.1 bt303.2).bind fun t307 => (if t307 = true then ((net_Drop.f kj4 a0_0 l0_1 a3).bind fun bt308 => ((lockgateref11_Same.f kj4 bt308.1 bt308.2 t290 t291).bind fun t312 => (if t312 = true then ((net_Copy.f kj4 a0_0 l0_1 a3).bind fun bt313 => ((lockgateref11_Copy.f kj4 a0_0 l0_1 a3).bind fun bt317 => ((lockgateref11_Same.f kj4 bt313.1 bt313.2 bt317.1 bt317.2).bind fun t321 => (if t321 = true then ((net_Cut.f kj4 a0_0 l0_1 a1).bind fun bt322 => ((lockgateref11_Cut.f kj4 a0_0 l0_1 a1).bind fun bt326 => ((lockgateref11_Same.f kj4 bt322.1 bt322.2 bt326.1 bt326.2).bind fun t330 => (some t330)))) else (some false))))) else (some false)))) else (some false))))) else (some false)) else (some false))) else (some false))) = some r := H
        have A26 := Aside0.mk A260
        clear A260
        replace H := Option.bind_eq_some_iff.mp H
        obtain ⟨t297, A270, H⟩ := H
        replace H : (if t297 = true then ((lockgateref11_Same.f kj4 t278 t279 t290 t291).bind fun t298 => (if t298 = true then (if (t282 == t294) = true then ((net_Send.f kj4 a0_0 l0_1 a1 l2).bind fun bt299 => ((lockgateref11_Send.f kj4 a0_0 l0_1 a1 l2).bind fun bt303 => ((lockgateref11_Same.f kj4 bt299.1 bt299.2 bt303.1 bt303.2).bind fun t307 => (if t307 = true then ((net_Drop.f kj4 a0_0 l0_1 a3).bind fun bt308 => ((lockgateref11_Same.f kj4 bt308.1 bt308.2 t290 t291).bind fun t312 => (if t312 = true then ((net_Copy.f kj4 a0_0 l0_1 a3).bind fun bt313 => ((lockgateref11_Copy.f kj4 a0_0 l0_1 a3).bind fun bt317 => ((lockgateref11_Same.f kj4 bt313.1 bt313.2 bt317.1 bt317.2).bind fun t321 => (if t321 = true then ((net_Cut.f kj4 a0_0 l0_1 a1).bind fun bt322 => ((lockgateref11_Cut.f kj4 a0_0 l0_1 a1).bind fun bt326 => ((lockgateref11_Same.f kj4 bt322.1 bt322.2 bt326.1 bt326.2).bind fun t330 => (some t330)))) else (some false))))) else (some false)))) else (some false))))) else (some false)) else (some false))) else (some false)) = some r := H
        have A27 := Aside0.mk A270
        clear A270
        by_cases c28 : t297 = true
        · subst c28
          have H1 : ((lockgateref11_Same.f kj4 t278 t279 t290 t291).bind fun t298 => (if t298 = true then (if (t282 == t294) = true then ((net_Send.f kj4 a0_0 l0_1 a1 l2).bind fun bt299 => ((lockgateref11_Send.f kj4 a0_0 l0_1 a1 l2).bind fun bt303 => ((lockgateref11_Same.f kj4 bt299.1 bt299.2 bt303.1 bt303.2).bind fun t307 => (if t307 = true then ((net_Drop.f kj4 a0_0 l0_1 a3).bind fun bt308 => ((lockgateref11_Same.f kj4 bt308.1 bt308.2 t290 t291).bind fun t312 => (if t312 = true then ((net_Copy.f kj4 a0_0 l0_1 a3).bind fun bt313 => ((lockgateref11_Copy.f kj4 a0_0 l0_1 a3).bind fun bt317 => ((lockgateref11_Same.f kj4 bt313.1 bt313.2 bt317.1 bt317.2).bind fun t321 => (if t321 = true then ((net_Cut.f kj4 a0_0 l0_1 a1).bind fun bt322 => ((lockgateref11_Cut.f kj4 a0_0 l0_1 a1).bind fun bt326 => ((lockgateref11_Same.f kj4 bt322.1 bt322.2 bt326.1 bt326.2).bind fun t330 => (some t330)))) else (some false))))) else (some false)))) else (some false))))) else (some false)) else (some false))) = some r := by rw [if_pos rfl] at H; exact H
          clear H
          have H := H1
          clear H1
          replace H := Option.bind_eq_some_iff.mp H
          obtain ⟨t298, A290, H⟩ := H
          replace H : (if t298 = true then (if (t282 == t294) = true then ((net_Send.f kj4 a0_0 l0_1 a1 l2).bind fun bt299 => ((lockgateref11_Send.f kj4 a0_0 l0_1 a1 l2).bind fun bt303 => ((lockgateref11_Same.f kj4 bt299.1 bt299.2 bt303.1 bt303.2).bind fun t307 => (if t307 = true then ((net_Drop.f kj4 a0_0 l0_1 a3).bind fun bt308 => ((lockgateref11_Same.f kj4 bt308.1 bt308.2 t290 t291).bind fun t312 => (if t312 = true then ((net_Copy.f kj4 a0_0 l0_1 a3).bind fun bt313 => ((lockgateref11_Copy.f kj4 a0_0 l0_1 a3).bind fun bt317 => ((lockgateref11_Same.f kj4 bt313.1 bt313.2 bt317.1 bt317.2).bind fun t321 => (if t321 = true then ((net_Cut.f kj4 a0_0 l0_1 a1).bind fun bt322 => ((lockgateref11_Cut.f kj4 a0_0 l0_1 a1).bind fun bt326 => ((lockgateref11_Same.f kj4 bt322.1 bt322.2 bt326.1 bt326.2).bind fun t330 => (some t330)))) else (some false))))) else (some false)))) else (some false))))) else (some false)) else (some false)) = some r := H
          have A29 := Aside0.mk A290
          clear A290
          by_cases c30 : t298 = true
          · subst c30
            have H1 : (if (t282 == t294) = true then ((net_Send.f kj4 a0_0 l0_1 a1 l2).bind fun bt299 => ((lockgateref11_Send.f kj4 a0_0 l0_1 a1 l2).bind fun bt303 => ((lockgateref11_Same.f kj4 bt299.1 bt299.2 bt303.1 bt303.2).bind fun t307 => (if t307 = true then ((net_Drop.f kj4 a0_0 l0_1 a3).bind fun bt308 => ((lockgateref11_Same.f kj4 bt308.1 bt308.2 t290 t291).bind fun t312 => (if t312 = true then ((net_Copy.f kj4 a0_0 l0_1 a3).bind fun bt313 => ((lockgateref11_Copy.f kj4 a0_0 l0_1 a3).bind fun bt317 => ((lockgateref11_Same.f kj4 bt313.1 bt313.2 bt317.1 bt317.2).bind fun t321 => (if t321 = true then ((net_Cut.f kj4 a0_0 l0_1 a1).bind fun bt322 => ((lockgateref11_Cut.f kj4 a0_0 l0_1 a1).bind fun bt326 => ((lockgateref11_Same.f kj4 bt322.1 bt322.2 bt326.1 bt326.2).bind fun t330 => (some t330)))) else (some false))))) else (some false)))) else (some false))))) else (some false)) = some r := by rw [if_pos rfl] at H; exact H
            clear H
            have H := H1
            clear H1
            by_cases c31 : (t282 == t294) = true
            · rw [if_pos c31] at H
              have c31b0 : (t282 == t294) = true := c31
              (try (have c31b1 : decide (t282 = t294) = true := by simpa using c31))
              (try (have c31b2 : (t282 == t294) = true := by simpa using c31))
              clear c31
              replace H := Option.bind_eq_some_iff.mp H
              obtain ⟨⟨t299, t300⟩, A320, H⟩ := H
              replace H : ((lockgateref11_Send.f kj4 a0_0 l0_1 a1 l2).bind fun bt303 => ((lockgateref11_Same.f kj4 t299 t300 bt303.1 bt303.2).bind fun t307 => (if t307 = true then ((net_Drop.f kj4 a0_0 l0_1 a3).bind fun bt308 => ((lockgateref11_Same.f kj4 bt308.1 bt308.2 t290 t291).bind fun t312 => (if t312 = true then ((net_Copy.f kj4 a0_0 l0_1 a3).bind fun bt313 => ((lockgateref11_Copy.f kj4 a0_0 l0_1 a3).bind fun bt317 => ((lockgateref11_Same.f kj4 bt313.1 bt313.2 bt317.1 bt317.2).bind fun t321 => (if t321 = true then ((net_Cut.f kj4 a0_0 l0_1 a1).bind fun bt322 => ((lockgateref11_Cut.f kj4 a0_0 l0_1 a1).bind fun bt326 => ((lockgateref11_Same.f kj4 bt322.1 bt322.2 bt326.1 bt326.2).bind fun t330 => (some t330)))) else (some false))))) else (some false)))) else (some false)))) = some r := H
              have A32 := Aside0.mk A320
              clear A320
              replace H := Option.bind_eq_some_iff.mp H
              obtain ⟨⟨t303, t304⟩, A330, H⟩ := H
              replace H : ((lockgateref11_Same.f kj4 t299 t300 t303 t304).bind fun t307 => (if t307 = true then ((net_Drop.f kj4 a0_0 l0_1 a3).bind fun bt308 => ((lockgateref11_Same.f kj4 bt308.1 bt308.2 t290 t291).bind fun t312 => (if t312 = true then ((net_Copy.f kj4 a0_0 l0_1 a3).bind fun bt313 => ((lockgateref11_Copy.f kj4 a0_0 l0_1 a3).bind fun bt317 => ((lockgateref11_Same.f kj4 bt313.1 bt313.2 bt317.1 bt317.2).bind fun t321 => (if t321 = true then ((net_Cut.f kj4 a0_0 l0_1 a1).bind fun bt322 => ((lockgateref11_Cut.f kj4 a0_0 l0_1 a1).bind fun bt326 => ((lockgateref11_Same.f kj4 bt322.1 bt322.2 bt326.1 bt326.2).bind fun t330 => (some t330)))) else (some false))))) else (some false)))) else (some false))) = some r := H
              have A33 := Aside0.mk A330
              clear A330
              replace H := Option.bind_eq_some_iff.mp H
              obtain ⟨t307, A340, H⟩ := H
              replace H : (if t307 = true then ((net_Drop.f kj4 a0_0 l0_1 a3).bind fun bt308 => ((lockgateref11_Same.f kj4 bt308.1 bt308.2 t290 t291).bind fun t312 => (if t312 = true then ((net_Copy.f kj4 a0_0 l0_1 a3).bind fun bt313 => ((lockgateref11_Copy.f kj4 a0_0 l0_1 a3).bind fun bt317 => ((lockgateref11_Same.f kj4 bt313.1 bt313.2 bt317.1 bt317.2).bind fun t321 => (if t321 = true then ((net_Cut.f kj4 a0_0 l0_1 a1).bind fun bt322 => ((lockgateref11_Cut.f kj4 a0_0 l0_1 a1).bind fun bt326 => ((lockgateref11_Same.f kj4 bt322.1 bt322.2 bt326.1 bt326.2).bind fun t330 => (some t330)))) else (some false))))) else (some false)))) else (some false)) = some r := H
              have A34 := Aside0.mk A340
              clear A340
              by_cases c35 : t307 = true
              · subst c35
                have H1 : ((net_Drop.f kj4 a0_0 l0_1 a3).bind fun bt308 => ((lockgateref11_Same.f kj4 bt308.1 bt308.2 t290 t291).bind fun t312 => (if t312 = true then ((net_Copy.f kj4 a0_0 l0_1 a3).bind fun bt313 => ((lockgateref11_Copy.f kj4 a0_0 l0_1 a3).bind fun bt317 => ((lockgateref11_Same.f kj4 bt313.1 bt313.2 bt317.1 bt317.2).bind fun t321 => (if t321 = true then ((net_Cut.f kj4 a0_0 l0_1 a1).bind fun bt322 => ((lockgateref11_Cut.f kj4 a0_0 l0_1 a1).bind fun bt326 => ((lockgateref11_Same.f kj4 bt322.1 bt322.2 bt326.1 bt326.2).bind fun t330 => (some t330)))) else (some false))))) else (some false)))) = some r := by rw [if_pos rfl] at H; exact H
                clear H
                have H := H1
                clear H1
                replace H := Option.bind_eq_some_iff.mp H
                obtain ⟨⟨t308, t309⟩, A360, H⟩ := H
                replace H : ((lockgateref11_Same.f kj4 t308 t309 t290 t291).bind fun t312 => (if t312 = true then ((net_Copy.f kj4 a0_0 l0_1 a3).bind fun bt313 => ((lockgateref11_Copy.f kj4 a0_0 l0_1 a3).bind fun bt317 => ((lockgateref11_Same.f kj4 bt313.1 bt313.2 bt317.1 bt317.2).bind fun t321 => (if t321 = true then ((net_Cut.f kj4 a0_0 l0_1 a1).bind fun bt322 => ((lockgateref11_Cut.f kj4 a0_0 l0_1 a1).bind fun bt326 => ((lockgateref11_Same.f kj4 bt322.1 bt322.2 bt326.1 bt326.2).bind fun t330 => (some t330)))) else (some false))))) else (some false))) = some r := H
                have A36 := Aside0.mk A360
                clear A360
                replace H := Option.bind_eq_some_iff.mp H
                obtain ⟨t312, A370, H⟩ := H
                replace H : (if t312 = true then ((net_Copy.f kj4 a0_0 l0_1 a3).bind fun bt313 => ((lockgateref11_Copy.f kj4 a0_0 l0_1 a3).bind fun bt317 => ((lockgateref11_Same.f kj4 bt313.1 bt313.2 bt317.1 bt317.2).bind fun t321 => (if t321 = true then ((net_Cut.f kj4 a0_0 l0_1 a1).bind fun bt322 => ((lockgateref11_Cut.f kj4 a0_0 l0_1 a1).bind fun bt326 => ((lockgateref11_Same.f kj4 bt322.1 bt322.2 bt326.1 bt326.2).bind fun t330 => (some t330)))) else (some false))))) else (some false)) = some r := H
                have A37 := Aside0.mk A370
                clear A370
                by_cases c38 : t312 = true
                · subst c38
                  have H1 : ((net_Copy.f kj4 a0_0 l0_1 a3).bind fun bt313 => ((lockgateref11_Copy.f kj4 a0_0 l0_1 a3).bind fun bt317 => ((lockgateref11_Same.f kj4 bt313.1 bt313.2 bt317.1 bt317.2).bind fun t321 => (if t321 = true then ((net_Cut.f kj4 a0_0 l0_1 a1).bind fun bt322 => ((lockgateref11_Cut.f kj4 a0_0 l0_1 a1).bind fun bt326 => ((lockgateref11_Same.f kj4 bt322.1 bt322.2 bt326.1 bt326.2).bind fun t330 => (some t330)))) else (some false))))) = some r := by rw [if_pos rfl] at H; exact H
                  clear H
                  have H := H1
                  clear H1
                  replace H := Option.bind_eq_some_iff.mp H
                  obtain ⟨⟨t313, t314⟩, A390, H⟩ := H
                  replace H : ((lockgateref11_Copy.f kj4 a0_0 l0_1 a3).bind fun bt317 => ((lockgateref11_Same.f kj4 t313 t314 bt317.1 bt317.2).bind fun t321 => (if t321 = true then ((net_Cut.f kj4 a0_0 l0_1 a1).bind fun bt322 => ((lockgateref11_Cut.f kj4 a0_0 l0_1 a1).bind fun bt326 => ((lockgateref11_Same.f kj4 bt322.1 bt322.2 bt326.1 bt326.2).bind fun t330 => (some t330)))) else (some false)))) = some r := H
                  have A39 := Aside0.mk A390
                  clear A390
                  replace H := Option.bind_eq_some_iff.mp H
                  obtain ⟨⟨t317, t318⟩, A400, H⟩ := H
                  replace H : ((lockgateref11_Same.f kj4 t313 t314 t317 t318).bind fun t321 => (if t321 = true then ((net_Cut.f kj4 a0_0 l0_1 a1).bind fun bt322 => ((lockgateref11_Cut.f kj4 a0_0 l0_1 a1).bind fun bt326 => ((lockgateref11_Same.f kj4 bt322.1 bt322.2 bt326.1 bt326.2).bind fun t330 => (some t330)))) else (some false))) = some r := H
                  have A40 := Aside0.mk A400
                  clear A400
                  replace H := Option.bind_eq_some_iff.mp H
                  obtain ⟨t321, A410, H⟩ := H
                  replace H : (if t321 = true then ((net_Cut.f kj4 a0_0 l0_1 a1).bind fun bt322 => ((lockgateref11_Cut.f kj4 a0_0 l0_1 a1).bind fun bt326 => ((lockgateref11_Same.f kj4 bt322.1 bt322.2 bt326.1 bt326.2).bind fun t330 => (some t330)))) else (some false)) = some r := H
                  have A41 := Aside0.mk A410
                  clear A410
                  by_cases c42 : t321 = true
                  · subst c42
                    have H1 : ((net_Cut.f kj4 a0_0 l0_1 a1).bind fun bt322 => ((lockgateref11_Cut.f kj4 a0_0 l0_1 a1).bind fun bt326 => ((lockgateref11_Same.f kj4 bt322.1 bt322.2 bt326.1 bt326.2).bind fun t330 => (some t330)))) = some r := by rw [if_pos rfl] at H; exact H
                    clear H
                    have H := H1
                    clear H1
                    replace H := Option.bind_eq_some_iff.mp H
                    obtain ⟨⟨t322, t323⟩, A430, H⟩ := H
                    replace H : ((lockgateref11_Cut.f kj4 a0_0 l0_1 a1).bind fun bt326 => ((lockgateref11_Same.f kj4 t322 t323 bt326.1 bt326.2).bind fun t330 => (some t330))) = some r := H
                    have A43 := Aside0.mk A430
                    clear A430
                    replace H := Option.bind_eq_some_iff.mp H
                    obtain ⟨⟨t326, t327⟩, A440, H⟩ := H
                    replace H : ((lockgateref11_Same.f kj4 t322 t323 t326 t327).bind fun t330 => (some t330)) = some r := H
                    have A44 := Aside0.mk A440
                    clear A440
                    replace H := Option.bind_eq_some_iff.mp H
                    obtain ⟨t330, A450, H⟩ := H
                    replace H : (some t330) = some r := H
                    have A45 := Aside0.mk A450
                    clear A450
                    obtain rfl := Option.some.inj H
                    have hcz46_0 : wc.cell? ⟨gb269, 0, none⟩ = some (.int .i64 a0_0) := (blk_cell BK269.out 0).trans rfl
                    have hcz46_1 : wc.cell? ⟨gb269, 1, none⟩ = some (.slice A0_1 l0_1.length c0_1) := (blk_cell BK269.out 1).trans rfl
                    have hfz46_0 := blk_frozen BK269.out 0
                    have hfz46_1 := blk_frozen BK269.out 1
                    try go_wp2_with (first | ((with_reducible refine gate_callee (f := 11) rfl ?_); refine goesL_ (some 35) rfl rfl Try.func11 (by kernel_rfl) rfl #[.agg #[.int .i64 a0_0, .slice A0_1 l0_1.length c0_1], .int .i64 a3] rfl (by (try simp only [List.map_toArray, List.map_cons, List.map_nil]); first | done | rfl | (simp only [List.length_drop, List.length_take]; rfl)) ?_; (with_reducible refine (net_Take.calls kj4 a0_0 _ _ l0_1 a3 t273 t274 t275 t278 t279 t282 _ ?side1 ?side2 A25.out).mono ?_); (case side1 => repeat (first | exact (Kd.C_below HR0_1.out HB.out) | (with_reducible refine Kd.C_alloc ?_ _) | (with_reducible refine Kd.C_drewN ?_ _) | (with_reducible refine Kd.C_drew ?_))); (case side2 => exact HC0_1.out); rintro e w47 ⟨v276, v280, rfl, ho0, ho1, hb⟩; refine ⟨_, rfl, ?_⟩; have n0_ := Aside0.mk (Kd.R_lower ho0 (below_size (by repeat (first | (with_reducible first | exact HB.out | apply below_alloc | apply pw_below_drewN | apply below_drew1 | refine below_set ?_ GE269.out) | exact HB.out)))); have n1_ := Aside0.mk (Kd.N_lower (Kd.N_mono (ok' := fun k_ => some k_ ≠ (v276 : Value).ownBlock ∧ k_ ≠ gb269) (Kd.S_N (Kd.S_bound ho1)) (fun k_ hk_ => ⟨hk_.1, (Kd.freshB (g := gb269) (o := .cells #[.int .i64 a0_0, .slice A0_1 l0_1.length c0_1] 24 (0, 0)) (by (with_reducible repeat (first | refine blk_drewN ?_ _ | refine blk_drew ?_ | refine blk_alloc ?_ _)); exact BK269.out) k_ hk_.2.1)⟩)) (below_size (by repeat (first | (with_reducible first | exact HB.out | apply below_alloc | apply pw_below_drewN | apply below_drew1 | refine below_set ?_ GE269.out) | exact HB.out)))); have n2_ := Aside0.mk (blk_below (g := gb269) (o := .cells #[.int .i64 a0_0, .slice A0_1 l0_1.length c0_1] 24 (0, 0)) (by (with_reducible repeat (first | refine blk_drewN ?_ _ | refine blk_drew ?_ | refine blk_alloc ?_ _)); exact BK269.out) hb); have n3_ := Aside0.mk (below_step (by repeat (first | (with_reducible first | exact HB.out | apply below_alloc | apply pw_below_drewN | apply below_drew1 | refine below_set ?_ GE269.out) | exact HB.out)) hb); clear BK269; clear HB; have HO277 := n0_; have HO281 := n1_; have BK269 := n2_; have HB := n3_; clear n0_ n1_ n2_ n3_; (try clear hb); (try clear hb2); (try clear hk); (try clear hi); (try clear ho0); (try clear ho1)) | ((with_reducible refine gate_dst (N := 9) rfl ?_); (try (refine gate_guard (by rfl) ?_; dsimp only)); refine box_event ?hg (N := 9) ?hd (cs := #[.int .i64 0, .int .i64 0, .slice none 0 0]) (t := 29) ?hr ?_; (case hd => rfl); (case hg => rfl); (case hr => first | (go_simp; done) | (go_simp; rfl)); intro gb283 hg w48 hbox hb; have n0_ := Aside0.mk (Kd.R_below (by (with_reducible repeat (first | apply Kd.R_alloc | apply Kd.R_drewN | apply Kd.R_drew)); exact HO277.out) hb); have n1_ := Aside0.mk (Kd.N_below (Kd.N_elderB (by (with_reducible repeat (first | apply Kd.N_alloc | apply Kd.N_drewN | apply Kd.N_drew)); exact HO281.out) gb283 (Nat.le_of_eq hg.symm)) hb); have n2_ := Aside0.mk (blk_below (g := gb269) (o := .cells #[.int .i64 a0_0, .slice A0_1 l0_1.length c0_1] 24 (0, 0)) (by (with_reducible repeat (first | refine blk_drewN ?_ _ | refine blk_drew ?_ | refine blk_alloc ?_ _)); exact BK269.out) hb); have n3_ := Aside0.mk (below_step (by repeat (first | (with_reducible first | exact HB.out | apply below_alloc | apply pw_below_drewN | apply below_drew1 | refine below_set ?_ GE269.out) | exact HB.out)) hb); have n4_ := Aside0.mk (hbox); have n5_ := Aside0.mk ((by rw [hg]; exact (below_size (by repeat (first | (with_reducible first | exact HB.out | apply below_alloc | apply pw_below_drewN | apply below_drew1 | refine below_set ?_ GE269.out) | exact HB.out))) : w.heap.size ≤ gb283)); have n6_ := Aside0.mk ((by rw [hg]; exact (below_size (by repeat (first | (with_reducible first | exact HB.out | apply below_alloc | apply pw_below_drewN | apply below_drew1 | refine below_set ?_ GE269.out) | exact HB.out))) : w.heap.size ≤ gb283)); have n7_ := Aside0.mk ((by rw [hg]; exact Nat.ne_of_lt (blk_lt (g := gb269) (o := .cells #[.int .i64 a0_0, .slice A0_1 l0_1.length c0_1] 24 (0, 0)) (by (with_reducible repeat (first | refine blk_drewN ?_ _ | refine blk_drew ?_ | refine blk_alloc ?_ _)); exact BK269.out)) : gb269 ≠ gb283)); have n8_ := Aside0.mk ((by rw [hg]; exact Nat.ne_of_gt (blk_lt (g := gb269) (o := .cells #[.int .i64 a0_0, .slice A0_1 l0_1.length c0_1] 24 (0, 0)) (by (with_reducible repeat (first | refine blk_drewN ?_ _ | refine blk_drew ?_ | refine blk_alloc ?_ _)); exact BK269.out)) : gb283 ≠ gb269)); clear HO277; clear HO281; clear BK269; clear HB; have HO277 := n0_; have HO281 := n1_; have BK269 := n2_; have HB := n3_; have BK283 := n4_; have GW283 := n5_; have GE283 := n6_; have NB269_283 := n7_; have NB283_269 := n8_; clear n0_ n1_ n2_ n3_ n4_ n5_ n6_ n7_ n8_; clear hb hbox hg) | ((with_reducible refine gate_dst (N := 10) rfl ?_); (try (refine gate_guard (by rfl) ?_; dsimp only)); refine box_event ?hg (N := 10) ?hd (cs := #[.int .i64 0, .slice none 0 0]) (t := 24) ?hr ?_; (case hd => rfl); (case hg => rfl); (case hr => first | (go_simp; done) | (go_simp; rfl)); intro gb284 hg w49 hbox hb; have n0_ := Aside0.mk (Kd.R_below (by (with_reducible repeat (first | apply Kd.R_alloc | apply Kd.R_drewN | apply Kd.R_drew)); exact HO277.out) hb); have n1_ := Aside0.mk (Kd.N_below (Kd.N_elderB (by (with_reducible repeat (first | apply Kd.N_alloc | apply Kd.N_drewN | apply Kd.N_drew)); exact HO281.out) gb284 (Nat.le_of_eq hg.symm)) hb); have n2_ := Aside0.mk (blk_below (g := gb269) (o := .cells #[.int .i64 a0_0, .slice A0_1 l0_1.length c0_1] 24 (0, 0)) (by (with_reducible repeat (first | refine blk_drewN ?_ _ | refine blk_drew ?_ | refine blk_alloc ?_ _)); exact BK269.out) hb); have n3_ := Aside0.mk (blk_below (g := gb283) (o := .cells #[.int .i64 0, .int .i64 0, .slice none 0 0] 29 (0, 0)) (by (with_reducible repeat (first | refine blk_drewN ?_ _ | refine blk_drew ?_ | refine blk_alloc ?_ _)); exact BK283.out) hb); have n4_ := Aside0.mk (below_step (by repeat (first | (with_reducible first | exact HB.out | apply below_alloc | apply pw_below_drewN | apply below_drew1 | refine below_set ?_ GE269.out | refine below_set ?_ GE283.out) | exact HB.out)) hb); have n5_ := Aside0.mk (hbox); have n6_ := Aside0.mk ((by rw [hg]; exact (below_size (by repeat (first | (with_reducible first | exact HB.out | apply below_alloc | apply pw_below_drewN | apply below_drew1 | refine below_set ?_ GE269.out | refine below_set ?_ GE283.out) | exact HB.out))) : w.heap.size ≤ gb284)); have n7_ := Aside0.mk ((by rw [hg]; exact (below_size (by repeat (first | (with_reducible first | exact HB.out | apply below_alloc | apply pw_below_drewN | apply below_drew1 | refine below_set ?_ GE269.out | refine below_set ?_ GE283.out) | exact HB.out))) : w.heap.size ≤ gb284)); have n8_ := Aside0.mk ((by rw [hg]; exact Nat.ne_of_lt (blk_lt (g := gb269) (o := .cells #[.int .i64 a0_0, .slice A0_1 l0_1.length c0_1] 24 (0, 0)) (by (with_reducible repeat (first | refine blk_drewN ?_ _ | refine blk_drew ?_ | refine blk_alloc ?_ _)); exact BK269.out)) : gb269 ≠ gb284)); have n9_ := Aside0.mk ((by rw [hg]; exact Nat.ne_of_gt (blk_lt (g := gb269) (o := .cells #[.int .i64 a0_0, .slice A0_1 l0_1.length c0_1] 24 (0, 0)) (by (with_reducible repeat (first | refine blk_drewN ?_ _ | refine blk_drew ?_ | refine blk_alloc ?_ _)); exact BK269.out)) : gb284 ≠ gb269)); have n10_ := Aside0.mk ((by rw [hg]; exact Nat.ne_of_lt (blk_lt (g := gb283) (o := .cells #[.int .i64 0, .int .i64 0, .slice none 0 0] 29 (0, 0)) (by (with_reducible repeat (first | refine blk_drewN ?_ _ | refine blk_drew ?_ | refine blk_alloc ?_ _)); exact BK283.out)) : gb283 ≠ gb284)); have n11_ := Aside0.mk ((by rw [hg]; exact Nat.ne_of_gt (blk_lt (g := gb283) (o := .cells #[.int .i64 0, .int .i64 0, .slice none 0 0] 29 (0, 0)) (by (with_reducible repeat (first | refine blk_drewN ?_ _ | refine blk_drew ?_ | refine blk_alloc ?_ _)); exact BK283.out)) : gb284 ≠ gb283)); clear HO277; clear HO281; clear BK269; clear BK283; clear HB; have HO277 := n0_; have HO281 := n1_; have BK269 := n2_; have BK283 := n3_; have HB := n4_; have BK284 := n5_; have GW284 := n6_; have GE284 := n7_; have NB269_284 := n8_; have NB284_269 := n9_; have NB283_284 := n10_; have NB284_283 := n11_; clear n0_ n1_ n2_ n3_ n4_ n5_ n6_ n7_ n8_ n9_ n10_ n11_; clear hb hbox hg; have hnb50 := NB283_269.out; have hnc50 := NB269_283.out; have hnb51 := NB283_284.out; have hnc51 := NB284_283.out; have hcz52_0 : w49.cell? ⟨gb283, 0, none⟩ = some (.int .i64 0) := (blk_cell BK283.out 0).trans rfl; have hcz52_1 : w49.cell? ⟨gb283, 1, none⟩ = some (.int .i64 0) := (blk_cell BK283.out 1).trans rfl; have hcz52_2 : w49.cell? ⟨gb283, 2, none⟩ = some (.slice none 0 0) := (blk_cell BK283.out 2).trans rfl; have hfz52_0 := blk_frozen BK283.out 0; have hfz52_1 := blk_frozen BK283.out 1; have hfz52_2 := blk_frozen BK283.out 2; obtain ⟨Ao53, co53, eo53⟩ := Kd.R_slice HO277.out; subst eo53) | ((with_reducible refine gate_store (t := 29) (p := 9) rfl ?_); refine store_event (t := 29) (p := 9) (v := ?vo_w54) (w1 := (((w49.setCell ⟨gb283, 0, none⟩ (.int .i64 t273)).setCell ⟨gb283, 1, none⟩ (.int .i64 t274)).setCell ⟨gb283, 2, none⟩ (.slice Ao53 t275.length co53))) ?hg ?ho ?hn ?hr ?_; (case ho => rfl); (case hg => rfl); (case hn => rfl); (case hr => first | (go_simp; done) | (go_simp; rfl)); intro w54 hw; have n0_ : Aside0 (Kd.R (Kd.int .u8) 5 w54 w.heap.size (fun _ => True) (.slice Ao53 t275.length co53) t275) := ⟨(by rw [hw]; exact (by (with_reducible repeat (first | apply Kd.R_alloc | apply Kd.R_drewN | apply Kd.R_drew)); exact Kd.R_mono (Kd.R_far (p := ⟨gb283, 2, none⟩) (Kd.R_far (p := ⟨gb283, 1, none⟩) (Kd.R_far (p := ⟨gb283, 0, none⟩) (Kd.R_types HO277.out BK283.out (by decide)) (fun _ hk => hk.2) (.int .i64 t273)) (fun _ hk => hk.2) (.int .i64 t274)) (fun _ hk => hk.2) (.slice Ao53 t275.length co53)) (fun _ hk => trivial)))⟩; have n1_ : Aside0 (Kd.N k29 29 w54 w.heap.size (fun k_ => some k_ ≠ (.slice Ao53 t275.length co53 : Value).ownBlock ∧ k_ ≠ gb269 ∧ k_ ≠ gb283 ∧ k_ ≠ gb284) v280 t279) := ⟨(by rw [hw]; exact (by (with_reducible repeat (first | apply Kd.N_alloc | apply Kd.N_drewN | apply Kd.N_drew)); exact Kd.N_mono (Kd.N_far (p := ⟨gb283, 2, none⟩) (Kd.N_far (p := ⟨gb283, 1, none⟩) (Kd.N_far (p := ⟨gb283, 0, none⟩) (Kd.N_mono HO281.out (fun k_ hk => (⟨hk, hk.1.2⟩ : _ ∧ k_ ≠ gb283))) (fun _ hk => hk.2) (.int .i64 t273)) (fun _ hk => hk.2) (.int .i64 t274)) (fun _ hk => hk.2) (.slice Ao53 t275.length co53)) (fun _ hk => ⟨hk.1.1.1.1, ⟨hk.1.1.1.2, ⟨hk.1.1.2, hk.1.2⟩⟩⟩)))⟩; have n2_ : Aside0 (w54.heap[gb269]? = some (.cells #[.int .i64 a0_0, .slice A0_1 l0_1.length c0_1] 24 (0, 0))) := ⟨(by rw [hw]; exact (by (with_reducible repeat (first | refine blk_drewN ?_ _ | refine blk_drew ?_ | refine blk_alloc ?_ _)); refine blk_far ?_ NB269_283.out _; (with_reducible repeat (first | refine blk_drewN ?_ _ | refine blk_drew ?_ | refine blk_alloc ?_ _)); refine blk_far ?_ NB269_283.out _; (with_reducible repeat (first | refine blk_drewN ?_ _ | refine blk_drew ?_ | refine blk_alloc ?_ _)); refine blk_far ?_ NB269_283.out _; (with_reducible repeat (first | refine blk_drewN ?_ _ | refine blk_drew ?_ | refine blk_alloc ?_ _)); exact BK269.out))⟩; have n3_ : Aside0 (w54.heap[gb283]? = some (.cells #[.int .i64 t273, .int .i64 t274, .slice Ao53 t275.length co53] 29 (0, 0))) := ⟨(by rw [hw]; exact (by (with_reducible repeat (first | refine blk_drewN ?_ _ | refine blk_drew ?_ | refine blk_alloc ?_ _)); refine blk_put (cs := #[.int .i64 t273, .int .i64 t274, .slice none 0 0]) ?_ 2 _ rfl; (with_reducible repeat (first | refine blk_drewN ?_ _ | refine blk_drew ?_ | refine blk_alloc ?_ _)); refine blk_put (cs := #[.int .i64 t273, .int .i64 0, .slice none 0 0]) ?_ 1 _ rfl; (with_reducible repeat (first | refine blk_drewN ?_ _ | refine blk_drew ?_ | refine blk_alloc ?_ _)); refine blk_put (cs := #[.int .i64 0, .int .i64 0, .slice none 0 0]) ?_ 0 _ rfl; (with_reducible repeat (first | refine blk_drewN ?_ _ | refine blk_drew ?_ | refine blk_alloc ?_ _)); exact BK283.out))⟩; have n4_ : Aside0 (w54.heap[gb284]? = some (.cells #[.int .i64 0, .slice none 0 0] 24 (0, 0))) := ⟨(by rw [hw]; exact (by (with_reducible repeat (first | refine blk_drewN ?_ _ | refine blk_drew ?_ | refine blk_alloc ?_ _)); refine blk_far ?_ NB284_283.out _; (with_reducible repeat (first | refine blk_drewN ?_ _ | refine blk_drew ?_ | refine blk_alloc ?_ _)); refine blk_far ?_ NB284_283.out _; (with_reducible repeat (first | refine blk_drewN ?_ _ | refine blk_drew ?_ | refine blk_alloc ?_ _)); refine blk_far ?_ NB284_283.out _; (with_reducible repeat (first | refine blk_drewN ?_ _ | refine blk_drew ?_ | refine blk_alloc ?_ _)); exact BK284.out))⟩; have n5_ : Aside0 (Below w.heap.size w w54) := ⟨(by rw [hw]; exact (by repeat (first | (with_reducible first | exact HB.out | apply below_alloc | apply pw_below_drewN | apply below_drew1 | refine below_set ?_ GE269.out | refine below_set ?_ GE283.out | refine below_set ?_ GE284.out) | exact HB.out)))⟩; clear hw; clear HO277; clear HO281; clear BK269; clear BK283; clear BK284; clear HB; have HO277 := n0_; have HO281 := n1_; have BK269 := n2_; have BK283 := n3_; have BK284 := n4_; have HB := n5_; clear n0_ n1_ n2_ n3_ n4_ n5_; have hnb55 := NB284_269.out; have hnc55 := NB269_284.out; have hcz56_0 : w54.cell? ⟨gb284, 0, none⟩ = some (.int .i64 0) := (blk_cell BK284.out 0).trans rfl; have hcz56_1 : w54.cell? ⟨gb284, 1, none⟩ = some (.slice none 0 0) := (blk_cell BK284.out 1).trans rfl; have hfz56_0 := blk_frozen BK284.out 0; have hfz56_1 := blk_frozen BK284.out 1; obtain ⟨Ao57, co57, eo57⟩ := Kd.N_slice HO281.out; subst eo57) | ((with_reducible refine gate_store (t := 24) (p := 10) rfl ?_); refine store_event (t := 24) (p := 10) (v := ?vo_w58) (w1 := ((w54.setCell ⟨gb284, 0, none⟩ (.int .i64 t278)).setCell ⟨gb284, 1, none⟩ (.slice Ao57 t279.length co57))) ?hg ?ho ?hn ?hr ?_; (case ho => rfl); (case hg => rfl); (case hn => rfl); (case hr => first | (go_simp; done) | (go_simp; rfl)); intro w58 hw; have n0_ : Aside0 (Kd.R (Kd.int .u8) 5 w58 w.heap.size (fun _ => True) (.slice Ao53 t275.length co53) t275) := ⟨(by rw [hw]; exact (by (with_reducible repeat (first | apply Kd.R_alloc | apply Kd.R_drewN | apply Kd.R_drew)); exact Kd.R_mono (Kd.R_far (p := ⟨gb284, 1, none⟩) (Kd.R_far (p := ⟨gb284, 0, none⟩) (Kd.R_types HO277.out BK284.out (by decide)) (fun _ hk => hk.2) (.int .i64 t278)) (fun _ hk => hk.2) (.slice Ao57 t279.length co57)) (fun _ hk => trivial)))⟩; have n1_ : Aside0 (Kd.N k29 29 w58 w.heap.size (fun k_ => some k_ ≠ (.slice Ao53 t275.length co53 : Value).ownBlock ∧ k_ ≠ gb269 ∧ k_ ≠ gb283 ∧ k_ ≠ gb284) (.slice Ao57 t279.length co57) t279) := ⟨(by rw [hw]; exact (by (with_reducible repeat (first | apply Kd.N_alloc | apply Kd.N_drewN | apply Kd.N_drew)); exact Kd.N_mono (Kd.N_far (p := ⟨gb284, 1, none⟩) (Kd.N_far (p := ⟨gb284, 0, none⟩) (Kd.N_mono HO281.out (fun k_ hk => (⟨hk, hk.2.2.2⟩ : _ ∧ k_ ≠ gb284))) (fun _ hk => hk.2) (.int .i64 t278)) (fun _ hk => hk.2) (.slice Ao57 t279.length co57)) (fun _ hk => ⟨hk.1.1, ⟨hk.1.2.1, ⟨hk.1.2.2.1, hk.1.2.2.2⟩⟩⟩)))⟩; have n2_ : Aside0 (w58.heap[gb269]? = some (.cells #[.int .i64 a0_0, .slice A0_1 l0_1.length c0_1] 24 (0, 0))) := ⟨(by rw [hw]; exact (by (with_reducible repeat (first | refine blk_drewN ?_ _ | refine blk_drew ?_ | refine blk_alloc ?_ _)); refine blk_far ?_ NB269_284.out _; (with_reducible repeat (first | refine blk_drewN ?_ _ | refine blk_drew ?_ | refine blk_alloc ?_ _)); refine blk_far ?_ NB269_284.out _; (with_reducible repeat (first | refine blk_drewN ?_ _ | refine blk_drew ?_ | refine blk_alloc ?_ _)); exact BK269.out))⟩; have n3_ : Aside0 (w58.heap[gb283]? = some (.cells #[.int .i64 t273, .int .i64 t274, .slice Ao53 t275.length co53] 29 (0, 0))) := ⟨(by rw [hw]; exact (by (with_reducible repeat (first | refine blk_drewN ?_ _ | refine blk_drew ?_ | refine blk_alloc ?_ _)); refine blk_far ?_ NB283_284.out _; (with_reducible repeat (first | refine blk_drewN ?_ _ | refine blk_drew ?_ | refine blk_alloc ?_ _)); refine blk_far ?_ NB283_284.out _; (with_reducible repeat (first | refine blk_drewN ?_ _ | refine blk_drew ?_ | refine blk_alloc ?_ _)); exact BK283.out))⟩; have n4_ : Aside0 (w58.heap[gb284]? = some (.cells #[.int .i64 t278, .slice Ao57 t279.length co57] 24 (0, 0))) := ⟨(by rw [hw]; exact (by (with_reducible repeat (first | refine blk_drewN ?_ _ | refine blk_drew ?_ | refine blk_alloc ?_ _)); refine blk_put (cs := #[.int .i64 t278, .slice none 0 0]) ?_ 1 _ rfl; (with_reducible repeat (first | refine blk_drewN ?_ _ | refine blk_drew ?_ | refine blk_alloc ?_ _)); refine blk_put (cs := #[.int .i64 0, .slice none 0 0]) ?_ 0 _ rfl; (with_reducible repeat (first | refine blk_drewN ?_ _ | refine blk_drew ?_ | refine blk_alloc ?_ _)); exact BK284.out))⟩; have n5_ : Aside0 (Below w.heap.size w w58) := ⟨(by rw [hw]; exact (by repeat (first | (with_reducible first | exact HB.out | apply below_alloc | apply pw_below_drewN | apply below_drew1 | refine below_set ?_ GE269.out | refine below_set ?_ GE283.out | refine below_set ?_ GE284.out) | exact HB.out)))⟩; clear hw; clear HO277; clear HO281; clear BK269; clear BK283; clear BK284; clear HB; have HO277 := n0_; have HO281 := n1_; have BK269 := n2_; have BK283 := n3_; have BK284 := n4_; have HB := n5_; clear n0_ n1_ n2_ n3_ n4_ n5_; have hcz59_0 : w58.cell? ⟨gb269, 0, none⟩ = some (.int .i64 a0_0) := (blk_cell BK269.out 0).trans rfl; have hcz59_1 : w58.cell? ⟨gb269, 1, none⟩ = some (.slice A0_1 l0_1.length c0_1) := (blk_cell BK269.out 1).trans rfl; have hfz59_0 := blk_frozen BK269.out 0; have hfz59_1 := blk_frozen BK269.out 1) | ((with_reducible refine gate_callee (f := 15) rfl ?_); refine goesL_ (some 42) rfl rfl Try.func15 (by kernel_rfl) rfl #[.agg #[.int .i64 a0_0, .slice A0_1 l0_1.length c0_1], .int .i64 a3] rfl (by (try simp only [List.map_toArray, List.map_cons, List.map_nil]); first | done | rfl | (simp only [List.length_drop, List.length_take]; rfl)) ?_; (with_reducible refine (lockgateref11_Take.calls kj4 a0_0 (fun k_ => k_ < w.heap.size) _ _ l0_1 a3 t285 t286 t287 t290 t291 t294 _ ?side1 A26.out).mono ?_); (case side1 => exact Kd.V_mk HC0_1.out (Kd.F_below (Kd.C_F k29_heap HR0_1.out) (by repeat (first | (with_reducible first | exact HB.out | apply below_alloc | apply pw_below_drewN | apply below_drew1 | refine below_set ?_ GE269.out | refine below_set ?_ GE283.out | refine below_set ?_ GE284.out) | exact HB.out)))); rintro e w60 ⟨v288, v292, rfl, ho0, ho1, hb⟩; refine ⟨_, rfl, ?_⟩; have n0_ := Aside0.mk (Kd.R_below (by (with_reducible repeat (first | apply Kd.R_alloc | apply Kd.R_drewN | apply Kd.R_drew)); exact HO277.out) hb); have n1_ := Aside0.mk (Kd.N_below (by (with_reducible repeat (first | apply Kd.N_alloc | apply Kd.N_drewN | apply Kd.N_drew)); exact HO281.out) hb); have n2_ := Aside0.mk (Kd.V_lower (Kd.V_mono (ok' := fun k_ => some k_ ≠ (.slice Ao53 t275.length co53 : Value).ownBlock ∧ some k_ ≠ (.slice Ao57 t279.length co57 : Value).ownBlock ∧ k_ ≠ gb269 ∧ k_ ≠ gb283 ∧ k_ ≠ gb284) ho0 (fun k_ hk_ => ⟨Or.elim hk_ (fun hs_ => fun e_ => Nat.not_le.2 hs_ (Kd.R_base HO277.out k_ e_.symm)) (fun hn_ => (Kd.fresh' (Kd.R_lt (by (with_reducible repeat (first | apply Kd.R_alloc | apply Kd.R_drewN | apply Kd.R_drew)); exact HO277.out)) k_ hn_)), Or.elim hk_ (fun hs_ => fun e_ => Nat.not_le.2 hs_ (Kd.N_base HO281.out k_ e_.symm)) (fun hn_ => (Kd.fresh' (Kd.N_lt (by (with_reducible repeat (first | apply Kd.N_alloc | apply Kd.N_drewN | apply Kd.N_drew)); exact HO281.out)) k_ hn_)), Or.elim hk_ (fun hs_ => fun e_ => Nat.not_le.2 hs_ (by rw [e_]; exact GW269.out)) (fun hn_ => (Kd.freshB (g := gb269) (o := .cells #[.int .i64 a0_0, .slice A0_1 l0_1.length c0_1] 24 (0, 0)) (by (with_reducible repeat (first | refine blk_drewN ?_ _ | refine blk_drew ?_ | refine blk_alloc ?_ _)); exact BK269.out) k_ hn_)), Or.elim hk_ (fun hs_ => fun e_ => Nat.not_le.2 hs_ (by rw [e_]; exact GW283.out)) (fun hn_ => (Kd.freshB (g := gb283) (o := .cells #[.int .i64 t273, .int .i64 t274, .slice Ao53 t275.length co53] 29 (0, 0)) (by (with_reducible repeat (first | refine blk_drewN ?_ _ | refine blk_drew ?_ | refine blk_alloc ?_ _)); exact BK283.out) k_ hn_)), Or.elim hk_ (fun hs_ => fun e_ => Nat.not_le.2 hs_ (by rw [e_]; exact GW284.out)) (fun hn_ => (Kd.freshB (g := gb284) (o := .cells #[.int .i64 t278, .slice Ao57 t279.length co57] 24 (0, 0)) (by (with_reducible repeat (first | refine blk_drewN ?_ _ | refine blk_drew ?_ | refine blk_alloc ?_ _)); exact BK284.out) k_ hn_))⟩)) (below_size (by repeat (first | (with_reducible first | exact HB.out | apply below_alloc | apply pw_below_drewN | apply below_drew1 | refine below_set ?_ GE269.out | refine below_set ?_ GE283.out | refine below_set ?_ GE284.out) | exact HB.out)))); have n3_ := Aside0.mk (Kd.V_lower (Kd.V_mono (ok' := fun k_ => some k_ ≠ (.slice Ao53 t275.length co53 : Value).ownBlock ∧ some k_ ≠ (.slice Ao57 t279.length co57 : Value).ownBlock ∧ k_ ≠ gb269 ∧ k_ ≠ gb283 ∧ k_ ≠ gb284) ho1 (fun k_ hk_ => ⟨Or.elim hk_ (fun hs_ => fun e_ => Nat.not_le.2 hs_ (Kd.R_base HO277.out k_ e_.symm)) (fun hn_ => (Kd.fresh' (Kd.R_lt (by (with_reducible repeat (first | apply Kd.R_alloc | apply Kd.R_drewN | apply Kd.R_drew)); exact HO277.out)) k_ hn_)), Or.elim hk_ (fun hs_ => fun e_ => Nat.not_le.2 hs_ (Kd.N_base HO281.out k_ e_.symm)) (fun hn_ => (Kd.fresh' (Kd.N_lt (by (with_reducible repeat (first | apply Kd.N_alloc | apply Kd.N_drewN | apply Kd.N_drew)); exact HO281.out)) k_ hn_)), Or.elim hk_ (fun hs_ => fun e_ => Nat.not_le.2 hs_ (by rw [e_]; exact GW269.out)) (fun hn_ => (Kd.freshB (g := gb269) (o := .cells #[.int .i64 a0_0, .slice A0_1 l0_1.length c0_1] 24 (0, 0)) (by (with_reducible repeat (first | refine blk_drewN ?_ _ | refine blk_drew ?_ | refine blk_alloc ?_ _)); exact BK269.out) k_ hn_)), Or.elim hk_ (fun hs_ => fun e_ => Nat.not_le.2 hs_ (by rw [e_]; exact GW283.out)) (fun hn_ => (Kd.freshB (g := gb283) (o := .cells #[.int .i64 t273, .int .i64 t274, .slice Ao53 t275.length co53] 29 (0, 0)) (by (with_reducible repeat (first | refine blk_drewN ?_ _ | refine blk_drew ?_ | refine blk_alloc ?_ _)); exact BK283.out) k_ hn_)), Or.elim hk_ (fun hs_ => fun e_ => Nat.not_le.2 hs_ (by rw [e_]; exact GW284.out)) (fun hn_ => (Kd.freshB (g := gb284) (o := .cells #[.int .i64 t278, .slice Ao57 t279.length co57] 24 (0, 0)) (by (with_reducible repeat (first | refine blk_drewN ?_ _ | refine blk_drew ?_ | refine blk_alloc ?_ _)); exact BK284.out) k_ hn_))⟩)) (below_size (by repeat (first | (with_reducible first | exact HB.out | apply below_alloc | apply pw_below_drewN | apply below_drew1 | refine below_set ?_ GE269.out | refine below_set ?_ GE283.out | refine below_set ?_ GE284.out) | exact HB.out)))); have n4_ := Aside0.mk (blk_below (g := gb269) (o := .cells #[.int .i64 a0_0, .slice A0_1 l0_1.length c0_1] 24 (0, 0)) (by (with_reducible repeat (first | refine blk_drewN ?_ _ | refine blk_drew ?_ | refine blk_alloc ?_ _)); exact BK269.out) hb); have n5_ := Aside0.mk (blk_below (g := gb283) (o := .cells #[.int .i64 t273, .int .i64 t274, .slice Ao53 t275.length co53] 29 (0, 0)) (by (with_reducible repeat (first | refine blk_drewN ?_ _ | refine blk_drew ?_ | refine blk_alloc ?_ _)); exact BK283.out) hb); have n6_ := Aside0.mk (blk_below (g := gb284) (o := .cells #[.int .i64 t278, .slice Ao57 t279.length co57] 24 (0, 0)) (by (with_reducible repeat (first | refine blk_drewN ?_ _ | refine blk_drew ?_ | refine blk_alloc ?_ _)); exact BK284.out) hb); have n7_ := Aside0.mk (below_step (by repeat (first | (with_reducible first | exact HB.out | apply below_alloc | apply pw_below_drewN | apply below_drew1 | refine below_set ?_ GE269.out | refine below_set ?_ GE283.out | refine below_set ?_ GE284.out) | exact HB.out)) hb); clear HO277; clear HO281; clear BK269; clear BK283; clear BK284; clear HB; have HO277 := n0_; have HO281 := n1_; have HO289 := n2_; have HO293 := n3_; have BK269 := n4_; have BK283 := n5_; have BK284 := n6_; have HB := n7_; clear n0_ n1_ n2_ n3_ n4_ n5_ n6_ n7_; (try clear hb); (try clear hb2); (try clear hk); (try clear hi); (try clear ho0); (try clear ho1)) | ((with_reducible refine gate_dst (N := 12) rfl ?_); (try (refine gate_guard (by rfl) ?_; dsimp only)); refine box_event ?hg (N := 12) ?hd (cs := #[.int .i64 0, .int .i64 0, .slice none 0 0]) (t := 29) ?hr ?_; (case hd => rfl); (case hg => rfl); (case hr => first | (go_simp; done) | (go_simp; rfl)); intro gb295 hg w61 hbox hb; have n0_ := Aside0.mk (Kd.R_below (by (with_reducible repeat (first | apply Kd.R_alloc | apply Kd.R_drewN | apply Kd.R_drew)); exact HO277.out) hb); have n1_ := Aside0.mk (Kd.N_below (Kd.N_elderB (by (with_reducible repeat (first | apply Kd.N_alloc | apply Kd.N_drewN | apply Kd.N_drew)); exact HO281.out) gb295 (Nat.le_of_eq hg.symm)) hb); have n2_ := Aside0.mk (Kd.V_below (Kd.V_elderB (by (with_reducible repeat (first | apply Kd.V_alloc | apply Kd.V_drewN | apply Kd.V_drew)); exact HO289.out) gb295 (Nat.le_of_eq hg.symm)) hb); have n3_ := Aside0.mk (Kd.V_below (Kd.V_elderB (by (with_reducible repeat (first | apply Kd.V_alloc | apply Kd.V_drewN | apply Kd.V_drew)); exact HO293.out) gb295 (Nat.le_of_eq hg.symm)) hb); have n4_ := Aside0.mk (blk_below (g := gb269) (o := .cells #[.int .i64 a0_0, .slice A0_1 l0_1.length c0_1] 24 (0, 0)) (by (with_reducible repeat (first | refine blk_drewN ?_ _ | refine blk_drew ?_ | refine blk_alloc ?_ _)); exact BK269.out) hb); have n5_ := Aside0.mk (blk_below (g := gb283) (o := .cells #[.int .i64 t273, .int .i64 t274, .slice Ao53 t275.length co53] 29 (0, 0)) (by (with_reducible repeat (first | refine blk_drewN ?_ _ | refine blk_drew ?_ | refine blk_alloc ?_ _)); exact BK283.out) hb); have n6_ := Aside0.mk (blk_below (g := gb284) (o := .cells #[.int .i64 t278, .slice Ao57 t279.length co57] 24 (0, 0)) (by (with_reducible repeat (first | refine blk_drewN ?_ _ | refine blk_drew ?_ | refine blk_alloc ?_ _)); exact BK284.out) hb); have n7_ := Aside0.mk (below_step (by repeat (first | (with_reducible first | exact HB.out | apply below_alloc | apply pw_below_drewN | apply below_drew1 | refine below_set ?_ GE269.out | refine below_set ?_ GE283.out | refine below_set ?_ GE284.out) | exact HB.out)) hb); have n8_ := Aside0.mk (hbox); have n9_ := Aside0.mk ((by rw [hg]; exact (below_size (by repeat (first | (with_reducible first | exact HB.out | apply below_alloc | apply pw_below_drewN | apply below_drew1 | refine below_set ?_ GE269.out | refine below_set ?_ GE283.out | refine below_set ?_ GE284.out) | exact HB.out))) : w.heap.size ≤ gb295)); have n10_ := Aside0.mk ((by rw [hg]; exact (below_size (by repeat (first | (with_reducible first | exact HB.out | apply below_alloc | apply pw_below_drewN | apply below_drew1 | refine below_set ?_ GE269.out | refine below_set ?_ GE283.out | refine below_set ?_ GE284.out) | exact HB.out))) : w.heap.size ≤ gb295)); have n11_ := Aside0.mk ((by rw [hg]; exact Nat.ne_of_lt (blk_lt (g := gb269) (o := .cells #[.int .i64 a0_0, .slice A0_1 l0_1.length c0_1] 24 (0, 0)) (by (with_reducible repeat (first | refine blk_drewN ?_ _ | refine blk_drew ?_ | refine blk_alloc ?_ _)); exact BK269.out)) : gb269 ≠ gb295)); have n12_ := Aside0.mk ((by rw [hg]; exact Nat.ne_of_gt (blk_lt (g := gb269) (o := .cells #[.int .i64 a0_0, .slice A0_1 l0_1.length c0_1] 24 (0, 0)) (by (with_reducible repeat (first | refine blk_drewN ?_ _ | refine blk_drew ?_ | refine blk_alloc ?_ _)); exact BK269.out)) : gb295 ≠ gb269)); have n13_ := Aside0.mk ((by rw [hg]; exact Nat.ne_of_lt (blk_lt (g := gb283) (o := .cells #[.int .i64 t273, .int .i64 t274, .slice Ao53 t275.length co53] 29 (0, 0)) (by (with_reducible repeat (first | refine blk_drewN ?_ _ | refine blk_drew ?_ | refine blk_alloc ?_ _)); exact BK283.out)) : gb283 ≠ gb295)); have n14_ := Aside0.mk ((by rw [hg]; exact Nat.ne_of_gt (blk_lt (g := gb283) (o := .cells #[.int .i64 t273, .int .i64 t274, .slice Ao53 t275.length co53] 29 (0, 0)) (by (with_reducible repeat (first | refine blk_drewN ?_ _ | refine blk_drew ?_ | refine blk_alloc ?_ _)); exact BK283.out)) : gb295 ≠ gb283)); have n15_ := Aside0.mk ((by rw [hg]; exact Nat.ne_of_lt (blk_lt (g := gb284) (o := .cells #[.int .i64 t278, .slice Ao57 t279.length co57] 24 (0, 0)) (by (with_reducible repeat (first | refine blk_drewN ?_ _ | refine blk_drew ?_ | refine blk_alloc ?_ _)); exact BK284.out)) : gb284 ≠ gb295)); have n16_ := Aside0.mk ((by rw [hg]; exact Nat.ne_of_gt (blk_lt (g := gb284) (o := .cells #[.int .i64 t278, .slice Ao57 t279.length co57] 24 (0, 0)) (by (with_reducible repeat (first | refine blk_drewN ?_ _ | refine blk_drew ?_ | refine blk_alloc ?_ _)); exact BK284.out)) : gb295 ≠ gb284)); clear HO277; clear HO281; clear HO289; clear HO293; clear BK269; clear BK283; clear BK284; clear HB; have HO277 := n0_; have HO281 := n1_; have HO289 := n2_; have HO293 := n3_; have BK269 := n4_; have BK283 := n5_; have BK284 := n6_; have HB := n7_; have BK295 := n8_; have GW295 := n9_; have GE295 := n10_; have NB269_295 := n11_; have NB295_269 := n12_; have NB283_295 := n13_; have NB295_283 := n14_; have NB284_295 := n15_; have NB295_284 := n16_; clear n0_ n1_ n2_ n3_ n4_ n5_ n6_ n7_ n8_ n9_ n10_ n11_ n12_ n13_ n14_ n15_ n16_; clear hb hbox hg) | ((with_reducible refine gate_dst (N := 13) rfl ?_); (try (refine gate_guard (by rfl) ?_; dsimp only)); refine box_event ?hg (N := 13) ?hd (cs := #[.int .i64 0, .slice none 0 0]) (t := 24) ?hr ?_; (case hd => rfl); (case hg => rfl); (case hr => first | (go_simp; done) | (go_simp; rfl)); intro gb296 hg w62 hbox hb; have n0_ := Aside0.mk (Kd.R_below (by (with_reducible repeat (first | apply Kd.R_alloc | apply Kd.R_drewN | apply Kd.R_drew)); exact HO277.out) hb); have n1_ := Aside0.mk (Kd.N_below (Kd.N_elderB (by (with_reducible repeat (first | apply Kd.N_alloc | apply Kd.N_drewN | apply Kd.N_drew)); exact HO281.out) gb296 (Nat.le_of_eq hg.symm)) hb); have n2_ := Aside0.mk (Kd.V_below (Kd.V_elderB (by (with_reducible repeat (first | apply Kd.V_alloc | apply Kd.V_drewN | apply Kd.V_drew)); exact HO289.out) gb296 (Nat.le_of_eq hg.symm)) hb); have n3_ := Aside0.mk (Kd.V_below (Kd.V_elderB (by (with_reducible repeat (first | apply Kd.V_alloc | apply Kd.V_drewN | apply Kd.V_drew)); exact HO293.out) gb296 (Nat.le_of_eq hg.symm)) hb); have n4_ := Aside0.mk (blk_below (g := gb269) (o := .cells #[.int .i64 a0_0, .slice A0_1 l0_1.length c0_1] 24 (0, 0)) (by (with_reducible repeat (first | refine blk_drewN ?_ _ | refine blk_drew ?_ | refine blk_alloc ?_ _)); exact BK269.out) hb); have n5_ := Aside0.mk (blk_below (g := gb283) (o := .cells #[.int .i64 t273, .int .i64 t274, .slice Ao53 t275.length co53] 29 (0, 0)) (by (with_reducible repeat (first | refine blk_drewN ?_ _ | refine blk_drew ?_ | refine blk_alloc ?_ _)); exact BK283.out) hb); have n6_ := Aside0.mk (blk_below (g := gb284) (o := .cells #[.int .i64 t278, .slice Ao57 t279.length co57] 24 (0, 0)) (by (with_reducible repeat (first | refine blk_drewN ?_ _ | refine blk_drew ?_ | refine blk_alloc ?_ _)); exact BK284.out) hb); have n7_ := Aside0.mk (blk_below (g := gb295) (o := .cells #[.int .i64 0, .int .i64 0, .slice none 0 0] 29 (0, 0)) (by (with_reducible repeat (first | refine blk_drewN ?_ _ | refine blk_drew ?_ | refine blk_alloc ?_ _)); exact BK295.out) hb); have n8_ := Aside0.mk (below_step (by repeat (first | (with_reducible first | exact HB.out | apply below_alloc | apply pw_below_drewN | apply below_drew1 | refine below_set ?_ GE269.out | refine below_set ?_ GE283.out | refine below_set ?_ GE284.out | refine below_set ?_ GE295.out) | exact HB.out)) hb); have n9_ := Aside0.mk (hbox); have n10_ := Aside0.mk ((by rw [hg]; exact (below_size (by repeat (first | (with_reducible first | exact HB.out | apply below_alloc | apply pw_below_drewN | apply below_drew1 | refine below_set ?_ GE269.out | refine below_set ?_ GE283.out | refine below_set ?_ GE284.out | refine below_set ?_ GE295.out) | exact HB.out))) : w.heap.size ≤ gb296)); have n11_ := Aside0.mk ((by rw [hg]; exact (below_size (by repeat (first | (with_reducible first | exact HB.out | apply below_alloc | apply pw_below_drewN | apply below_drew1 | refine below_set ?_ GE269.out | refine below_set ?_ GE283.out | refine below_set ?_ GE284.out | refine below_set ?_ GE295.out) | exact HB.out))) : w.heap.size ≤ gb296)); have n12_ := Aside0.mk ((by rw [hg]; exact Nat.ne_of_lt (blk_lt (g := gb269) (o := .cells #[.int .i64 a0_0, .slice A0_1 l0_1.length c0_1] 24 (0, 0)) (by (with_reducible repeat (first | refine blk_drewN ?_ _ | refine blk_drew ?_ | refine blk_alloc ?_ _)); exact BK269.out)) : gb269 ≠ gb296)); have n13_ := Aside0.mk ((by rw [hg]; exact Nat.ne_of_gt (blk_lt (g := gb269) (o := .cells #[.int .i64 a0_0, .slice A0_1 l0_1.length c0_1] 24 (0, 0)) (by (with_reducible repeat (first | refine blk_drewN ?_ _ | refine blk_drew ?_ | refine blk_alloc ?_ _)); exact BK269.out)) : gb296 ≠ gb269)); have n14_ := Aside0.mk ((by rw [hg]; exact Nat.ne_of_lt (blk_lt (g := gb283) (o := .cells #[.int .i64 t273, .int .i64 t274, .slice Ao53 t275.length co53] 29 (0, 0)) (by (with_reducible repeat (first | refine blk_drewN ?_ _ | refine blk_drew ?_ | refine blk_alloc ?_ _)); exact BK283.out)) : gb283 ≠ gb296)); have n15_ := Aside0.mk ((by rw [hg]; exact Nat.ne_of_gt (blk_lt (g := gb283) (o := .cells #[.int .i64 t273, .int .i64 t274, .slice Ao53 t275.length co53] 29 (0, 0)) (by (with_reducible repeat (first | refine blk_drewN ?_ _ | refine blk_drew ?_ | refine blk_alloc ?_ _)); exact BK283.out)) : gb296 ≠ gb283)); have n16_ := Aside0.mk ((by rw [hg]; exact Nat.ne_of_lt (blk_lt (g := gb284) (o := .cells #[.int .i64 t278, .slice Ao57 t279.length co57] 24 (0, 0)) (by (with_reducible repeat (first | refine blk_drewN ?_ _ | refine blk_drew ?_ | refine blk_alloc ?_ _)); exact BK284.out)) : gb284 ≠ gb296)); have n17_ := Aside0.mk ((by rw [hg]; exact Nat.ne_of_gt (blk_lt (g := gb284) (o := .cells #[.int .i64 t278, .slice Ao57 t279.length co57] 24 (0, 0)) (by (with_reducible repeat (first | refine blk_drewN ?_ _ | refine blk_drew ?_ | refine blk_alloc ?_ _)); exact BK284.out)) : gb296 ≠ gb284)); have n18_ := Aside0.mk ((by rw [hg]; exact Nat.ne_of_lt (blk_lt (g := gb295) (o := .cells #[.int .i64 0, .int .i64 0, .slice none 0 0] 29 (0, 0)) (by (with_reducible repeat (first | refine blk_drewN ?_ _ | refine blk_drew ?_ | refine blk_alloc ?_ _)); exact BK295.out)) : gb295 ≠ gb296)); have n19_ := Aside0.mk ((by rw [hg]; exact Nat.ne_of_gt (blk_lt (g := gb295) (o := .cells #[.int .i64 0, .int .i64 0, .slice none 0 0] 29 (0, 0)) (by (with_reducible repeat (first | refine blk_drewN ?_ _ | refine blk_drew ?_ | refine blk_alloc ?_ _)); exact BK295.out)) : gb296 ≠ gb295)); clear HO277; clear HO281; clear HO289; clear HO293; clear BK269; clear BK283; clear BK284; clear BK295; clear HB; have HO277 := n0_; have HO281 := n1_; have HO289 := n2_; have HO293 := n3_; have BK269 := n4_; have BK283 := n5_; have BK284 := n6_; have BK295 := n7_; have HB := n8_; have BK296 := n9_; have GW296 := n10_; have GE296 := n11_; have NB269_296 := n12_; have NB296_269 := n13_; have NB283_296 := n14_; have NB296_283 := n15_; have NB284_296 := n16_; have NB296_284 := n17_; have NB295_296 := n18_; have NB296_295 := n19_; clear n0_ n1_ n2_ n3_ n4_ n5_ n6_ n7_ n8_ n9_ n10_ n11_ n12_ n13_ n14_ n15_ n16_ n17_ n18_ n19_; clear hb hbox hg; have hnb63 := NB295_269.out; have hnc63 := NB269_295.out; have hnb64 := NB295_283.out; have hnc64 := NB283_295.out; have hnb65 := NB295_284.out; have hnc65 := NB284_295.out; have hnb66 := NB295_296.out; have hnc66 := NB296_295.out; have hcz67_0 : w62.cell? ⟨gb295, 0, none⟩ = some (.int .i64 0) := (blk_cell BK295.out 0).trans rfl; have hcz67_1 : w62.cell? ⟨gb295, 1, none⟩ = some (.int .i64 0) := (blk_cell BK295.out 1).trans rfl; have hcz67_2 : w62.cell? ⟨gb295, 2, none⟩ = some (.slice none 0 0) := (blk_cell BK295.out 2).trans rfl; have hfz67_0 := blk_frozen BK295.out 0; have hfz67_1 := blk_frozen BK295.out 1; have hfz67_2 := blk_frozen BK295.out 2; obtain ⟨Ao68, co68, eo68⟩ := Kd.V_slice HO289.out; subst eo68; have hnb69 := NB296_269.out; have hnc69 := NB269_296.out; have hnb70 := NB296_283.out; have hnc70 := NB283_296.out; have hnb71 := NB296_284.out; have hnc71 := NB284_296.out; have hcz72_0 : w62.cell? ⟨gb296, 0, none⟩ = some (.int .i64 0) := (blk_cell BK296.out 0).trans rfl; have hcz72_1 : w62.cell? ⟨gb296, 1, none⟩ = some (.slice none 0 0) := (blk_cell BK296.out 1).trans rfl; have hfz72_0 := blk_frozen BK296.out 0; have hfz72_1 := blk_frozen BK296.out 1; obtain ⟨Ao73, co73, eo73⟩ := Kd.V_slice HO293.out; subst eo73))
                    have n0_ : Aside0 (Kd.R (Kd.int .u8) 5 (((((w62.setCell ⟨gb295, 0, none⟩ (.int .i64 t285)).setCell ⟨gb295, 1, none⟩ (.int .i64 t286)).setCell ⟨gb295, 2, none⟩ (.slice Ao68 t287.length co68)).setCell ⟨gb296, 0, none⟩ (.int .i64 t290)).setCell ⟨gb296, 1, none⟩ (.slice Ao73 t291.length co73)) w.heap.size (fun _ => True) (.slice Ao53 t275.length co53) t275) := ⟨by (with_reducible repeat (first | apply Kd.R_alloc | apply Kd.R_drewN | apply Kd.R_drew)); exact Kd.R_mono (Kd.R_far (p := ⟨gb296, 1, none⟩) (Kd.R_far (p := ⟨gb296, 0, none⟩) (Kd.R_far (p := ⟨gb295, 2, none⟩) (Kd.R_far (p := ⟨gb295, 1, none⟩) (Kd.R_far (p := ⟨gb295, 0, none⟩) (Kd.R_types (Kd.R_types HO277.out BK295.out (by decide)) BK296.out (by decide)) (fun _ hk => hk.1.2) (.int .i64 t285)) (fun _ hk => hk.1.2) (.int .i64 t286)) (fun _ hk => hk.1.2) (.slice Ao68 t287.length co68)) (fun _ hk => hk.2) (.int .i64 t290)) (fun _ hk => hk.2) (.slice Ao73 t291.length co73)) (fun _ hk => trivial)⟩
                    have n1_ : Aside0 (Kd.N k29 29 (((((w62.setCell ⟨gb295, 0, none⟩ (.int .i64 t285)).setCell ⟨gb295, 1, none⟩ (.int .i64 t286)).setCell ⟨gb295, 2, none⟩ (.slice Ao68 t287.length co68)).setCell ⟨gb296, 0, none⟩ (.int .i64 t290)).setCell ⟨gb296, 1, none⟩ (.slice Ao73 t291.length co73)) w.heap.size (fun k_ => some k_ ≠ (.slice Ao53 t275.length co53 : Value).ownBlock ∧ k_ ≠ gb269 ∧ k_ ≠ gb283 ∧ k_ ≠ gb284 ∧ k_ ≠ gb295 ∧ k_ ≠ gb296) (.slice Ao57 t279.length co57) t279) := ⟨by (with_reducible repeat (first | apply Kd.N_alloc | apply Kd.N_drewN | apply Kd.N_drew)); exact Kd.N_mono (Kd.N_far (p := ⟨gb296, 1, none⟩) (Kd.N_far (p := ⟨gb296, 0, none⟩) (Kd.N_far (p := ⟨gb295, 2, none⟩) (Kd.N_far (p := ⟨gb295, 1, none⟩) (Kd.N_far (p := ⟨gb295, 0, none⟩) (Kd.N_mono (Kd.N_mono HO281.out (fun k_ hk => (⟨hk, hk.1.2⟩ : _ ∧ k_ ≠ gb295))) (fun k_ hk => (⟨hk, hk.1.2⟩ : _ ∧ k_ ≠ gb296))) (fun _ hk => hk.1.2) (.int .i64 t285)) (fun _ hk => hk.1.2) (.int .i64 t286)) (fun _ hk => hk.1.2) (.slice Ao68 t287.length co68)) (fun _ hk => hk.2) (.int .i64 t290)) (fun _ hk => hk.2) (.slice Ao73 t291.length co73)) (fun _ hk => ⟨hk.1.1.1.1.1, ⟨hk.1.1.1.1.2.1, ⟨hk.1.1.1.1.2.2.1, ⟨hk.1.1.1.1.2.2.2, ⟨hk.1.1.1.2, hk.1.1.2⟩⟩⟩⟩⟩)⟩
                    have n2_ : Aside0 (Kd.V (Kd.int .u8) 5 (((((w62.setCell ⟨gb295, 0, none⟩ (.int .i64 t285)).setCell ⟨gb295, 1, none⟩ (.int .i64 t286)).setCell ⟨gb295, 2, none⟩ (.slice Ao68 t287.length co68)).setCell ⟨gb296, 0, none⟩ (.int .i64 t290)).setCell ⟨gb296, 1, none⟩ (.slice Ao73 t291.length co73)) w.heap.size (fun k_ => some k_ ≠ (.slice Ao53 t275.length co53 : Value).ownBlock ∧ some k_ ≠ (.slice Ao57 t279.length co57 : Value).ownBlock ∧ k_ ≠ gb269 ∧ k_ ≠ gb283 ∧ k_ ≠ gb284 ∧ k_ ≠ gb295 ∧ k_ ≠ gb296) (.slice Ao68 t287.length co68) t287) := ⟨by (with_reducible repeat (first | apply Kd.V_alloc | apply Kd.V_drewN | apply Kd.V_drew)); exact Kd.V_mono (Kd.V_far (p := ⟨gb296, 1, none⟩) (Kd.V_far (p := ⟨gb296, 0, none⟩) (Kd.V_far (p := ⟨gb295, 2, none⟩) (Kd.V_far (p := ⟨gb295, 1, none⟩) (Kd.V_far (p := ⟨gb295, 0, none⟩) (Kd.V_mono (Kd.V_mono HO289.out (fun k_ hk => (⟨hk, hk.1.2⟩ : _ ∧ k_ ≠ gb295))) (fun k_ hk => (⟨hk, hk.1.2⟩ : _ ∧ k_ ≠ gb296))) (fun _ hk => hk.1.2) (.int .i64 t285)) (fun _ hk => hk.1.2) (.int .i64 t286)) (fun _ hk => hk.1.2) (.slice Ao68 t287.length co68)) (fun _ hk => hk.2) (.int .i64 t290)) (fun _ hk => hk.2) (.slice Ao73 t291.length co73)) (fun _ hk => ⟨hk.1.1.1.1.1, ⟨hk.1.1.1.1.2.1, ⟨hk.1.1.1.1.2.2.1, ⟨hk.1.1.1.1.2.2.2.1, ⟨hk.1.1.1.1.2.2.2.2, ⟨hk.1.1.1.2, hk.1.1.2⟩⟩⟩⟩⟩⟩)⟩
                    have n3_ : Aside0 (Kd.V k29 29 (((((w62.setCell ⟨gb295, 0, none⟩ (.int .i64 t285)).setCell ⟨gb295, 1, none⟩ (.int .i64 t286)).setCell ⟨gb295, 2, none⟩ (.slice Ao68 t287.length co68)).setCell ⟨gb296, 0, none⟩ (.int .i64 t290)).setCell ⟨gb296, 1, none⟩ (.slice Ao73 t291.length co73)) w.heap.size (fun k_ => some k_ ≠ (.slice Ao53 t275.length co53 : Value).ownBlock ∧ some k_ ≠ (.slice Ao57 t279.length co57 : Value).ownBlock ∧ k_ ≠ gb269 ∧ k_ ≠ gb283 ∧ k_ ≠ gb284 ∧ k_ ≠ gb295 ∧ k_ ≠ gb296) (.slice Ao73 t291.length co73) t291) := ⟨by (with_reducible repeat (first | apply Kd.V_alloc | apply Kd.V_drewN | apply Kd.V_drew)); exact Kd.V_mono (Kd.V_far (p := ⟨gb296, 1, none⟩) (Kd.V_far (p := ⟨gb296, 0, none⟩) (Kd.V_far (p := ⟨gb295, 2, none⟩) (Kd.V_far (p := ⟨gb295, 1, none⟩) (Kd.V_far (p := ⟨gb295, 0, none⟩) (Kd.V_mono (Kd.V_mono HO293.out (fun k_ hk => (⟨hk, hk.1.2⟩ : _ ∧ k_ ≠ gb295))) (fun k_ hk => (⟨hk, hk.1.2⟩ : _ ∧ k_ ≠ gb296))) (fun _ hk => hk.1.2) (.int .i64 t285)) (fun _ hk => hk.1.2) (.int .i64 t286)) (fun _ hk => hk.1.2) (.slice Ao68 t287.length co68)) (fun _ hk => hk.2) (.int .i64 t290)) (fun _ hk => hk.2) (.slice Ao73 t291.length co73)) (fun _ hk => ⟨hk.1.1.1.1.1, ⟨hk.1.1.1.1.2.1, ⟨hk.1.1.1.1.2.2.1, ⟨hk.1.1.1.1.2.2.2.1, ⟨hk.1.1.1.1.2.2.2.2, ⟨hk.1.1.1.2, hk.1.1.2⟩⟩⟩⟩⟩⟩)⟩
                    have n4_ : Aside0 ((((((w62.setCell ⟨gb295, 0, none⟩ (.int .i64 t285)).setCell ⟨gb295, 1, none⟩ (.int .i64 t286)).setCell ⟨gb295, 2, none⟩ (.slice Ao68 t287.length co68)).setCell ⟨gb296, 0, none⟩ (.int .i64 t290)).setCell ⟨gb296, 1, none⟩ (.slice Ao73 t291.length co73)).heap[gb269]? = some (.cells #[.int .i64 a0_0, .slice A0_1 l0_1.length c0_1] 24 (0, 0))) := ⟨by (with_reducible repeat (first | refine blk_drewN ?_ _ | refine blk_drew ?_ | refine blk_alloc ?_ _)); refine blk_far ?_ NB269_296.out _; (with_reducible repeat (first | refine blk_drewN ?_ _ | refine blk_drew ?_ | refine blk_alloc ?_ _)); refine blk_far ?_ NB269_296.out _; (with_reducible repeat (first | refine blk_drewN ?_ _ | refine blk_drew ?_ | refine blk_alloc ?_ _)); refine blk_far ?_ NB269_295.out _; (with_reducible repeat (first | refine blk_drewN ?_ _ | refine blk_drew ?_ | refine blk_alloc ?_ _)); refine blk_far ?_ NB269_295.out _; (with_reducible repeat (first | refine blk_drewN ?_ _ | refine blk_drew ?_ | refine blk_alloc ?_ _)); refine blk_far ?_ NB269_295.out _; (with_reducible repeat (first | refine blk_drewN ?_ _ | refine blk_drew ?_ | refine blk_alloc ?_ _)); exact BK269.out⟩
                    have n5_ : Aside0 ((((((w62.setCell ⟨gb295, 0, none⟩ (.int .i64 t285)).setCell ⟨gb295, 1, none⟩ (.int .i64 t286)).setCell ⟨gb295, 2, none⟩ (.slice Ao68 t287.length co68)).setCell ⟨gb296, 0, none⟩ (.int .i64 t290)).setCell ⟨gb296, 1, none⟩ (.slice Ao73 t291.length co73)).heap[gb283]? = some (.cells #[.int .i64 t273, .int .i64 t274, .slice Ao53 t275.length co53] 29 (0, 0))) := ⟨by (with_reducible repeat (first | refine blk_drewN ?_ _ | refine blk_drew ?_ | refine blk_alloc ?_ _)); refine blk_far ?_ NB283_296.out _; (with_reducible repeat (first | refine blk_drewN ?_ _ | refine blk_drew ?_ | refine blk_alloc ?_ _)); refine blk_far ?_ NB283_296.out _; (with_reducible repeat (first | refine blk_drewN ?_ _ | refine blk_drew ?_ | refine blk_alloc ?_ _)); refine blk_far ?_ NB283_295.out _; (with_reducible repeat (first | refine blk_drewN ?_ _ | refine blk_drew ?_ | refine blk_alloc ?_ _)); refine blk_far ?_ NB283_295.out _; (with_reducible repeat (first | refine blk_drewN ?_ _ | refine blk_drew ?_ | refine blk_alloc ?_ _)); refine blk_far ?_ NB283_295.out _; (with_reducible repeat (first | refine blk_drewN ?_ _ | refine blk_drew ?_ | refine blk_alloc ?_ _)); exact BK283.out⟩
                    have n6_ : Aside0 ((((((w62.setCell ⟨gb295, 0, none⟩ (.int .i64 t285)).setCell ⟨gb295, 1, none⟩ (.int .i64 t286)).setCell ⟨gb295, 2, none⟩ (.slice Ao68 t287.length co68)).setCell ⟨gb296, 0, none⟩ (.int .i64 t290)).setCell ⟨gb296, 1, none⟩ (.slice Ao73 t291.length co73)).heap[gb284]? = some (.cells #[.int .i64 t278, .slice Ao57 t279.length co57] 24 (0, 0))) := ⟨by (with_reducible repeat (first | refine blk_drewN ?_ _ | refine blk_drew ?_ | refine blk_alloc ?_ _)); refine blk_far ?_ NB284_296.out _; (with_reducible repeat (first | refine blk_drewN ?_ _ | refine blk_drew ?_ | refine blk_alloc ?_ _)); refine blk_far ?_ NB284_296.out _; (with_reducible repeat (first | refine blk_drewN ?_ _ | refine blk_drew ?_ | refine blk_alloc ?_ _)); refine blk_far ?_ NB284_295.out _; (with_reducible repeat (first | refine blk_drewN ?_ _ | refine blk_drew ?_ | refine blk_alloc ?_ _)); refine blk_far ?_ NB284_295.out _; (with_reducible repeat (first | refine blk_drewN ?_ _ | refine blk_drew ?_ | refine blk_alloc ?_ _)); refine blk_far ?_ NB284_295.out _; (with_reducible repeat (first | refine blk_drewN ?_ _ | refine blk_drew ?_ | refine blk_alloc ?_ _)); exact BK284.out⟩
                    have n7_ : Aside0 ((((((w62.setCell ⟨gb295, 0, none⟩ (.int .i64 t285)).setCell ⟨gb295, 1, none⟩ (.int .i64 t286)).setCell ⟨gb295, 2, none⟩ (.slice Ao68 t287.length co68)).setCell ⟨gb296, 0, none⟩ (.int .i64 t290)).setCell ⟨gb296, 1, none⟩ (.slice Ao73 t291.length co73)).heap[gb295]? = some (.cells #[.int .i64 t285, .int .i64 t286, .slice Ao68 t287.length co68] 29 (0, 0))) := ⟨by (with_reducible repeat (first | refine blk_drewN ?_ _ | refine blk_drew ?_ | refine blk_alloc ?_ _)); refine blk_far ?_ NB295_296.out _; (with_reducible repeat (first | refine blk_drewN ?_ _ | refine blk_drew ?_ | refine blk_alloc ?_ _)); refine blk_far ?_ NB295_296.out _; (with_reducible repeat (first | refine blk_drewN ?_ _ | refine blk_drew ?_ | refine blk_alloc ?_ _)); refine blk_put (cs := #[.int .i64 t285, .int .i64 t286, .slice none 0 0]) ?_ 2 _ rfl; (with_reducible repeat (first | refine blk_drewN ?_ _ | refine blk_drew ?_ | refine blk_alloc ?_ _)); refine blk_put (cs := #[.int .i64 t285, .int .i64 0, .slice none 0 0]) ?_ 1 _ rfl; (with_reducible repeat (first | refine blk_drewN ?_ _ | refine blk_drew ?_ | refine blk_alloc ?_ _)); refine blk_put (cs := #[.int .i64 0, .int .i64 0, .slice none 0 0]) ?_ 0 _ rfl; (with_reducible repeat (first | refine blk_drewN ?_ _ | refine blk_drew ?_ | refine blk_alloc ?_ _)); exact BK295.out⟩
                    have n8_ : Aside0 ((((((w62.setCell ⟨gb295, 0, none⟩ (.int .i64 t285)).setCell ⟨gb295, 1, none⟩ (.int .i64 t286)).setCell ⟨gb295, 2, none⟩ (.slice Ao68 t287.length co68)).setCell ⟨gb296, 0, none⟩ (.int .i64 t290)).setCell ⟨gb296, 1, none⟩ (.slice Ao73 t291.length co73)).heap[gb296]? = some (.cells #[.int .i64 t290, .slice Ao73 t291.length co73] 24 (0, 0))) := ⟨by (with_reducible repeat (first | refine blk_drewN ?_ _ | refine blk_drew ?_ | refine blk_alloc ?_ _)); refine blk_put (cs := #[.int .i64 t290, .slice none 0 0]) ?_ 1 _ rfl; (with_reducible repeat (first | refine blk_drewN ?_ _ | refine blk_drew ?_ | refine blk_alloc ?_ _)); refine blk_put (cs := #[.int .i64 0, .slice none 0 0]) ?_ 0 _ rfl; (with_reducible repeat (first | refine blk_drewN ?_ _ | refine blk_drew ?_ | refine blk_alloc ?_ _)); refine blk_far ?_ NB296_295.out _; (with_reducible repeat (first | refine blk_drewN ?_ _ | refine blk_drew ?_ | refine blk_alloc ?_ _)); refine blk_far ?_ NB296_295.out _; (with_reducible repeat (first | refine blk_drewN ?_ _ | refine blk_drew ?_ | refine blk_alloc ?_ _)); refine blk_far ?_ NB296_295.out _; (with_reducible repeat (first | refine blk_drewN ?_ _ | refine blk_drew ?_ | refine blk_alloc ?_ _)); exact BK296.out⟩
                    have n9_ : Aside0 (Below w.heap.size w (((((w62.setCell ⟨gb295, 0, none⟩ (.int .i64 t285)).setCell ⟨gb295, 1, none⟩ (.int .i64 t286)).setCell ⟨gb295, 2, none⟩ (.slice Ao68 t287.length co68)).setCell ⟨gb296, 0, none⟩ (.int .i64 t290)).setCell ⟨gb296, 1, none⟩ (.slice Ao73 t291.length co73))) := ⟨by repeat (first | (with_reducible first | exact HB.out | apply below_alloc | apply pw_below_drewN | apply below_drew1 | refine below_set ?_ GE269.out | refine below_set ?_ GE283.out | refine below_set ?_ GE284.out | refine below_set ?_ GE295.out | refine below_set ?_ GE296.out) | exact HB.out)⟩
                    (try clear HO277)
                    (try clear HO281)
                    (try clear HO289)
                    (try clear HO293)
                    (try clear BK269)
                    (try clear BK283)
                    (try clear BK284)
                    (try clear BK295)
                    (try clear BK296)
                    (try clear HB)
                    generalize (((((w62.setCell ⟨gb295, 0, none⟩ (.int .i64 t285)).setCell ⟨gb295, 1, none⟩ (.int .i64 t286)).setCell ⟨gb295, 2, none⟩ (.slice Ao68 t287.length co68)).setCell ⟨gb296, 0, none⟩ (.int .i64 t290)).setCell ⟨gb296, 1, none⟩ (.slice Ao73 t291.length co73)) = w74 at n0_ n1_ n2_ n3_ n4_ n5_ n6_ n7_ n8_ n9_ ⊢
                    have HO277 := n0_
                    have HO281 := n1_
                    have HO289 := n2_
                    have HO293 := n3_
                    have BK269 := n4_
                    have BK283 := n5_
                    have BK284 := n6_
                    have BK295 := n7_
                    have BK296 := n8_
                    have HB := n9_
                    clear n0_ n1_ n2_ n3_ n4_ n5_ n6_ n7_ n8_ n9_
                    have n0_ := Aside0.mk (Kd.R_drew HO277.out)
                    have n1_ := Aside0.mk (Kd.N_drew HO281.out)
                    have n2_ := Aside0.mk (Kd.V_drew HO289.out)
                    have n3_ := Aside0.mk (Kd.V_drew HO293.out)
                    have n4_ := Aside0.mk (blk_drew BK269.out)
                    have n5_ := Aside0.mk (blk_drew BK283.out)
                    have n6_ := Aside0.mk (blk_drew BK284.out)
                    have n7_ := Aside0.mk (blk_drew BK295.out)
                    have n8_ := Aside0.mk (blk_drew BK296.out)
                    have n9_ := Aside0.mk (below_drew1 HB.out)
                    clear HO277
                    clear HO281
                    clear HO289
                    clear HO293
                    clear BK269
                    clear BK283
                    clear BK284
                    clear BK295
                    clear BK296
                    clear HB
                    have HO277 := n0_
                    have HO281 := n1_
                    have HO289 := n2_
                    have HO293 := n3_
                    have BK269 := n4_
                    have BK283 := n5_
                    have BK284 := n6_
                    have BK295 := n7_
                    have BK296 := n8_
                    have HB := n9_
                    clear n0_ n1_ n2_ n3_ n4_ n5_ n6_ n7_ n8_ n9_
                    refine start_ (n := 50) (S := fun w' => w'.cell? ⟨gb283, 0, none⟩ = some (.int .i64 t273) ∧ w'.cell? ⟨gb283, 1, none⟩ = some (.int .i64 t274) ∧ w'.cell? ⟨gb283, 2, none⟩ = some (.slice Ao53 t275.length co53) ∧ w'.cell? ⟨gb295, 0, none⟩ = some (.int .i64 t285) ∧ w'.cell? ⟨gb295, 1, none⟩ = some (.int .i64 t286) ∧ w'.cell? ⟨gb295, 2, none⟩ = some (.slice Ao68 t287.length co68) ∧ w'.cell? ⟨gb284, 0, none⟩ = some (.int .i64 t278) ∧ w'.cell? ⟨gb284, 1, none⟩ = some (.slice Ao57 t279.length co57) ∧ w'.cell? ⟨gb296, 0, none⟩ = some (.int .i64 t290) ∧ w'.cell? ⟨gb296, 1, none⟩ = some (.slice Ao73 t291.length co73) ∧ w'.cell? ⟨gb269, 0, none⟩ = some (.int .i64 a0_0) ∧ w'.cell? ⟨gb269, 1, none⟩ = some (.slice A0_1 l0_1.length c0_1)) (ds := []) #[false, false, false, false, false, false, false, false, false, false, false, false, false, false, false, false, false, false, false, false, false, false, false, false, false, false, false, false, false, false, false, false, false, false, false, false, false, false, false, false, false, false, false, false, false, false, false, false, false, false] (by kernel_rfl) rfl rfl ⟨(blk_cell BK283.out 0).trans rfl, (blk_cell BK283.out 1).trans rfl, (blk_cell BK283.out 2).trans rfl, (blk_cell BK295.out 0).trans rfl, (blk_cell BK295.out 1).trans rfl, (blk_cell BK295.out 2).trans rfl, (blk_cell BK284.out 0).trans rfl, (blk_cell BK284.out 1).trans rfl, (blk_cell BK296.out 0).trans rfl, (blk_cell BK296.out 1).trans rfl, (blk_cell BK269.out 0).trans rfl, (blk_cell BK269.out 1).trans rfl⟩ (fun hHeld => ?_); refine with_tabW lockgatelaw11_NetActs.tab5 lockgatelaw11_NetActs.bits5 (fun HT_ HW_ => ?_)
                    generalize w74.drew = w75 at HO277 HO281 HO289 HO293 BK269 BK283 BK284 BK295 BK296 HB hHeld ⊢
                    refine take_ (i := 0) (N := some 46) (v := ?_) (a' := ?_) #[true, false, false, false, false, false, false, false, false, false, false, false, false, false, false, false, false, false, false, false, false, false, false, false, false, false, false, false, false, false, false, false, false, false, false, false, false, false, false, false, false, false, false, false, false, false, false, false, false, false] rfl rfl (take_ofW HT_.out HW_.out (by kernel_rfl)) (fun _ _ _ h => h) (Or.inl ⟨by rfl, ?_⟩) hHeld ?_ ?_
                    rotate_left
                    · rintro w' ⟨s0, s1, s2, s3, s4, s5, s6, s7, s8, s9, s10, s11⟩
                      go_simp
                      with_reducible rfl
                    rotate_left
                    · simp only [Act.put, List.setIfInBounds_toArray, List.set_cons_zero, List.set_cons_succ, i64_w, i32_w]
                      rfl
                    refine take_ (i := 1) (N := some 47) (v := ?_) (a' := ?_) #[true, true, false, false, false, false, false, false, false, false, false, false, false, false, false, false, false, false, false, false, false, false, false, false, false, false, false, false, false, false, false, false, false, false, false, false, false, false, false, false, false, false, false, false, false, false, false, false, false, false] rfl rfl (take_ofW HT_.out HW_.out (by kernel_rfl)) (fun _ _ _ h => h) (Or.inl ⟨by rfl, ?_⟩) hHeld ?_ ?_
                    rotate_left
                    · rintro w' ⟨s0, s1, s2, s3, s4, s5, s6, s7, s8, s9, s10, s11⟩
                      go_simp
                      with_reducible rfl
                    rotate_left
                    · simp only [Act.put, List.setIfInBounds_toArray, List.set_cons_zero, List.set_cons_succ, i64_w, i32_w]
                      rfl
                    refine one_ (i := 2) (N := some 48) #[true, true, true, false, false, false, false, false, false, false, false, false, false, false, false, false, false, false, false, false, false, false, false, false, false, false, false, false, false, false, false, false, false, false, false, false, false, false, false, false, false, false, false, false, false, false, false, false, false, false] rfl rfl (one_of HT_.out (by kernel_rfl)) (by decide) (fun K hK => ?_)
                    refine goes_ Try.func14 (by kernel_rfl) rfl #[.agg #[.int .i64 t273, .int .i64 t274, .slice Ao53 t275.length co53], .agg #[.int .i64 t285, .int .i64 t286, .slice Ao68 t287.length co68]] (by rfl) rfl rfl (by (try simp only [List.map_toArray, List.map_cons, List.map_nil]); first | done | rfl | (simp only [List.length_drop, List.length_take]; rfl)) ?_
                    with_reducible refine (lockgateref11_SamePacket.calls kj4 t273 t274 _ _ t275 t285 t286 _ _ t287 true _ ?side1 ?side2 ?side3 ?side4 A27.out).mono ?_
                    (case side1 => repeat (first | exact (Kd.R_reads' HO277.out).2.2 | (with_reducible refine Kd.C_alloc ?_ _) | (with_reducible refine Kd.C_drewN ?_ _) | (with_reducible refine Kd.C_drew ?_)))
                    (case side2 => exact (Kd.R_reads' HO277.out).2.1)
                    (case side3 => repeat (first | exact (Kd.V_reads' HO289.out).2.2 | (with_reducible refine Kd.C_alloc ?_ _) | (with_reducible refine Kd.C_drewN ?_ _) | (with_reducible refine Kd.C_drew ?_)))
                    (case side4 => exact (Kd.V_reads' HO289.out).2.1)
                    rintro e w76 ⟨rfl, hb⟩
                    refine ⟨_, rfl, ?_⟩
                    have n0_ := Aside0.mk (Kd.R_below (by (with_reducible repeat (first | apply Kd.R_alloc | apply Kd.R_drewN | apply Kd.R_drew)); exact HO277.out) hb)
                    have n1_ := Aside0.mk (Kd.N_below (by (with_reducible repeat (first | apply Kd.N_alloc | apply Kd.N_drewN | apply Kd.N_drew)); exact HO281.out) hb)
                    have n2_ := Aside0.mk (Kd.V_below (by (with_reducible repeat (first | apply Kd.V_alloc | apply Kd.V_drewN | apply Kd.V_drew)); exact HO289.out) hb)
                    have n3_ := Aside0.mk (Kd.V_below (by (with_reducible repeat (first | apply Kd.V_alloc | apply Kd.V_drewN | apply Kd.V_drew)); exact HO293.out) hb)
                    have n4_ := Aside0.mk (blk_below (g := gb269) (o := .cells #[.int .i64 a0_0, .slice A0_1 l0_1.length c0_1] 24 (0, 0)) (by (with_reducible repeat (first | refine blk_drewN ?_ _ | refine blk_drew ?_ | refine blk_alloc ?_ _)); exact BK269.out) hb)
                    have n5_ := Aside0.mk (blk_below (g := gb283) (o := .cells #[.int .i64 t273, .int .i64 t274, .slice Ao53 t275.length co53] 29 (0, 0)) (by (with_reducible repeat (first | refine blk_drewN ?_ _ | refine blk_drew ?_ | refine blk_alloc ?_ _)); exact BK283.out) hb)
                    have n6_ := Aside0.mk (blk_below (g := gb284) (o := .cells #[.int .i64 t278, .slice Ao57 t279.length co57] 24 (0, 0)) (by (with_reducible repeat (first | refine blk_drewN ?_ _ | refine blk_drew ?_ | refine blk_alloc ?_ _)); exact BK284.out) hb)
                    have n7_ := Aside0.mk (blk_below (g := gb295) (o := .cells #[.int .i64 t285, .int .i64 t286, .slice Ao68 t287.length co68] 29 (0, 0)) (by (with_reducible repeat (first | refine blk_drewN ?_ _ | refine blk_drew ?_ | refine blk_alloc ?_ _)); exact BK295.out) hb)
                    have n8_ := Aside0.mk (blk_below (g := gb296) (o := .cells #[.int .i64 t290, .slice Ao73 t291.length co73] 24 (0, 0)) (by (with_reducible repeat (first | refine blk_drewN ?_ _ | refine blk_drew ?_ | refine blk_alloc ?_ _)); exact BK296.out) hb)
                    have n9_ := Aside0.mk (below_step (by repeat (first | (with_reducible first | exact HB.out | apply below_alloc | apply pw_below_drewN | apply below_drew1 | refine below_set ?_ GE269.out | refine below_set ?_ GE283.out | refine below_set ?_ GE284.out | refine below_set ?_ GE295.out | refine below_set ?_ GE296.out) | exact HB.out)) hb)
                    clear HO277
                    clear HO281
                    clear HO289
                    clear HO293
                    clear BK269
                    clear BK283
                    clear BK284
                    clear BK295
                    clear BK296
                    clear HB
                    have HO277 := n0_
                    have HO281 := n1_
                    have HO289 := n2_
                    have HO293 := n3_
                    have BK269 := n4_
                    have BK283 := n5_
                    have BK284 := n6_
                    have BK295 := n7_
                    have BK296 := n8_
                    have HB := n9_
                    clear n0_ n1_ n2_ n3_ n4_ n5_ n6_ n7_ n8_ n9_
                    (try clear hb)
                    (try clear hb2)
                    (try clear hk)
                    (try clear hi)
                    refine hK.out _ _ ⟨(blk_cell BK283.out 0).trans rfl, (blk_cell BK283.out 1).trans rfl, (blk_cell BK283.out 2).trans rfl, (blk_cell BK295.out 0).trans rfl, (blk_cell BK295.out 1).trans rfl, (blk_cell BK295.out 2).trans rfl, (blk_cell BK284.out 0).trans rfl, (blk_cell BK284.out 1).trans rfl, (blk_cell BK296.out 0).trans rfl, (blk_cell BK296.out 1).trans rfl, (blk_cell BK269.out 0).trans rfl, (blk_cell BK269.out 1).trans rfl⟩ (fun hHeld => ?_)
                    clear hK K
                    refine norm_ (a' := ?_) ?_ ?_
                    rotate_left
                    · show Act.put _ (some 48) _ = _
                      simp only [Act.put, List.setIfInBounds_toArray, List.set_cons_zero, List.set_cons_succ, i64_w, i32_w]
                      rfl
                    refine pure_ (i := 3) (N := some 49) (v := ?_) (a' := ?_) #[true, true, true, true, false, false, false, false, false, false, false, false, false, false, false, false, false, false, false, false, false, false, false, false, false, false, false, false, false, false, false, false, false, false, false, false, false, false, false, false, false, false, false, false, false, false, false, false, false, false] rfl rfl (any_of HT_.out (by kernel_rfl)) (fun _ _ _ h => h) (Or.inl ⟨by rfl, ?_⟩) ?_ ?_
                    rotate_left
                    · intro w'
                      go_simp
                      with_reducible rfl
                    rotate_left
                    · simp only [Act.put, List.setIfInBounds_toArray, List.set_cons_zero, List.set_cons_succ, i64_w, i32_w]
                      rfl
                    refine take_ (i := 4) (N := some 50) (v := ?_) (a' := ?_) #[true, true, true, true, true, false, false, false, false, false, false, false, false, false, false, false, false, false, false, false, false, false, false, false, false, false, false, false, false, false, false, false, false, false, false, false, false, false, false, false, false, false, false, false, false, false, false, false, false, false] rfl rfl (take_ofW HT_.out HW_.out (by kernel_rfl)) (fun _ _ _ h => h) (Or.inl ⟨by rfl, ?_⟩) hHeld ?_ ?_
                    rotate_left
                    · rintro w' ⟨s0, s1, s2, s3, s4, s5, s6, s7, s8, s9, s10, s11⟩
                      go_simp
                      with_reducible rfl
                    rotate_left
                    · simp only [Act.put, List.setIfInBounds_toArray, List.set_cons_zero, List.set_cons_succ, i64_w, i32_w]
                      rfl
                    refine take_ (i := 5) (N := some 51) (v := ?_) (a' := ?_) #[true, true, true, true, true, true, false, false, false, false, false, false, false, false, false, false, false, false, false, false, false, false, false, false, false, false, false, false, false, false, false, false, false, false, false, false, false, false, false, false, false, false, false, false, false, false, false, false, false, false] rfl rfl (take_ofW HT_.out HW_.out (by kernel_rfl)) (fun _ _ _ h => h) (Or.inl ⟨by rfl, ?_⟩) hHeld ?_ ?_
                    rotate_left
                    · rintro w' ⟨s0, s1, s2, s3, s4, s5, s6, s7, s8, s9, s10, s11⟩
                      go_simp
                      with_reducible rfl
                    rotate_left
                    · simp only [Act.put, List.setIfInBounds_toArray, List.set_cons_zero, List.set_cons_succ, i64_w, i32_w]
                      rfl
                    refine one_ (i := 6) (N := some 52) #[true, true, true, true, true, true, true, false, false, false, false, false, false, false, false, false, false, false, false, false, false, false, false, false, false, false, false, false, false, false, false, false, false, false, false, false, false, false, false, false, false, false, false, false, false, false, false, false, false, false] rfl rfl (one_of HT_.out (by kernel_rfl)) (by decide) (fun K hK => ?_)
                    refine goes_ Try.func12 (by kernel_rfl) rfl #[.agg #[.int .i64 t278, .slice Ao57 t279.length co57], .agg #[.int .i64 t290, .slice Ao73 t291.length co73]] (by rfl) rfl rfl (by (try simp only [List.map_toArray, List.map_cons, List.map_nil]); first | done | rfl | (simp only [List.length_drop, List.length_take]; rfl)) ?_
                    with_reducible refine (lockgateref11_Same.calls kj4 t278 _ _ t279 t290 _ _ t291 true _ ?side1 ?side2 ?side3 ?side4 A29.out).mono ?_
                    (case side1 => repeat (first | exact (Kd.N_reads' HO281.out).2.2 | (with_reducible refine Kd.C_alloc ?_ _) | (with_reducible refine Kd.C_drewN ?_ _) | (with_reducible refine Kd.C_drew ?_)))
                    (case side2 => exact (Kd.N_reads' HO281.out).2.1)
                    (case side3 => repeat (first | exact (Kd.V_reads' HO293.out).2.2 | (with_reducible refine Kd.C_alloc ?_ _) | (with_reducible refine Kd.C_drewN ?_ _) | (with_reducible refine Kd.C_drew ?_)))
                    (case side4 => exact (Kd.V_reads' HO293.out).2.1)
                    rintro e w77 ⟨rfl, hb⟩
                    refine ⟨_, rfl, ?_⟩
                    have n0_ := Aside0.mk (Kd.R_below (by (with_reducible repeat (first | apply Kd.R_alloc | apply Kd.R_drewN | apply Kd.R_drew)); exact HO277.out) hb)
                    have n1_ := Aside0.mk (Kd.N_below (by (with_reducible repeat (first | apply Kd.N_alloc | apply Kd.N_drewN | apply Kd.N_drew)); exact HO281.out) hb)
                    have n2_ := Aside0.mk (Kd.V_below (by (with_reducible repeat (first | apply Kd.V_alloc | apply Kd.V_drewN | apply Kd.V_drew)); exact HO289.out) hb)
                    have n3_ := Aside0.mk (Kd.V_below (by (with_reducible repeat (first | apply Kd.V_alloc | apply Kd.V_drewN | apply Kd.V_drew)); exact HO293.out) hb)
                    have n4_ := Aside0.mk (blk_below (g := gb269) (o := .cells #[.int .i64 a0_0, .slice A0_1 l0_1.length c0_1] 24 (0, 0)) (by (with_reducible repeat (first | refine blk_drewN ?_ _ | refine blk_drew ?_ | refine blk_alloc ?_ _)); exact BK269.out) hb)
                    have n5_ := Aside0.mk (blk_below (g := gb283) (o := .cells #[.int .i64 t273, .int .i64 t274, .slice Ao53 t275.length co53] 29 (0, 0)) (by (with_reducible repeat (first | refine blk_drewN ?_ _ | refine blk_drew ?_ | refine blk_alloc ?_ _)); exact BK283.out) hb)
                    have n6_ := Aside0.mk (blk_below (g := gb284) (o := .cells #[.int .i64 t278, .slice Ao57 t279.length co57] 24 (0, 0)) (by (with_reducible repeat (first | refine blk_drewN ?_ _ | refine blk_drew ?_ | refine blk_alloc ?_ _)); exact BK284.out) hb)
                    have n7_ := Aside0.mk (blk_below (g := gb295) (o := .cells #[.int .i64 t285, .int .i64 t286, .slice Ao68 t287.length co68] 29 (0, 0)) (by (with_reducible repeat (first | refine blk_drewN ?_ _ | refine blk_drew ?_ | refine blk_alloc ?_ _)); exact BK295.out) hb)
                    have n8_ := Aside0.mk (blk_below (g := gb296) (o := .cells #[.int .i64 t290, .slice Ao73 t291.length co73] 24 (0, 0)) (by (with_reducible repeat (first | refine blk_drewN ?_ _ | refine blk_drew ?_ | refine blk_alloc ?_ _)); exact BK296.out) hb)
                    have n9_ := Aside0.mk (below_step (by repeat (first | (with_reducible first | exact HB.out | apply below_alloc | apply pw_below_drewN | apply below_drew1 | refine below_set ?_ GE269.out | refine below_set ?_ GE283.out | refine below_set ?_ GE284.out | refine below_set ?_ GE295.out | refine below_set ?_ GE296.out) | exact HB.out)) hb)
                    clear HO277
                    clear HO281
                    clear HO289
                    clear HO293
                    clear BK269
                    clear BK283
                    clear BK284
                    clear BK295
                    clear BK296
                    clear HB
                    have HO277 := n0_
                    have HO281 := n1_
                    have HO289 := n2_
                    have HO293 := n3_
                    have BK269 := n4_
                    have BK283 := n5_
                    have BK284 := n6_
                    have BK295 := n7_
                    have BK296 := n8_
                    have HB := n9_
                    clear n0_ n1_ n2_ n3_ n4_ n5_ n6_ n7_ n8_ n9_
                    (try clear hb)
                    (try clear hb2)
                    (try clear hk)
                    (try clear hi)
                    refine hK.out _ _ ⟨(blk_cell BK283.out 0).trans rfl, (blk_cell BK283.out 1).trans rfl, (blk_cell BK283.out 2).trans rfl, (blk_cell BK295.out 0).trans rfl, (blk_cell BK295.out 1).trans rfl, (blk_cell BK295.out 2).trans rfl, (blk_cell BK284.out 0).trans rfl, (blk_cell BK284.out 1).trans rfl, (blk_cell BK296.out 0).trans rfl, (blk_cell BK296.out 1).trans rfl, (blk_cell BK269.out 0).trans rfl, (blk_cell BK269.out 1).trans rfl⟩ (fun hHeld => ?_)
                    clear hK K
                    refine norm_ (a' := ?_) ?_ ?_
                    rotate_left
                    · show Act.put _ (some 52) _ = _
                      simp only [Act.put, List.setIfInBounds_toArray, List.set_cons_zero, List.set_cons_succ, i64_w, i32_w]
                      rfl
                    refine pure_ (i := 7) (N := some 53) (v := ?_) (a' := ?_) #[true, true, true, true, true, true, true, true, false, false, false, false, false, false, false, false, false, false, false, false, false, false, false, false, false, false, false, false, false, false, false, false, false, false, false, false, false, false, false, false, false, false, false, false, false, false, false, false, false, false] rfl rfl (any_of HT_.out (by kernel_rfl)) (fun _ _ _ h => h) (Or.inl ⟨by rfl, ?_⟩) ?_ ?_
                    rotate_left
                    · intro w'
                      go_simp
                      with_reducible rfl
                    rotate_left
                    · simp only [Act.put, List.setIfInBounds_toArray, List.set_cons_zero, List.set_cons_succ, i64_w, i32_w]
                      rfl
                    refine pure_ (i := 8) (N := some 54) (v := ?_) (a' := ?_) #[true, true, true, true, true, true, true, true, true, false, false, false, false, false, false, false, false, false, false, false, false, false, false, false, false, false, false, false, false, false, false, false, false, false, false, false, false, false, false, false, false, false, false, false, false, false, false, false, false, false] rfl rfl (any_of HT_.out (by kernel_rfl)) (fun _ _ _ h => h) (Or.inl ⟨by rfl, ?_⟩) ?_ ?_
                    rotate_left
                    · intro w'
                      go_simp
                      with_reducible rfl
                    rotate_left
                    · simp only [Act.put, List.setIfInBounds_toArray, List.set_cons_zero, List.set_cons_succ, i64_w, i32_w]
                      rfl
                    refine pure_ (i := 9) (N := some 55) (v := ?_) (a' := ?_) #[true, true, true, true, true, true, true, true, true, true, false, false, false, false, false, false, false, false, false, false, false, false, false, false, false, false, false, false, false, false, false, false, false, false, false, false, false, false, false, false, false, false, false, false, false, false, false, false, false, false] rfl rfl (any_of HT_.out (by kernel_rfl)) (fun _ _ _ h => h) (Or.inl ⟨by rfl, ?_⟩) ?_ ?_
                    rotate_left
                    · intro w'
                      go_simp
                      with_reducible rfl
                    rotate_left
                    · simp only [Act.put, List.setIfInBounds_toArray, List.set_cons_zero, List.set_cons_succ, i64_w, i32_w]
                      rfl
                    refine pure_ (i := 10) (N := some 56) (v := ?_) (a' := ?_) #[true, true, true, true, true, true, true, true, true, true, true, false, false, false, false, false, false, false, false, false, false, false, false, false, false, false, false, false, false, false, false, false, false, false, false, false, false, false, false, false, false, false, false, false, false, false, false, false, false, false] rfl rfl (any_of HT_.out (by kernel_rfl)) (fun _ _ _ h => h) (Or.inl ⟨by rfl, ?_⟩) ?_ ?_
                    rotate_left
                    · intro w'
                      go_simp
                      with_reducible rfl
                    rotate_left
                    · simp only [Act.put, List.setIfInBounds_toArray, List.set_cons_zero, List.set_cons_succ, i64_w, i32_w]
                      rfl
                    refine pure_ (i := 11) (N := some 57) (v := ?_) (a' := ?_) #[true, true, true, true, true, true, true, true, true, true, true, true, false, false, false, false, false, false, false, false, false, false, false, false, false, false, false, false, false, false, false, false, false, false, false, false, false, false, false, false, false, false, false, false, false, false, false, false, false, false] rfl rfl (any_of HT_.out (by kernel_rfl)) (fun _ _ _ h => h) (Or.inl ⟨by rfl, ?_⟩) ?_ ?_
                    rotate_left
                    · intro w'
                      go_simp
                      with_reducible rfl
                    rotate_left
                    · simp only [Act.put, List.setIfInBounds_toArray, List.set_cons_zero, List.set_cons_succ, i64_w, i32_w]
                      rfl
                    refine pure_ (i := 12) (N := some 58) (v := ?_) (a' := ?_) #[true, true, true, true, true, true, true, true, true, true, true, true, true, false, false, false, false, false, false, false, false, false, false, false, false, false, false, false, false, false, false, false, false, false, false, false, false, false, false, false, false, false, false, false, false, false, false, false, false, false] rfl rfl (any_of HT_.out (by kernel_rfl)) (fun _ _ _ h => h) (Or.inl ⟨by rfl, ?_⟩) ?_ ?_
                    rotate_left
                    · intro w'
                      go_simp
                      with_reducible rfl
                    rotate_left
                    · simp only [Act.put, List.setIfInBounds_toArray, List.set_cons_zero, List.set_cons_succ, i64_w, i32_w]
                      rfl
                    refine pure_ (i := 13) (N := some 59) (v := ?_) (a' := ?_) #[true, true, true, true, true, true, true, true, true, true, true, true, true, true, false, false, false, false, false, false, false, false, false, false, false, false, false, false, false, false, false, false, false, false, false, false, false, false, false, false, false, false, false, false, false, false, false, false, false, false] rfl rfl (any_of HT_.out (by kernel_rfl)) (fun _ _ _ h => h) (Or.inl ⟨by rfl, ?_⟩) ?_ ?_
                    rotate_left
                    · intro w'
                      go_simp
                      with_reducible rfl
                    rotate_left
                    · simp only [Act.put, List.setIfInBounds_toArray, List.set_cons_zero, List.set_cons_succ, i64_w, i32_w]
                      rfl
                    refine pure_ (i := 15) (N := some 61) (v := ?_) (a' := ?_) #[true, true, true, true, true, true, true, true, true, true, true, true, true, true, false, true, false, false, false, false, false, false, false, false, false, false, false, false, false, false, false, false, false, false, false, false, false, false, false, false, false, false, false, false, false, false, false, false, false, false] rfl rfl (any_of HT_.out (by kernel_rfl)) (fun _ _ _ h => h) (Or.inl ⟨by rfl, ?_⟩) ?_ ?_
                    rotate_left
                    · intro w'
                      go_simp
                      with_reducible rfl
                    rotate_left
                    · simp only [Act.put, List.setIfInBounds_toArray, List.set_cons_zero, List.set_cons_succ, i64_w, i32_w]
                      rfl
                    refine pure_ (i := 16) (N := some 62) (v := ?_) (a' := ?_) #[true, true, true, true, true, true, true, true, true, true, true, true, true, true, false, true, true, false, false, false, false, false, false, false, false, false, false, false, false, false, false, false, false, false, false, false, false, false, false, false, false, false, false, false, false, false, false, false, false, false] rfl rfl (any_of HT_.out (by kernel_rfl)) (fun _ _ _ h => h) (Or.inl ⟨by rfl, ?_⟩) ?_ ?_
                    rotate_left
                    · intro w'
                      go_simp
                      with_reducible rfl
                    rotate_left
                    · simp only [Act.put, List.setIfInBounds_toArray, List.set_cons_zero, List.set_cons_succ, i64_w, i32_w]
                      rfl
                    refine pure_ (i := 19) (N := some 65) (v := ?_) (a' := ?_) #[true, true, true, true, true, true, true, true, true, true, true, true, true, true, false, true, true, false, false, true, false, false, false, false, false, false, false, false, false, false, false, false, false, false, false, false, false, false, false, false, false, false, false, false, false, false, false, false, false, false] rfl rfl (any_of HT_.out (by kernel_rfl)) (fun _ _ _ h => h) (Or.inl ⟨by rfl, ?_⟩) ?_ ?_
                    rotate_left
                    · intro w'
                      go_simp
                      with_reducible rfl
                    rotate_left
                    · simp only [Act.put, List.setIfInBounds_toArray, List.set_cons_zero, List.set_cons_succ, i64_w, i32_w]
                      rfl
                    refine pure_ (i := 20) (N := some 66) (v := ?_) (a' := ?_) #[true, true, true, true, true, true, true, true, true, true, true, true, true, true, false, true, true, false, false, true, true, false, false, false, false, false, false, false, false, false, false, false, false, false, false, false, false, false, false, false, false, false, false, false, false, false, false, false, false, false] rfl rfl (any_of HT_.out (by kernel_rfl)) (fun _ _ _ h => h) (Or.inl ⟨by rfl, ?_⟩) ?_ ?_
                    rotate_left
                    · intro w'
                      go_simp
                      with_reducible rfl
                    rotate_left
                    · simp only [Act.put, List.setIfInBounds_toArray, List.set_cons_zero, List.set_cons_succ, i64_w, i32_w]
                      rfl
                    refine take_ (i := 14) (N := some 60) (v := ?_) (a' := ?_) #[true, true, true, true, true, true, true, true, true, true, true, true, true, true, true, true, true, false, false, true, true, false, false, false, false, false, false, false, false, false, false, false, false, false, false, false, false, false, false, false, false, false, false, false, false, false, false, false, false, false] rfl rfl (take_ofW HT_.out HW_.out (by kernel_rfl)) (fun _ _ _ h => h) (Or.inl ⟨by rfl, ?_⟩) hHeld ?_ ?_
                    rotate_left
                    · rintro w' ⟨s0, s1, s2, s3, s4, s5, s6, s7, s8, s9, s10, s11⟩
                      go_simp
                      with_reducible rfl
                    rotate_left
                    · simp only [Act.put, List.setIfInBounds_toArray, List.set_cons_zero, List.set_cons_succ, i64_w, i32_w]
                      rfl
                    refine take_ (i := 18) (N := some 64) (v := ?_) (a' := ?_) #[true, true, true, true, true, true, true, true, true, true, true, true, true, true, true, true, true, false, true, true, true, false, false, false, false, false, false, false, false, false, false, false, false, false, false, false, false, false, false, false, false, false, false, false, false, false, false, false, false, false] rfl rfl (take_ofW HT_.out HW_.out (by kernel_rfl)) (fun _ _ _ h => h) (Or.inl ⟨by rfl, ?_⟩) hHeld ?_ ?_
                    rotate_left
                    · rintro w' ⟨s0, s1, s2, s3, s4, s5, s6, s7, s8, s9, s10, s11⟩
                      go_simp
                      with_reducible rfl
                    rotate_left
                    · simp only [Act.put, List.setIfInBounds_toArray, List.set_cons_zero, List.set_cons_succ, i64_w, i32_w]
                      rfl
                    refine one_ (i := 17) (N := some 63) #[true, true, true, true, true, true, true, true, true, true, true, true, true, true, true, true, true, true, true, true, true, false, false, false, false, false, false, false, false, false, false, false, false, false, false, false, false, false, false, false, false, false, false, false, false, false, false, false, false, false] rfl rfl (one_of HT_.out (by kernel_rfl)) (by decide) (fun K hK => ?_)
                    refine goes_ Try.func10 (by kernel_rfl) rfl #[.agg #[.int .i64 a0_0, .slice A0_1 l0_1.length c0_1], .int .i64 a1, .slice A2 l2.length c2] (by rfl) rfl rfl (by (try simp only [List.map_toArray, List.map_cons, List.map_nil]); first | done | rfl | (simp only [List.length_drop, List.length_take]; rfl)) ?_
                    with_reducible refine (net_Send.calls kj4 a0_0 _ _ l0_1 a1 _ _ l2 t299 t300 _ ?side1 ?side2 ?side3 ?side4 A32.out).mono ?_
                    (case side1 => repeat (first | exact (Kd.C_below HR0_1.out HB.out) | (with_reducible refine Kd.C_alloc ?_ _) | (with_reducible refine Kd.C_drewN ?_ _) | (with_reducible refine Kd.C_drew ?_)))
                    (case side2 => exact HC0_1.out)
                    (case side3 => repeat (first | exact (Kd.C_below HR2.out HB.out) | (with_reducible refine Kd.C_alloc ?_ _) | (with_reducible refine Kd.C_drewN ?_ _) | (with_reducible refine Kd.C_drew ?_)))
                    (case side4 => exact HC2.out)
                    rintro e w78 ⟨v301, rfl, ho0, hb⟩
                    refine ⟨_, rfl, ?_⟩
                    have n0_ := Aside0.mk (Kd.R_below (by (with_reducible repeat (first | apply Kd.R_alloc | apply Kd.R_drewN | apply Kd.R_drew)); exact HO277.out) hb)
                    have n1_ := Aside0.mk (Kd.N_elder' (by (with_reducible repeat (first | apply Kd.N_alloc | apply Kd.N_drewN | apply Kd.N_drew)); exact HO281.out) (Kd.S_base ho0) hb)
                    have n2_ := Aside0.mk (Kd.V_elder' (by (with_reducible repeat (first | apply Kd.V_alloc | apply Kd.V_drewN | apply Kd.V_drew)); exact HO289.out) (Kd.S_base ho0) hb)
                    have n3_ := Aside0.mk (Kd.V_elder' (by (with_reducible repeat (first | apply Kd.V_alloc | apply Kd.V_drewN | apply Kd.V_drew)); exact HO293.out) (Kd.S_base ho0) hb)
                    have n4_ := Aside0.mk (Kd.N_lower (Kd.N_mono (ok' := fun k_ => some k_ ≠ (.slice Ao53 t275.length co53 : Value).ownBlock ∧ some k_ ≠ (.slice Ao57 t279.length co57 : Value).ownBlock ∧ k_ ≠ gb269 ∧ k_ ≠ gb283 ∧ k_ ≠ gb284 ∧ k_ ≠ gb295 ∧ k_ ≠ gb296) (Kd.S_N (Kd.S_bound ho0)) (fun k_ hk_ => ⟨(Kd.fresh' (Kd.R_lt (by (with_reducible repeat (first | apply Kd.R_alloc | apply Kd.R_drewN | apply Kd.R_drew)); exact HO277.out)) k_ hk_.2.1), (Kd.fresh' (Kd.N_lt (by (with_reducible repeat (first | apply Kd.N_alloc | apply Kd.N_drewN | apply Kd.N_drew)); exact HO281.out)) k_ hk_.2.1), (Kd.freshB (g := gb269) (o := .cells #[.int .i64 a0_0, .slice A0_1 l0_1.length c0_1] 24 (0, 0)) (by (with_reducible repeat (first | refine blk_drewN ?_ _ | refine blk_drew ?_ | refine blk_alloc ?_ _)); exact BK269.out) k_ hk_.2.1), (Kd.freshB (g := gb283) (o := .cells #[.int .i64 t273, .int .i64 t274, .slice Ao53 t275.length co53] 29 (0, 0)) (by (with_reducible repeat (first | refine blk_drewN ?_ _ | refine blk_drew ?_ | refine blk_alloc ?_ _)); exact BK283.out) k_ hk_.2.1), (Kd.freshB (g := gb284) (o := .cells #[.int .i64 t278, .slice Ao57 t279.length co57] 24 (0, 0)) (by (with_reducible repeat (first | refine blk_drewN ?_ _ | refine blk_drew ?_ | refine blk_alloc ?_ _)); exact BK284.out) k_ hk_.2.1), (Kd.freshB (g := gb295) (o := .cells #[.int .i64 t285, .int .i64 t286, .slice Ao68 t287.length co68] 29 (0, 0)) (by (with_reducible repeat (first | refine blk_drewN ?_ _ | refine blk_drew ?_ | refine blk_alloc ?_ _)); exact BK295.out) k_ hk_.2.1), (Kd.freshB (g := gb296) (o := .cells #[.int .i64 t290, .slice Ao73 t291.length co73] 24 (0, 0)) (by (with_reducible repeat (first | refine blk_drewN ?_ _ | refine blk_drew ?_ | refine blk_alloc ?_ _)); exact BK296.out) k_ hk_.2.1)⟩)) (below_size (by repeat (first | (with_reducible first | exact HB.out | apply below_alloc | apply pw_below_drewN | apply below_drew1 | refine below_set ?_ GE269.out | refine below_set ?_ GE283.out | refine below_set ?_ GE284.out | refine below_set ?_ GE295.out | refine below_set ?_ GE296.out) | exact HB.out))))
                    have n5_ := Aside0.mk (blk_below (g := gb269) (o := .cells #[.int .i64 a0_0, .slice A0_1 l0_1.length c0_1] 24 (0, 0)) (by (with_reducible repeat (first | refine blk_drewN ?_ _ | refine blk_drew ?_ | refine blk_alloc ?_ _)); exact BK269.out) hb)
                    have n6_ := Aside0.mk (blk_below (g := gb283) (o := .cells #[.int .i64 t273, .int .i64 t274, .slice Ao53 t275.length co53] 29 (0, 0)) (by (with_reducible repeat (first | refine blk_drewN ?_ _ | refine blk_drew ?_ | refine blk_alloc ?_ _)); exact BK283.out) hb)
                    have n7_ := Aside0.mk (blk_below (g := gb284) (o := .cells #[.int .i64 t278, .slice Ao57 t279.length co57] 24 (0, 0)) (by (with_reducible repeat (first | refine blk_drewN ?_ _ | refine blk_drew ?_ | refine blk_alloc ?_ _)); exact BK284.out) hb)
                    have n8_ := Aside0.mk (blk_below (g := gb295) (o := .cells #[.int .i64 t285, .int .i64 t286, .slice Ao68 t287.length co68] 29 (0, 0)) (by (with_reducible repeat (first | refine blk_drewN ?_ _ | refine blk_drew ?_ | refine blk_alloc ?_ _)); exact BK295.out) hb)
                    have n9_ := Aside0.mk (blk_below (g := gb296) (o := .cells #[.int .i64 t290, .slice Ao73 t291.length co73] 24 (0, 0)) (by (with_reducible repeat (first | refine blk_drewN ?_ _ | refine blk_drew ?_ | refine blk_alloc ?_ _)); exact BK296.out) hb)
                    have n10_ := Aside0.mk (below_step (by repeat (first | (with_reducible first | exact HB.out | apply below_alloc | apply pw_below_drewN | apply below_drew1 | refine below_set ?_ GE269.out | refine below_set ?_ GE283.out | refine below_set ?_ GE284.out | refine below_set ?_ GE295.out | refine below_set ?_ GE296.out) | exact HB.out)) hb)
                    clear HO277
                    clear HO281
                    clear HO289
                    clear HO293
                    clear BK269
                    clear BK283
                    clear BK284
                    clear BK295
                    clear BK296
                    clear HB
                    have HO277 := n0_
                    have HO281 := n1_
                    have HO289 := n2_
                    have HO293 := n3_
                    have HO302 := n4_
                    have BK269 := n5_
                    have BK283 := n6_
                    have BK284 := n7_
                    have BK295 := n8_
                    have BK296 := n9_
                    have HB := n10_
                    clear n0_ n1_ n2_ n3_ n4_ n5_ n6_ n7_ n8_ n9_ n10_
                    (try clear hb)
                    (try clear hb2)
                    (try clear hk)
                    (try clear hi)
                    (try clear ho0)
                    refine hK.out _ _ ⟨(blk_cell BK283.out 0).trans rfl, (blk_cell BK283.out 1).trans rfl, (blk_cell BK283.out 2).trans rfl, (blk_cell BK295.out 0).trans rfl, (blk_cell BK295.out 1).trans rfl, (blk_cell BK295.out 2).trans rfl, (blk_cell BK284.out 0).trans rfl, (blk_cell BK284.out 1).trans rfl, (blk_cell BK296.out 0).trans rfl, (blk_cell BK296.out 1).trans rfl, (blk_cell BK269.out 0).trans rfl, (blk_cell BK269.out 1).trans rfl⟩ (fun hHeld => ?_)
                    clear hK K
                    refine norm_ (a' := ?_) ?_ ?_
                    rotate_left
                    · show Act.put _ (some 63) _ = _
                      simp only [Act.put, List.setIfInBounds_toArray, List.set_cons_zero, List.set_cons_succ, i64_w, i32_w]
                      rfl
                    refine one_ (i := 21) (N := some 67) #[true, true, true, true, true, true, true, true, true, true, true, true, true, true, true, true, true, true, true, true, true, true, false, false, false, false, false, false, false, false, false, false, false, false, false, false, false, false, false, false, false, false, false, false, false, false, false, false, false, false] rfl rfl (one_of HT_.out (by kernel_rfl)) (by decide) (fun K hK => ?_)
                    refine goes_ Try.func16 (by kernel_rfl) rfl #[.agg #[.int .i64 a0_0, .slice A0_1 l0_1.length c0_1], .int .i64 a1, .slice A2 l2.length c2] (by rfl) rfl rfl (by (try simp only [List.map_toArray, List.map_cons, List.map_nil]); first | done | rfl | (simp only [List.length_drop, List.length_take]; rfl)) ?_
                    with_reducible refine (lockgateref11_Send.calls kj4 a0_0 (fun k_ => k_ < w.heap.size) _ _ l0_1 a1 (fun k_ => k_ < w.heap.size) _ _ l2 t303 t304 _ ?side1 ?side2 A33.out).mono ?_
                    (case side1 => exact Kd.V_mk HC0_1.out (Kd.F_below (Kd.C_F k29_heap HR0_1.out) (by repeat (first | (with_reducible first | exact HB.out | apply below_alloc | apply pw_below_drewN | apply below_drew1 | refine below_set ?_ GE269.out | refine below_set ?_ GE283.out | refine below_set ?_ GE284.out | refine below_set ?_ GE295.out | refine below_set ?_ GE296.out) | exact HB.out))))
                    (case side2 => exact Kd.V_mk HC2.out (Kd.F_below (Kd.C_F (Kd.heap_int .u8) HR2.out) (by repeat (first | (with_reducible first | exact HB.out | apply below_alloc | apply pw_below_drewN | apply below_drew1 | refine below_set ?_ GE269.out | refine below_set ?_ GE283.out | refine below_set ?_ GE284.out | refine below_set ?_ GE295.out | refine below_set ?_ GE296.out) | exact HB.out))))
                    rintro e w79 ⟨v305, rfl, ho0, hb⟩
                    refine ⟨_, rfl, ?_⟩
                    have n0_ := Aside0.mk (Kd.R_below (by (with_reducible repeat (first | apply Kd.R_alloc | apply Kd.R_drewN | apply Kd.R_drew)); exact HO277.out) hb)
                    have n1_ := Aside0.mk (Kd.N_elder' (by (with_reducible repeat (first | apply Kd.N_alloc | apply Kd.N_drewN | apply Kd.N_drew)); exact HO281.out) (Kd.N_base ho0) hb)
                    have n2_ := Aside0.mk (Kd.V_elder' (by (with_reducible repeat (first | apply Kd.V_alloc | apply Kd.V_drewN | apply Kd.V_drew)); exact HO289.out) (Kd.N_base ho0) hb)
                    have n3_ := Aside0.mk (Kd.V_elder' (by (with_reducible repeat (first | apply Kd.V_alloc | apply Kd.V_drewN | apply Kd.V_drew)); exact HO293.out) (Kd.N_base ho0) hb)
                    have n4_ := Aside0.mk (Kd.N_elder' (by (with_reducible repeat (first | apply Kd.N_alloc | apply Kd.N_drewN | apply Kd.N_drew)); exact HO302.out) (Kd.N_base ho0) hb)
                    have n5_ := Aside0.mk (Kd.N_lower (Kd.N_mono (ok' := fun k_ => some k_ ≠ (.slice Ao53 t275.length co53 : Value).ownBlock ∧ some k_ ≠ (.slice Ao57 t279.length co57 : Value).ownBlock ∧ some k_ ≠ (v301 : Value).ownBlock ∧ k_ ≠ gb269 ∧ k_ ≠ gb283 ∧ k_ ≠ gb284 ∧ k_ ≠ gb295 ∧ k_ ≠ gb296) ho0 (fun k_ hk_ => ⟨Or.elim hk_ (fun hs_ => Or.elim hs_ (fun hs_ => fun e_ => Nat.not_le.2 hs_ (Kd.R_base HO277.out k_ e_.symm)) (fun hs_ => fun e_ => Nat.not_le.2 hs_ (Kd.R_base HO277.out k_ e_.symm))) (fun hn_ => (Kd.fresh' (Kd.R_lt (by (with_reducible repeat (first | apply Kd.R_alloc | apply Kd.R_drewN | apply Kd.R_drew)); exact HO277.out)) k_ hn_)), Or.elim hk_ (fun hs_ => Or.elim hs_ (fun hs_ => fun e_ => Nat.not_le.2 hs_ (Kd.N_base HO281.out k_ e_.symm)) (fun hs_ => fun e_ => Nat.not_le.2 hs_ (Kd.N_base HO281.out k_ e_.symm))) (fun hn_ => (Kd.fresh' (Kd.N_lt (by (with_reducible repeat (first | apply Kd.N_alloc | apply Kd.N_drewN | apply Kd.N_drew)); exact HO281.out)) k_ hn_)), Or.elim hk_ (fun hs_ => Or.elim hs_ (fun hs_ => fun e_ => Nat.not_le.2 hs_ (Kd.N_base HO302.out k_ e_.symm)) (fun hs_ => fun e_ => Nat.not_le.2 hs_ (Kd.N_base HO302.out k_ e_.symm))) (fun hn_ => (Kd.fresh' (Kd.N_lt (by (with_reducible repeat (first | apply Kd.N_alloc | apply Kd.N_drewN | apply Kd.N_drew)); exact HO302.out)) k_ hn_)), Or.elim hk_ (fun hs_ => Or.elim hs_ (fun hs_ => fun e_ => Nat.not_le.2 hs_ (by rw [e_]; exact GW269.out)) (fun hs_ => fun e_ => Nat.not_le.2 hs_ (by rw [e_]; exact GW269.out))) (fun hn_ => (Kd.freshB (g := gb269) (o := .cells #[.int .i64 a0_0, .slice A0_1 l0_1.length c0_1] 24 (0, 0)) (by (with_reducible repeat (first | refine blk_drewN ?_ _ | refine blk_drew ?_ | refine blk_alloc ?_ _)); exact BK269.out) k_ hn_)), Or.elim hk_ (fun hs_ => Or.elim hs_ (fun hs_ => fun e_ => Nat.not_le.2 hs_ (by rw [e_]; exact GW283.out)) (fun hs_ => fun e_ => Nat.not_le.2 hs_ (by rw [e_]; exact GW283.out))) (fun hn_ => (Kd.freshB (g := gb283) (o := .cells #[.int .i64 t273, .int .i64 t274, .slice Ao53 t275.length co53] 29 (0, 0)) (by (with_reducible repeat (first | refine blk_drewN ?_ _ | refine blk_drew ?_ | refine blk_alloc ?_ _)); exact BK283.out) k_ hn_)), Or.elim hk_ (fun hs_ => Or.elim hs_ (fun hs_ => fun e_ => Nat.not_le.2 hs_ (by rw [e_]; exact GW284.out)) (fun hs_ => fun e_ => Nat.not_le.2 hs_ (by rw [e_]; exact GW284.out))) (fun hn_ => (Kd.freshB (g := gb284) (o := .cells #[.int .i64 t278, .slice Ao57 t279.length co57] 24 (0, 0)) (by (with_reducible repeat (first | refine blk_drewN ?_ _ | refine blk_drew ?_ | refine blk_alloc ?_ _)); exact BK284.out) k_ hn_)), Or.elim hk_ (fun hs_ => Or.elim hs_ (fun hs_ => fun e_ => Nat.not_le.2 hs_ (by rw [e_]; exact GW295.out)) (fun hs_ => fun e_ => Nat.not_le.2 hs_ (by rw [e_]; exact GW295.out))) (fun hn_ => (Kd.freshB (g := gb295) (o := .cells #[.int .i64 t285, .int .i64 t286, .slice Ao68 t287.length co68] 29 (0, 0)) (by (with_reducible repeat (first | refine blk_drewN ?_ _ | refine blk_drew ?_ | refine blk_alloc ?_ _)); exact BK295.out) k_ hn_)), Or.elim hk_ (fun hs_ => Or.elim hs_ (fun hs_ => fun e_ => Nat.not_le.2 hs_ (by rw [e_]; exact GW296.out)) (fun hs_ => fun e_ => Nat.not_le.2 hs_ (by rw [e_]; exact GW296.out))) (fun hn_ => (Kd.freshB (g := gb296) (o := .cells #[.int .i64 t290, .slice Ao73 t291.length co73] 24 (0, 0)) (by (with_reducible repeat (first | refine blk_drewN ?_ _ | refine blk_drew ?_ | refine blk_alloc ?_ _)); exact BK296.out) k_ hn_))⟩)) (below_size (by repeat (first | (with_reducible first | exact HB.out | apply below_alloc | apply pw_below_drewN | apply below_drew1 | refine below_set ?_ GE269.out | refine below_set ?_ GE283.out | refine below_set ?_ GE284.out | refine below_set ?_ GE295.out | refine below_set ?_ GE296.out) | exact HB.out))))
                    have n6_ := Aside0.mk (blk_below (g := gb269) (o := .cells #[.int .i64 a0_0, .slice A0_1 l0_1.length c0_1] 24 (0, 0)) (by (with_reducible repeat (first | refine blk_drewN ?_ _ | refine blk_drew ?_ | refine blk_alloc ?_ _)); exact BK269.out) hb)
                    have n7_ := Aside0.mk (blk_below (g := gb283) (o := .cells #[.int .i64 t273, .int .i64 t274, .slice Ao53 t275.length co53] 29 (0, 0)) (by (with_reducible repeat (first | refine blk_drewN ?_ _ | refine blk_drew ?_ | refine blk_alloc ?_ _)); exact BK283.out) hb)
                    have n8_ := Aside0.mk (blk_below (g := gb284) (o := .cells #[.int .i64 t278, .slice Ao57 t279.length co57] 24 (0, 0)) (by (with_reducible repeat (first | refine blk_drewN ?_ _ | refine blk_drew ?_ | refine blk_alloc ?_ _)); exact BK284.out) hb)
                    have n9_ := Aside0.mk (blk_below (g := gb295) (o := .cells #[.int .i64 t285, .int .i64 t286, .slice Ao68 t287.length co68] 29 (0, 0)) (by (with_reducible repeat (first | refine blk_drewN ?_ _ | refine blk_drew ?_ | refine blk_alloc ?_ _)); exact BK295.out) hb)
                    have n10_ := Aside0.mk (blk_below (g := gb296) (o := .cells #[.int .i64 t290, .slice Ao73 t291.length co73] 24 (0, 0)) (by (with_reducible repeat (first | refine blk_drewN ?_ _ | refine blk_drew ?_ | refine blk_alloc ?_ _)); exact BK296.out) hb)
                    have n11_ := Aside0.mk (below_step (by repeat (first | (with_reducible first | exact HB.out | apply below_alloc | apply pw_below_drewN | apply below_drew1 | refine below_set ?_ GE269.out | refine below_set ?_ GE283.out | refine below_set ?_ GE284.out | refine below_set ?_ GE295.out | refine below_set ?_ GE296.out) | exact HB.out)) hb)
                    clear HO277
                    clear HO281
                    clear HO289
                    clear HO293
                    clear HO302
                    clear BK269
                    clear BK283
                    clear BK284
                    clear BK295
                    clear BK296
                    clear HB
                    have HO277 := n0_
                    have HO281 := n1_
                    have HO289 := n2_
                    have HO293 := n3_
                    have HO302 := n4_
                    have HO306 := n5_
                    have BK269 := n6_
                    have BK283 := n7_
                    have BK284 := n8_
                    have BK295 := n9_
                    have BK296 := n10_
                    have HB := n11_
                    clear n0_ n1_ n2_ n3_ n4_ n5_ n6_ n7_ n8_ n9_ n10_ n11_
                    (try clear hb)
                    (try clear hb2)
                    (try clear hk)
                    (try clear hi)
                    (try clear ho0)
                    obtain ⟨Ao80, co80, eo80⟩ := Kd.N_slice HO302.out
                    (first | subst eo80 | (injection eo80 with f1_ f2_ f3_; have f4_ := f1_.symm; have f5_ := f3_.symm; clear f1_ f2_ f3_; subst f4_; subst f5_))
                    obtain ⟨Ao81, co81, eo81⟩ := Kd.N_slice HO306.out
                    (first | subst eo81 | (injection eo81 with f1_ f2_ f3_; have f4_ := f1_.symm; have f5_ := f3_.symm; clear f1_ f2_ f3_; subst f4_; subst f5_))
                    refine hK.out _ _ ⟨(blk_cell BK283.out 0).trans rfl, (blk_cell BK283.out 1).trans rfl, (blk_cell BK283.out 2).trans rfl, (blk_cell BK295.out 0).trans rfl, (blk_cell BK295.out 1).trans rfl, (blk_cell BK295.out 2).trans rfl, (blk_cell BK284.out 0).trans rfl, (blk_cell BK284.out 1).trans rfl, (blk_cell BK296.out 0).trans rfl, (blk_cell BK296.out 1).trans rfl, (blk_cell BK269.out 0).trans rfl, (blk_cell BK269.out 1).trans rfl⟩ (fun hHeld => ?_)
                    clear hK K
                    refine norm_ (a' := ?_) ?_ ?_
                    rotate_left
                    · show Act.put _ (some 67) _ = _
                      simp only [Act.put, List.setIfInBounds_toArray, List.set_cons_zero, List.set_cons_succ, i64_w, i32_w]
                      rfl
                    refine one_ (i := 22) (N := some 68) #[true, true, true, true, true, true, true, true, true, true, true, true, true, true, true, true, true, true, true, true, true, true, true, false, false, false, false, false, false, false, false, false, false, false, false, false, false, false, false, false, false, false, false, false, false, false, false, false, false, false] rfl rfl (one_of HT_.out (by kernel_rfl)) (by decide) (fun K hK => ?_)
                    refine goes_ Try.func12 (by kernel_rfl) rfl #[.agg #[.int .i64 t299, .slice Ao80 t300.length co80], .agg #[.int .i64 t303, .slice Ao81 t304.length co81]] (by rfl) rfl rfl (by (try simp only [List.map_toArray, List.map_cons, List.map_nil]); first | done | rfl | (simp only [List.length_drop, List.length_take]; rfl)) ?_
                    with_reducible refine (lockgateref11_Same.calls kj4 t299 _ _ t300 t303 _ _ t304 true _ ?side1 ?side2 ?side3 ?side4 A34.out).mono ?_
                    (case side1 => repeat (first | exact (Kd.N_reads' HO302.out).2.2 | (with_reducible refine Kd.C_alloc ?_ _) | (with_reducible refine Kd.C_drewN ?_ _) | (with_reducible refine Kd.C_drew ?_)))
                    (case side2 => exact (Kd.N_reads' HO302.out).2.1)
                    (case side3 => repeat (first | exact (Kd.N_reads' HO306.out).2.2 | (with_reducible refine Kd.C_alloc ?_ _) | (with_reducible refine Kd.C_drewN ?_ _) | (with_reducible refine Kd.C_drew ?_)))
                    (case side4 => exact (Kd.N_reads' HO306.out).2.1)
                    rintro e w82 ⟨rfl, hb⟩
                    refine ⟨_, rfl, ?_⟩
                    have n0_ := Aside0.mk (Kd.R_below (by (with_reducible repeat (first | apply Kd.R_alloc | apply Kd.R_drewN | apply Kd.R_drew)); exact HO277.out) hb)
                    have n1_ := Aside0.mk (Kd.N_below (by (with_reducible repeat (first | apply Kd.N_alloc | apply Kd.N_drewN | apply Kd.N_drew)); exact HO281.out) hb)
                    have n2_ := Aside0.mk (Kd.V_below (by (with_reducible repeat (first | apply Kd.V_alloc | apply Kd.V_drewN | apply Kd.V_drew)); exact HO289.out) hb)
                    have n3_ := Aside0.mk (Kd.V_below (by (with_reducible repeat (first | apply Kd.V_alloc | apply Kd.V_drewN | apply Kd.V_drew)); exact HO293.out) hb)
                    have n4_ := Aside0.mk (Kd.N_below (by (with_reducible repeat (first | apply Kd.N_alloc | apply Kd.N_drewN | apply Kd.N_drew)); exact HO302.out) hb)
                    have n5_ := Aside0.mk (Kd.N_below (by (with_reducible repeat (first | apply Kd.N_alloc | apply Kd.N_drewN | apply Kd.N_drew)); exact HO306.out) hb)
                    have n6_ := Aside0.mk (blk_below (g := gb269) (o := .cells #[.int .i64 a0_0, .slice A0_1 l0_1.length c0_1] 24 (0, 0)) (by (with_reducible repeat (first | refine blk_drewN ?_ _ | refine blk_drew ?_ | refine blk_alloc ?_ _)); exact BK269.out) hb)
                    have n7_ := Aside0.mk (blk_below (g := gb283) (o := .cells #[.int .i64 t273, .int .i64 t274, .slice Ao53 t275.length co53] 29 (0, 0)) (by (with_reducible repeat (first | refine blk_drewN ?_ _ | refine blk_drew ?_ | refine blk_alloc ?_ _)); exact BK283.out) hb)
                    have n8_ := Aside0.mk (blk_below (g := gb284) (o := .cells #[.int .i64 t278, .slice Ao57 t279.length co57] 24 (0, 0)) (by (with_reducible repeat (first | refine blk_drewN ?_ _ | refine blk_drew ?_ | refine blk_alloc ?_ _)); exact BK284.out) hb)
                    have n9_ := Aside0.mk (blk_below (g := gb295) (o := .cells #[.int .i64 t285, .int .i64 t286, .slice Ao68 t287.length co68] 29 (0, 0)) (by (with_reducible repeat (first | refine blk_drewN ?_ _ | refine blk_drew ?_ | refine blk_alloc ?_ _)); exact BK295.out) hb)
                    have n10_ := Aside0.mk (blk_below (g := gb296) (o := .cells #[.int .i64 t290, .slice Ao73 t291.length co73] 24 (0, 0)) (by (with_reducible repeat (first | refine blk_drewN ?_ _ | refine blk_drew ?_ | refine blk_alloc ?_ _)); exact BK296.out) hb)
                    have n11_ := Aside0.mk (below_step (by repeat (first | (with_reducible first | exact HB.out | apply below_alloc | apply pw_below_drewN | apply below_drew1 | refine below_set ?_ GE269.out | refine below_set ?_ GE283.out | refine below_set ?_ GE284.out | refine below_set ?_ GE295.out | refine below_set ?_ GE296.out) | exact HB.out)) hb)
                    clear HO277
                    clear HO281
                    clear HO289
                    clear HO293
                    clear HO302
                    clear HO306
                    clear BK269
                    clear BK283
                    clear BK284
                    clear BK295
                    clear BK296
                    clear HB
                    have HO277 := n0_
                    have HO281 := n1_
                    have HO289 := n2_
                    have HO293 := n3_
                    have HO302 := n4_
                    have HO306 := n5_
                    have BK269 := n6_
                    have BK283 := n7_
                    have BK284 := n8_
                    have BK295 := n9_
                    have BK296 := n10_
                    have HB := n11_
                    clear n0_ n1_ n2_ n3_ n4_ n5_ n6_ n7_ n8_ n9_ n10_ n11_
                    (try clear hb)
                    (try clear hb2)
                    (try clear hk)
                    (try clear hi)
                    refine hK.out _ _ ⟨(blk_cell BK283.out 0).trans rfl, (blk_cell BK283.out 1).trans rfl, (blk_cell BK283.out 2).trans rfl, (blk_cell BK295.out 0).trans rfl, (blk_cell BK295.out 1).trans rfl, (blk_cell BK295.out 2).trans rfl, (blk_cell BK284.out 0).trans rfl, (blk_cell BK284.out 1).trans rfl, (blk_cell BK296.out 0).trans rfl, (blk_cell BK296.out 1).trans rfl, (blk_cell BK269.out 0).trans rfl, (blk_cell BK269.out 1).trans rfl⟩ (fun hHeld => ?_)
                    clear hK K
                    refine norm_ (a' := ?_) ?_ ?_
                    rotate_left
                    · show Act.put _ (some 68) _ = _
                      simp only [Act.put, List.setIfInBounds_toArray, List.set_cons_zero, List.set_cons_succ, i64_w, i32_w]
                      rfl
                    refine pure_ (i := 23) (N := some 69) (v := ?_) (a' := ?_) #[true, true, true, true, true, true, true, true, true, true, true, true, true, true, true, true, true, true, true, true, true, true, true, true, false, false, false, false, false, false, false, false, false, false, false, false, false, false, false, false, false, false, false, false, false, false, false, false, false, false] rfl rfl (any_of HT_.out (by kernel_rfl)) (fun _ _ _ h => h) (Or.inl ⟨by rfl, ?_⟩) ?_ ?_
                    rotate_left
                    · intro w'
                      go_simp
                      with_reducible rfl
                    rotate_left
                    · simp only [Act.put, List.setIfInBounds_toArray, List.set_cons_zero, List.set_cons_succ, i64_w, i32_w]
                      rfl
                    refine pure_ (i := 24) (N := some 70) (v := ?_) (a' := ?_) #[true, true, true, true, true, true, true, true, true, true, true, true, true, true, true, true, true, true, true, true, true, true, true, true, true, false, false, false, false, false, false, false, false, false, false, false, false, false, false, false, false, false, false, false, false, false, false, false, false, false] rfl rfl (any_of HT_.out (by kernel_rfl)) (fun _ _ _ h => h) (Or.inl ⟨by rfl, ?_⟩) ?_ ?_
                    rotate_left
                    · intro w'
                      go_simp
                      with_reducible rfl
                    rotate_left
                    · simp only [Act.put, List.setIfInBounds_toArray, List.set_cons_zero, List.set_cons_succ, i64_w, i32_w]
                      rfl
                    refine pure_ (i := 26) (N := some 72) (v := ?_) (a' := ?_) #[true, true, true, true, true, true, true, true, true, true, true, true, true, true, true, true, true, true, true, true, true, true, true, true, true, false, true, false, false, false, false, false, false, false, false, false, false, false, false, false, false, false, false, false, false, false, false, false, false, false] rfl rfl (any_of HT_.out (by kernel_rfl)) (fun _ _ _ h => h) (Or.inl ⟨by rfl, ?_⟩) ?_ ?_
                    rotate_left
                    · intro w'
                      go_simp
                      with_reducible rfl
                    rotate_left
                    · simp only [Act.put, List.setIfInBounds_toArray, List.set_cons_zero, List.set_cons_succ, i64_w, i32_w]
                      rfl
                    refine take_ (i := 25) (N := some 71) (v := ?_) (a' := ?_) #[true, true, true, true, true, true, true, true, true, true, true, true, true, true, true, true, true, true, true, true, true, true, true, true, true, true, true, false, false, false, false, false, false, false, false, false, false, false, false, false, false, false, false, false, false, false, false, false, false, false] rfl rfl (take_ofW HT_.out HW_.out (by kernel_rfl)) (fun _ _ _ h => h) (Or.inl ⟨by rfl, ?_⟩) hHeld ?_ ?_
                    rotate_left
                    · rintro w' ⟨s0, s1, s2, s3, s4, s5, s6, s7, s8, s9, s10, s11⟩
                      go_simp
                      with_reducible rfl
                    rotate_left
                    · simp only [Act.put, List.setIfInBounds_toArray, List.set_cons_zero, List.set_cons_succ, i64_w, i32_w]
                      rfl
                    refine take_ (i := 28) (N := some 74) (v := ?_) (a' := ?_) #[true, true, true, true, true, true, true, true, true, true, true, true, true, true, true, true, true, true, true, true, true, true, true, true, true, true, true, false, true, false, false, false, false, false, false, false, false, false, false, false, false, false, false, false, false, false, false, false, false, false] rfl rfl (take_ofW HT_.out HW_.out (by kernel_rfl)) (fun _ _ _ h => h) (Or.inl ⟨by rfl, ?_⟩) hHeld ?_ ?_
                    rotate_left
                    · rintro w' ⟨s0, s1, s2, s3, s4, s5, s6, s7, s8, s9, s10, s11⟩
                      go_simp
                      with_reducible rfl
                    rotate_left
                    · simp only [Act.put, List.setIfInBounds_toArray, List.set_cons_zero, List.set_cons_succ, i64_w, i32_w]
                      rfl
                    refine one_ (i := 27) (N := some 73) #[true, true, true, true, true, true, true, true, true, true, true, true, true, true, true, true, true, true, true, true, true, true, true, true, true, true, true, true, true, false, false, false, false, false, false, false, false, false, false, false, false, false, false, false, false, false, false, false, false, false] rfl rfl (one_of HT_.out (by kernel_rfl)) (by decide) (fun K hK => ?_)
                    refine goes_ Try.func17 (by kernel_rfl) rfl #[.agg #[.int .i64 a0_0, .slice A0_1 l0_1.length c0_1], .int .i64 a3] (by rfl) rfl rfl (by (try simp only [List.map_toArray, List.map_cons, List.map_nil]); first | done | rfl | (simp only [List.length_drop, List.length_take]; rfl)) ?_
                    with_reducible refine (net_Drop.calls kj4 a0_0 _ _ l0_1 a3 t308 t309 _ ?side1 ?side2 A36.out).mono ?_
                    (case side1 => repeat (first | exact (Kd.C_below HR0_1.out HB.out) | (with_reducible refine Kd.C_alloc ?_ _) | (with_reducible refine Kd.C_drewN ?_ _) | (with_reducible refine Kd.C_drew ?_)))
                    (case side2 => exact HC0_1.out)
                    rintro e w83 ⟨v310, rfl, ho0, hb⟩
                    refine ⟨_, rfl, ?_⟩
                    have n0_ := Aside0.mk (Kd.R_below (by (with_reducible repeat (first | apply Kd.R_alloc | apply Kd.R_drewN | apply Kd.R_drew)); exact HO277.out) hb)
                    have n1_ := Aside0.mk (Kd.N_elder' (by (with_reducible repeat (first | apply Kd.N_alloc | apply Kd.N_drewN | apply Kd.N_drew)); exact HO281.out) (Kd.S_base ho0) hb)
                    have n2_ := Aside0.mk (Kd.V_elder' (by (with_reducible repeat (first | apply Kd.V_alloc | apply Kd.V_drewN | apply Kd.V_drew)); exact HO289.out) (Kd.S_base ho0) hb)
                    have n3_ := Aside0.mk (Kd.V_elder' (by (with_reducible repeat (first | apply Kd.V_alloc | apply Kd.V_drewN | apply Kd.V_drew)); exact HO293.out) (Kd.S_base ho0) hb)
                    have n4_ := Aside0.mk (Kd.N_elder' (by (with_reducible repeat (first | apply Kd.N_alloc | apply Kd.N_drewN | apply Kd.N_drew)); exact HO302.out) (Kd.S_base ho0) hb)
                    have n5_ := Aside0.mk (Kd.N_elder' (by (with_reducible repeat (first | apply Kd.N_alloc | apply Kd.N_drewN | apply Kd.N_drew)); exact HO306.out) (Kd.S_base ho0) hb)
                    have n6_ := Aside0.mk (Kd.N_lower (Kd.N_mono (ok' := fun k_ => some k_ ≠ (.slice Ao53 t275.length co53 : Value).ownBlock ∧ some k_ ≠ (.slice Ao57 t279.length co57 : Value).ownBlock ∧ some k_ ≠ (.slice Ao80 t300.length co80 : Value).ownBlock ∧ some k_ ≠ (.slice Ao81 t304.length co81 : Value).ownBlock ∧ k_ ≠ gb269 ∧ k_ ≠ gb283 ∧ k_ ≠ gb284 ∧ k_ ≠ gb295 ∧ k_ ≠ gb296) (Kd.S_N (Kd.S_bound ho0)) (fun k_ hk_ => ⟨(Kd.fresh' (Kd.R_lt (by (with_reducible repeat (first | apply Kd.R_alloc | apply Kd.R_drewN | apply Kd.R_drew)); exact HO277.out)) k_ hk_.2.1), (Kd.fresh' (Kd.N_lt (by (with_reducible repeat (first | apply Kd.N_alloc | apply Kd.N_drewN | apply Kd.N_drew)); exact HO281.out)) k_ hk_.2.1), (Kd.fresh' (Kd.N_lt (by (with_reducible repeat (first | apply Kd.N_alloc | apply Kd.N_drewN | apply Kd.N_drew)); exact HO302.out)) k_ hk_.2.1), (Kd.fresh' (Kd.N_lt (by (with_reducible repeat (first | apply Kd.N_alloc | apply Kd.N_drewN | apply Kd.N_drew)); exact HO306.out)) k_ hk_.2.1), (Kd.freshB (g := gb269) (o := .cells #[.int .i64 a0_0, .slice A0_1 l0_1.length c0_1] 24 (0, 0)) (by (with_reducible repeat (first | refine blk_drewN ?_ _ | refine blk_drew ?_ | refine blk_alloc ?_ _)); exact BK269.out) k_ hk_.2.1), (Kd.freshB (g := gb283) (o := .cells #[.int .i64 t273, .int .i64 t274, .slice Ao53 t275.length co53] 29 (0, 0)) (by (with_reducible repeat (first | refine blk_drewN ?_ _ | refine blk_drew ?_ | refine blk_alloc ?_ _)); exact BK283.out) k_ hk_.2.1), (Kd.freshB (g := gb284) (o := .cells #[.int .i64 t278, .slice Ao57 t279.length co57] 24 (0, 0)) (by (with_reducible repeat (first | refine blk_drewN ?_ _ | refine blk_drew ?_ | refine blk_alloc ?_ _)); exact BK284.out) k_ hk_.2.1), (Kd.freshB (g := gb295) (o := .cells #[.int .i64 t285, .int .i64 t286, .slice Ao68 t287.length co68] 29 (0, 0)) (by (with_reducible repeat (first | refine blk_drewN ?_ _ | refine blk_drew ?_ | refine blk_alloc ?_ _)); exact BK295.out) k_ hk_.2.1), (Kd.freshB (g := gb296) (o := .cells #[.int .i64 t290, .slice Ao73 t291.length co73] 24 (0, 0)) (by (with_reducible repeat (first | refine blk_drewN ?_ _ | refine blk_drew ?_ | refine blk_alloc ?_ _)); exact BK296.out) k_ hk_.2.1)⟩)) (below_size (by repeat (first | (with_reducible first | exact HB.out | apply below_alloc | apply pw_below_drewN | apply below_drew1 | refine below_set ?_ GE269.out | refine below_set ?_ GE283.out | refine below_set ?_ GE284.out | refine below_set ?_ GE295.out | refine below_set ?_ GE296.out) | exact HB.out))))
                    have n7_ := Aside0.mk (blk_below (g := gb269) (o := .cells #[.int .i64 a0_0, .slice A0_1 l0_1.length c0_1] 24 (0, 0)) (by (with_reducible repeat (first | refine blk_drewN ?_ _ | refine blk_drew ?_ | refine blk_alloc ?_ _)); exact BK269.out) hb)
                    have n8_ := Aside0.mk (blk_below (g := gb283) (o := .cells #[.int .i64 t273, .int .i64 t274, .slice Ao53 t275.length co53] 29 (0, 0)) (by (with_reducible repeat (first | refine blk_drewN ?_ _ | refine blk_drew ?_ | refine blk_alloc ?_ _)); exact BK283.out) hb)
                    have n9_ := Aside0.mk (blk_below (g := gb284) (o := .cells #[.int .i64 t278, .slice Ao57 t279.length co57] 24 (0, 0)) (by (with_reducible repeat (first | refine blk_drewN ?_ _ | refine blk_drew ?_ | refine blk_alloc ?_ _)); exact BK284.out) hb)
                    have n10_ := Aside0.mk (blk_below (g := gb295) (o := .cells #[.int .i64 t285, .int .i64 t286, .slice Ao68 t287.length co68] 29 (0, 0)) (by (with_reducible repeat (first | refine blk_drewN ?_ _ | refine blk_drew ?_ | refine blk_alloc ?_ _)); exact BK295.out) hb)
                    have n11_ := Aside0.mk (blk_below (g := gb296) (o := .cells #[.int .i64 t290, .slice Ao73 t291.length co73] 24 (0, 0)) (by (with_reducible repeat (first | refine blk_drewN ?_ _ | refine blk_drew ?_ | refine blk_alloc ?_ _)); exact BK296.out) hb)
                    have n12_ := Aside0.mk (below_step (by repeat (first | (with_reducible first | exact HB.out | apply below_alloc | apply pw_below_drewN | apply below_drew1 | refine below_set ?_ GE269.out | refine below_set ?_ GE283.out | refine below_set ?_ GE284.out | refine below_set ?_ GE295.out | refine below_set ?_ GE296.out) | exact HB.out)) hb)
                    clear HO277
                    clear HO281
                    clear HO289
                    clear HO293
                    clear HO302
                    clear HO306
                    clear BK269
                    clear BK283
                    clear BK284
                    clear BK295
                    clear BK296
                    clear HB
                    have HO277 := n0_
                    have HO281 := n1_
                    have HO289 := n2_
                    have HO293 := n3_
                    have HO302 := n4_
                    have HO306 := n5_
                    have HO311 := n6_
                    have BK269 := n7_
                    have BK283 := n8_
                    have BK284 := n9_
                    have BK295 := n10_
                    have BK296 := n11_
                    have HB := n12_
                    clear n0_ n1_ n2_ n3_ n4_ n5_ n6_ n7_ n8_ n9_ n10_ n11_ n12_
                    (try clear hb)
                    (try clear hb2)
                    (try clear hk)
                    (try clear hi)
                    (try clear ho0)
                    obtain ⟨Ao84, co84, eo84⟩ := Kd.N_slice HO311.out
                    (first | subst eo84 | (injection eo84 with f1_ f2_ f3_; have f4_ := f1_.symm; have f5_ := f3_.symm; clear f1_ f2_ f3_; subst f4_; subst f5_))
                    refine hK.out _ _ ⟨(blk_cell BK283.out 0).trans rfl, (blk_cell BK283.out 1).trans rfl, (blk_cell BK283.out 2).trans rfl, (blk_cell BK295.out 0).trans rfl, (blk_cell BK295.out 1).trans rfl, (blk_cell BK295.out 2).trans rfl, (blk_cell BK284.out 0).trans rfl, (blk_cell BK284.out 1).trans rfl, (blk_cell BK296.out 0).trans rfl, (blk_cell BK296.out 1).trans rfl, (blk_cell BK269.out 0).trans rfl, (blk_cell BK269.out 1).trans rfl⟩ (fun hHeld => ?_)
                    clear hK K
                    refine norm_ (a' := ?_) ?_ ?_
                    rotate_left
                    · show Act.put _ (some 73) _ = _
                      simp only [Act.put, List.setIfInBounds_toArray, List.set_cons_zero, List.set_cons_succ, i64_w, i32_w]
                      rfl
                    refine one_ (i := 29) (N := some 75) #[true, true, true, true, true, true, true, true, true, true, true, true, true, true, true, true, true, true, true, true, true, true, true, true, true, true, true, true, true, true, false, false, false, false, false, false, false, false, false, false, false, false, false, false, false, false, false, false, false, false] rfl rfl (one_of HT_.out (by kernel_rfl)) (by decide) (fun K hK => ?_)
                    refine goes_ Try.func12 (by kernel_rfl) rfl #[.agg #[.int .i64 t308, .slice Ao84 t309.length co84], .agg #[.int .i64 t290, .slice Ao73 t291.length co73]] (by rfl) rfl rfl (by (try simp only [List.map_toArray, List.map_cons, List.map_nil]); first | done | rfl | (simp only [List.length_drop, List.length_take]; rfl)) ?_
                    with_reducible refine (lockgateref11_Same.calls kj4 t308 _ _ t309 t290 _ _ t291 true _ ?side1 ?side2 ?side3 ?side4 A37.out).mono ?_
                    (case side1 => repeat (first | exact (Kd.N_reads' HO311.out).2.2 | (with_reducible refine Kd.C_alloc ?_ _) | (with_reducible refine Kd.C_drewN ?_ _) | (with_reducible refine Kd.C_drew ?_)))
                    (case side2 => exact (Kd.N_reads' HO311.out).2.1)
                    (case side3 => repeat (first | exact (Kd.V_reads' HO293.out).2.2 | (with_reducible refine Kd.C_alloc ?_ _) | (with_reducible refine Kd.C_drewN ?_ _) | (with_reducible refine Kd.C_drew ?_)))
                    (case side4 => exact (Kd.V_reads' HO293.out).2.1)
                    rintro e w85 ⟨rfl, hb⟩
                    refine ⟨_, rfl, ?_⟩
                    have n0_ := Aside0.mk (Kd.R_below (by (with_reducible repeat (first | apply Kd.R_alloc | apply Kd.R_drewN | apply Kd.R_drew)); exact HO277.out) hb)
                    have n1_ := Aside0.mk (Kd.N_below (by (with_reducible repeat (first | apply Kd.N_alloc | apply Kd.N_drewN | apply Kd.N_drew)); exact HO281.out) hb)
                    have n2_ := Aside0.mk (Kd.V_below (by (with_reducible repeat (first | apply Kd.V_alloc | apply Kd.V_drewN | apply Kd.V_drew)); exact HO289.out) hb)
                    have n3_ := Aside0.mk (Kd.V_below (by (with_reducible repeat (first | apply Kd.V_alloc | apply Kd.V_drewN | apply Kd.V_drew)); exact HO293.out) hb)
                    have n4_ := Aside0.mk (Kd.N_below (by (with_reducible repeat (first | apply Kd.N_alloc | apply Kd.N_drewN | apply Kd.N_drew)); exact HO302.out) hb)
                    have n5_ := Aside0.mk (Kd.N_below (by (with_reducible repeat (first | apply Kd.N_alloc | apply Kd.N_drewN | apply Kd.N_drew)); exact HO306.out) hb)
                    have n6_ := Aside0.mk (Kd.N_below (by (with_reducible repeat (first | apply Kd.N_alloc | apply Kd.N_drewN | apply Kd.N_drew)); exact HO311.out) hb)
                    have n7_ := Aside0.mk (blk_below (g := gb269) (o := .cells #[.int .i64 a0_0, .slice A0_1 l0_1.length c0_1] 24 (0, 0)) (by (with_reducible repeat (first | refine blk_drewN ?_ _ | refine blk_drew ?_ | refine blk_alloc ?_ _)); exact BK269.out) hb)
                    have n8_ := Aside0.mk (blk_below (g := gb283) (o := .cells #[.int .i64 t273, .int .i64 t274, .slice Ao53 t275.length co53] 29 (0, 0)) (by (with_reducible repeat (first | refine blk_drewN ?_ _ | refine blk_drew ?_ | refine blk_alloc ?_ _)); exact BK283.out) hb)
                    have n9_ := Aside0.mk (blk_below (g := gb284) (o := .cells #[.int .i64 t278, .slice Ao57 t279.length co57] 24 (0, 0)) (by (with_reducible repeat (first | refine blk_drewN ?_ _ | refine blk_drew ?_ | refine blk_alloc ?_ _)); exact BK284.out) hb)
                    have n10_ := Aside0.mk (blk_below (g := gb295) (o := .cells #[.int .i64 t285, .int .i64 t286, .slice Ao68 t287.length co68] 29 (0, 0)) (by (with_reducible repeat (first | refine blk_drewN ?_ _ | refine blk_drew ?_ | refine blk_alloc ?_ _)); exact BK295.out) hb)
                    have n11_ := Aside0.mk (blk_below (g := gb296) (o := .cells #[.int .i64 t290, .slice Ao73 t291.length co73] 24 (0, 0)) (by (with_reducible repeat (first | refine blk_drewN ?_ _ | refine blk_drew ?_ | refine blk_alloc ?_ _)); exact BK296.out) hb)
                    have n12_ := Aside0.mk (below_step (by repeat (first | (with_reducible first | exact HB.out | apply below_alloc | apply pw_below_drewN | apply below_drew1 | refine below_set ?_ GE269.out | refine below_set ?_ GE283.out | refine below_set ?_ GE284.out | refine below_set ?_ GE295.out | refine below_set ?_ GE296.out) | exact HB.out)) hb)
                    clear HO277
                    clear HO281
                    clear HO289
                    clear HO293
                    clear HO302
                    clear HO306
                    clear HO311
                    clear BK269
                    clear BK283
                    clear BK284
                    clear BK295
                    clear BK296
                    clear HB
                    have HO277 := n0_
                    have HO281 := n1_
                    have HO289 := n2_
                    have HO293 := n3_
                    have HO302 := n4_
                    have HO306 := n5_
                    have HO311 := n6_
                    have BK269 := n7_
                    have BK283 := n8_
                    have BK284 := n9_
                    have BK295 := n10_
                    have BK296 := n11_
                    have HB := n12_
                    clear n0_ n1_ n2_ n3_ n4_ n5_ n6_ n7_ n8_ n9_ n10_ n11_ n12_
                    (try clear hb)
                    (try clear hb2)
                    (try clear hk)
                    (try clear hi)
                    refine hK.out _ _ ⟨(blk_cell BK283.out 0).trans rfl, (blk_cell BK283.out 1).trans rfl, (blk_cell BK283.out 2).trans rfl, (blk_cell BK295.out 0).trans rfl, (blk_cell BK295.out 1).trans rfl, (blk_cell BK295.out 2).trans rfl, (blk_cell BK284.out 0).trans rfl, (blk_cell BK284.out 1).trans rfl, (blk_cell BK296.out 0).trans rfl, (blk_cell BK296.out 1).trans rfl, (blk_cell BK269.out 0).trans rfl, (blk_cell BK269.out 1).trans rfl⟩ (fun hHeld => ?_)
                    clear hK K
                    refine norm_ (a' := ?_) ?_ ?_
                    rotate_left
                    · show Act.put _ (some 75) _ = _
                      simp only [Act.put, List.setIfInBounds_toArray, List.set_cons_zero, List.set_cons_succ, i64_w, i32_w]
                      rfl
                    refine pure_ (i := 30) (N := some 76) (v := ?_) (a' := ?_) #[true, true, true, true, true, true, true, true, true, true, true, true, true, true, true, true, true, true, true, true, true, true, true, true, true, true, true, true, true, true, true, false, false, false, false, false, false, false, false, false, false, false, false, false, false, false, false, false, false, false] rfl rfl (any_of HT_.out (by kernel_rfl)) (fun _ _ _ h => h) (Or.inl ⟨by rfl, ?_⟩) ?_ ?_
                    rotate_left
                    · intro w'
                      go_simp
                      with_reducible rfl
                    rotate_left
                    · simp only [Act.put, List.setIfInBounds_toArray, List.set_cons_zero, List.set_cons_succ, i64_w, i32_w]
                      rfl
                    refine pure_ (i := 31) (N := some 77) (v := ?_) (a' := ?_) #[true, true, true, true, true, true, true, true, true, true, true, true, true, true, true, true, true, true, true, true, true, true, true, true, true, true, true, true, true, true, true, true, false, false, false, false, false, false, false, false, false, false, false, false, false, false, false, false, false, false] rfl rfl (any_of HT_.out (by kernel_rfl)) (fun _ _ _ h => h) (Or.inl ⟨by rfl, ?_⟩) ?_ ?_
                    rotate_left
                    · intro w'
                      go_simp
                      with_reducible rfl
                    rotate_left
                    · simp only [Act.put, List.setIfInBounds_toArray, List.set_cons_zero, List.set_cons_succ, i64_w, i32_w]
                      rfl
                    refine pure_ (i := 33) (N := some 79) (v := ?_) (a' := ?_) #[true, true, true, true, true, true, true, true, true, true, true, true, true, true, true, true, true, true, true, true, true, true, true, true, true, true, true, true, true, true, true, true, false, true, false, false, false, false, false, false, false, false, false, false, false, false, false, false, false, false] rfl rfl (any_of HT_.out (by kernel_rfl)) (fun _ _ _ h => h) (Or.inl ⟨by rfl, ?_⟩) ?_ ?_
                    rotate_left
                    · intro w'
                      go_simp
                      with_reducible rfl
                    rotate_left
                    · simp only [Act.put, List.setIfInBounds_toArray, List.set_cons_zero, List.set_cons_succ, i64_w, i32_w]
                      rfl
                    refine pure_ (i := 36) (N := some 82) (v := ?_) (a' := ?_) #[true, true, true, true, true, true, true, true, true, true, true, true, true, true, true, true, true, true, true, true, true, true, true, true, true, true, true, true, true, true, true, true, false, true, false, false, true, false, false, false, false, false, false, false, false, false, false, false, false, false] rfl rfl (any_of HT_.out (by kernel_rfl)) (fun _ _ _ h => h) (Or.inl ⟨by rfl, ?_⟩) ?_ ?_
                    rotate_left
                    · intro w'
                      go_simp
                      with_reducible rfl
                    rotate_left
                    · simp only [Act.put, List.setIfInBounds_toArray, List.set_cons_zero, List.set_cons_succ, i64_w, i32_w]
                      rfl
                    refine take_ (i := 32) (N := some 78) (v := ?_) (a' := ?_) #[true, true, true, true, true, true, true, true, true, true, true, true, true, true, true, true, true, true, true, true, true, true, true, true, true, true, true, true, true, true, true, true, true, true, false, false, true, false, false, false, false, false, false, false, false, false, false, false, false, false] rfl rfl (take_ofW HT_.out HW_.out (by kernel_rfl)) (fun _ _ _ h => h) (Or.inl ⟨by rfl, ?_⟩) hHeld ?_ ?_
                    rotate_left
                    · rintro w' ⟨s0, s1, s2, s3, s4, s5, s6, s7, s8, s9, s10, s11⟩
                      go_simp
                      with_reducible rfl
                    rotate_left
                    · simp only [Act.put, List.setIfInBounds_toArray, List.set_cons_zero, List.set_cons_succ, i64_w, i32_w]
                      rfl
                    refine take_ (i := 35) (N := some 81) (v := ?_) (a' := ?_) #[true, true, true, true, true, true, true, true, true, true, true, true, true, true, true, true, true, true, true, true, true, true, true, true, true, true, true, true, true, true, true, true, true, true, false, true, true, false, false, false, false, false, false, false, false, false, false, false, false, false] rfl rfl (take_ofW HT_.out HW_.out (by kernel_rfl)) (fun _ _ _ h => h) (Or.inl ⟨by rfl, ?_⟩) hHeld ?_ ?_
                    rotate_left
                    · rintro w' ⟨s0, s1, s2, s3, s4, s5, s6, s7, s8, s9, s10, s11⟩
                      go_simp
                      with_reducible rfl
                    rotate_left
                    · simp only [Act.put, List.setIfInBounds_toArray, List.set_cons_zero, List.set_cons_succ, i64_w, i32_w]
                      rfl
                    refine one_ (i := 34) (N := some 80) #[true, true, true, true, true, true, true, true, true, true, true, true, true, true, true, true, true, true, true, true, true, true, true, true, true, true, true, true, true, true, true, true, true, true, true, true, true, false, false, false, false, false, false, false, false, false, false, false, false, false] rfl rfl (one_of HT_.out (by kernel_rfl)) (by decide) (fun K hK => ?_)
                    refine goes_ Try.func9 (by kernel_rfl) rfl #[.agg #[.int .i64 a0_0, .slice A0_1 l0_1.length c0_1], .int .i64 a3] (by rfl) rfl rfl (by (try simp only [List.map_toArray, List.map_cons, List.map_nil]); first | done | rfl | (simp only [List.length_drop, List.length_take]; rfl)) ?_
                    with_reducible refine (net_Copy.calls kj4 a0_0 _ _ l0_1 a3 t313 t314 _ ?side1 ?side2 A39.out).mono ?_
                    (case side1 => repeat (first | exact (Kd.C_below HR0_1.out HB.out) | (with_reducible refine Kd.C_alloc ?_ _) | (with_reducible refine Kd.C_drewN ?_ _) | (with_reducible refine Kd.C_drew ?_)))
                    (case side2 => exact HC0_1.out)
                    rintro e w86 ⟨v315, rfl, ho0, hb⟩
                    refine ⟨_, rfl, ?_⟩
                    have n0_ := Aside0.mk (Kd.R_below (by (with_reducible repeat (first | apply Kd.R_alloc | apply Kd.R_drewN | apply Kd.R_drew)); exact HO277.out) hb)
                    have n1_ := Aside0.mk (Kd.N_elder' (by (with_reducible repeat (first | apply Kd.N_alloc | apply Kd.N_drewN | apply Kd.N_drew)); exact HO281.out) (Kd.S_base ho0) hb)
                    have n2_ := Aside0.mk (Kd.V_elder' (by (with_reducible repeat (first | apply Kd.V_alloc | apply Kd.V_drewN | apply Kd.V_drew)); exact HO289.out) (Kd.S_base ho0) hb)
                    have n3_ := Aside0.mk (Kd.V_elder' (by (with_reducible repeat (first | apply Kd.V_alloc | apply Kd.V_drewN | apply Kd.V_drew)); exact HO293.out) (Kd.S_base ho0) hb)
                    have n4_ := Aside0.mk (Kd.N_elder' (by (with_reducible repeat (first | apply Kd.N_alloc | apply Kd.N_drewN | apply Kd.N_drew)); exact HO302.out) (Kd.S_base ho0) hb)
                    have n5_ := Aside0.mk (Kd.N_elder' (by (with_reducible repeat (first | apply Kd.N_alloc | apply Kd.N_drewN | apply Kd.N_drew)); exact HO306.out) (Kd.S_base ho0) hb)
                    have n6_ := Aside0.mk (Kd.N_elder' (by (with_reducible repeat (first | apply Kd.N_alloc | apply Kd.N_drewN | apply Kd.N_drew)); exact HO311.out) (Kd.S_base ho0) hb)
                    have n7_ := Aside0.mk (Kd.N_lower (Kd.N_mono (ok' := fun k_ => some k_ ≠ (.slice Ao53 t275.length co53 : Value).ownBlock ∧ some k_ ≠ (.slice Ao57 t279.length co57 : Value).ownBlock ∧ some k_ ≠ (.slice Ao80 t300.length co80 : Value).ownBlock ∧ some k_ ≠ (.slice Ao81 t304.length co81 : Value).ownBlock ∧ some k_ ≠ (.slice Ao84 t309.length co84 : Value).ownBlock ∧ k_ ≠ gb269 ∧ k_ ≠ gb283 ∧ k_ ≠ gb284 ∧ k_ ≠ gb295 ∧ k_ ≠ gb296) (Kd.S_N (Kd.S_bound ho0)) (fun k_ hk_ => ⟨(Kd.fresh' (Kd.R_lt (by (with_reducible repeat (first | apply Kd.R_alloc | apply Kd.R_drewN | apply Kd.R_drew)); exact HO277.out)) k_ hk_.2.1), (Kd.fresh' (Kd.N_lt (by (with_reducible repeat (first | apply Kd.N_alloc | apply Kd.N_drewN | apply Kd.N_drew)); exact HO281.out)) k_ hk_.2.1), (Kd.fresh' (Kd.N_lt (by (with_reducible repeat (first | apply Kd.N_alloc | apply Kd.N_drewN | apply Kd.N_drew)); exact HO302.out)) k_ hk_.2.1), (Kd.fresh' (Kd.N_lt (by (with_reducible repeat (first | apply Kd.N_alloc | apply Kd.N_drewN | apply Kd.N_drew)); exact HO306.out)) k_ hk_.2.1), (Kd.fresh' (Kd.N_lt (by (with_reducible repeat (first | apply Kd.N_alloc | apply Kd.N_drewN | apply Kd.N_drew)); exact HO311.out)) k_ hk_.2.1), (Kd.freshB (g := gb269) (o := .cells #[.int .i64 a0_0, .slice A0_1 l0_1.length c0_1] 24 (0, 0)) (by (with_reducible repeat (first | refine blk_drewN ?_ _ | refine blk_drew ?_ | refine blk_alloc ?_ _)); exact BK269.out) k_ hk_.2.1), (Kd.freshB (g := gb283) (o := .cells #[.int .i64 t273, .int .i64 t274, .slice Ao53 t275.length co53] 29 (0, 0)) (by (with_reducible repeat (first | refine blk_drewN ?_ _ | refine blk_drew ?_ | refine blk_alloc ?_ _)); exact BK283.out) k_ hk_.2.1), (Kd.freshB (g := gb284) (o := .cells #[.int .i64 t278, .slice Ao57 t279.length co57] 24 (0, 0)) (by (with_reducible repeat (first | refine blk_drewN ?_ _ | refine blk_drew ?_ | refine blk_alloc ?_ _)); exact BK284.out) k_ hk_.2.1), (Kd.freshB (g := gb295) (o := .cells #[.int .i64 t285, .int .i64 t286, .slice Ao68 t287.length co68] 29 (0, 0)) (by (with_reducible repeat (first | refine blk_drewN ?_ _ | refine blk_drew ?_ | refine blk_alloc ?_ _)); exact BK295.out) k_ hk_.2.1), (Kd.freshB (g := gb296) (o := .cells #[.int .i64 t290, .slice Ao73 t291.length co73] 24 (0, 0)) (by (with_reducible repeat (first | refine blk_drewN ?_ _ | refine blk_drew ?_ | refine blk_alloc ?_ _)); exact BK296.out) k_ hk_.2.1)⟩)) (below_size (by repeat (first | (with_reducible first | exact HB.out | apply below_alloc | apply pw_below_drewN | apply below_drew1 | refine below_set ?_ GE269.out | refine below_set ?_ GE283.out | refine below_set ?_ GE284.out | refine below_set ?_ GE295.out | refine below_set ?_ GE296.out) | exact HB.out))))
                    have n8_ := Aside0.mk (blk_below (g := gb269) (o := .cells #[.int .i64 a0_0, .slice A0_1 l0_1.length c0_1] 24 (0, 0)) (by (with_reducible repeat (first | refine blk_drewN ?_ _ | refine blk_drew ?_ | refine blk_alloc ?_ _)); exact BK269.out) hb)
                    have n9_ := Aside0.mk (blk_below (g := gb283) (o := .cells #[.int .i64 t273, .int .i64 t274, .slice Ao53 t275.length co53] 29 (0, 0)) (by (with_reducible repeat (first | refine blk_drewN ?_ _ | refine blk_drew ?_ | refine blk_alloc ?_ _)); exact BK283.out) hb)
                    have n10_ := Aside0.mk (blk_below (g := gb284) (o := .cells #[.int .i64 t278, .slice Ao57 t279.length co57] 24 (0, 0)) (by (with_reducible repeat (first | refine blk_drewN ?_ _ | refine blk_drew ?_ | refine blk_alloc ?_ _)); exact BK284.out) hb)
                    have n11_ := Aside0.mk (blk_below (g := gb295) (o := .cells #[.int .i64 t285, .int .i64 t286, .slice Ao68 t287.length co68] 29 (0, 0)) (by (with_reducible repeat (first | refine blk_drewN ?_ _ | refine blk_drew ?_ | refine blk_alloc ?_ _)); exact BK295.out) hb)
                    have n12_ := Aside0.mk (blk_below (g := gb296) (o := .cells #[.int .i64 t290, .slice Ao73 t291.length co73] 24 (0, 0)) (by (with_reducible repeat (first | refine blk_drewN ?_ _ | refine blk_drew ?_ | refine blk_alloc ?_ _)); exact BK296.out) hb)
                    have n13_ := Aside0.mk (below_step (by repeat (first | (with_reducible first | exact HB.out | apply below_alloc | apply pw_below_drewN | apply below_drew1 | refine below_set ?_ GE269.out | refine below_set ?_ GE283.out | refine below_set ?_ GE284.out | refine below_set ?_ GE295.out | refine below_set ?_ GE296.out) | exact HB.out)) hb)
                    clear HO277
                    clear HO281
                    clear HO289
                    clear HO293
                    clear HO302
                    clear HO306
                    clear HO311
                    clear BK269
                    clear BK283
                    clear BK284
                    clear BK295
                    clear BK296
                    clear HB
                    have HO277 := n0_
                    have HO281 := n1_
                    have HO289 := n2_
                    have HO293 := n3_
                    have HO302 := n4_
                    have HO306 := n5_
                    have HO311 := n6_
                    have HO316 := n7_
                    have BK269 := n8_
                    have BK283 := n9_
                    have BK284 := n10_
                    have BK295 := n11_
                    have BK296 := n12_
                    have HB := n13_
                    clear n0_ n1_ n2_ n3_ n4_ n5_ n6_ n7_ n8_ n9_ n10_ n11_ n12_ n13_
                    (try clear hb)
                    (try clear hb2)
                    (try clear hk)
                    (try clear hi)
                    (try clear ho0)
                    refine hK.out _ _ ⟨(blk_cell BK283.out 0).trans rfl, (blk_cell BK283.out 1).trans rfl, (blk_cell BK283.out 2).trans rfl, (blk_cell BK295.out 0).trans rfl, (blk_cell BK295.out 1).trans rfl, (blk_cell BK295.out 2).trans rfl, (blk_cell BK284.out 0).trans rfl, (blk_cell BK284.out 1).trans rfl, (blk_cell BK296.out 0).trans rfl, (blk_cell BK296.out 1).trans rfl, (blk_cell BK269.out 0).trans rfl, (blk_cell BK269.out 1).trans rfl⟩ (fun hHeld => ?_)
                    clear hK K
                    refine norm_ (a' := ?_) ?_ ?_
                    rotate_left
                    · show Act.put _ (some 80) _ = _
                      simp only [Act.put, List.setIfInBounds_toArray, List.set_cons_zero, List.set_cons_succ, i64_w, i32_w]
                      rfl
                    refine one_ (i := 37) (N := some 83) #[true, true, true, true, true, true, true, true, true, true, true, true, true, true, true, true, true, true, true, true, true, true, true, true, true, true, true, true, true, true, true, true, true, true, true, true, true, true, false, false, false, false, false, false, false, false, false, false, false, false] rfl rfl (one_of HT_.out (by kernel_rfl)) (by decide) (fun K hK => ?_)
                    refine goes_ Try.func18 (by kernel_rfl) rfl #[.agg #[.int .i64 a0_0, .slice A0_1 l0_1.length c0_1], .int .i64 a3] (by rfl) rfl rfl (by (try simp only [List.map_toArray, List.map_cons, List.map_nil]); first | done | rfl | (simp only [List.length_drop, List.length_take]; rfl)) ?_
                    with_reducible refine (lockgateref11_Copy.calls kj4 a0_0 (fun k_ => k_ < w.heap.size) _ _ l0_1 a3 t317 t318 _ ?side1 A40.out).mono ?_
                    (case side1 => exact Kd.V_mk HC0_1.out (Kd.F_below (Kd.C_F k29_heap HR0_1.out) (by repeat (first | (with_reducible first | exact HB.out | apply below_alloc | apply pw_below_drewN | apply below_drew1 | refine below_set ?_ GE269.out | refine below_set ?_ GE283.out | refine below_set ?_ GE284.out | refine below_set ?_ GE295.out | refine below_set ?_ GE296.out) | exact HB.out))))
                    rintro e w87 ⟨v319, rfl, ho0, hb⟩
                    refine ⟨_, rfl, ?_⟩
                    have n0_ := Aside0.mk (Kd.R_below (by (with_reducible repeat (first | apply Kd.R_alloc | apply Kd.R_drewN | apply Kd.R_drew)); exact HO277.out) hb)
                    have n1_ := Aside0.mk (Kd.N_below (by (with_reducible repeat (first | apply Kd.N_alloc | apply Kd.N_drewN | apply Kd.N_drew)); exact HO281.out) hb)
                    have n2_ := Aside0.mk (Kd.V_below (by (with_reducible repeat (first | apply Kd.V_alloc | apply Kd.V_drewN | apply Kd.V_drew)); exact HO289.out) hb)
                    have n3_ := Aside0.mk (Kd.V_below (by (with_reducible repeat (first | apply Kd.V_alloc | apply Kd.V_drewN | apply Kd.V_drew)); exact HO293.out) hb)
                    have n4_ := Aside0.mk (Kd.N_below (by (with_reducible repeat (first | apply Kd.N_alloc | apply Kd.N_drewN | apply Kd.N_drew)); exact HO302.out) hb)
                    have n5_ := Aside0.mk (Kd.N_below (by (with_reducible repeat (first | apply Kd.N_alloc | apply Kd.N_drewN | apply Kd.N_drew)); exact HO306.out) hb)
                    have n6_ := Aside0.mk (Kd.N_below (by (with_reducible repeat (first | apply Kd.N_alloc | apply Kd.N_drewN | apply Kd.N_drew)); exact HO311.out) hb)
                    have n7_ := Aside0.mk (Kd.N_below (by (with_reducible repeat (first | apply Kd.N_alloc | apply Kd.N_drewN | apply Kd.N_drew)); exact HO316.out) hb)
                    have n8_ := Aside0.mk (Kd.V_lower (Kd.V_mono (ok' := fun k_ => some k_ ≠ (.slice Ao53 t275.length co53 : Value).ownBlock ∧ some k_ ≠ (.slice Ao57 t279.length co57 : Value).ownBlock ∧ some k_ ≠ (.slice Ao80 t300.length co80 : Value).ownBlock ∧ some k_ ≠ (.slice Ao81 t304.length co81 : Value).ownBlock ∧ some k_ ≠ (.slice Ao84 t309.length co84 : Value).ownBlock ∧ some k_ ≠ (v315 : Value).ownBlock ∧ k_ ≠ gb269 ∧ k_ ≠ gb283 ∧ k_ ≠ gb284 ∧ k_ ≠ gb295 ∧ k_ ≠ gb296) ho0 (fun k_ hk_ => ⟨Or.elim hk_ (fun hs_ => fun e_ => Nat.not_le.2 hs_ (Kd.R_base HO277.out k_ e_.symm)) (fun hn_ => (Kd.fresh' (Kd.R_lt (by (with_reducible repeat (first | apply Kd.R_alloc | apply Kd.R_drewN | apply Kd.R_drew)); exact HO277.out)) k_ hn_)), Or.elim hk_ (fun hs_ => fun e_ => Nat.not_le.2 hs_ (Kd.N_base HO281.out k_ e_.symm)) (fun hn_ => (Kd.fresh' (Kd.N_lt (by (with_reducible repeat (first | apply Kd.N_alloc | apply Kd.N_drewN | apply Kd.N_drew)); exact HO281.out)) k_ hn_)), Or.elim hk_ (fun hs_ => fun e_ => Nat.not_le.2 hs_ (Kd.N_base HO302.out k_ e_.symm)) (fun hn_ => (Kd.fresh' (Kd.N_lt (by (with_reducible repeat (first | apply Kd.N_alloc | apply Kd.N_drewN | apply Kd.N_drew)); exact HO302.out)) k_ hn_)), Or.elim hk_ (fun hs_ => fun e_ => Nat.not_le.2 hs_ (Kd.N_base HO306.out k_ e_.symm)) (fun hn_ => (Kd.fresh' (Kd.N_lt (by (with_reducible repeat (first | apply Kd.N_alloc | apply Kd.N_drewN | apply Kd.N_drew)); exact HO306.out)) k_ hn_)), Or.elim hk_ (fun hs_ => fun e_ => Nat.not_le.2 hs_ (Kd.N_base HO311.out k_ e_.symm)) (fun hn_ => (Kd.fresh' (Kd.N_lt (by (with_reducible repeat (first | apply Kd.N_alloc | apply Kd.N_drewN | apply Kd.N_drew)); exact HO311.out)) k_ hn_)), Or.elim hk_ (fun hs_ => fun e_ => Nat.not_le.2 hs_ (Kd.N_base HO316.out k_ e_.symm)) (fun hn_ => (Kd.fresh' (Kd.N_lt (by (with_reducible repeat (first | apply Kd.N_alloc | apply Kd.N_drewN | apply Kd.N_drew)); exact HO316.out)) k_ hn_)), Or.elim hk_ (fun hs_ => fun e_ => Nat.not_le.2 hs_ (by rw [e_]; exact GW269.out)) (fun hn_ => (Kd.freshB (g := gb269) (o := .cells #[.int .i64 a0_0, .slice A0_1 l0_1.length c0_1] 24 (0, 0)) (by (with_reducible repeat (first | refine blk_drewN ?_ _ | refine blk_drew ?_ | refine blk_alloc ?_ _)); exact BK269.out) k_ hn_)), Or.elim hk_ (fun hs_ => fun e_ => Nat.not_le.2 hs_ (by rw [e_]; exact GW283.out)) (fun hn_ => (Kd.freshB (g := gb283) (o := .cells #[.int .i64 t273, .int .i64 t274, .slice Ao53 t275.length co53] 29 (0, 0)) (by (with_reducible repeat (first | refine blk_drewN ?_ _ | refine blk_drew ?_ | refine blk_alloc ?_ _)); exact BK283.out) k_ hn_)), Or.elim hk_ (fun hs_ => fun e_ => Nat.not_le.2 hs_ (by rw [e_]; exact GW284.out)) (fun hn_ => (Kd.freshB (g := gb284) (o := .cells #[.int .i64 t278, .slice Ao57 t279.length co57] 24 (0, 0)) (by (with_reducible repeat (first | refine blk_drewN ?_ _ | refine blk_drew ?_ | refine blk_alloc ?_ _)); exact BK284.out) k_ hn_)), Or.elim hk_ (fun hs_ => fun e_ => Nat.not_le.2 hs_ (by rw [e_]; exact GW295.out)) (fun hn_ => (Kd.freshB (g := gb295) (o := .cells #[.int .i64 t285, .int .i64 t286, .slice Ao68 t287.length co68] 29 (0, 0)) (by (with_reducible repeat (first | refine blk_drewN ?_ _ | refine blk_drew ?_ | refine blk_alloc ?_ _)); exact BK295.out) k_ hn_)), Or.elim hk_ (fun hs_ => fun e_ => Nat.not_le.2 hs_ (by rw [e_]; exact GW296.out)) (fun hn_ => (Kd.freshB (g := gb296) (o := .cells #[.int .i64 t290, .slice Ao73 t291.length co73] 24 (0, 0)) (by (with_reducible repeat (first | refine blk_drewN ?_ _ | refine blk_drew ?_ | refine blk_alloc ?_ _)); exact BK296.out) k_ hn_))⟩)) (below_size (by repeat (first | (with_reducible first | exact HB.out | apply below_alloc | apply pw_below_drewN | apply below_drew1 | refine below_set ?_ GE269.out | refine below_set ?_ GE283.out | refine below_set ?_ GE284.out | refine below_set ?_ GE295.out | refine below_set ?_ GE296.out) | exact HB.out))))
                    have n9_ := Aside0.mk (blk_below (g := gb269) (o := .cells #[.int .i64 a0_0, .slice A0_1 l0_1.length c0_1] 24 (0, 0)) (by (with_reducible repeat (first | refine blk_drewN ?_ _ | refine blk_drew ?_ | refine blk_alloc ?_ _)); exact BK269.out) hb)
                    have n10_ := Aside0.mk (blk_below (g := gb283) (o := .cells #[.int .i64 t273, .int .i64 t274, .slice Ao53 t275.length co53] 29 (0, 0)) (by (with_reducible repeat (first | refine blk_drewN ?_ _ | refine blk_drew ?_ | refine blk_alloc ?_ _)); exact BK283.out) hb)
                    have n11_ := Aside0.mk (blk_below (g := gb284) (o := .cells #[.int .i64 t278, .slice Ao57 t279.length co57] 24 (0, 0)) (by (with_reducible repeat (first | refine blk_drewN ?_ _ | refine blk_drew ?_ | refine blk_alloc ?_ _)); exact BK284.out) hb)
                    have n12_ := Aside0.mk (blk_below (g := gb295) (o := .cells #[.int .i64 t285, .int .i64 t286, .slice Ao68 t287.length co68] 29 (0, 0)) (by (with_reducible repeat (first | refine blk_drewN ?_ _ | refine blk_drew ?_ | refine blk_alloc ?_ _)); exact BK295.out) hb)
                    have n13_ := Aside0.mk (blk_below (g := gb296) (o := .cells #[.int .i64 t290, .slice Ao73 t291.length co73] 24 (0, 0)) (by (with_reducible repeat (first | refine blk_drewN ?_ _ | refine blk_drew ?_ | refine blk_alloc ?_ _)); exact BK296.out) hb)
                    have n14_ := Aside0.mk (below_step (by repeat (first | (with_reducible first | exact HB.out | apply below_alloc | apply pw_below_drewN | apply below_drew1 | refine below_set ?_ GE269.out | refine below_set ?_ GE283.out | refine below_set ?_ GE284.out | refine below_set ?_ GE295.out | refine below_set ?_ GE296.out) | exact HB.out)) hb)
                    clear HO277
                    clear HO281
                    clear HO289
                    clear HO293
                    clear HO302
                    clear HO306
                    clear HO311
                    clear HO316
                    clear BK269
                    clear BK283
                    clear BK284
                    clear BK295
                    clear BK296
                    clear HB
                    have HO277 := n0_
                    have HO281 := n1_
                    have HO289 := n2_
                    have HO293 := n3_
                    have HO302 := n4_
                    have HO306 := n5_
                    have HO311 := n6_
                    have HO316 := n7_
                    have HO320 := n8_
                    have BK269 := n9_
                    have BK283 := n10_
                    have BK284 := n11_
                    have BK295 := n12_
                    have BK296 := n13_
                    have HB := n14_
                    clear n0_ n1_ n2_ n3_ n4_ n5_ n6_ n7_ n8_ n9_ n10_ n11_ n12_ n13_ n14_
                    (try clear hb)
                    (try clear hb2)
                    (try clear hk)
                    (try clear hi)
                    (try clear ho0)
                    obtain ⟨Ao88, co88, eo88⟩ := Kd.N_slice HO316.out
                    (first | subst eo88 | (injection eo88 with f1_ f2_ f3_; have f4_ := f1_.symm; have f5_ := f3_.symm; clear f1_ f2_ f3_; subst f4_; subst f5_))
                    obtain ⟨Ao89, co89, eo89⟩ := Kd.V_slice HO320.out
                    (first | subst eo89 | (injection eo89 with f1_ f2_ f3_; have f4_ := f1_.symm; have f5_ := f3_.symm; clear f1_ f2_ f3_; subst f4_; subst f5_))
                    refine hK.out _ _ ⟨(blk_cell BK283.out 0).trans rfl, (blk_cell BK283.out 1).trans rfl, (blk_cell BK283.out 2).trans rfl, (blk_cell BK295.out 0).trans rfl, (blk_cell BK295.out 1).trans rfl, (blk_cell BK295.out 2).trans rfl, (blk_cell BK284.out 0).trans rfl, (blk_cell BK284.out 1).trans rfl, (blk_cell BK296.out 0).trans rfl, (blk_cell BK296.out 1).trans rfl, (blk_cell BK269.out 0).trans rfl, (blk_cell BK269.out 1).trans rfl⟩ (fun hHeld => ?_)
                    clear hK K
                    refine norm_ (a' := ?_) ?_ ?_
                    rotate_left
                    · show Act.put _ (some 83) _ = _
                      simp only [Act.put, List.setIfInBounds_toArray, List.set_cons_zero, List.set_cons_succ, i64_w, i32_w]
                      rfl
                    refine one_ (i := 38) (N := some 84) #[true, true, true, true, true, true, true, true, true, true, true, true, true, true, true, true, true, true, true, true, true, true, true, true, true, true, true, true, true, true, true, true, true, true, true, true, true, true, true, false, false, false, false, false, false, false, false, false, false, false] rfl rfl (one_of HT_.out (by kernel_rfl)) (by decide) (fun K hK => ?_)
                    refine goes_ Try.func12 (by kernel_rfl) rfl #[.agg #[.int .i64 t313, .slice Ao88 t314.length co88], .agg #[.int .i64 t317, .slice Ao89 t318.length co89]] (by rfl) rfl rfl (by (try simp only [List.map_toArray, List.map_cons, List.map_nil]); first | done | rfl | (simp only [List.length_drop, List.length_take]; rfl)) ?_
                    with_reducible refine (lockgateref11_Same.calls kj4 t313 _ _ t314 t317 _ _ t318 true _ ?side1 ?side2 ?side3 ?side4 A41.out).mono ?_
                    (case side1 => repeat (first | exact (Kd.N_reads' HO316.out).2.2 | (with_reducible refine Kd.C_alloc ?_ _) | (with_reducible refine Kd.C_drewN ?_ _) | (with_reducible refine Kd.C_drew ?_)))
                    (case side2 => exact (Kd.N_reads' HO316.out).2.1)
                    (case side3 => repeat (first | exact (Kd.V_reads' HO320.out).2.2 | (with_reducible refine Kd.C_alloc ?_ _) | (with_reducible refine Kd.C_drewN ?_ _) | (with_reducible refine Kd.C_drew ?_)))
                    (case side4 => exact (Kd.V_reads' HO320.out).2.1)
                    rintro e w90 ⟨rfl, hb⟩
                    refine ⟨_, rfl, ?_⟩
                    have n0_ := Aside0.mk (Kd.R_below (by (with_reducible repeat (first | apply Kd.R_alloc | apply Kd.R_drewN | apply Kd.R_drew)); exact HO277.out) hb)
                    have n1_ := Aside0.mk (Kd.N_below (by (with_reducible repeat (first | apply Kd.N_alloc | apply Kd.N_drewN | apply Kd.N_drew)); exact HO281.out) hb)
                    have n2_ := Aside0.mk (Kd.V_below (by (with_reducible repeat (first | apply Kd.V_alloc | apply Kd.V_drewN | apply Kd.V_drew)); exact HO289.out) hb)
                    have n3_ := Aside0.mk (Kd.V_below (by (with_reducible repeat (first | apply Kd.V_alloc | apply Kd.V_drewN | apply Kd.V_drew)); exact HO293.out) hb)
                    have n4_ := Aside0.mk (Kd.N_below (by (with_reducible repeat (first | apply Kd.N_alloc | apply Kd.N_drewN | apply Kd.N_drew)); exact HO302.out) hb)
                    have n5_ := Aside0.mk (Kd.N_below (by (with_reducible repeat (first | apply Kd.N_alloc | apply Kd.N_drewN | apply Kd.N_drew)); exact HO306.out) hb)
                    have n6_ := Aside0.mk (Kd.N_below (by (with_reducible repeat (first | apply Kd.N_alloc | apply Kd.N_drewN | apply Kd.N_drew)); exact HO311.out) hb)
                    have n7_ := Aside0.mk (Kd.N_below (by (with_reducible repeat (first | apply Kd.N_alloc | apply Kd.N_drewN | apply Kd.N_drew)); exact HO316.out) hb)
                    have n8_ := Aside0.mk (Kd.V_below (by (with_reducible repeat (first | apply Kd.V_alloc | apply Kd.V_drewN | apply Kd.V_drew)); exact HO320.out) hb)
                    have n9_ := Aside0.mk (blk_below (g := gb269) (o := .cells #[.int .i64 a0_0, .slice A0_1 l0_1.length c0_1] 24 (0, 0)) (by (with_reducible repeat (first | refine blk_drewN ?_ _ | refine blk_drew ?_ | refine blk_alloc ?_ _)); exact BK269.out) hb)
                    have n10_ := Aside0.mk (blk_below (g := gb283) (o := .cells #[.int .i64 t273, .int .i64 t274, .slice Ao53 t275.length co53] 29 (0, 0)) (by (with_reducible repeat (first | refine blk_drewN ?_ _ | refine blk_drew ?_ | refine blk_alloc ?_ _)); exact BK283.out) hb)
                    have n11_ := Aside0.mk (blk_below (g := gb284) (o := .cells #[.int .i64 t278, .slice Ao57 t279.length co57] 24 (0, 0)) (by (with_reducible repeat (first | refine blk_drewN ?_ _ | refine blk_drew ?_ | refine blk_alloc ?_ _)); exact BK284.out) hb)
                    have n12_ := Aside0.mk (blk_below (g := gb295) (o := .cells #[.int .i64 t285, .int .i64 t286, .slice Ao68 t287.length co68] 29 (0, 0)) (by (with_reducible repeat (first | refine blk_drewN ?_ _ | refine blk_drew ?_ | refine blk_alloc ?_ _)); exact BK295.out) hb)
                    have n13_ := Aside0.mk (blk_below (g := gb296) (o := .cells #[.int .i64 t290, .slice Ao73 t291.length co73] 24 (0, 0)) (by (with_reducible repeat (first | refine blk_drewN ?_ _ | refine blk_drew ?_ | refine blk_alloc ?_ _)); exact BK296.out) hb)
                    have n14_ := Aside0.mk (below_step (by repeat (first | (with_reducible first | exact HB.out | apply below_alloc | apply pw_below_drewN | apply below_drew1 | refine below_set ?_ GE269.out | refine below_set ?_ GE283.out | refine below_set ?_ GE284.out | refine below_set ?_ GE295.out | refine below_set ?_ GE296.out) | exact HB.out)) hb)
                    clear HO277
                    clear HO281
                    clear HO289
                    clear HO293
                    clear HO302
                    clear HO306
                    clear HO311
                    clear HO316
                    clear HO320
                    clear BK269
                    clear BK283
                    clear BK284
                    clear BK295
                    clear BK296
                    clear HB
                    have HO277 := n0_
                    have HO281 := n1_
                    have HO289 := n2_
                    have HO293 := n3_
                    have HO302 := n4_
                    have HO306 := n5_
                    have HO311 := n6_
                    have HO316 := n7_
                    have HO320 := n8_
                    have BK269 := n9_
                    have BK283 := n10_
                    have BK284 := n11_
                    have BK295 := n12_
                    have BK296 := n13_
                    have HB := n14_
                    clear n0_ n1_ n2_ n3_ n4_ n5_ n6_ n7_ n8_ n9_ n10_ n11_ n12_ n13_ n14_
                    (try clear hb)
                    (try clear hb2)
                    (try clear hk)
                    (try clear hi)
                    refine hK.out _ _ ⟨(blk_cell BK283.out 0).trans rfl, (blk_cell BK283.out 1).trans rfl, (blk_cell BK283.out 2).trans rfl, (blk_cell BK295.out 0).trans rfl, (blk_cell BK295.out 1).trans rfl, (blk_cell BK295.out 2).trans rfl, (blk_cell BK284.out 0).trans rfl, (blk_cell BK284.out 1).trans rfl, (blk_cell BK296.out 0).trans rfl, (blk_cell BK296.out 1).trans rfl, (blk_cell BK269.out 0).trans rfl, (blk_cell BK269.out 1).trans rfl⟩ (fun hHeld => ?_)
                    clear hK K
                    refine norm_ (a' := ?_) ?_ ?_
                    rotate_left
                    · show Act.put _ (some 84) _ = _
                      simp only [Act.put, List.setIfInBounds_toArray, List.set_cons_zero, List.set_cons_succ, i64_w, i32_w]
                      rfl
                    refine pure_ (i := 39) (N := some 85) (v := ?_) (a' := ?_) #[true, true, true, true, true, true, true, true, true, true, true, true, true, true, true, true, true, true, true, true, true, true, true, true, true, true, true, true, true, true, true, true, true, true, true, true, true, true, true, true, false, false, false, false, false, false, false, false, false, false] rfl rfl (any_of HT_.out (by kernel_rfl)) (fun _ _ _ h => h) (Or.inl ⟨by rfl, ?_⟩) ?_ ?_
                    rotate_left
                    · intro w'
                      go_simp
                      with_reducible rfl
                    rotate_left
                    · simp only [Act.put, List.setIfInBounds_toArray, List.set_cons_zero, List.set_cons_succ, i64_w, i32_w]
                      rfl
                    refine pure_ (i := 40) (N := some 86) (v := ?_) (a' := ?_) #[true, true, true, true, true, true, true, true, true, true, true, true, true, true, true, true, true, true, true, true, true, true, true, true, true, true, true, true, true, true, true, true, true, true, true, true, true, true, true, true, true, false, false, false, false, false, false, false, false, false] rfl rfl (any_of HT_.out (by kernel_rfl)) (fun _ _ _ h => h) (Or.inl ⟨by rfl, ?_⟩) ?_ ?_
                    rotate_left
                    · intro w'
                      go_simp
                      with_reducible rfl
                    rotate_left
                    · simp only [Act.put, List.setIfInBounds_toArray, List.set_cons_zero, List.set_cons_succ, i64_w, i32_w]
                      rfl
                    refine pure_ (i := 42) (N := some 88) (v := ?_) (a' := ?_) #[true, true, true, true, true, true, true, true, true, true, true, true, true, true, true, true, true, true, true, true, true, true, true, true, true, true, true, true, true, true, true, true, true, true, true, true, true, true, true, true, true, false, true, false, false, false, false, false, false, false] rfl rfl (any_of HT_.out (by kernel_rfl)) (fun _ _ _ h => h) (Or.inl ⟨by rfl, ?_⟩) ?_ ?_
                    rotate_left
                    · intro w'
                      go_simp
                      with_reducible rfl
                    rotate_left
                    · simp only [Act.put, List.setIfInBounds_toArray, List.set_cons_zero, List.set_cons_succ, i64_w, i32_w]
                      rfl
                    refine pure_ (i := 45) (N := some 91) (v := ?_) (a' := ?_) #[true, true, true, true, true, true, true, true, true, true, true, true, true, true, true, true, true, true, true, true, true, true, true, true, true, true, true, true, true, true, true, true, true, true, true, true, true, true, true, true, true, false, true, false, false, true, false, false, false, false] rfl rfl (any_of HT_.out (by kernel_rfl)) (fun _ _ _ h => h) (Or.inl ⟨by rfl, ?_⟩) ?_ ?_
                    rotate_left
                    · intro w'
                      go_simp
                      with_reducible rfl
                    rotate_left
                    · simp only [Act.put, List.setIfInBounds_toArray, List.set_cons_zero, List.set_cons_succ, i64_w, i32_w]
                      rfl
                    refine take_ (i := 41) (N := some 87) (v := ?_) (a' := ?_) #[true, true, true, true, true, true, true, true, true, true, true, true, true, true, true, true, true, true, true, true, true, true, true, true, true, true, true, true, true, true, true, true, true, true, true, true, true, true, true, true, true, true, true, false, false, true, false, false, false, false] rfl rfl (take_ofW HT_.out HW_.out (by kernel_rfl)) (fun _ _ _ h => h) (Or.inl ⟨by rfl, ?_⟩) hHeld ?_ ?_
                    rotate_left
                    · rintro w' ⟨s0, s1, s2, s3, s4, s5, s6, s7, s8, s9, s10, s11⟩
                      go_simp
                      with_reducible rfl
                    rotate_left
                    · simp only [Act.put, List.setIfInBounds_toArray, List.set_cons_zero, List.set_cons_succ, i64_w, i32_w]
                      rfl
                    refine take_ (i := 44) (N := some 90) (v := ?_) (a' := ?_) #[true, true, true, true, true, true, true, true, true, true, true, true, true, true, true, true, true, true, true, true, true, true, true, true, true, true, true, true, true, true, true, true, true, true, true, true, true, true, true, true, true, true, true, false, true, true, false, false, false, false] rfl rfl (take_ofW HT_.out HW_.out (by kernel_rfl)) (fun _ _ _ h => h) (Or.inl ⟨by rfl, ?_⟩) hHeld ?_ ?_
                    rotate_left
                    · rintro w' ⟨s0, s1, s2, s3, s4, s5, s6, s7, s8, s9, s10, s11⟩
                      go_simp
                      with_reducible rfl
                    rotate_left
                    · simp only [Act.put, List.setIfInBounds_toArray, List.set_cons_zero, List.set_cons_succ, i64_w, i32_w]
                      rfl
                    refine one_ (i := 43) (N := some 89) #[true, true, true, true, true, true, true, true, true, true, true, true, true, true, true, true, true, true, true, true, true, true, true, true, true, true, true, true, true, true, true, true, true, true, true, true, true, true, true, true, true, true, true, true, true, true, false, false, false, false] rfl rfl (one_of HT_.out (by kernel_rfl)) (by decide) (fun K hK => ?_)
                    refine goes_ Try.func19 (by kernel_rfl) rfl #[.agg #[.int .i64 a0_0, .slice A0_1 l0_1.length c0_1], .int .i64 a1] (by rfl) rfl rfl (by (try simp only [List.map_toArray, List.map_cons, List.map_nil]); first | done | rfl | (simp only [List.length_drop, List.length_take]; rfl)) ?_
                    with_reducible refine (net_Cut.calls kj4 a0_0 _ _ l0_1 a1 t322 t323 _ ?side1 ?side2 A43.out).mono ?_
                    (case side1 => repeat (first | exact (Kd.C_below HR0_1.out HB.out) | (with_reducible refine Kd.C_alloc ?_ _) | (with_reducible refine Kd.C_drewN ?_ _) | (with_reducible refine Kd.C_drew ?_)))
                    (case side2 => exact HC0_1.out)
                    rintro e w91 ⟨v324, rfl, ho0, hb⟩
                    refine ⟨_, rfl, ?_⟩
                    have n0_ := Aside0.mk (Kd.R_below (by (with_reducible repeat (first | apply Kd.R_alloc | apply Kd.R_drewN | apply Kd.R_drew)); exact HO277.out) hb)
                    have n1_ := Aside0.mk (Kd.N_elder' (by (with_reducible repeat (first | apply Kd.N_alloc | apply Kd.N_drewN | apply Kd.N_drew)); exact HO281.out) (Kd.S_base ho0) hb)
                    have n2_ := Aside0.mk (Kd.V_elder' (by (with_reducible repeat (first | apply Kd.V_alloc | apply Kd.V_drewN | apply Kd.V_drew)); exact HO289.out) (Kd.S_base ho0) hb)
                    have n3_ := Aside0.mk (Kd.V_elder' (by (with_reducible repeat (first | apply Kd.V_alloc | apply Kd.V_drewN | apply Kd.V_drew)); exact HO293.out) (Kd.S_base ho0) hb)
                    have n4_ := Aside0.mk (Kd.N_elder' (by (with_reducible repeat (first | apply Kd.N_alloc | apply Kd.N_drewN | apply Kd.N_drew)); exact HO302.out) (Kd.S_base ho0) hb)
                    have n5_ := Aside0.mk (Kd.N_elder' (by (with_reducible repeat (first | apply Kd.N_alloc | apply Kd.N_drewN | apply Kd.N_drew)); exact HO306.out) (Kd.S_base ho0) hb)
                    have n6_ := Aside0.mk (Kd.N_elder' (by (with_reducible repeat (first | apply Kd.N_alloc | apply Kd.N_drewN | apply Kd.N_drew)); exact HO311.out) (Kd.S_base ho0) hb)
                    have n7_ := Aside0.mk (Kd.N_elder' (by (with_reducible repeat (first | apply Kd.N_alloc | apply Kd.N_drewN | apply Kd.N_drew)); exact HO316.out) (Kd.S_base ho0) hb)
                    have n8_ := Aside0.mk (Kd.V_elder' (by (with_reducible repeat (first | apply Kd.V_alloc | apply Kd.V_drewN | apply Kd.V_drew)); exact HO320.out) (Kd.S_base ho0) hb)
                    have n9_ := Aside0.mk (Kd.N_lower (Kd.N_mono (ok' := fun k_ => some k_ ≠ (.slice Ao53 t275.length co53 : Value).ownBlock ∧ some k_ ≠ (.slice Ao57 t279.length co57 : Value).ownBlock ∧ some k_ ≠ (.slice Ao80 t300.length co80 : Value).ownBlock ∧ some k_ ≠ (.slice Ao81 t304.length co81 : Value).ownBlock ∧ some k_ ≠ (.slice Ao84 t309.length co84 : Value).ownBlock ∧ some k_ ≠ (.slice Ao88 t314.length co88 : Value).ownBlock ∧ k_ ≠ gb269 ∧ k_ ≠ gb283 ∧ k_ ≠ gb284 ∧ k_ ≠ gb295 ∧ k_ ≠ gb296) (Kd.S_N (Kd.S_bound ho0)) (fun k_ hk_ => ⟨(Kd.fresh' (Kd.R_lt (by (with_reducible repeat (first | apply Kd.R_alloc | apply Kd.R_drewN | apply Kd.R_drew)); exact HO277.out)) k_ hk_.2.1), (Kd.fresh' (Kd.N_lt (by (with_reducible repeat (first | apply Kd.N_alloc | apply Kd.N_drewN | apply Kd.N_drew)); exact HO281.out)) k_ hk_.2.1), (Kd.fresh' (Kd.N_lt (by (with_reducible repeat (first | apply Kd.N_alloc | apply Kd.N_drewN | apply Kd.N_drew)); exact HO302.out)) k_ hk_.2.1), (Kd.fresh' (Kd.N_lt (by (with_reducible repeat (first | apply Kd.N_alloc | apply Kd.N_drewN | apply Kd.N_drew)); exact HO306.out)) k_ hk_.2.1), (Kd.fresh' (Kd.N_lt (by (with_reducible repeat (first | apply Kd.N_alloc | apply Kd.N_drewN | apply Kd.N_drew)); exact HO311.out)) k_ hk_.2.1), (Kd.fresh' (Kd.N_lt (by (with_reducible repeat (first | apply Kd.N_alloc | apply Kd.N_drewN | apply Kd.N_drew)); exact HO316.out)) k_ hk_.2.1), (Kd.freshB (g := gb269) (o := .cells #[.int .i64 a0_0, .slice A0_1 l0_1.length c0_1] 24 (0, 0)) (by (with_reducible repeat (first | refine blk_drewN ?_ _ | refine blk_drew ?_ | refine blk_alloc ?_ _)); exact BK269.out) k_ hk_.2.1), (Kd.freshB (g := gb283) (o := .cells #[.int .i64 t273, .int .i64 t274, .slice Ao53 t275.length co53] 29 (0, 0)) (by (with_reducible repeat (first | refine blk_drewN ?_ _ | refine blk_drew ?_ | refine blk_alloc ?_ _)); exact BK283.out) k_ hk_.2.1), (Kd.freshB (g := gb284) (o := .cells #[.int .i64 t278, .slice Ao57 t279.length co57] 24 (0, 0)) (by (with_reducible repeat (first | refine blk_drewN ?_ _ | refine blk_drew ?_ | refine blk_alloc ?_ _)); exact BK284.out) k_ hk_.2.1), (Kd.freshB (g := gb295) (o := .cells #[.int .i64 t285, .int .i64 t286, .slice Ao68 t287.length co68] 29 (0, 0)) (by (with_reducible repeat (first | refine blk_drewN ?_ _ | refine blk_drew ?_ | refine blk_alloc ?_ _)); exact BK295.out) k_ hk_.2.1), (Kd.freshB (g := gb296) (o := .cells #[.int .i64 t290, .slice Ao73 t291.length co73] 24 (0, 0)) (by (with_reducible repeat (first | refine blk_drewN ?_ _ | refine blk_drew ?_ | refine blk_alloc ?_ _)); exact BK296.out) k_ hk_.2.1)⟩)) (below_size (by repeat (first | (with_reducible first | exact HB.out | apply below_alloc | apply pw_below_drewN | apply below_drew1 | refine below_set ?_ GE269.out | refine below_set ?_ GE283.out | refine below_set ?_ GE284.out | refine below_set ?_ GE295.out | refine below_set ?_ GE296.out) | exact HB.out))))
                    have n10_ := Aside0.mk (blk_below (g := gb269) (o := .cells #[.int .i64 a0_0, .slice A0_1 l0_1.length c0_1] 24 (0, 0)) (by (with_reducible repeat (first | refine blk_drewN ?_ _ | refine blk_drew ?_ | refine blk_alloc ?_ _)); exact BK269.out) hb)
                    have n11_ := Aside0.mk (blk_below (g := gb283) (o := .cells #[.int .i64 t273, .int .i64 t274, .slice Ao53 t275.length co53] 29 (0, 0)) (by (with_reducible repeat (first | refine blk_drewN ?_ _ | refine blk_drew ?_ | refine blk_alloc ?_ _)); exact BK283.out) hb)
                    have n12_ := Aside0.mk (blk_below (g := gb284) (o := .cells #[.int .i64 t278, .slice Ao57 t279.length co57] 24 (0, 0)) (by (with_reducible repeat (first | refine blk_drewN ?_ _ | refine blk_drew ?_ | refine blk_alloc ?_ _)); exact BK284.out) hb)
                    have n13_ := Aside0.mk (blk_below (g := gb295) (o := .cells #[.int .i64 t285, .int .i64 t286, .slice Ao68 t287.length co68] 29 (0, 0)) (by (with_reducible repeat (first | refine blk_drewN ?_ _ | refine blk_drew ?_ | refine blk_alloc ?_ _)); exact BK295.out) hb)
                    have n14_ := Aside0.mk (blk_below (g := gb296) (o := .cells #[.int .i64 t290, .slice Ao73 t291.length co73] 24 (0, 0)) (by (with_reducible repeat (first | refine blk_drewN ?_ _ | refine blk_drew ?_ | refine blk_alloc ?_ _)); exact BK296.out) hb)
                    have n15_ := Aside0.mk (below_step (by repeat (first | (with_reducible first | exact HB.out | apply below_alloc | apply pw_below_drewN | apply below_drew1 | refine below_set ?_ GE269.out | refine below_set ?_ GE283.out | refine below_set ?_ GE284.out | refine below_set ?_ GE295.out | refine below_set ?_ GE296.out) | exact HB.out)) hb)
                    clear HO277
                    clear HO281
                    clear HO289
                    clear HO293
                    clear HO302
                    clear HO306
                    clear HO311
                    clear HO316
                    clear HO320
                    clear BK269
                    clear BK283
                    clear BK284
                    clear BK295
                    clear BK296
                    clear HB
                    have HO277 := n0_
                    have HO281 := n1_
                    have HO289 := n2_
                    have HO293 := n3_
                    have HO302 := n4_
                    have HO306 := n5_
                    have HO311 := n6_
                    have HO316 := n7_
                    have HO320 := n8_
                    have HO325 := n9_
                    have BK269 := n10_
                    have BK283 := n11_
                    have BK284 := n12_
                    have BK295 := n13_
                    have BK296 := n14_
                    have HB := n15_
                    clear n0_ n1_ n2_ n3_ n4_ n5_ n6_ n7_ n8_ n9_ n10_ n11_ n12_ n13_ n14_ n15_
                    (try clear hb)
                    (try clear hb2)
                    (try clear hk)
                    (try clear hi)
                    (try clear ho0)
                    refine hK.out _ _ ⟨(blk_cell BK283.out 0).trans rfl, (blk_cell BK283.out 1).trans rfl, (blk_cell BK283.out 2).trans rfl, (blk_cell BK295.out 0).trans rfl, (blk_cell BK295.out 1).trans rfl, (blk_cell BK295.out 2).trans rfl, (blk_cell BK284.out 0).trans rfl, (blk_cell BK284.out 1).trans rfl, (blk_cell BK296.out 0).trans rfl, (blk_cell BK296.out 1).trans rfl, (blk_cell BK269.out 0).trans rfl, (blk_cell BK269.out 1).trans rfl⟩ (fun hHeld => ?_)
                    clear hK K
                    refine norm_ (a' := ?_) ?_ ?_
                    rotate_left
                    · show Act.put _ (some 89) _ = _
                      simp only [Act.put, List.setIfInBounds_toArray, List.set_cons_zero, List.set_cons_succ, i64_w, i32_w]
                      rfl
                    refine one_ (i := 46) (N := some 92) #[true, true, true, true, true, true, true, true, true, true, true, true, true, true, true, true, true, true, true, true, true, true, true, true, true, true, true, true, true, true, true, true, true, true, true, true, true, true, true, true, true, true, true, true, true, true, true, false, false, false] rfl rfl (one_of HT_.out (by kernel_rfl)) (by decide) (fun K hK => ?_)
                    refine goes_ Try.func20 (by kernel_rfl) rfl #[.agg #[.int .i64 a0_0, .slice A0_1 l0_1.length c0_1], .int .i64 a1] (by rfl) rfl rfl (by (try simp only [List.map_toArray, List.map_cons, List.map_nil]); first | done | rfl | (simp only [List.length_drop, List.length_take]; rfl)) ?_
                    with_reducible refine (lockgateref11_Cut.calls kj4 a0_0 (fun k_ => k_ < w.heap.size) _ _ l0_1 a1 t326 t327 _ ?side1 A44.out).mono ?_
                    (case side1 => exact Kd.V_mk HC0_1.out (Kd.F_below (Kd.C_F k29_heap HR0_1.out) (by repeat (first | (with_reducible first | exact HB.out | apply below_alloc | apply pw_below_drewN | apply below_drew1 | refine below_set ?_ GE269.out | refine below_set ?_ GE283.out | refine below_set ?_ GE284.out | refine below_set ?_ GE295.out | refine below_set ?_ GE296.out) | exact HB.out))))
                    rintro e w92 ⟨v328, rfl, ho0, hb⟩
                    refine ⟨_, rfl, ?_⟩
                    have n0_ := Aside0.mk (Kd.R_below (by (with_reducible repeat (first | apply Kd.R_alloc | apply Kd.R_drewN | apply Kd.R_drew)); exact HO277.out) hb)
                    have n1_ := Aside0.mk (Kd.N_elder' (by (with_reducible repeat (first | apply Kd.N_alloc | apply Kd.N_drewN | apply Kd.N_drew)); exact HO281.out) (Kd.N_base ho0) hb)
                    have n2_ := Aside0.mk (Kd.V_elder' (by (with_reducible repeat (first | apply Kd.V_alloc | apply Kd.V_drewN | apply Kd.V_drew)); exact HO289.out) (Kd.N_base ho0) hb)
                    have n3_ := Aside0.mk (Kd.V_elder' (by (with_reducible repeat (first | apply Kd.V_alloc | apply Kd.V_drewN | apply Kd.V_drew)); exact HO293.out) (Kd.N_base ho0) hb)
                    have n4_ := Aside0.mk (Kd.N_elder' (by (with_reducible repeat (first | apply Kd.N_alloc | apply Kd.N_drewN | apply Kd.N_drew)); exact HO302.out) (Kd.N_base ho0) hb)
                    have n5_ := Aside0.mk (Kd.N_elder' (by (with_reducible repeat (first | apply Kd.N_alloc | apply Kd.N_drewN | apply Kd.N_drew)); exact HO306.out) (Kd.N_base ho0) hb)
                    have n6_ := Aside0.mk (Kd.N_elder' (by (with_reducible repeat (first | apply Kd.N_alloc | apply Kd.N_drewN | apply Kd.N_drew)); exact HO311.out) (Kd.N_base ho0) hb)
                    have n7_ := Aside0.mk (Kd.N_elder' (by (with_reducible repeat (first | apply Kd.N_alloc | apply Kd.N_drewN | apply Kd.N_drew)); exact HO316.out) (Kd.N_base ho0) hb)
                    have n8_ := Aside0.mk (Kd.V_elder' (by (with_reducible repeat (first | apply Kd.V_alloc | apply Kd.V_drewN | apply Kd.V_drew)); exact HO320.out) (Kd.N_base ho0) hb)
                    have n9_ := Aside0.mk (Kd.N_elder' (by (with_reducible repeat (first | apply Kd.N_alloc | apply Kd.N_drewN | apply Kd.N_drew)); exact HO325.out) (Kd.N_base ho0) hb)
                    have n10_ := Aside0.mk (Kd.N_lower (Kd.N_mono (ok' := fun k_ => some k_ ≠ (.slice Ao53 t275.length co53 : Value).ownBlock ∧ some k_ ≠ (.slice Ao57 t279.length co57 : Value).ownBlock ∧ some k_ ≠ (.slice Ao80 t300.length co80 : Value).ownBlock ∧ some k_ ≠ (.slice Ao81 t304.length co81 : Value).ownBlock ∧ some k_ ≠ (.slice Ao84 t309.length co84 : Value).ownBlock ∧ some k_ ≠ (.slice Ao88 t314.length co88 : Value).ownBlock ∧ some k_ ≠ (v324 : Value).ownBlock ∧ k_ ≠ gb269 ∧ k_ ≠ gb283 ∧ k_ ≠ gb284 ∧ k_ ≠ gb295 ∧ k_ ≠ gb296) ho0 (fun k_ hk_ => ⟨Or.elim hk_ (fun hs_ => fun e_ => Nat.not_le.2 hs_ (Kd.R_base HO277.out k_ e_.symm)) (fun hn_ => (Kd.fresh' (Kd.R_lt (by (with_reducible repeat (first | apply Kd.R_alloc | apply Kd.R_drewN | apply Kd.R_drew)); exact HO277.out)) k_ hn_)), Or.elim hk_ (fun hs_ => fun e_ => Nat.not_le.2 hs_ (Kd.N_base HO281.out k_ e_.symm)) (fun hn_ => (Kd.fresh' (Kd.N_lt (by (with_reducible repeat (first | apply Kd.N_alloc | apply Kd.N_drewN | apply Kd.N_drew)); exact HO281.out)) k_ hn_)), Or.elim hk_ (fun hs_ => fun e_ => Nat.not_le.2 hs_ (Kd.N_base HO302.out k_ e_.symm)) (fun hn_ => (Kd.fresh' (Kd.N_lt (by (with_reducible repeat (first | apply Kd.N_alloc | apply Kd.N_drewN | apply Kd.N_drew)); exact HO302.out)) k_ hn_)), Or.elim hk_ (fun hs_ => fun e_ => Nat.not_le.2 hs_ (Kd.N_base HO306.out k_ e_.symm)) (fun hn_ => (Kd.fresh' (Kd.N_lt (by (with_reducible repeat (first | apply Kd.N_alloc | apply Kd.N_drewN | apply Kd.N_drew)); exact HO306.out)) k_ hn_)), Or.elim hk_ (fun hs_ => fun e_ => Nat.not_le.2 hs_ (Kd.N_base HO311.out k_ e_.symm)) (fun hn_ => (Kd.fresh' (Kd.N_lt (by (with_reducible repeat (first | apply Kd.N_alloc | apply Kd.N_drewN | apply Kd.N_drew)); exact HO311.out)) k_ hn_)), Or.elim hk_ (fun hs_ => fun e_ => Nat.not_le.2 hs_ (Kd.N_base HO316.out k_ e_.symm)) (fun hn_ => (Kd.fresh' (Kd.N_lt (by (with_reducible repeat (first | apply Kd.N_alloc | apply Kd.N_drewN | apply Kd.N_drew)); exact HO316.out)) k_ hn_)), Or.elim hk_ (fun hs_ => fun e_ => Nat.not_le.2 hs_ (Kd.N_base HO325.out k_ e_.symm)) (fun hn_ => (Kd.fresh' (Kd.N_lt (by (with_reducible repeat (first | apply Kd.N_alloc | apply Kd.N_drewN | apply Kd.N_drew)); exact HO325.out)) k_ hn_)), Or.elim hk_ (fun hs_ => fun e_ => Nat.not_le.2 hs_ (by rw [e_]; exact GW269.out)) (fun hn_ => (Kd.freshB (g := gb269) (o := .cells #[.int .i64 a0_0, .slice A0_1 l0_1.length c0_1] 24 (0, 0)) (by (with_reducible repeat (first | refine blk_drewN ?_ _ | refine blk_drew ?_ | refine blk_alloc ?_ _)); exact BK269.out) k_ hn_)), Or.elim hk_ (fun hs_ => fun e_ => Nat.not_le.2 hs_ (by rw [e_]; exact GW283.out)) (fun hn_ => (Kd.freshB (g := gb283) (o := .cells #[.int .i64 t273, .int .i64 t274, .slice Ao53 t275.length co53] 29 (0, 0)) (by (with_reducible repeat (first | refine blk_drewN ?_ _ | refine blk_drew ?_ | refine blk_alloc ?_ _)); exact BK283.out) k_ hn_)), Or.elim hk_ (fun hs_ => fun e_ => Nat.not_le.2 hs_ (by rw [e_]; exact GW284.out)) (fun hn_ => (Kd.freshB (g := gb284) (o := .cells #[.int .i64 t278, .slice Ao57 t279.length co57] 24 (0, 0)) (by (with_reducible repeat (first | refine blk_drewN ?_ _ | refine blk_drew ?_ | refine blk_alloc ?_ _)); exact BK284.out) k_ hn_)), Or.elim hk_ (fun hs_ => fun e_ => Nat.not_le.2 hs_ (by rw [e_]; exact GW295.out)) (fun hn_ => (Kd.freshB (g := gb295) (o := .cells #[.int .i64 t285, .int .i64 t286, .slice Ao68 t287.length co68] 29 (0, 0)) (by (with_reducible repeat (first | refine blk_drewN ?_ _ | refine blk_drew ?_ | refine blk_alloc ?_ _)); exact BK295.out) k_ hn_)), Or.elim hk_ (fun hs_ => fun e_ => Nat.not_le.2 hs_ (by rw [e_]; exact GW296.out)) (fun hn_ => (Kd.freshB (g := gb296) (o := .cells #[.int .i64 t290, .slice Ao73 t291.length co73] 24 (0, 0)) (by (with_reducible repeat (first | refine blk_drewN ?_ _ | refine blk_drew ?_ | refine blk_alloc ?_ _)); exact BK296.out) k_ hn_))⟩)) (below_size (by repeat (first | (with_reducible first | exact HB.out | apply below_alloc | apply pw_below_drewN | apply below_drew1 | refine below_set ?_ GE269.out | refine below_set ?_ GE283.out | refine below_set ?_ GE284.out | refine below_set ?_ GE295.out | refine below_set ?_ GE296.out) | exact HB.out))))
                    have n11_ := Aside0.mk (blk_below (g := gb269) (o := .cells #[.int .i64 a0_0, .slice A0_1 l0_1.length c0_1] 24 (0, 0)) (by (with_reducible repeat (first | refine blk_drewN ?_ _ | refine blk_drew ?_ | refine blk_alloc ?_ _)); exact BK269.out) hb)
                    have n12_ := Aside0.mk (blk_below (g := gb283) (o := .cells #[.int .i64 t273, .int .i64 t274, .slice Ao53 t275.length co53] 29 (0, 0)) (by (with_reducible repeat (first | refine blk_drewN ?_ _ | refine blk_drew ?_ | refine blk_alloc ?_ _)); exact BK283.out) hb)
                    have n13_ := Aside0.mk (blk_below (g := gb284) (o := .cells #[.int .i64 t278, .slice Ao57 t279.length co57] 24 (0, 0)) (by (with_reducible repeat (first | refine blk_drewN ?_ _ | refine blk_drew ?_ | refine blk_alloc ?_ _)); exact BK284.out) hb)
                    have n14_ := Aside0.mk (blk_below (g := gb295) (o := .cells #[.int .i64 t285, .int .i64 t286, .slice Ao68 t287.length co68] 29 (0, 0)) (by (with_reducible repeat (first | refine blk_drewN ?_ _ | refine blk_drew ?_ | refine blk_alloc ?_ _)); exact BK295.out) hb)
                    have n15_ := Aside0.mk (blk_below (g := gb296) (o := .cells #[.int .i64 t290, .slice Ao73 t291.length co73] 24 (0, 0)) (by (with_reducible repeat (first | refine blk_drewN ?_ _ | refine blk_drew ?_ | refine blk_alloc ?_ _)); exact BK296.out) hb)
                    have n16_ := Aside0.mk (below_step (by repeat (first | (with_reducible first | exact HB.out | apply below_alloc | apply pw_below_drewN | apply below_drew1 | refine below_set ?_ GE269.out | refine below_set ?_ GE283.out | refine below_set ?_ GE284.out | refine below_set ?_ GE295.out | refine below_set ?_ GE296.out) | exact HB.out)) hb)
                    clear HO277
                    clear HO281
                    clear HO289
                    clear HO293
                    clear HO302
                    clear HO306
                    clear HO311
                    clear HO316
                    clear HO320
                    clear HO325
                    clear BK269
                    clear BK283
                    clear BK284
                    clear BK295
                    clear BK296
                    clear HB
                    have HO277 := n0_
                    have HO281 := n1_
                    have HO289 := n2_
                    have HO293 := n3_
                    have HO302 := n4_
                    have HO306 := n5_
                    have HO311 := n6_
                    have HO316 := n7_
                    have HO320 := n8_
                    have HO325 := n9_
                    have HO329 := n10_
                    have BK269 := n11_
                    have BK283 := n12_
                    have BK284 := n13_
                    have BK295 := n14_
                    have BK296 := n15_
                    have HB := n16_
                    clear n0_ n1_ n2_ n3_ n4_ n5_ n6_ n7_ n8_ n9_ n10_ n11_ n12_ n13_ n14_ n15_ n16_
                    (try clear hb)
                    (try clear hb2)
                    (try clear hk)
                    (try clear hi)
                    (try clear ho0)
                    obtain ⟨Ao93, co93, eo93⟩ := Kd.N_slice HO325.out
                    (first | subst eo93 | (injection eo93 with f1_ f2_ f3_; have f4_ := f1_.symm; have f5_ := f3_.symm; clear f1_ f2_ f3_; subst f4_; subst f5_))
                    obtain ⟨Ao94, co94, eo94⟩ := Kd.N_slice HO329.out
                    (first | subst eo94 | (injection eo94 with f1_ f2_ f3_; have f4_ := f1_.symm; have f5_ := f3_.symm; clear f1_ f2_ f3_; subst f4_; subst f5_))
                    refine hK.out _ _ ⟨(blk_cell BK283.out 0).trans rfl, (blk_cell BK283.out 1).trans rfl, (blk_cell BK283.out 2).trans rfl, (blk_cell BK295.out 0).trans rfl, (blk_cell BK295.out 1).trans rfl, (blk_cell BK295.out 2).trans rfl, (blk_cell BK284.out 0).trans rfl, (blk_cell BK284.out 1).trans rfl, (blk_cell BK296.out 0).trans rfl, (blk_cell BK296.out 1).trans rfl, (blk_cell BK269.out 0).trans rfl, (blk_cell BK269.out 1).trans rfl⟩ (fun hHeld => ?_)
                    clear hK K
                    refine norm_ (a' := ?_) ?_ ?_
                    rotate_left
                    · show Act.put _ (some 92) _ = _
                      simp only [Act.put, List.setIfInBounds_toArray, List.set_cons_zero, List.set_cons_succ, i64_w, i32_w]
                      rfl
                    refine one_ (i := 47) (N := some 93) #[true, true, true, true, true, true, true, true, true, true, true, true, true, true, true, true, true, true, true, true, true, true, true, true, true, true, true, true, true, true, true, true, true, true, true, true, true, true, true, true, true, true, true, true, true, true, true, true, false, false] rfl rfl (one_of HT_.out (by kernel_rfl)) (by decide) (fun K hK => ?_)
                    refine goes_ Try.func12 (by kernel_rfl) rfl #[.agg #[.int .i64 t322, .slice Ao93 t323.length co93], .agg #[.int .i64 t326, .slice Ao94 t327.length co94]] (by rfl) rfl rfl (by (try simp only [List.map_toArray, List.map_cons, List.map_nil]); first | done | rfl | (simp only [List.length_drop, List.length_take]; rfl)) ?_
                    with_reducible refine (lockgateref11_Same.calls kj4 t322 _ _ t323 t326 _ _ t327 t330 _ ?side1 ?side2 ?side3 ?side4 A45.out).mono ?_
                    (case side1 => repeat (first | exact (Kd.N_reads' HO325.out).2.2 | (with_reducible refine Kd.C_alloc ?_ _) | (with_reducible refine Kd.C_drewN ?_ _) | (with_reducible refine Kd.C_drew ?_)))
                    (case side2 => exact (Kd.N_reads' HO325.out).2.1)
                    (case side3 => repeat (first | exact (Kd.N_reads' HO329.out).2.2 | (with_reducible refine Kd.C_alloc ?_ _) | (with_reducible refine Kd.C_drewN ?_ _) | (with_reducible refine Kd.C_drew ?_)))
                    (case side4 => exact (Kd.N_reads' HO329.out).2.1)
                    rintro e w95 ⟨rfl, hb⟩
                    refine ⟨_, rfl, ?_⟩
                    have n0_ := Aside0.mk (Kd.R_below (by (with_reducible repeat (first | apply Kd.R_alloc | apply Kd.R_drewN | apply Kd.R_drew)); exact HO277.out) hb)
                    have n1_ := Aside0.mk (Kd.N_below (by (with_reducible repeat (first | apply Kd.N_alloc | apply Kd.N_drewN | apply Kd.N_drew)); exact HO281.out) hb)
                    have n2_ := Aside0.mk (Kd.V_below (by (with_reducible repeat (first | apply Kd.V_alloc | apply Kd.V_drewN | apply Kd.V_drew)); exact HO289.out) hb)
                    have n3_ := Aside0.mk (Kd.V_below (by (with_reducible repeat (first | apply Kd.V_alloc | apply Kd.V_drewN | apply Kd.V_drew)); exact HO293.out) hb)
                    have n4_ := Aside0.mk (Kd.N_below (by (with_reducible repeat (first | apply Kd.N_alloc | apply Kd.N_drewN | apply Kd.N_drew)); exact HO302.out) hb)
                    have n5_ := Aside0.mk (Kd.N_below (by (with_reducible repeat (first | apply Kd.N_alloc | apply Kd.N_drewN | apply Kd.N_drew)); exact HO306.out) hb)
                    have n6_ := Aside0.mk (Kd.N_below (by (with_reducible repeat (first | apply Kd.N_alloc | apply Kd.N_drewN | apply Kd.N_drew)); exact HO311.out) hb)
                    have n7_ := Aside0.mk (Kd.N_below (by (with_reducible repeat (first | apply Kd.N_alloc | apply Kd.N_drewN | apply Kd.N_drew)); exact HO316.out) hb)
                    have n8_ := Aside0.mk (Kd.V_below (by (with_reducible repeat (first | apply Kd.V_alloc | apply Kd.V_drewN | apply Kd.V_drew)); exact HO320.out) hb)
                    have n9_ := Aside0.mk (Kd.N_below (by (with_reducible repeat (first | apply Kd.N_alloc | apply Kd.N_drewN | apply Kd.N_drew)); exact HO325.out) hb)
                    have n10_ := Aside0.mk (Kd.N_below (by (with_reducible repeat (first | apply Kd.N_alloc | apply Kd.N_drewN | apply Kd.N_drew)); exact HO329.out) hb)
                    have n11_ := Aside0.mk (blk_below (g := gb269) (o := .cells #[.int .i64 a0_0, .slice A0_1 l0_1.length c0_1] 24 (0, 0)) (by (with_reducible repeat (first | refine blk_drewN ?_ _ | refine blk_drew ?_ | refine blk_alloc ?_ _)); exact BK269.out) hb)
                    have n12_ := Aside0.mk (blk_below (g := gb283) (o := .cells #[.int .i64 t273, .int .i64 t274, .slice Ao53 t275.length co53] 29 (0, 0)) (by (with_reducible repeat (first | refine blk_drewN ?_ _ | refine blk_drew ?_ | refine blk_alloc ?_ _)); exact BK283.out) hb)
                    have n13_ := Aside0.mk (blk_below (g := gb284) (o := .cells #[.int .i64 t278, .slice Ao57 t279.length co57] 24 (0, 0)) (by (with_reducible repeat (first | refine blk_drewN ?_ _ | refine blk_drew ?_ | refine blk_alloc ?_ _)); exact BK284.out) hb)
                    have n14_ := Aside0.mk (blk_below (g := gb295) (o := .cells #[.int .i64 t285, .int .i64 t286, .slice Ao68 t287.length co68] 29 (0, 0)) (by (with_reducible repeat (first | refine blk_drewN ?_ _ | refine blk_drew ?_ | refine blk_alloc ?_ _)); exact BK295.out) hb)
                    have n15_ := Aside0.mk (blk_below (g := gb296) (o := .cells #[.int .i64 t290, .slice Ao73 t291.length co73] 24 (0, 0)) (by (with_reducible repeat (first | refine blk_drewN ?_ _ | refine blk_drew ?_ | refine blk_alloc ?_ _)); exact BK296.out) hb)
                    have n16_ := Aside0.mk (below_step (by repeat (first | (with_reducible first | exact HB.out | apply below_alloc | apply pw_below_drewN | apply below_drew1 | refine below_set ?_ GE269.out | refine below_set ?_ GE283.out | refine below_set ?_ GE284.out | refine below_set ?_ GE295.out | refine below_set ?_ GE296.out) | exact HB.out)) hb)
                    clear HO277
                    clear HO281
                    clear HO289
                    clear HO293
                    clear HO302
                    clear HO306
                    clear HO311
                    clear HO316
                    clear HO320
                    clear HO325
                    clear HO329
                    clear BK269
                    clear BK283
                    clear BK284
                    clear BK295
                    clear BK296
                    clear HB
                    have HO277 := n0_
                    have HO281 := n1_
                    have HO289 := n2_
                    have HO293 := n3_
                    have HO302 := n4_
                    have HO306 := n5_
                    have HO311 := n6_
                    have HO316 := n7_
                    have HO320 := n8_
                    have HO325 := n9_
                    have HO329 := n10_
                    have BK269 := n11_
                    have BK283 := n12_
                    have BK284 := n13_
                    have BK295 := n14_
                    have BK296 := n15_
                    have HB := n16_
                    clear n0_ n1_ n2_ n3_ n4_ n5_ n6_ n7_ n8_ n9_ n10_ n11_ n12_ n13_ n14_ n15_ n16_
                    (try clear hb)
                    (try clear hb2)
                    (try clear hk)
                    (try clear hi)
                    refine hK.out _ _ ⟨(blk_cell BK283.out 0).trans rfl, (blk_cell BK283.out 1).trans rfl, (blk_cell BK283.out 2).trans rfl, (blk_cell BK295.out 0).trans rfl, (blk_cell BK295.out 1).trans rfl, (blk_cell BK295.out 2).trans rfl, (blk_cell BK284.out 0).trans rfl, (blk_cell BK284.out 1).trans rfl, (blk_cell BK296.out 0).trans rfl, (blk_cell BK296.out 1).trans rfl, (blk_cell BK269.out 0).trans rfl, (blk_cell BK269.out 1).trans rfl⟩ (fun hHeld => ?_)
                    clear hK K
                    refine norm_ (a' := ?_) ?_ ?_
                    rotate_left
                    · show Act.put _ (some 93) _ = _
                      simp only [Act.put, List.setIfInBounds_toArray, List.set_cons_zero, List.set_cons_succ, i64_w, i32_w]
                      rfl
                    refine pure_ (i := 48) (N := some 94) (v := ?_) (a' := ?_) #[true, true, true, true, true, true, true, true, true, true, true, true, true, true, true, true, true, true, true, true, true, true, true, true, true, true, true, true, true, true, true, true, true, true, true, true, true, true, true, true, true, true, true, true, true, true, true, true, true, false] rfl rfl (any_of HT_.out (by kernel_rfl)) (fun _ _ _ h => h) (Or.inl ⟨by rfl, ?_⟩) ?_ ?_
                    rotate_left
                    · intro w'
                      go_simp
                      with_reducible rfl
                    rotate_left
                    · simp only [Act.put, List.setIfInBounds_toArray, List.set_cons_zero, List.set_cons_succ, i64_w, i32_w]
                      rfl
                    refine pure_ (i := 49) (N := some 8) (v := ?_) (a' := ?_) #[true, true, true, true, true, true, true, true, true, true, true, true, true, true, true, true, true, true, true, true, true, true, true, true, true, true, true, true, true, true, true, true, true, true, true, true, true, true, true, true, true, true, true, true, true, true, true, true, true, true] rfl rfl (any_of HT_.out (by kernel_rfl)) (fun _ _ _ h => h) (Or.inl ⟨by rfl, ?_⟩) ?_ ?_
                    rotate_left
                    · intro w'
                      go_simp
                      with_reducible rfl
                    rotate_left
                    · simp only [Act.put, List.setIfInBounds_toArray, List.set_cons_zero, List.set_cons_succ, i64_w, i32_w]
                      rfl
                    refine done_ (done_of HT_.out (by kernel_rfl)) ?_
                    try go_wp2
                    go_ret
                    exact ⟨by first | rfl | (simp [errW_none, errW_some] <;> rfl) | (simp [*, errW_none, errW_some] <;> rfl), by repeat (first | (with_reducible first | exact HB.out | apply below_alloc | apply pw_below_drewN | apply below_drew1 | refine below_set ?_ GE269.out | refine below_set ?_ GE283.out | refine below_set ?_ GE284.out | refine below_set ?_ GE295.out | refine below_set ?_ GE296.out) | exact HB.out)⟩
                  · replace c42 := Bool.eq_false_iff.mpr c42
                    subst c42
                    have H1 : (some false) = some r := by rw [if_neg (show ¬ (false = true) by decide)] at H; exact H
                    cases (Option.some.inj H1).trans HR_.out
                · replace c38 := Bool.eq_false_iff.mpr c38
                  subst c38
                  have H1 : (some false) = some r := by rw [if_neg (show ¬ (false = true) by decide)] at H; exact H
                  cases (Option.some.inj H1).trans HR_.out
              · replace c35 := Bool.eq_false_iff.mpr c35
                subst c35
                have H1 : (some false) = some r := by rw [if_neg (show ¬ (false = true) by decide)] at H; exact H
                cases (Option.some.inj H1).trans HR_.out
            · rw [if_neg c31] at H
              cases (Option.some.inj H).trans HR_.out
          · replace c30 := Bool.eq_false_iff.mpr c30
            subst c30
            have H1 : (some false) = some r := by rw [if_neg (show ¬ (false = true) by decide)] at H; exact H
            cases (Option.some.inj H1).trans HR_.out
        · replace c28 := Bool.eq_false_iff.mpr c28
          subst c28
          have H1 : (some false) = some r := by rw [if_neg (show ¬ (false = true) by decide)] at H; exact H
          cases (Option.some.inj H1).trans HR_.out

end Go.Proofs.Ytaphejpphlcchaa.PNet
