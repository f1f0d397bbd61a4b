-- Written for this claim by the session's own driver of the kit's printer (mprint.py).
import Derived.Test.YteipphlhbhahfaaPViewx0
import Derived.Test.YteipphlhbhahfaaPViewx1
import Derived.Test.YteipphlhbhahfaaPViewx2
namespace Go.Proofs.Yteipphlhbhahfaa.PView
open Go.RowKit Go.Proofs.YteipphlhbhahfaaW.PrintWords Go.Proofs.YteipphlhbhahfaaW.PrintLast Go.Proofs.YteipphlhbhahfaaW.PrintMore
attribute [local go_sem] max2_int min2_int max_two min_two max_three min_three max_four min_four   -- for this text's walks alone
set_option linter.unusedVariables false
set_option linter.unusedSimpArgs false

attribute [local go_sem high] eqA26
/-! ### view_Ahead: function 10 -/
def view_Ahead.f (k : Nat) (l0 : List (S26)) (a1_0 : Int) (a1_1 : Int) : Option (Int × Int × Bool) := (view_Index.f k l0 a1_0 a1_1).bind fun t158 => ((view_at.f l0 (wrap64 (t158 - 1))).bind fun bt159 => (some (bt159.1, bt159.2.1, bt159.2.2)))
theorem view_Ahead.mono : ∀ a0 a1 a2 k, LeO (view_Ahead.f k a0 a1 a2) (view_Ahead.f (k + 1) a0 a1 a2) := by
  intro a0 a1 a2 k
  unfold view_Ahead.f
  repeat' first
      | (with_reducible exact view_Index.mono _ _ _ _)
      | (with_reducible exact LeO.refl _)
      | (with_reducible exact LeO.none _)
      | (with_reducible refine LeO.ite ?_ ?_)
      | (with_reducible refine LeO.bind ?_ (fun _ => ?_))
      | exact view_Index.mono _ _ _ _
      | exact LeO.none _
      | refine LeO.ite ?_ ?_
      | refine LeO.bind ?_ (fun _ => ?_)
set_option maxHeartbeats 8000000 in
set_option maxRecDepth 100000 in
theorem view_Ahead.calls (k : Nat) (A0 : Option Addr) (c0 : Nat) (l0 : List (S26)) (a1_0 : Int) (a1_1 : Int) (r1 : Int) (r2 : Int) (r3 : Bool) (w : World) (hr0 : Kd.C k26 w A0 l0.length l0) (hc0 : l0.length ≤ c0) (h : view_Ahead.f k l0 a1_0 a1_1 = some (r1, r2, r3)) :
    Calls Try.prog 10 #[.slice A0 l0.length c0, .agg #[.int .i64 a1_0, .int .i64 a1_1]] w fun e w' => e = .returned (.tuple #[.agg #[.int .i64 r1, .int .i64 r2], .bool r3]) ∧ Below w.heap.size w w' := by
  have hu26 := Try.underlying26
  have HR0 := Aside0.mk hr0
  have HC0 := Aside0.mk hc0
  clear hr0 hc0
  have HB := Aside0.mk (Below.refl w.heap.size w)
  have H : ((view_Index.f k l0 a1_0 a1_1).bind fun t158 => ((view_at.f l0 (wrap64 (t158 - 1))).bind fun bt159 => (some (bt159.1, bt159.2.1, bt159.2.2)))) = some (r1, r2, r3) := h
  clear h
  replace H := Option.bind_eq_some_iff.mp H
  obtain ⟨t158, A30, H⟩ := H
  replace H : ((view_at.f l0 (wrap64 (t158 - 1))).bind fun bt159 => (some (bt159.1, bt159.2.1, bt159.2.2))) = some (r1, r2, r3) := H
  have A3 := Aside0.mk A30
  clear A30
  replace H := Option.bind_eq_some_iff.mp H
  obtain ⟨⟨t159, t160, t161⟩, A40, H⟩ := H
  replace H : (some (t159, t160, t161)) = some (r1, r2, r3) := H
  have A4 := Aside0.mk A40
  clear A40
  simp only [Option.some.injEq, Prod.mk.injEq] at H
  obtain ⟨rfl, rfl, rfl⟩ := H
  go_enter Try.func10, Try.ntmps10
  go_wp2_with (first | ((with_reducible refine gate_dst (N := 3) rfl ?_); refine box_event ?hg (N := 3) ?hd (cs := #[.int .i64 a1_0, .int .i64 a1_1]) (t := 26) ?hr ?_; (case hd => rfl); (case hg => rfl); (case hr => first | (go_simp; done) | (go_simp; rfl)); intro gb156 hg w5 hbox hb; have n0_ := Aside0.mk (below_step (by repeat (first | (with_reducible first | exact HB.out | apply below_alloc | apply pw_below_drewN | apply below_drew1) | exact HB.out)) hb); have n1_ := Aside0.mk (hbox); have n2_ := Aside0.mk ((by rw [hg]; exact (below_size (by repeat (first | (with_reducible first | exact HB.out | apply below_alloc | apply pw_below_drewN | apply below_drew1) | exact HB.out))) : w.heap.size ≤ gb156)); have n3_ := Aside0.mk ((by rw [hg]; exact (below_size (by repeat (first | (with_reducible first | exact HB.out | apply below_alloc | apply pw_below_drewN | apply below_drew1) | exact HB.out))) : w.heap.size ≤ gb156)); clear HB; have HB := n0_; have BK156 := n1_; have GW156 := n2_; have GE156 := n3_; clear n0_ n1_ n2_ n3_; clear hb hbox hg) | ((with_reducible refine gate_dst (N := 4) rfl ?_); refine box_event ?hg (N := 4) ?hd (cs := #[.int .i64 0, .int .i64 0]) (t := 26) ?hr ?_; (case hd => rfl); (case hg => rfl); (case hr => first | (go_simp; done) | (go_simp; rfl)); intro gb157 hg w6 hbox hb; have n0_ := Aside0.mk (blk_below (g := gb156) (o := .cells #[.int .i64 a1_0, .int .i64 a1_1] 26 (0, 0)) (by (with_reducible repeat (first | refine blk_drewN ?_ _ | refine blk_drew ?_ | refine blk_alloc ?_ _)); exact BK156.out) hb); have n1_ := Aside0.mk (below_step (by repeat (first | (with_reducible first | exact HB.out | apply below_alloc | apply pw_below_drewN | apply below_drew1 | refine below_set ?_ GE156.out) | exact HB.out)) hb); have n2_ := Aside0.mk (hbox); have n3_ := Aside0.mk ((by rw [hg]; exact (below_size (by repeat (first | (with_reducible first | exact HB.out | apply below_alloc | apply pw_below_drewN | apply below_drew1 | refine below_set ?_ GE156.out) | exact HB.out))) : w.heap.size ≤ gb157)); have n4_ := Aside0.mk ((by rw [hg]; exact (below_size (by repeat (first | (with_reducible first | exact HB.out | apply below_alloc | apply pw_below_drewN | apply below_drew1 | refine below_set ?_ GE156.out) | exact HB.out))) : w.heap.size ≤ gb157)); have n5_ := Aside0.mk ((by rw [hg]; exact Nat.ne_of_lt (blk_lt (g := gb156) (o := .cells #[.int .i64 a1_0, .int .i64 a1_1] 26 (0, 0)) (by (with_reducible repeat (first | refine blk_drewN ?_ _ | refine blk_drew ?_ | refine blk_alloc ?_ _)); exact BK156.out)) : gb156 ≠ gb157)); have n6_ := Aside0.mk ((by rw [hg]; exact Nat.ne_of_gt (blk_lt (g := gb156) (o := .cells #[.int .i64 a1_0, .int .i64 a1_1] 26 (0, 0)) (by (with_reducible repeat (first | refine blk_drewN ?_ _ | refine blk_drew ?_ | refine blk_alloc ?_ _)); exact BK156.out)) : gb157 ≠ gb156)); clear BK156; clear HB; have BK156 := n0_; have HB := n1_; have BK157 := n2_; have GW157 := n3_; have GE157 := n4_; have NB156_157 := n5_; have NB157_156 := n6_; clear n0_ n1_ n2_ n3_ n4_ n5_ n6_; clear hb hbox hg; have hnb7 := NB156_157.out; have hnc7 := NB157_156.out; have hcz8_0 : w6.cell? ⟨gb156, 0, none⟩ = some (.int .i64 a1_0) := (blk_cell BK156.out 0).trans rfl; have hcz8_1 : w6.cell? ⟨gb156, 1, none⟩ = some (.int .i64 a1_1) := (blk_cell BK156.out 1).trans rfl; have hfz8_0 := blk_frozen BK156.out 0; have hfz8_1 := blk_frozen BK156.out 1) | ((with_reducible refine gate_callee (f := 12) rfl ?_); refine goesL_ (some 9) rfl rfl Try.func12 (by kernel_rfl) rfl #[.slice A0 l0.length c0, .agg #[.int .i64 a1_0, .int .i64 a1_1]] rfl (by (try simp only [List.map_toArray, List.map_cons, List.map_nil]); first | done | rfl | (simp only [List.length_drop, List.length_take]; rfl)) ?_; (with_reducible refine (view_Index.calls k _ _ l0 a1_0 a1_1 t158 _ ?side1 ?side2 A3.out).mono ?_); (case side1 => repeat (first | exact (Kd.C_below HR0.out HB.out) | (with_reducible refine Kd.C_alloc ?_ _) | (with_reducible refine Kd.C_drewN ?_ _) | (with_reducible refine Kd.C_drew ?_))); (case side2 => exact HC0.out); rintro e w9 ⟨rfl, hb⟩; refine ⟨_, rfl, ?_⟩; have n0_ := Aside0.mk (blk_below (g := gb156) (o := .cells #[.int .i64 a1_0, .int .i64 a1_1] 26 (0, 0)) (by (with_reducible repeat (first | refine blk_drewN ?_ _ | refine blk_drew ?_ | refine blk_alloc ?_ _)); exact BK156.out) hb); have n1_ := Aside0.mk (blk_below (g := gb157) (o := .cells #[.int .i64 0, .int .i64 0] 26 (0, 0)) (by (with_reducible repeat (first | refine blk_drewN ?_ _ | refine blk_drew ?_ | refine blk_alloc ?_ _)); exact BK157.out) hb); have n2_ := Aside0.mk (below_step (by repeat (first | (with_reducible first | exact HB.out | apply below_alloc | apply pw_below_drewN | apply below_drew1 | refine below_set ?_ GE156.out | refine below_set ?_ GE157.out) | exact HB.out)) hb); clear BK156; clear BK157; clear HB; have BK156 := n0_; have BK157 := n1_; have HB := n2_; clear n0_ n1_ n2_; (try clear hb); (try clear hb2); (try clear hk); (try clear hi)) | ((with_reducible refine gate_callee (f := 20) rfl ?_); refine goesL_ (some 11) rfl rfl Try.func20 (by kernel_rfl) rfl #[.slice A0 l0.length c0, .int .i64 (wrap64 (t158 - 1))] rfl (by (try simp only [List.map_toArray, List.map_cons, List.map_nil]); first | done | rfl | (simp only [List.length_drop, List.length_take]; rfl)) ?_; (with_reducible refine (view_at.calls _ _ l0 (wrap64 (t158 - 1)) t159 t160 t161 _ ?side1 ?side2 A4.out).mono ?_); (case side1 => repeat (first | exact (Kd.C_below HR0.out HB.out) | (with_reducible refine Kd.C_alloc ?_ _) | (with_reducible refine Kd.C_drewN ?_ _) | (with_reducible refine Kd.C_drew ?_))); (case side2 => exact HC0.out); rintro e w10 ⟨rfl, hb⟩; refine ⟨_, rfl, ?_⟩; have n0_ := Aside0.mk (blk_below (g := gb156) (o := .cells #[.int .i64 a1_0, .int .i64 a1_1] 26 (0, 0)) (by (with_reducible repeat (first | refine blk_drewN ?_ _ | refine blk_drew ?_ | refine blk_alloc ?_ _)); exact BK156.out) hb); have n1_ := Aside0.mk (blk_below (g := gb157) (o := .cells #[.int .i64 0, .int .i64 0] 26 (0, 0)) (by (with_reducible repeat (first | refine blk_drewN ?_ _ | refine blk_drew ?_ | refine blk_alloc ?_ _)); exact BK157.out) hb); have n2_ := Aside0.mk (below_step (by repeat (first | (with_reducible first | exact HB.out | apply below_alloc | apply pw_below_drewN | apply below_drew1 | refine below_set ?_ GE156.out | refine below_set ?_ GE157.out) | exact HB.out)) hb); clear BK156; clear BK157; clear HB; have BK156 := n0_; have BK157 := n1_; have HB := n2_; clear n0_ n1_ n2_; (try clear hb); (try clear hb2); (try clear hk); (try clear hi); have hcz11_0 : w10.cell? ⟨gb157, 0, none⟩ = some (.int .i64 0) := (blk_cell BK157.out 0).trans rfl; have hcz11_1 : w10.cell? ⟨gb157, 1, none⟩ = some (.int .i64 0) := (blk_cell BK157.out 1).trans rfl; have hfz11_0 := blk_frozen BK157.out 0; have hfz11_1 := blk_frozen BK157.out 1))
  refine bodyPost_ret (results_ct rfl _ _ gb157 26 #[.int .i64 t159, .int .i64 t160] (0, 0) _ rfl (by (with_reducible repeat (first | refine blk_drewN ?_ _ | refine blk_drew ?_ | refine blk_alloc ?_ _)); refine blk_put (cs := #[.int .i64 t159, .int .i64 0]) ?_ 1 _ rfl; (with_reducible repeat (first | refine blk_drewN ?_ _ | refine blk_drew ?_ | refine blk_alloc ?_ _)); refine blk_put (cs := #[.int .i64 0, .int .i64 0]) ?_ 0 _ rfl; (with_reducible repeat (first | refine blk_drewN ?_ _ | refine blk_drew ?_ | refine blk_alloc ?_ _)); exact BK157.out) Try.underlying26 rfl (by kernel_rfl)) rfl ?_
  exact ⟨by first | rfl | (simp [errW_none, errW_some] <;> rfl) | (simp [*, errW_none, errW_some] <;> rfl), by repeat (first | (with_reducible first | exact HB.out | apply below_alloc | apply pw_below_drewN | apply below_drew1 | refine below_set ?_ GE156.out | refine below_set ?_ GE157.out) | exact HB.out)⟩

/-! ### lockgatelaw16_ViewNeighbours: function 4 -/
mutual
def lockgatelaw16_ViewNeighbours.j0 : Nat → List (S26) → Bool → Option (Bool)
  | 0, _, _ => none
  | k + 1, x0, x21 => if x21 = true then ((lockgatelaw16_awake.f k).bind fun t164 => (some t164)) else (lockgatelaw16_ViewNeighbours.l0 k x0 0)
def lockgatelaw16_ViewNeighbours.l0 : Nat → List (S26) → Int → Option (Bool)
  | 0, _, _ => none
  | k + 1, x0, x3 => if x3 < (x0.length : Int) then (if 0 ≤ x3 then ((view_Ahead.f k x0 ((rd_T26 x0 x3).f0) ((rd_T26 x0 x3).f1)).bind fun bt166 => ((view_Behind.f k x0 ((rd_T26 x0 x3).f0) ((rd_T26 x0 x3).f1)).bind fun bt171 => (if (bt166.2.2 != (decide (x3 > 0))) = true then (lockgatelaw16_ViewNeighbours.j2 k x0 x3 bt166.2.2 bt171.2.2 true bt166.1 bt166.2.1 bt171.1 bt171.2.1) else (lockgatelaw16_ViewNeighbours.j2 k x0 x3 bt166.2.2 bt171.2.2 (bt171.2.2 != (decide (x3 < (wrap64 ((x0.length : Int) - 1))))) bt166.1 bt166.2.1 bt171.1 bt171.2.1)))) else (none)) else (some true)
def lockgatelaw16_ViewNeighbours.j2 : Nat → List (S26) → Int → Bool → Bool → Bool → Int → Int → Int → Int → Option (Bool)
  | 0, _, _, _, _, _, _, _, _, _ => none
  | k + 1, x0, x3, x5, x7, x59, x170000, x170001, x175000, x175001 => if x59 = true then (some false) else (if x5 = true then ((view_Behind.f k x0 x170000 x170001).bind fun bt175 => (if bt175.2.2 = true then (if 0 ≤ x3 then (if x3 < (x0.length : Int) then (lockgatelaw16_ViewNeighbours.j3 k x0 x3 x7 (!(bt175.1 == ((rd_T26 x0 x3).f0)) || (!(bt175.2.1 == ((rd_T26 x0 x3).f1)))) x175000 x175001) else (none)) else (none)) else (lockgatelaw16_ViewNeighbours.j3 k x0 x3 x7 true x175000 x175001))) else (if x7 = true then (if 0 ≤ (wrap64 (x3 + 1)) then (if (wrap64 (x3 + 1)) < (x0.length : Int) then (if (!(x175000 == ((rd_T26 x0 (wrap64 (x3 + 1))).f0)) || (!(x175001 == ((rd_T26 x0 (wrap64 (x3 + 1))).f1)))) = true then (some false) else (lockgatelaw16_ViewNeighbours.l0 k x0 (wrap64 (x3 + 1)))) else (none)) else (none)) else (lockgatelaw16_ViewNeighbours.l0 k x0 (wrap64 (x3 + 1)))))
def lockgatelaw16_ViewNeighbours.j3 : Nat → List (S26) → Int → Bool → Bool → Int → Int → Option (Bool)
  | 0, _, _, _, _, _, _ => none
  | k + 1, x0, x3, x7, x76, x175000, x175001 => if x76 = true then (some false) else (if x7 = true then (if 0 ≤ (wrap64 (x3 + 1)) then (if (wrap64 (x3 + 1)) < (x0.length : Int) then (if (!(x175000 == ((rd_T26 x0 (wrap64 (x3 + 1))).f0)) || (!(x175001 == ((rd_T26 x0 (wrap64 (x3 + 1))).f1)))) = true then (some false) else (lockgatelaw16_ViewNeighbours.l0 k x0 (wrap64 (x3 + 1)))) else (none)) else (none)) else (lockgatelaw16_ViewNeighbours.l0 k x0 (wrap64 (x3 + 1))))
end
def lockgatelaw16_ViewNeighbours.f (k : Nat) (l0 : List (S26)) : Option (Bool) := (lockgatelaw16_awake.f k).bind fun t162 => (if t162 = true then (if (l0.length : Int) > 16 then (lockgatelaw16_ViewNeighbours.j0 k l0 true) else ((view_Right.f l0).bind fun t163 => (lockgatelaw16_ViewNeighbours.j0 k l0 (!t163)))) else (lockgatelaw16_ViewNeighbours.j0 k l0 true))
theorem lockgatelaw16_ViewNeighbours.mono_l : ∀ k, (∀ y0 y1, LeO (lockgatelaw16_ViewNeighbours.j0 k y0 y1) (lockgatelaw16_ViewNeighbours.j0 (k + 1) y0 y1)) ∧ (∀ y0 y1, LeO (lockgatelaw16_ViewNeighbours.l0 k y0 y1) (lockgatelaw16_ViewNeighbours.l0 (k + 1) y0 y1)) ∧ (∀ y0 y1 y2 y3 y4 y5 y6 y7 y8, LeO (lockgatelaw16_ViewNeighbours.j2 k y0 y1 y2 y3 y4 y5 y6 y7 y8) (lockgatelaw16_ViewNeighbours.j2 (k + 1) y0 y1 y2 y3 y4 y5 y6 y7 y8)) ∧ (∀ y0 y1 y2 y3 y4 y5, LeO (lockgatelaw16_ViewNeighbours.j3 k y0 y1 y2 y3 y4 y5) (lockgatelaw16_ViewNeighbours.j3 (k + 1) y0 y1 y2 y3 y4 y5))
  | 0 => ⟨fun _ _ r h => by simp [lockgatelaw16_ViewNeighbours.j0] at h, fun _ _ r h => by simp [lockgatelaw16_ViewNeighbours.l0] at h, fun _ _ _ _ _ _ _ _ _ r h => by simp [lockgatelaw16_ViewNeighbours.j2] at h, fun _ _ _ _ _ _ r h => by simp [lockgatelaw16_ViewNeighbours.j3] at h⟩
  | k + 1 => by
    obtain ⟨ih0, ih1, ih2, ih3⟩ := lockgatelaw16_ViewNeighbours.mono_l k
    refine ⟨?_, ?_, ?_, ?_⟩
    · intro y0 y1
      unfold lockgatelaw16_ViewNeighbours.j0
      repeat' first
      | (with_reducible exact ih0 _ _)
      | (with_reducible exact ih1 _ _)
      | (with_reducible exact ih2 _ _ _ _ _ _ _ _ _)
      | (with_reducible exact ih3 _ _ _ _ _ _)
      | (with_reducible exact lockgatelaw16_awake.mono _)
      | (with_reducible exact view_Ahead.mono _ _ _ _)
      | (with_reducible exact view_Behind.mono _ _ _ _)
      | (with_reducible exact LeO.refl _)
      | (with_reducible exact LeO.none _)
      | (with_reducible refine LeO.ite ?_ ?_)
      | (with_reducible refine LeO.bind ?_ (fun _ => ?_))
      | exact ih0 _ _
      | exact ih1 _ _
      | exact ih2 _ _ _ _ _ _ _ _ _
      | exact ih3 _ _ _ _ _ _
      | exact lockgatelaw16_awake.mono _
      | exact view_Ahead.mono _ _ _ _
      | exact view_Behind.mono _ _ _ _
      | exact LeO.none _
      | refine LeO.ite ?_ ?_
      | refine LeO.bind ?_ (fun _ => ?_)
    · intro y0 y1
      unfold lockgatelaw16_ViewNeighbours.l0
      repeat' first
      | (with_reducible exact ih0 _ _)
      | (with_reducible exact ih1 _ _)
      | (with_reducible exact ih2 _ _ _ _ _ _ _ _ _)
      | (with_reducible exact ih3 _ _ _ _ _ _)
      | (with_reducible exact lockgatelaw16_awake.mono _)
      | (with_reducible exact view_Ahead.mono _ _ _ _)
      | (with_reducible exact view_Behind.mono _ _ _ _)
      | (with_reducible exact LeO.refl _)
      | (with_reducible exact LeO.none _)
      | (with_reducible refine LeO.ite ?_ ?_)
      | (with_reducible refine LeO.bind ?_ (fun _ => ?_))
      | exact ih0 _ _
      | exact ih1 _ _
      | exact ih2 _ _ _ _ _ _ _ _ _
      | exact ih3 _ _ _ _ _ _
      | exact lockgatelaw16_awake.mono _
      | exact view_Ahead.mono _ _ _ _
      | exact view_Behind.mono _ _ _ _
      | exact LeO.none _
      | refine LeO.ite ?_ ?_
      | refine LeO.bind ?_ (fun _ => ?_)
    · intro y0 y1 y2 y3 y4 y5 y6 y7 y8
      unfold lockgatelaw16_ViewNeighbours.j2
      repeat' first
      | (with_reducible exact ih0 _ _)
      | (with_reducible exact ih1 _ _)
      | (with_reducible exact ih2 _ _ _ _ _ _ _ _ _)
      | (with_reducible exact ih3 _ _ _ _ _ _)
      | (with_reducible exact lockgatelaw16_awake.mono _)
      | (with_reducible exact view_Ahead.mono _ _ _ _)
      | (with_reducible exact view_Behind.mono _ _ _ _)
      | (with_reducible exact LeO.refl _)
      | (with_reducible exact LeO.none _)
      | (with_reducible refine LeO.ite ?_ ?_)
      | (with_reducible refine LeO.bind ?_ (fun _ => ?_))
      | exact ih0 _ _
      | exact ih1 _ _
      | exact ih2 _ _ _ _ _ _ _ _ _
      | exact ih3 _ _ _ _ _ _
      | exact lockgatelaw16_awake.mono _
      | exact view_Ahead.mono _ _ _ _
      | exact view_Behind.mono _ _ _ _
      | exact LeO.none _
      | refine LeO.ite ?_ ?_
      | refine LeO.bind ?_ (fun _ => ?_)
    · intro y0 y1 y2 y3 y4 y5
      unfold lockgatelaw16_ViewNeighbours.j3
      repeat' first
      | (with_reducible exact ih0 _ _)
      | (with_reducible exact ih1 _ _)
      | (with_reducible exact ih2 _ _ _ _ _ _ _ _ _)
      | (with_reducible exact ih3 _ _ _ _ _ _)
      | (with_reducible exact lockgatelaw16_awake.mono _)
      | (with_reducible exact view_Ahead.mono _ _ _ _)
      | (with_reducible exact view_Behind.mono _ _ _ _)
      | (with_reducible exact LeO.refl _)
      | (with_reducible exact LeO.none _)
      | (with_reducible refine LeO.ite ?_ ?_)
      | (with_reducible refine LeO.bind ?_ (fun _ => ?_))
      | exact ih0 _ _
      | exact ih1 _ _
      | exact ih2 _ _ _ _ _ _ _ _ _
      | exact ih3 _ _ _ _ _ _
      | exact lockgatelaw16_awake.mono _
      | exact view_Ahead.mono _ _ _ _
      | exact view_Behind.mono _ _ _ _
      | exact LeO.none _
      | refine LeO.ite ?_ ?_
      | refine LeO.bind ?_ (fun _ => ?_)
theorem lockgatelaw16_ViewNeighbours.mono : ∀ a0 k, LeO (lockgatelaw16_ViewNeighbours.f k a0) (lockgatelaw16_ViewNeighbours.f (k + 1) a0) := by
  intro a0 k
  obtain ⟨ih0, ih1, ih2, ih3⟩ := lockgatelaw16_ViewNeighbours.mono_l k
  unfold lockgatelaw16_ViewNeighbours.f
  repeat' first
      | (with_reducible exact ih0 _ _)
      | (with_reducible exact ih1 _ _)
      | (with_reducible exact ih2 _ _ _ _ _ _ _ _ _)
      | (with_reducible exact ih3 _ _ _ _ _ _)
      | (with_reducible exact lockgatelaw16_awake.mono _)
      | (with_reducible exact view_Ahead.mono _ _ _ _)
      | (with_reducible exact view_Behind.mono _ _ _ _)
      | (with_reducible exact LeO.refl _)
      | (with_reducible exact LeO.none _)
      | (with_reducible refine LeO.ite ?_ ?_)
      | (with_reducible refine LeO.bind ?_ (fun _ => ?_))
      | exact ih0 _ _
      | exact ih1 _ _
      | exact ih2 _ _ _ _ _ _ _ _ _
      | exact ih3 _ _ _ _ _ _
      | exact lockgatelaw16_awake.mono _
      | exact view_Ahead.mono _ _ _ _
      | exact view_Behind.mono _ _ _ _
      | exact LeO.none _
      | refine LeO.ite ?_ ?_
      | refine LeO.bind ?_ (fun _ => ?_)
set_option maxHeartbeats 8000000 in
set_option maxRecDepth 100000 in
theorem lockgatelaw16_ViewNeighbours.calls (k : Nat) (A0 : Option Addr) (c0 : Nat) (l0 : List (S26)) (r : Bool) (w : World) (hr0 : Kd.C k26 w A0 l0.length l0) (hc0 : l0.length ≤ c0) (h : lockgatelaw16_ViewNeighbours.f k l0 = some r) :
    Calls Try.prog 4 #[.slice A0 l0.length c0] w fun e w' => e = .returned (.bool r) ∧ Below w.heap.size w w' := by
  have hu26 := Try.underlying26
  have HR0 := Aside0.mk hr0
  have HC0 := Aside0.mk hc0
  clear hr0 hc0
  have HB := Aside0.mk (Below.refl w.heap.size w)
  have H : ((lockgatelaw16_awake.f k).bind fun t162 => (if t162 = true then (if (l0.length : Int) > 16 then (lockgatelaw16_ViewNeighbours.j0 k l0 true) else ((view_Right.f l0).bind fun t163 => (lockgatelaw16_ViewNeighbours.j0 k l0 (!t163)))) else (lockgatelaw16_ViewNeighbours.j0 k l0 true))) = some r := h
  clear h
  have HC2 := Aside0.mk H
  clear H
  go_enter Try.func4, Try.ntmps4
  go_upto_region 1 with (fail)
  repeat (go_quiet (fail); go_upto_region 1 with (fail))
  go_cut [21] (fun v21 wc => ∃ (kq : Nat) (x21_1 : Bool), v21 = .bool x21_1 ∧ Aside0 (lockgatelaw16_ViewNeighbours.j0 kq l0 x21_1 = some r) ∧ Aside0 (kq ≤ k) ∧ Aside0 (Below w.heap.size w wc))
  case first =>
    have H := HC2.out
    clear HC2
    replace H := Option.bind_eq_some_iff.mp H
    obtain ⟨t162, A30, H⟩ := H
    replace H : (if t162 = true then (if (l0.length : Int) > 16 then (lockgatelaw16_ViewNeighbours.j0 k l0 true) else ((view_Right.f l0).bind fun t163 => (lockgatelaw16_ViewNeighbours.j0 k l0 (!t163)))) else (lockgatelaw16_ViewNeighbours.j0 k l0 true)) = some r := H
    have A3 := Aside0.mk A30
    clear A30
    by_cases c4 : t162 = true
    · subst c4
      have H1 : (if (l0.length : Int) > 16 then (lockgatelaw16_ViewNeighbours.j0 k l0 true) else ((view_Right.f l0).bind fun t163 => (lockgatelaw16_ViewNeighbours.j0 k l0 (!t163)))) = some r := by rw [if_pos rfl] at H; exact H
      clear H
      have H := H1
      clear H1
      by_cases c5 : (l0.length : Int) > 16
      · rw [if_pos c5] at H
        have c5b0 : decide (16 < (l0.length : Int)) = true := decide_eq_true c5
        have c5b1 : decide (16 < l0.length) = true := decide_eq_true (by omega)
        clear c5
        (first | rw [c5b0] | (simp only [i64_w, i32_w]; rw [c5b0]) | skip)
        have H' := Aside0.mk H
        clear H
        go_wp2_with (first | (go_at_call 7; (with_reducible refine (lockgatelaw16_awake.calls k  true _ A3.out).mono ?_); rintro e w6 ⟨rfl, hb⟩; have n0_ := Aside0.mk (below_step (by repeat (first | (with_reducible first | exact HB.out | apply below_alloc | apply pw_below_drewN | apply below_drew1) | exact HB.out)) hb); clear HB; have HB := n0_; clear n0_; (try clear hb); (try clear hb2); (try clear hk); (try clear hi)))
        repeat (go_quiet (first | (go_at_call 7; (with_reducible refine (lockgatelaw16_awake.calls k  true _ A3.out).mono ?_); rintro e w6 ⟨rfl, hb⟩; have n0_ := Aside0.mk (below_step (by repeat (first | (with_reducible first | exact HB.out | apply below_alloc | apply pw_below_drewN | apply below_drew1) | exact HB.out)) hb); clear HB; have HB := n0_; clear n0_; (try clear hb); (try clear hb2); (try clear hk); (try clear hi))); try go_wp2_with (first | (go_at_call 7; (with_reducible refine (lockgatelaw16_awake.calls k  true _ A3.out).mono ?_); rintro e w6 ⟨rfl, hb⟩; have n0_ := Aside0.mk (below_step (by repeat (first | (with_reducible first | exact HB.out | apply below_alloc | apply pw_below_drewN | apply below_drew1) | exact HB.out)) hb); clear HB; have HB := n0_; clear n0_; (try clear hb); (try clear hb2); (try clear hk); (try clear hi))))
        go_meet
        case rel => exact ⟨_, (true), (by first | rfl | (simp; done) | (simp [*]; done)), H', ⟨by first | omega | exact Nat.le_refl _⟩, ⟨by repeat (first | (with_reducible first | exact HB.out | apply below_alloc | apply pw_below_drewN | apply below_drew1) | exact HB.out)⟩⟩
      · rw [if_neg c5] at H
        have c5b0 : decide (16 < (l0.length : Int)) = false := decide_eq_false c5
        have c5b1 : decide (16 < l0.length) = false := decide_eq_false (by omega)
        clear c5
        (first | rw [c5b0] | (simp only [i64_w, i32_w]; rw [c5b0]) | skip)
        replace H := Option.bind_eq_some_iff.mp H
        obtain ⟨t163, A70, H⟩ := H
        replace H : (lockgatelaw16_ViewNeighbours.j0 k l0 (!t163)) = some r := H
        have A7 := Aside0.mk A70
        clear A70
        have H' := Aside0.mk H
        clear H
        go_wp2_with (first | (go_at_call 7; (with_reducible refine (lockgatelaw16_awake.calls k  true _ A3.out).mono ?_); rintro e w8 ⟨rfl, hb⟩; have n0_ := Aside0.mk (below_step (by repeat (first | (with_reducible first | exact HB.out | apply below_alloc | apply pw_below_drewN | apply below_drew1) | exact HB.out)) hb); clear HB; have HB := n0_; clear n0_; (try clear hb); (try clear hb2); (try clear hk); (try clear hi)) | (go_at_call 9; (with_reducible refine (view_Right.calls _ _ l0 t163 _ ?side1 ?side2 A7.out).mono ?_); (case side1 => repeat (first | exact (Kd.C_below HR0.out HB.out) | (with_reducible refine Kd.C_alloc ?_ _) | (with_reducible refine Kd.C_drewN ?_ _) | (with_reducible refine Kd.C_drew ?_))); (case side2 => exact HC0.out); rintro e w9 ⟨rfl, hb⟩; have n0_ := Aside0.mk (below_step (by repeat (first | (with_reducible first | exact HB.out | apply below_alloc | apply pw_below_drewN | apply below_drew1) | exact HB.out)) hb); clear HB; have HB := n0_; clear n0_; (try clear hb); (try clear hb2); (try clear hk); (try clear hi)))
        repeat (go_quiet (first | (go_at_call 7; (with_reducible refine (lockgatelaw16_awake.calls k  true _ A3.out).mono ?_); rintro e w8 ⟨rfl, hb⟩; have n0_ := Aside0.mk (below_step (by repeat (first | (with_reducible first | exact HB.out | apply below_alloc | apply pw_below_drewN | apply below_drew1) | exact HB.out)) hb); clear HB; have HB := n0_; clear n0_; (try clear hb); (try clear hb2); (try clear hk); (try clear hi)) | (go_at_call 9; (with_reducible refine (view_Right.calls _ _ l0 t163 _ ?side1 ?side2 A7.out).mono ?_); (case side1 => repeat (first | exact (Kd.C_below HR0.out HB.out) | (with_reducible refine Kd.C_alloc ?_ _) | (with_reducible refine Kd.C_drewN ?_ _) | (with_reducible refine Kd.C_drew ?_))); (case side2 => exact HC0.out); rintro e w9 ⟨rfl, hb⟩; have n0_ := Aside0.mk (below_step (by repeat (first | (with_reducible first | exact HB.out | apply below_alloc | apply pw_below_drewN | apply below_drew1) | exact HB.out)) hb); clear HB; have HB := n0_; clear n0_; (try clear hb); (try clear hb2); (try clear hk); (try clear hi))); try go_wp2_with (first | (go_at_call 7; (with_reducible refine (lockgatelaw16_awake.calls k  true _ A3.out).mono ?_); rintro e w8 ⟨rfl, hb⟩; have n0_ := Aside0.mk (below_step (by repeat (first | (with_reducible first | exact HB.out | apply below_alloc | apply pw_below_drewN | apply below_drew1) | exact HB.out)) hb); clear HB; have HB := n0_; clear n0_; (try clear hb); (try clear hb2); (try clear hk); (try clear hi)) | (go_at_call 9; (with_reducible refine (view_Right.calls _ _ l0 t163 _ ?side1 ?side2 A7.out).mono ?_); (case side1 => repeat (first | exact (Kd.C_below HR0.out HB.out) | (with_reducible refine Kd.C_alloc ?_ _) | (with_reducible refine Kd.C_drewN ?_ _) | (with_reducible refine Kd.C_drew ?_))); (case side2 => exact HC0.out); rintro e w9 ⟨rfl, hb⟩; have n0_ := Aside0.mk (below_step (by repeat (first | (with_reducible first | exact HB.out | apply below_alloc | apply pw_below_drewN | apply below_drew1) | exact HB.out)) hb); clear HB; have HB := n0_; clear n0_; (try clear hb); (try clear hb2); (try clear hk); (try clear hi))))
        go_meet
        case rel => exact ⟨_, (!t163), (by first | rfl | (simp; done) | (simp [*]; done)), H', ⟨by first | omega | exact Nat.le_refl _⟩, ⟨by repeat (first | (with_reducible first | exact HB.out | apply below_alloc | apply pw_below_drewN | apply below_drew1) | exact HB.out)⟩⟩
    · replace c4 := Bool.eq_false_iff.mpr c4
      subst c4
      have H1 : (lockgatelaw16_ViewNeighbours.j0 k l0 true) = some r := by rw [if_neg (show ¬ (false = true) by decide)] at H; exact H
      clear H
      have H := H1
      clear H1
      have H' := Aside0.mk H
      clear H
      go_wp2_with (first | (go_at_call 7; (with_reducible refine (lockgatelaw16_awake.calls k  false _ A3.out).mono ?_); rintro e w10 ⟨rfl, hb⟩; have n0_ := Aside0.mk (below_step (by repeat (first | (with_reducible first | exact HB.out | apply below_alloc | apply pw_below_drewN | apply below_drew1) | exact HB.out)) hb); clear HB; have HB := n0_; clear n0_; (try clear hb); (try clear hb2); (try clear hk); (try clear hi)))
      repeat (go_quiet (first | (go_at_call 7; (with_reducible refine (lockgatelaw16_awake.calls k  false _ A3.out).mono ?_); rintro e w10 ⟨rfl, hb⟩; have n0_ := Aside0.mk (below_step (by repeat (first | (with_reducible first | exact HB.out | apply below_alloc | apply pw_below_drewN | apply below_drew1) | exact HB.out)) hb); clear HB; have HB := n0_; clear n0_; (try clear hb); (try clear hb2); (try clear hk); (try clear hi))); try go_wp2_with (first | (go_at_call 7; (with_reducible refine (lockgatelaw16_awake.calls k  false _ A3.out).mono ?_); rintro e w10 ⟨rfl, hb⟩; have n0_ := Aside0.mk (below_step (by repeat (first | (with_reducible first | exact HB.out | apply below_alloc | apply pw_below_drewN | apply below_drew1) | exact HB.out)) hb); clear HB; have HB := n0_; clear n0_; (try clear hb); (try clear hb2); (try clear hk); (try clear hi))))
      go_meet
      case rel => exact ⟨_, (true), (by first | rfl | (simp; done) | (simp [*]; done)), H', ⟨by first | omega | exact Nat.le_refl _⟩, ⟨by repeat (first | (with_reducible first | exact HB.out | apply below_alloc | apply pw_below_drewN | apply below_drew1) | exact HB.out)⟩⟩
  case rest =>
    clear HC2
    try clear p2
    try clear c4
    try clear c5
    try clear c5b0
    try clear c5b1
    obtain ⟨kq, x21_1, rfl, HA, HJ1, HB⟩ := hcut
    cases kq with
    | zero => exact absurd HA.out (by simp [lockgatelaw16_ViewNeighbours.j0])
    | succ kj1 =>
      have H := HA.out
      clear HA
      simp only [lockgatelaw16_ViewNeighbours.j0] at H
      by_cases c11 : x21_1 = true
      · subst c11
        have H1 : ((lockgatelaw16_awake.f kj1).bind fun t164 => (some t164)) = some r := by rw [if_pos rfl] at H; exact H
        clear H
        have H := H1
        clear H1
        replace H := Option.bind_eq_some_iff.mp H
        obtain ⟨t164, A120, H⟩ := H
        replace H : (some t164) = some r := H
        have A12 := Aside0.mk A120
        clear A120
        obtain rfl := Option.some.inj H
        go_wp2_with (first | (go_at_call 7; (with_reducible refine (lockgatelaw16_awake.calls kj1  t164 _ A12.out).mono ?_); rintro e w13 ⟨rfl, hb⟩; have n0_ := Aside0.mk (below_step (by repeat (first | (with_reducible first | exact HB.out | apply below_alloc | apply pw_below_drewN | apply below_drew1) | exact HB.out)) hb); clear HB; have HB := n0_; clear n0_; (try clear hb); (try clear hb2); (try clear hk); (try clear hi)))
        repeat (go_quiet (first | (go_at_call 7; (with_reducible refine (lockgatelaw16_awake.calls kj1  t164 _ A12.out).mono ?_); rintro e w13 ⟨rfl, hb⟩; have n0_ := Aside0.mk (below_step (by repeat (first | (with_reducible first | exact HB.out | apply below_alloc | apply pw_below_drewN | apply below_drew1) | exact HB.out)) hb); clear HB; have HB := n0_; clear n0_; (try clear hb); (try clear hb2); (try clear hk); (try clear hi))); try go_wp2_with (first | (go_at_call 7; (with_reducible refine (lockgatelaw16_awake.calls kj1  t164 _ A12.out).mono ?_); rintro e w13 ⟨rfl, hb⟩; have n0_ := Aside0.mk (below_step (by repeat (first | (with_reducible first | exact HB.out | apply below_alloc | apply pw_below_drewN | apply below_drew1) | exact HB.out)) hb); clear HB; have HB := n0_; clear n0_; (try clear hb); (try clear hb2); (try clear hk); (try clear hi))))
        go_ret
        exact ⟨by first | rfl | (simp [errW_none, errW_some] <;> rfl) | (simp [*, errW_none, errW_some] <;> rfl), by repeat (first | (with_reducible first | exact HB.out | apply below_alloc | apply pw_below_drewN | apply below_drew1) | exact HB.out)⟩
      · replace c11 := Bool.eq_false_iff.mpr c11
        subst c11
        have H1 : (lockgatelaw16_ViewNeighbours.l0 kj1 l0 0) = some r := by rw [if_neg (show ¬ (false = true) by decide)] at H; exact H
        clear H
        have H := H1
        clear H1
        have H' := Aside0.mk H
        clear H
        go_wp2
        repeat (go_quiet (fail); try go_wp2)
        go_loopg [3] kj1 (fun kq v3 w' => ∃ (x3_2 : Int), v3 = .int .i64 x3_2 ∧ Aside0 (lockgatelaw16_ViewNeighbours.l0 kq l0 x3_2 = some r) ∧ Aside0 (kq ≤ kj1) ∧ Aside0 (Below w.heap.size w w'))
        case atStart => exact ⟨(0), (by first | rfl | (simp; done) | (simp [*]; done)), H', ⟨Nat.le_refl _⟩, ⟨by repeat (first | (with_reducible first | exact HB.out | apply below_alloc | apply pw_below_drewN | apply below_drew1) | exact HB.out)⟩⟩
        case round =>
          clear H'
          try clear c1
          try clear p2
          try clear c4
          try clear c5
          try clear c5b0
          try clear c5b1
          try clear c11
          try clear p2
          obtain ⟨x3_2, rfl, HA, HK2, HB⟩ := hrel
          cases gk with
          | zero => exact absurd HA.out (by simp [lockgatelaw16_ViewNeighbours.l0])
          | succ k2 =>
            have H := HA.out
            clear HA
            simp only [lockgatelaw16_ViewNeighbours.l0] at H
            by_cases c14 : x3_2 < (l0.length : Int)
            · rw [if_pos c14] at H
              have c14b0 : decide (x3_2 < (l0.length : Int)) = true := decide_eq_true c14
              clear c14
              by_cases c15 : 0 ≤ x3_2
              · rw [if_pos c15] at H
                have c15b0 : decide (0 ≤ x3_2) = true := decide_eq_true c15
                clear c15
                replace H := Option.bind_eq_some_iff.mp H
                obtain ⟨⟨t166, t167, t168⟩, A160, H⟩ := H
                replace H : ((view_Behind.f k2 l0 ((rd_T26 l0 x3_2).f0) ((rd_T26 l0 x3_2).f1)).bind fun bt171 => (if (t168 != (decide (x3_2 > 0))) = true then (lockgatelaw16_ViewNeighbours.j2 k2 l0 x3_2 t168 bt171.2.2 true t166 t167 bt171.1 bt171.2.1) else (lockgatelaw16_ViewNeighbours.j2 k2 l0 x3_2 t168 bt171.2.2 (bt171.2.2 != (decide (x3_2 < (wrap64 ((l0.length : Int) - 1))))) t166 t167 bt171.1 bt171.2.1))) = some r := H
                have A16 := Aside0.mk A160
                clear A160
                replace H := Option.bind_eq_some_iff.mp H
                obtain ⟨⟨t171, t172, t173⟩, A170, H⟩ := H
                replace H : (if (t168 != (decide (x3_2 > 0))) = true then (lockgatelaw16_ViewNeighbours.j2 k2 l0 x3_2 t168 t173 true t166 t167 t171 t172) else (lockgatelaw16_ViewNeighbours.j2 k2 l0 x3_2 t168 t173 (t173 != (decide (x3_2 < (wrap64 ((l0.length : Int) - 1))))) t166 t167 t171 t172)) = some r := H
                have A17 := Aside0.mk A170
                clear A170
                have HC18 := Aside0.mk H
                clear H
                have p165 : 0 ≤ (x3_2 : Int) := of_decide_eq_true (by first | (with_reducible assumption) | assumption)
                have q165 : x3_2 < (l0.length : Int) := of_decide_eq_true (by first | (with_reducible assumption) | assumption)
                obtain ⟨ad165, e165, hx165_0, hx165_1⟩ := at_T26 HR0.out x3_2 p165 q165
                cases e165
                replace hx165_0 := (HB.out.cell (World.block_lt_of_cell? w _ hx165_0)).trans hx165_0
                replace hx165_1 := (HB.out.cell (World.block_lt_of_cell? w _ hx165_1)).trans hx165_1
                replace p165 := eq_true p165
                replace q165 := eq_true q165
                go_upto_region 8 with (first | (go_at_call 10; (with_reducible refine (view_Ahead.calls k2 _ _ l0 ((rd_T26 l0 x3_2).f0) ((rd_T26 l0 x3_2).f1) t166 t167 t168 _ ?side1 ?side2 A16.out).mono ?_); (case side1 => repeat (first | exact (Kd.C_below HR0.out HB.out) | (with_reducible refine Kd.C_alloc ?_ _) | (with_reducible refine Kd.C_drewN ?_ _) | (with_reducible refine Kd.C_drew ?_))); (case side2 => exact HC0.out); rintro e w19 ⟨rfl, hb⟩; have n0_ := Aside0.mk (below_step (by repeat (first | (with_reducible first | exact HB.out | apply below_alloc | apply pw_below_drewN | apply below_drew1) | exact HB.out)) hb); clear HB; have HB := n0_; clear n0_; (try clear hb); (try clear hb2); (try clear hk); (try clear hi)) | ((with_reducible refine gate_dst (N := 4) rfl ?_); (try (refine gate_guard (by rfl) ?_; dsimp only)); refine box_event ?hg (N := 4) ?hd (cs := #[.int .i64 0, .int .i64 0]) (t := 26) ?hr ?_; (case hd => rfl); (case hg => rfl); (case hr => first | (go_simp; done) | (go_simp; rfl)); intro gb169 hg w20 hbox hb; have n0_ := Aside0.mk (below_step (by repeat (first | (with_reducible first | exact HB.out | apply below_alloc | apply pw_below_drewN | apply below_drew1) | exact HB.out)) hb); have n1_ := Aside0.mk (hbox); have n2_ := Aside0.mk ((by rw [hg]; exact (below_size (by repeat (first | (with_reducible first | exact HB.out | apply below_alloc | apply pw_below_drewN | apply below_drew1) | exact HB.out))) : w.heap.size ≤ gb169)); have n3_ := Aside0.mk ((by rw [hg]; exact (below_size (by repeat (first | (with_reducible first | exact HB.out | apply below_alloc | apply pw_below_drewN | apply below_drew1) | exact HB.out))) : w.heap.size ≤ gb169)); clear HB; have HB := n0_; have BK169 := n1_; have GW169 := n2_; have GE169 := n3_; clear n0_ n1_ n2_ n3_; clear hb hbox hg; have hcz21_0 : w20.cell? ⟨gb169, 0, none⟩ = some (.int .i64 0) := (blk_cell BK169.out 0).trans rfl; have hcz21_1 : w20.cell? ⟨gb169, 1, none⟩ = some (.int .i64 0) := (blk_cell BK169.out 1).trans rfl; have hfz21_0 := blk_frozen BK169.out 0; have hfz21_1 := blk_frozen BK169.out 1; have p170 : 0 ≤ (x3_2 : Int) := of_decide_eq_true (by first | (with_reducible assumption) | assumption); have q170 : x3_2 < (l0.length : Int) := of_decide_eq_true (by first | (with_reducible assumption) | assumption); obtain ⟨ad170, e170, hx170_0, hx170_1⟩ := at_T26 HR0.out x3_2 p170 q170; obtain rfl : ad165 = ad170 := (by injection e170); have hn170_0 : ad165.block ≠ gb169 := Nat.ne_of_lt (Nat.lt_of_lt_of_le (by have := World.block_lt_of_cell? _ _ hx170_0; first | rwa [add_block] at this | exact this) GW169.out); have hn170_1 : ad165.block ≠ gb169 := Nat.ne_of_lt (Nat.lt_of_lt_of_le (by have := World.block_lt_of_cell? _ _ hx170_0; first | rwa [add_block] at this | exact this) GW169.out); replace hx170_0 := (HB.out.cell (World.block_lt_of_cell? w _ hx170_0)).trans hx170_0; replace hx170_1 := (HB.out.cell (World.block_lt_of_cell? w _ hx170_1)).trans hx170_1; replace hx170_0 := (cell_far (p := ⟨gb169, 0, none⟩) (by first | (rw [add_block]; exact hn170_0) | (show (Addr.add _ _).block ≠ _; rw [add_block]; exact hn170_0) | exact hn170_0) (.int .i64 t166)).trans hx170_0; replace hx170_1 := (cell_far (p := ⟨gb169, 0, none⟩) (by first | (rw [add_block]; exact hn170_0) | (show (Addr.add _ _).block ≠ _; rw [add_block]; exact hn170_0) | exact hn170_0) (.int .i64 t166)).trans hx170_1; replace hx170_0 := (cell_far (p := ⟨gb169, 1, none⟩) (by first | (rw [add_block]; exact hn170_1) | (show (Addr.add _ _).block ≠ _; rw [add_block]; exact hn170_1) | exact hn170_1) (.int .i64 t167)).trans hx170_0; replace hx170_1 := (cell_far (p := ⟨gb169, 1, none⟩) (by first | (rw [add_block]; exact hn170_1) | (show (Addr.add _ _).block ≠ _; rw [add_block]; exact hn170_1) | exact hn170_1) (.int .i64 t167)).trans hx170_1; (try have hy170_0 := fun (n_ : Nat) => (show ((((w20.drewN n_).setCell ⟨gb169, 0, none⟩ (.int .i64 t166)).setCell ⟨gb169, 1, none⟩ (.int .i64 t167))).cell? _ = some _ from hx170_0)); (try have hy170_1 := fun (n_ : Nat) => (show ((((w20.drewN n_).setCell ⟨gb169, 0, none⟩ (.int .i64 t166)).setCell ⟨gb169, 1, none⟩ (.int .i64 t167))).cell? _ = some _ from hx170_1)); clear hn170_0; clear hn170_1; replace p170 := eq_true p170; replace q170 := eq_true q170) | (go_at_call 11; (with_reducible refine (view_Behind.calls k2 _ _ l0 ((rd_T26 l0 x3_2).f0) ((rd_T26 l0 x3_2).f1) t171 t172 t173 _ ?side1 ?side2 A17.out).mono ?_); (case side1 => exact Kd.C_below HR0.out (by repeat (first | (with_reducible first | exact HB.out | apply below_alloc | apply pw_below_drewN | apply below_drew1 | refine below_set ?_ GE169.out) | exact HB.out))); (case side2 => exact HC0.out); rintro e w22 ⟨rfl, hb⟩; have n0_ := Aside0.mk (blk_below (g := gb169) (o := .cells #[.int .i64 t166, .int .i64 t167] 26 (0, 0)) (by (with_reducible repeat (first | refine blk_drewN ?_ _ | refine blk_drew ?_ | refine blk_alloc ?_ _)); refine blk_put (cs := #[.int .i64 t166, .int .i64 0]) ?_ 1 _ rfl; (with_reducible repeat (first | refine blk_drewN ?_ _ | refine blk_drew ?_ | refine blk_alloc ?_ _)); refine blk_put (cs := #[.int .i64 0, .int .i64 0]) ?_ 0 _ rfl; (with_reducible repeat (first | refine blk_drewN ?_ _ | refine blk_drew ?_ | refine blk_alloc ?_ _)); exact BK169.out) hb); have n1_ := Aside0.mk (below_step (by repeat (first | (with_reducible first | exact HB.out | apply below_alloc | apply pw_below_drewN | apply below_drew1 | refine below_set ?_ GE169.out) | exact HB.out)) hb); clear BK169; clear HB; have BK169 := n0_; have HB := n1_; clear n0_ n1_; (try clear hb); (try clear hb2); (try clear hk); (try clear hi)) | ((with_reducible refine gate_dst (N := 6) rfl ?_); (try (refine gate_guard (by rfl) ?_; dsimp only)); refine box_event ?hg (N := 6) ?hd (cs := #[.int .i64 0, .int .i64 0]) (t := 26) ?hr ?_; (case hd => rfl); (case hg => rfl); (case hr => first | (go_simp; done) | (go_simp; rfl)); intro gb174 hg w23 hbox hb; have n0_ := Aside0.mk (blk_below (g := gb169) (o := .cells #[.int .i64 t166, .int .i64 t167] 26 (0, 0)) (by (with_reducible repeat (first | refine blk_drewN ?_ _ | refine blk_drew ?_ | refine blk_alloc ?_ _)); exact BK169.out) hb); have n1_ := Aside0.mk (below_step (by repeat (first | (with_reducible first | exact HB.out | apply below_alloc | apply pw_below_drewN | apply below_drew1 | refine below_set ?_ GE169.out) | exact HB.out)) hb); have n2_ := Aside0.mk (hbox); have n3_ := Aside0.mk ((by rw [hg]; exact (below_size (by repeat (first | (with_reducible first | exact HB.out | apply below_alloc | apply pw_below_drewN | apply below_drew1 | refine below_set ?_ GE169.out) | exact HB.out))) : w.heap.size ≤ gb174)); have n4_ := Aside0.mk ((by rw [hg]; exact (below_size (by repeat (first | (with_reducible first | exact HB.out | apply below_alloc | apply pw_below_drewN | apply below_drew1 | refine below_set ?_ GE169.out) | exact HB.out))) : w.heap.size ≤ gb174)); have n5_ := Aside0.mk ((by rw [hg]; exact Nat.ne_of_lt (blk_lt (g := gb169) (o := .cells #[.int .i64 t166, .int .i64 t167] 26 (0, 0)) (by (with_reducible repeat (first | refine blk_drewN ?_ _ | refine blk_drew ?_ | refine blk_alloc ?_ _)); exact BK169.out)) : gb169 ≠ gb174)); have n6_ := Aside0.mk ((by rw [hg]; exact Nat.ne_of_gt (blk_lt (g := gb169) (o := .cells #[.int .i64 t166, .int .i64 t167] 26 (0, 0)) (by (with_reducible repeat (first | refine blk_drewN ?_ _ | refine blk_drew ?_ | refine blk_alloc ?_ _)); exact BK169.out)) : gb174 ≠ gb169)); clear BK169; clear HB; have BK169 := n0_; have HB := n1_; have BK174 := n2_; have GW174 := n3_; have GE174 := n4_; have NB169_174 := n5_; have NB174_169 := n6_; clear n0_ n1_ n2_ n3_ n4_ n5_ n6_; clear hb hbox hg; have hnb24 := NB174_169.out; have hnc24 := NB169_174.out; have hcz25_0 : w23.cell? ⟨gb174, 0, none⟩ = some (.int .i64 0) := (blk_cell BK174.out 0).trans rfl; have hcz25_1 : w23.cell? ⟨gb174, 1, none⟩ = some (.int .i64 0) := (blk_cell BK174.out 1).trans rfl; have hfz25_0 := blk_frozen BK174.out 0; have hfz25_1 := blk_frozen BK174.out 1))
                repeat (go_quiet (first | (go_at_call 10; (with_reducible refine (view_Ahead.calls k2 _ _ l0 ((rd_T26 l0 x3_2).f0) ((rd_T26 l0 x3_2).f1) t166 t167 t168 _ ?side1 ?side2 A16.out).mono ?_); (case side1 => repeat (first | exact (Kd.C_below HR0.out HB.out) | (with_reducible refine Kd.C_alloc ?_ _) | (with_reducible refine Kd.C_drewN ?_ _) | (with_reducible refine Kd.C_drew ?_))); (case side2 => exact HC0.out); rintro e w19 ⟨rfl, hb⟩; have n0_ := Aside0.mk (below_step (by repeat (first | (with_reducible first | exact HB.out | apply below_alloc | apply pw_below_drewN | apply below_drew1) | exact HB.out)) hb); clear HB; have HB := n0_; clear n0_; (try clear hb); (try clear hb2); (try clear hk); (try clear hi)) | ((with_reducible refine gate_dst (N := 4) rfl ?_); (try (refine gate_guard (by rfl) ?_; dsimp only)); refine box_event ?hg (N := 4) ?hd (cs := #[.int .i64 0, .int .i64 0]) (t := 26) ?hr ?_; (case hd => rfl); (case hg => rfl); (case hr => first | (go_simp; done) | (go_simp; rfl)); intro gb169 hg w20 hbox hb; have n0_ := Aside0.mk (below_step (by repeat (first | (with_reducible first | exact HB.out | apply below_alloc | apply pw_below_drewN | apply below_drew1) | exact HB.out)) hb); have n1_ := Aside0.mk (hbox); have n2_ := Aside0.mk ((by rw [hg]; exact (below_size (by repeat (first | (with_reducible first | exact HB.out | apply below_alloc | apply pw_below_drewN | apply below_drew1) | exact HB.out))) : w.heap.size ≤ gb169)); have n3_ := Aside0.mk ((by rw [hg]; exact (below_size (by repeat (first | (with_reducible first | exact HB.out | apply below_alloc | apply pw_below_drewN | apply below_drew1) | exact HB.out))) : w.heap.size ≤ gb169)); clear HB; have HB := n0_; have BK169 := n1_; have GW169 := n2_; have GE169 := n3_; clear n0_ n1_ n2_ n3_; clear hb hbox hg; have hcz21_0 : w20.cell? ⟨gb169, 0, none⟩ = some (.int .i64 0) := (blk_cell BK169.out 0).trans rfl; have hcz21_1 : w20.cell? ⟨gb169, 1, none⟩ = some (.int .i64 0) := (blk_cell BK169.out 1).trans rfl; have hfz21_0 := blk_frozen BK169.out 0; have hfz21_1 := blk_frozen BK169.out 1; have p170 : 0 ≤ (x3_2 : Int) := of_decide_eq_true (by first | (with_reducible assumption) | assumption); have q170 : x3_2 < (l0.length : Int) := of_decide_eq_true (by first | (with_reducible assumption) | assumption); obtain ⟨ad170, e170, hx170_0, hx170_1⟩ := at_T26 HR0.out x3_2 p170 q170; obtain rfl : ad165 = ad170 := (by injection e170); have hn170_0 : ad165.block ≠ gb169 := Nat.ne_of_lt (Nat.lt_of_lt_of_le (by have := World.block_lt_of_cell? _ _ hx170_0; first | rwa [add_block] at this | exact this) GW169.out); have hn170_1 : ad165.block ≠ gb169 := Nat.ne_of_lt (Nat.lt_of_lt_of_le (by have := World.block_lt_of_cell? _ _ hx170_0; first | rwa [add_block] at this | exact this) GW169.out); replace hx170_0 := (HB.out.cell (World.block_lt_of_cell? w _ hx170_0)).trans hx170_0; replace hx170_1 := (HB.out.cell (World.block_lt_of_cell? w _ hx170_1)).trans hx170_1; replace hx170_0 := (cell_far (p := ⟨gb169, 0, none⟩) (by first | (rw [add_block]; exact hn170_0) | (show (Addr.add _ _).block ≠ _; rw [add_block]; exact hn170_0) | exact hn170_0) (.int .i64 t166)).trans hx170_0; replace hx170_1 := (cell_far (p := ⟨gb169, 0, none⟩) (by first | (rw [add_block]; exact hn170_0) | (show (Addr.add _ _).block ≠ _; rw [add_block]; exact hn170_0) | exact hn170_0) (.int .i64 t166)).trans hx170_1; replace hx170_0 := (cell_far (p := ⟨gb169, 1, none⟩) (by first | (rw [add_block]; exact hn170_1) | (show (Addr.add _ _).block ≠ _; rw [add_block]; exact hn170_1) | exact hn170_1) (.int .i64 t167)).trans hx170_0; replace hx170_1 := (cell_far (p := ⟨gb169, 1, none⟩) (by first | (rw [add_block]; exact hn170_1) | (show (Addr.add _ _).block ≠ _; rw [add_block]; exact hn170_1) | exact hn170_1) (.int .i64 t167)).trans hx170_1; (try have hy170_0 := fun (n_ : Nat) => (show ((((w20.drewN n_).setCell ⟨gb169, 0, none⟩ (.int .i64 t166)).setCell ⟨gb169, 1, none⟩ (.int .i64 t167))).cell? _ = some _ from hx170_0)); (try have hy170_1 := fun (n_ : Nat) => (show ((((w20.drewN n_).setCell ⟨gb169, 0, none⟩ (.int .i64 t166)).setCell ⟨gb169, 1, none⟩ (.int .i64 t167))).cell? _ = some _ from hx170_1)); clear hn170_0; clear hn170_1; replace p170 := eq_true p170; replace q170 := eq_true q170) | (go_at_call 11; (with_reducible refine (view_Behind.calls k2 _ _ l0 ((rd_T26 l0 x3_2).f0) ((rd_T26 l0 x3_2).f1) t171 t172 t173 _ ?side1 ?side2 A17.out).mono ?_); (case side1 => exact Kd.C_below HR0.out (by repeat (first | (with_reducible first | exact HB.out | apply below_alloc | apply pw_below_drewN | apply below_drew1 | refine below_set ?_ GE169.out) | exact HB.out))); (case side2 => exact HC0.out); rintro e w22 ⟨rfl, hb⟩; have n0_ := Aside0.mk (blk_below (g := gb169) (o := .cells #[.int .i64 t166, .int .i64 t167] 26 (0, 0)) (by (with_reducible repeat (first | refine blk_drewN ?_ _ | refine blk_drew ?_ | refine blk_alloc ?_ _)); refine blk_put (cs := #[.int .i64 t166, .int .i64 0]) ?_ 1 _ rfl; (with_reducible repeat (first | refine blk_drewN ?_ _ | refine blk_drew ?_ | refine blk_alloc ?_ _)); refine blk_put (cs := #[.int .i64 0, .int .i64 0]) ?_ 0 _ rfl; (with_reducible repeat (first | refine blk_drewN ?_ _ | refine blk_drew ?_ | refine blk_alloc ?_ _)); exact BK169.out) hb); have n1_ := Aside0.mk (below_step (by repeat (first | (with_reducible first | exact HB.out | apply below_alloc | apply pw_below_drewN | apply below_drew1 | refine below_set ?_ GE169.out) | exact HB.out)) hb); clear BK169; clear HB; have BK169 := n0_; have HB := n1_; clear n0_ n1_; (try clear hb); (try clear hb2); (try clear hk); (try clear hi)) | ((with_reducible refine gate_dst (N := 6) rfl ?_); (try (refine gate_guard (by rfl) ?_; dsimp only)); refine box_event ?hg (N := 6) ?hd (cs := #[.int .i64 0, .int .i64 0]) (t := 26) ?hr ?_; (case hd => rfl); (case hg => rfl); (case hr => first | (go_simp; done) | (go_simp; rfl)); intro gb174 hg w23 hbox hb; have n0_ := Aside0.mk (blk_below (g := gb169) (o := .cells #[.int .i64 t166, .int .i64 t167] 26 (0, 0)) (by (with_reducible repeat (first | refine blk_drewN ?_ _ | refine blk_drew ?_ | refine blk_alloc ?_ _)); exact BK169.out) hb); have n1_ := Aside0.mk (below_step (by repeat (first | (with_reducible first | exact HB.out | apply below_alloc | apply pw_below_drewN | apply below_drew1 | refine below_set ?_ GE169.out) | exact HB.out)) hb); have n2_ := Aside0.mk (hbox); have n3_ := Aside0.mk ((by rw [hg]; exact (below_size (by repeat (first | (with_reducible first | exact HB.out | apply below_alloc | apply pw_below_drewN | apply below_drew1 | refine below_set ?_ GE169.out) | exact HB.out))) : w.heap.size ≤ gb174)); have n4_ := Aside0.mk ((by rw [hg]; exact (below_size (by repeat (first | (with_reducible first | exact HB.out | apply below_alloc | apply pw_below_drewN | apply below_drew1 | refine below_set ?_ GE169.out) | exact HB.out))) : w.heap.size ≤ gb174)); have n5_ := Aside0.mk ((by rw [hg]; exact Nat.ne_of_lt (blk_lt (g := gb169) (o := .cells #[.int .i64 t166, .int .i64 t167] 26 (0, 0)) (by (with_reducible repeat (first | refine blk_drewN ?_ _ | refine blk_drew ?_ | refine blk_alloc ?_ _)); exact BK169.out)) : gb169 ≠ gb174)); have n6_ := Aside0.mk ((by rw [hg]; exact Nat.ne_of_gt (blk_lt (g := gb169) (o := .cells #[.int .i64 t166, .int .i64 t167] 26 (0, 0)) (by (with_reducible repeat (first | refine blk_drewN ?_ _ | refine blk_drew ?_ | refine blk_alloc ?_ _)); exact BK169.out)) : gb174 ≠ gb169)); clear BK169; clear HB; have BK169 := n0_; have HB := n1_; have BK174 := n2_; have GW174 := n3_; have GE174 := n4_; have NB169_174 := n5_; have NB174_169 := n6_; clear n0_ n1_ n2_ n3_ n4_ n5_ n6_; clear hb hbox hg; have hnb24 := NB174_169.out; have hnc24 := NB169_174.out; have hcz25_0 : w23.cell? ⟨gb174, 0, none⟩ = some (.int .i64 0) := (blk_cell BK174.out 0).trans rfl; have hcz25_1 : w23.cell? ⟨gb174, 1, none⟩ = some (.int .i64 0) := (blk_cell BK174.out 1).trans rfl; have hfz25_0 := blk_frozen BK174.out 0; have hfz25_1 := blk_frozen BK174.out 1)); go_upto_region 8 with (first | (go_at_call 10; (with_reducible refine (view_Ahead.calls k2 _ _ l0 ((rd_T26 l0 x3_2).f0) ((rd_T26 l0 x3_2).f1) t166 t167 t168 _ ?side1 ?side2 A16.out).mono ?_); (case side1 => repeat (first | exact (Kd.C_below HR0.out HB.out) | (with_reducible refine Kd.C_alloc ?_ _) | (with_reducible refine Kd.C_drewN ?_ _) | (with_reducible refine Kd.C_drew ?_))); (case side2 => exact HC0.out); rintro e w19 ⟨rfl, hb⟩; have n0_ := Aside0.mk (below_step (by repeat (first | (with_reducible first | exact HB.out | apply below_alloc | apply pw_below_drewN | apply below_drew1) | exact HB.out)) hb); clear HB; have HB := n0_; clear n0_; (try clear hb); (try clear hb2); (try clear hk); (try clear hi)) | ((with_reducible refine gate_dst (N := 4) rfl ?_); (try (refine gate_guard (by rfl) ?_; dsimp only)); refine box_event ?hg (N := 4) ?hd (cs := #[.int .i64 0, .int .i64 0]) (t := 26) ?hr ?_; (case hd => rfl); (case hg => rfl); (case hr => first | (go_simp; done) | (go_simp; rfl)); intro gb169 hg w20 hbox hb; have n0_ := Aside0.mk (below_step (by repeat (first | (with_reducible first | exact HB.out | apply below_alloc | apply pw_below_drewN | apply below_drew1) | exact HB.out)) hb); have n1_ := Aside0.mk (hbox); have n2_ := Aside0.mk ((by rw [hg]; exact (below_size (by repeat (first | (with_reducible first | exact HB.out | apply below_alloc | apply pw_below_drewN | apply below_drew1) | exact HB.out))) : w.heap.size ≤ gb169)); have n3_ := Aside0.mk ((by rw [hg]; exact (below_size (by repeat (first | (with_reducible first | exact HB.out | apply below_alloc | apply pw_below_drewN | apply below_drew1) | exact HB.out))) : w.heap.size ≤ gb169)); clear HB; have HB := n0_; have BK169 := n1_; have GW169 := n2_; have GE169 := n3_; clear n0_ n1_ n2_ n3_; clear hb hbox hg; have hcz21_0 : w20.cell? ⟨gb169, 0, none⟩ = some (.int .i64 0) := (blk_cell BK169.out 0).trans rfl; have hcz21_1 : w20.cell? ⟨gb169, 1, none⟩ = some (.int .i64 0) := (blk_cell BK169.out 1).trans rfl; have hfz21_0 := blk_frozen BK169.out 0; have hfz21_1 := blk_frozen BK169.out 1; have p170 : 0 ≤ (x3_2 : Int) := of_decide_eq_true (by first | (with_reducible assumption) | assumption); have q170 : x3_2 < (l0.length : Int) := of_decide_eq_true (by first | (with_reducible assumption) | assumption); obtain ⟨ad170, e170, hx170_0, hx170_1⟩ := at_T26 HR0.out x3_2 p170 q170; obtain rfl : ad165 = ad170 := (by injection e170); have hn170_0 : ad165.block ≠ gb169 := Nat.ne_of_lt (Nat.lt_of_lt_of_le (by have := World.block_lt_of_cell? _ _ hx170_0; first | rwa [add_block] at this | exact this) GW169.out); have hn170_1 : ad165.block ≠ gb169 := Nat.ne_of_lt (Nat.lt_of_lt_of_le (by have := World.block_lt_of_cell? _ _ hx170_0; first | rwa [add_block] at this | exact this) GW169.out); replace hx170_0 := (HB.out.cell (World.block_lt_of_cell? w _ hx170_0)).trans hx170_0; replace hx170_1 := (HB.out.cell (World.block_lt_of_cell? w _ hx170_1)).trans hx170_1; replace hx170_0 := (cell_far (p := ⟨gb169, 0, none⟩) (by first | (rw [add_block]; exact hn170_0) | (show (Addr.add _ _).block ≠ _; rw [add_block]; exact hn170_0) | exact hn170_0) (.int .i64 t166)).trans hx170_0; replace hx170_1 := (cell_far (p := ⟨gb169, 0, none⟩) (by first | (rw [add_block]; exact hn170_0) | (show (Addr.add _ _).block ≠ _; rw [add_block]; exact hn170_0) | exact hn170_0) (.int .i64 t166)).trans hx170_1; replace hx170_0 := (cell_far (p := ⟨gb169, 1, none⟩) (by first | (rw [add_block]; exact hn170_1) | (show (Addr.add _ _).block ≠ _; rw [add_block]; exact hn170_1) | exact hn170_1) (.int .i64 t167)).trans hx170_0; replace hx170_1 := (cell_far (p := ⟨gb169, 1, none⟩) (by first | (rw [add_block]; exact hn170_1) | (show (Addr.add _ _).block ≠ _; rw [add_block]; exact hn170_1) | exact hn170_1) (.int .i64 t167)).trans hx170_1; (try have hy170_0 := fun (n_ : Nat) => (show ((((w20.drewN n_).setCell ⟨gb169, 0, none⟩ (.int .i64 t166)).setCell ⟨gb169, 1, none⟩ (.int .i64 t167))).cell? _ = some _ from hx170_0)); (try have hy170_1 := fun (n_ : Nat) => (show ((((w20.drewN n_).setCell ⟨gb169, 0, none⟩ (.int .i64 t166)).setCell ⟨gb169, 1, none⟩ (.int .i64 t167))).cell? _ = some _ from hx170_1)); clear hn170_0; clear hn170_1; replace p170 := eq_true p170; replace q170 := eq_true q170) | (go_at_call 11; (with_reducible refine (view_Behind.calls k2 _ _ l0 ((rd_T26 l0 x3_2).f0) ((rd_T26 l0 x3_2).f1) t171 t172 t173 _ ?side1 ?side2 A17.out).mono ?_); (case side1 => exact Kd.C_below HR0.out (by repeat (first | (with_reducible first | exact HB.out | apply below_alloc | apply pw_below_drewN | apply below_drew1 | refine below_set ?_ GE169.out) | exact HB.out))); (case side2 => exact HC0.out); rintro e w22 ⟨rfl, hb⟩; have n0_ := Aside0.mk (blk_below (g := gb169) (o := .cells #[.int .i64 t166, .int .i64 t167] 26 (0, 0)) (by (with_reducible repeat (first | refine blk_drewN ?_ _ | refine blk_drew ?_ | refine blk_alloc ?_ _)); refine blk_put (cs := #[.int .i64 t166, .int .i64 0]) ?_ 1 _ rfl; (with_reducible repeat (first | refine blk_drewN ?_ _ | refine blk_drew ?_ | refine blk_alloc ?_ _)); refine blk_put (cs := #[.int .i64 0, .int .i64 0]) ?_ 0 _ rfl; (with_reducible repeat (first | refine blk_drewN ?_ _ | refine blk_drew ?_ | refine blk_alloc ?_ _)); exact BK169.out) hb); have n1_ := Aside0.mk (below_step (by repeat (first | (with_reducible first | exact HB.out | apply below_alloc | apply pw_below_drewN | apply below_drew1 | refine below_set ?_ GE169.out) | exact HB.out)) hb); clear BK169; clear HB; have BK169 := n0_; have HB := n1_; clear n0_ n1_; (try clear hb); (try clear hb2); (try clear hk); (try clear hi)) | ((with_reducible refine gate_dst (N := 6) rfl ?_); (try (refine gate_guard (by rfl) ?_; dsimp only)); refine box_event ?hg (N := 6) ?hd (cs := #[.int .i64 0, .int .i64 0]) (t := 26) ?hr ?_; (case hd => rfl); (case hg => rfl); (case hr => first | (go_simp; done) | (go_simp; rfl)); intro gb174 hg w23 hbox hb; have n0_ := Aside0.mk (blk_below (g := gb169) (o := .cells #[.int .i64 t166, .int .i64 t167] 26 (0, 0)) (by (with_reducible repeat (first | refine blk_drewN ?_ _ | refine blk_drew ?_ | refine blk_alloc ?_ _)); exact BK169.out) hb); have n1_ := Aside0.mk (below_step (by repeat (first | (with_reducible first | exact HB.out | apply below_alloc | apply pw_below_drewN | apply below_drew1 | refine below_set ?_ GE169.out) | exact HB.out)) hb); have n2_ := Aside0.mk (hbox); have n3_ := Aside0.mk ((by rw [hg]; exact (below_size (by repeat (first | (with_reducible first | exact HB.out | apply below_alloc | apply pw_below_drewN | apply below_drew1 | refine below_set ?_ GE169.out) | exact HB.out))) : w.heap.size ≤ gb174)); have n4_ := Aside0.mk ((by rw [hg]; exact (below_size (by repeat (first | (with_reducible first | exact HB.out | apply below_alloc | apply pw_below_drewN | apply below_drew1 | refine below_set ?_ GE169.out) | exact HB.out))) : w.heap.size ≤ gb174)); have n5_ := Aside0.mk ((by rw [hg]; exact Nat.ne_of_lt (blk_lt (g := gb169) (o := .cells #[.int .i64 t166, .int .i64 t167] 26 (0, 0)) (by (with_reducible repeat (first | refine blk_drewN ?_ _ | refine blk_drew ?_ | refine blk_alloc ?_ _)); exact BK169.out)) : gb169 ≠ gb174)); have n6_ := Aside0.mk ((by rw [hg]; exact Nat.ne_of_gt (blk_lt (g := gb169) (o := .cells #[.int .i64 t166, .int .i64 t167] 26 (0, 0)) (by (with_reducible repeat (first | refine blk_drewN ?_ _ | refine blk_drew ?_ | refine blk_alloc ?_ _)); exact BK169.out)) : gb174 ≠ gb169)); clear BK169; clear HB; have BK169 := n0_; have HB := n1_; have BK174 := n2_; have GW174 := n3_; have GE174 := n4_; have NB169_174 := n5_; have NB174_169 := n6_; clear n0_ n1_ n2_ n3_ n4_ n5_ n6_; clear hb hbox hg; have hnb24 := NB174_169.out; have hnc24 := NB169_174.out; have hcz25_0 : w23.cell? ⟨gb174, 0, none⟩ = some (.int .i64 0) := (blk_cell BK174.out 0).trans rfl; have hcz25_1 : w23.cell? ⟨gb174, 1, none⟩ = some (.int .i64 0) := (blk_cell BK174.out 1).trans rfl; have hfz25_0 := blk_frozen BK174.out 0; have hfz25_1 := blk_frozen BK174.out 1)))
                (try simp only [Act.put, List.setIfInBounds_toArray, List.set_cons_zero, List.set_cons_succ])
                go_cut [59] (fun v59 wc => ∃ (kq : Nat) (x59_17 : Bool), v59 = .bool x59_17 ∧ Aside0 (lockgatelaw16_ViewNeighbours.j2 kq l0 x3_2 t168 t173 x59_17 t166 t167 t171 t172 = some r) ∧ Aside0 (kq ≤ k2) ∧ Aside0 (wc.heap[gb169]? = some (.cells #[.int .i64 t166, .int .i64 t167] 26 (0, 0))) ∧ Aside0 (wc.heap[gb174]? = some (.cells #[.int .i64 t171, .int .i64 t172] 26 (0, 0))) ∧ Aside0 (Below w.heap.size w wc))
                case first =>
                  have H := HC18.out
                  clear HC18
                  by_cases c26 : (t168 != (decide (x3_2 > 0))) = true
                  · rw [if_pos c26] at H
                    have c26b0 : (t168 != (decide (x3_2 > 0))) = true := c26
                    (try (have c26b1 : decide (t168 = (decide (x3_2 > 0))) = false := by simpa using c26))
                    (try (have c26b2 : (t168 == (decide (x3_2 > 0))) = false := by simpa using c26))
                    (try (have c26b3 : ¬ (t168 = (decide (x3_2 > 0))) := by simpa using c26))
                    clear c26
                    (first | rw [c26b0] | (simp only [i64_w, i32_w]; rw [c26b0]) | skip)
                    have H' := Aside0.mk H
                    clear H
                    go_wp2
                    repeat (go_quiet (fail); try go_wp2)
                    go_meet
                    case rel => exact ⟨_, (true), (by first | rfl | (simp; done) | (simp [*]; done)), H', ⟨by have := HJ1.out; have := HK2.out; first | omega | exact Nat.le_refl _⟩, ⟨by (with_reducible repeat (first | refine blk_drewN ?_ _ | refine blk_drew ?_ | refine blk_alloc ?_ _)); refine blk_far ?_ NB169_174.out _; (with_reducible repeat (first | refine blk_drewN ?_ _ | refine blk_drew ?_ | refine blk_alloc ?_ _)); refine blk_far ?_ NB169_174.out _; (with_reducible repeat (first | refine blk_drewN ?_ _ | refine blk_drew ?_ | refine blk_alloc ?_ _)); exact BK169.out⟩, ⟨by (with_reducible repeat (first | refine blk_drewN ?_ _ | refine blk_drew ?_ | refine blk_alloc ?_ _)); refine blk_put (cs := #[.int .i64 t171, .int .i64 0]) ?_ 1 _ rfl; (with_reducible repeat (first | refine blk_drewN ?_ _ | refine blk_drew ?_ | refine blk_alloc ?_ _)); refine blk_put (cs := #[.int .i64 0, .int .i64 0]) ?_ 0 _ rfl; (with_reducible repeat (first | refine blk_drewN ?_ _ | refine blk_drew ?_ | refine blk_alloc ?_ _)); exact BK174.out⟩, ⟨by repeat (first | (with_reducible first | exact HB.out | apply below_alloc | apply pw_below_drewN | apply below_drew1 | refine below_set ?_ GE169.out | refine below_set ?_ GE174.out) | exact HB.out)⟩⟩
                  · rw [if_neg c26] at H
                    have c26b0 : (t168 != (decide (x3_2 > 0))) = false := by simpa using c26
                    (try (have c26b1 : decide (t168 = (decide (x3_2 > 0))) = true := by simpa using c26))
                    (try (have c26b2 : (t168 == (decide (x3_2 > 0))) = true := by simpa using c26))
                    clear c26
                    (first | rw [c26b0] | (simp only [i64_w, i32_w]; rw [c26b0]) | skip)
                    have H' := Aside0.mk H
                    clear H
                    go_wp2
                    repeat (go_quiet (fail); try go_wp2)
                    go_meet
                    case rel => exact ⟨_, ((t173 != (decide (x3_2 < (wrap64 ((l0.length : Int) - 1)))))), (by first | rfl | (simp; done) | (simp [*]; done)), H', ⟨by have := HJ1.out; have := HK2.out; first | omega | exact Nat.le_refl _⟩, ⟨by (with_reducible repeat (first | refine blk_drewN ?_ _ | refine blk_drew ?_ | refine blk_alloc ?_ _)); refine blk_far ?_ NB169_174.out _; (with_reducible repeat (first | refine blk_drewN ?_ _ | refine blk_drew ?_ | refine blk_alloc ?_ _)); refine blk_far ?_ NB169_174.out _; (with_reducible repeat (first | refine blk_drewN ?_ _ | refine blk_drew ?_ | refine blk_alloc ?_ _)); exact BK169.out⟩, ⟨by (with_reducible repeat (first | refine blk_drewN ?_ _ | refine blk_drew ?_ | refine blk_alloc ?_ _)); refine blk_put (cs := #[.int .i64 t171, .int .i64 0]) ?_ 1 _ rfl; (with_reducible repeat (first | refine blk_drewN ?_ _ | refine blk_drew ?_ | refine blk_alloc ?_ _)); refine blk_put (cs := #[.int .i64 0, .int .i64 0]) ?_ 0 _ rfl; (with_reducible repeat (first | refine blk_drewN ?_ _ | refine blk_drew ?_ | refine blk_alloc ?_ _)); exact BK174.out⟩, ⟨by repeat (first | (with_reducible first | exact HB.out | apply below_alloc | apply pw_below_drewN | apply below_drew1 | refine below_set ?_ GE169.out | refine below_set ?_ GE174.out) | exact HB.out)⟩⟩
                case rest =>
                  clear HC18
                  try clear c1
                  try clear p1
                  try clear q1
                  try clear hx1
                  try clear c2
                  try clear p2
                  try clear c4
                  try clear c5
                  try clear c5b0
                  try clear c5b1
                  try clear p6
                  try clear c11
                  try clear c14
                  try clear c14b0
                  try clear c15
                  try clear c15b0
                  try clear p16
                  try clear q16
                  try clear hx16
                  try clear p17
                  try clear q17
                  try clear hx17
                  try clear c24
                  try clear c26
                  try clear c26b0
                  try clear c26b1
                  try clear c26b2
                  try clear hcz21_0
                  try clear hcz21_1
                  try clear hcz25_0
                  try clear hcz25_1
                  try clear hfz21_0
                  try clear hfz21_1
                  try clear hfz25_0
                  try clear hfz25_1
                  try clear hx165_0
                  try clear hx165_1
                  try clear hx170_0
                  try clear hx170_1
                  try clear p165
                  try clear p170
                  try clear p2
                  try clear q165
                  try clear q170
                  obtain ⟨kq, x59_17, rfl, HA, HJ17, BK169, BK174, HB⟩ := hcut
                  cases kq with
                  | zero => exact absurd HA.out (by simp [lockgatelaw16_ViewNeighbours.j2])
                  | succ kj17 =>
                    have H := HA.out
                    clear HA
                    simp only [lockgatelaw16_ViewNeighbours.j2] at H
                    by_cases c27 : x59_17 = true
                    · subst c27
                      have H1 : (some false) = some r := by rw [if_pos rfl] at H; exact H
                      clear H
                      have H := H1
                      clear H1
                      obtain rfl := Option.some.inj H
                      go_wp2
                      repeat (go_quiet (fail); try go_wp2)
                      go_ret
                      exact ⟨by first | rfl | (simp [errW_none, errW_some] <;> rfl) | (simp [*, errW_none, errW_some] <;> rfl), by repeat (first | (with_reducible first | exact HB.out | apply below_alloc | apply pw_below_drewN | apply below_drew1 | refine below_set ?_ GE169.out | refine below_set ?_ GE174.out) | exact HB.out)⟩
                    · replace c27 := Bool.eq_false_iff.mpr c27
                      subst c27
                      have H1 : (if t168 = true then ((view_Behind.f kj17 l0 t166 t167).bind fun bt175 => (if bt175.2.2 = true then (if 0 ≤ x3_2 then (if x3_2 < (l0.length : Int) then (lockgatelaw16_ViewNeighbours.j3 kj17 l0 x3_2 t173 (!(bt175.1 == ((rd_T26 l0 x3_2).f0)) || (!(bt175.2.1 == ((rd_T26 l0 x3_2).f1)))) t171 t172) else (none)) else (none)) else (lockgatelaw16_ViewNeighbours.j3 kj17 l0 x3_2 t173 true t171 t172))) else (if t173 = true then (if 0 ≤ (wrap64 (x3_2 + 1)) then (if (wrap64 (x3_2 + 1)) < (l0.length : Int) then (if (!(t171 == ((rd_T26 l0 (wrap64 (x3_2 + 1))).f0)) || (!(t172 == ((rd_T26 l0 (wrap64 (x3_2 + 1))).f1)))) = true then (some false) else (lockgatelaw16_ViewNeighbours.l0 kj17 l0 (wrap64 (x3_2 + 1)))) else (none)) else (none)) else (lockgatelaw16_ViewNeighbours.l0 kj17 l0 (wrap64 (x3_2 + 1))))) = some r := by rw [if_neg (show ¬ (false = true) by decide)] at H; exact H
                      clear H
                      have H := H1
                      clear H1
                      by_cases c28 : t168 = true
                      · subst c28
                        have H1 : ((view_Behind.f kj17 l0 t166 t167).bind fun bt175 => (if bt175.2.2 = true then (if 0 ≤ x3_2 then (if x3_2 < (l0.length : Int) then (lockgatelaw16_ViewNeighbours.j3 kj17 l0 x3_2 t173 (!(bt175.1 == ((rd_T26 l0 x3_2).f0)) || (!(bt175.2.1 == ((rd_T26 l0 x3_2).f1)))) t171 t172) else (none)) else (none)) else (lockgatelaw16_ViewNeighbours.j3 kj17 l0 x3_2 t173 true t171 t172))) = some r := by rw [if_pos rfl] at H; exact H
                        clear H
                        have H := H1
                        clear H1
                        replace H := Option.bind_eq_some_iff.mp H
                        obtain ⟨⟨t175, t176, t177⟩, A290, H⟩ := H
                        replace H : (if t177 = true then (if 0 ≤ x3_2 then (if x3_2 < (l0.length : Int) then (lockgatelaw16_ViewNeighbours.j3 kj17 l0 x3_2 t173 (!(t175 == ((rd_T26 l0 x3_2).f0)) || (!(t176 == ((rd_T26 l0 x3_2).f1)))) t171 t172) else (none)) else (none)) else (lockgatelaw16_ViewNeighbours.j3 kj17 l0 x3_2 t173 true t171 t172)) = some r := H
                        have A29 := Aside0.mk A290
                        clear A290
                        have HC30 := Aside0.mk H
                        clear H
                        have hnb31 := NB169_174.out
                        have hnc31 := NB174_169.out
                        have hcz32_0 : wc.cell? ⟨gb169, 0, none⟩ = some (.int .i64 t166) := (blk_cell BK169.out 0).trans rfl
                        have hcz32_1 : wc.cell? ⟨gb169, 1, none⟩ = some (.int .i64 t167) := (blk_cell BK169.out 1).trans rfl
                        have hfz32_0 := blk_frozen BK169.out 0
                        have hfz32_1 := blk_frozen BK169.out 1
                        go_upto_region 12 with (first | (go_at_call 11; (with_reducible refine (view_Behind.calls kj17 _ _ l0 t166 t167 t175 t176 t177 _ ?side1 ?side2 A29.out).mono ?_); (case side1 => repeat (first | exact (Kd.C_below HR0.out HB.out) | (with_reducible refine Kd.C_alloc ?_ _) | (with_reducible refine Kd.C_drewN ?_ _) | (with_reducible refine Kd.C_drew ?_))); (case side2 => exact HC0.out); rintro e w33 ⟨rfl, hb⟩; have n0_ := Aside0.mk (blk_below (g := gb169) (o := .cells #[.int .i64 t166, .int .i64 t167] 26 (0, 0)) (by (with_reducible repeat (first | refine blk_drewN ?_ _ | refine blk_drew ?_ | refine blk_alloc ?_ _)); exact BK169.out) hb); have n1_ := Aside0.mk (blk_below (g := gb174) (o := .cells #[.int .i64 t171, .int .i64 t172] 26 (0, 0)) (by (with_reducible repeat (first | refine blk_drewN ?_ _ | refine blk_drew ?_ | refine blk_alloc ?_ _)); exact BK174.out) hb); have n2_ := Aside0.mk (below_step (by repeat (first | (with_reducible first | exact HB.out | apply below_alloc | apply pw_below_drewN | apply below_drew1 | refine below_set ?_ GE169.out | refine below_set ?_ GE174.out) | exact HB.out)) hb); clear BK169; clear BK174; clear HB; have BK169 := n0_; have BK174 := n1_; have HB := n2_; clear n0_ n1_ n2_; (try clear hb); (try clear hb2); (try clear hk); (try clear hi)) | ((with_reducible refine gate_dst (N := 8) rfl ?_); (try (refine gate_guard (by rfl) ?_; dsimp only)); refine box_event ?hg (N := 8) ?hd (cs := #[.int .i64 0, .int .i64 0]) (t := 26) ?hr ?_; (case hd => rfl); (case hg => rfl); (case hr => first | (go_simp; done) | (go_simp; rfl)); intro gb178 hg w34 hbox hb; have n0_ := Aside0.mk (blk_below (g := gb169) (o := .cells #[.int .i64 t166, .int .i64 t167] 26 (0, 0)) (by (with_reducible repeat (first | refine blk_drewN ?_ _ | refine blk_drew ?_ | refine blk_alloc ?_ _)); exact BK169.out) hb); have n1_ := Aside0.mk (blk_below (g := gb174) (o := .cells #[.int .i64 t171, .int .i64 t172] 26 (0, 0)) (by (with_reducible repeat (first | refine blk_drewN ?_ _ | refine blk_drew ?_ | refine blk_alloc ?_ _)); exact BK174.out) hb); have n2_ := Aside0.mk (below_step (by repeat (first | (with_reducible first | exact HB.out | apply below_alloc | apply pw_below_drewN | apply below_drew1 | refine below_set ?_ GE169.out | refine below_set ?_ GE174.out) | exact HB.out)) hb); have n3_ := Aside0.mk (hbox); have n4_ := Aside0.mk ((by rw [hg]; exact (below_size (by repeat (first | (with_reducible first | exact HB.out | apply below_alloc | apply pw_below_drewN | apply below_drew1 | refine below_set ?_ GE169.out | refine below_set ?_ GE174.out) | exact HB.out))) : w.heap.size ≤ gb178)); have n5_ := Aside0.mk ((by rw [hg]; exact (below_size (by repeat (first | (with_reducible first | exact HB.out | apply below_alloc | apply pw_below_drewN | apply below_drew1 | refine below_set ?_ GE169.out | refine below_set ?_ GE174.out) | exact HB.out))) : w.heap.size ≤ gb178)); have n6_ := Aside0.mk ((by rw [hg]; exact Nat.ne_of_lt (blk_lt (g := gb169) (o := .cells #[.int .i64 t166, .int .i64 t167] 26 (0, 0)) (by (with_reducible repeat (first | refine blk_drewN ?_ _ | refine blk_drew ?_ | refine blk_alloc ?_ _)); exact BK169.out)) : gb169 ≠ gb178)); have n7_ := Aside0.mk ((by rw [hg]; exact Nat.ne_of_gt (blk_lt (g := gb169) (o := .cells #[.int .i64 t166, .int .i64 t167] 26 (0, 0)) (by (with_reducible repeat (first | refine blk_drewN ?_ _ | refine blk_drew ?_ | refine blk_alloc ?_ _)); exact BK169.out)) : gb178 ≠ gb169)); have n8_ := Aside0.mk ((by rw [hg]; exact Nat.ne_of_lt (blk_lt (g := gb174) (o := .cells #[.int .i64 t171, .int .i64 t172] 26 (0, 0)) (by (with_reducible repeat (first | refine blk_drewN ?_ _ | refine blk_drew ?_ | refine blk_alloc ?_ _)); exact BK174.out)) : gb174 ≠ gb178)); have n9_ := Aside0.mk ((by rw [hg]; exact Nat.ne_of_gt (blk_lt (g := gb174) (o := .cells #[.int .i64 t171, .int .i64 t172] 26 (0, 0)) (by (with_reducible repeat (first | refine blk_drewN ?_ _ | refine blk_drew ?_ | refine blk_alloc ?_ _)); exact BK174.out)) : gb178 ≠ gb174)); clear BK169; clear BK174; clear HB; have BK169 := n0_; have BK174 := n1_; have HB := n2_; have BK178 := n3_; have GW178 := n4_; have GE178 := n5_; have NB169_178 := n6_; have NB178_169 := n7_; have NB174_178 := n8_; have NB178_174 := n9_; clear n0_ n1_ n2_ n3_ n4_ n5_ n6_ n7_ n8_ n9_; clear hb hbox hg; have hnb35 := NB178_169.out; have hnc35 := NB169_178.out; have hnb36 := NB178_174.out; have hnc36 := NB174_178.out; have hcz37_0 : w34.cell? ⟨gb178, 0, none⟩ = some (.int .i64 0) := (blk_cell BK178.out 0).trans rfl; have hcz37_1 : w34.cell? ⟨gb178, 1, none⟩ = some (.int .i64 0) := (blk_cell BK178.out 1).trans rfl; have hfz37_0 := blk_frozen BK178.out 0; have hfz37_1 := blk_frozen BK178.out 1))
                        repeat (go_quiet (first | (go_at_call 11; (with_reducible refine (view_Behind.calls kj17 _ _ l0 t166 t167 t175 t176 t177 _ ?side1 ?side2 A29.out).mono ?_); (case side1 => repeat (first | exact (Kd.C_below HR0.out HB.out) | (with_reducible refine Kd.C_alloc ?_ _) | (with_reducible refine Kd.C_drewN ?_ _) | (with_reducible refine Kd.C_drew ?_))); (case side2 => exact HC0.out); rintro e w33 ⟨rfl, hb⟩; have n0_ := Aside0.mk (blk_below (g := gb169) (o := .cells #[.int .i64 t166, .int .i64 t167] 26 (0, 0)) (by (with_reducible repeat (first | refine blk_drewN ?_ _ | refine blk_drew ?_ | refine blk_alloc ?_ _)); exact BK169.out) hb); have n1_ := Aside0.mk (blk_below (g := gb174) (o := .cells #[.int .i64 t171, .int .i64 t172] 26 (0, 0)) (by (with_reducible repeat (first | refine blk_drewN ?_ _ | refine blk_drew ?_ | refine blk_alloc ?_ _)); exact BK174.out) hb); have n2_ := Aside0.mk (below_step (by repeat (first | (with_reducible first | exact HB.out | apply below_alloc | apply pw_below_drewN | apply below_drew1 | refine below_set ?_ GE169.out | refine below_set ?_ GE174.out) | exact HB.out)) hb); clear BK169; clear BK174; clear HB; have BK169 := n0_; have BK174 := n1_; have HB := n2_; clear n0_ n1_ n2_; (try clear hb); (try clear hb2); (try clear hk); (try clear hi)) | ((with_reducible refine gate_dst (N := 8) rfl ?_); (try (refine gate_guard (by rfl) ?_; dsimp only)); refine box_event ?hg (N := 8) ?hd (cs := #[.int .i64 0, .int .i64 0]) (t := 26) ?hr ?_; (case hd => rfl); (case hg => rfl); (case hr => first | (go_simp; done) | (go_simp; rfl)); intro gb178 hg w34 hbox hb; have n0_ := Aside0.mk (blk_below (g := gb169) (o := .cells #[.int .i64 t166, .int .i64 t167] 26 (0, 0)) (by (with_reducible repeat (first | refine blk_drewN ?_ _ | refine blk_drew ?_ | refine blk_alloc ?_ _)); exact BK169.out) hb); have n1_ := Aside0.mk (blk_below (g := gb174) (o := .cells #[.int .i64 t171, .int .i64 t172] 26 (0, 0)) (by (with_reducible repeat (first | refine blk_drewN ?_ _ | refine blk_drew ?_ | refine blk_alloc ?_ _)); exact BK174.out) hb); have n2_ := Aside0.mk (below_step (by repeat (first | (with_reducible first | exact HB.out | apply below_alloc | apply pw_below_drewN | apply below_drew1 | refine below_set ?_ GE169.out | refine below_set ?_ GE174.out) | exact HB.out)) hb); have n3_ := Aside0.mk (hbox); have n4_ := Aside0.mk ((by rw [hg]; exact (below_size (by repeat (first | (with_reducible first | exact HB.out | apply below_alloc | apply pw_below_drewN | apply below_drew1 | refine below_set ?_ GE169.out | refine below_set ?_ GE174.out) | exact HB.out))) : w.heap.size ≤ gb178)); have n5_ := Aside0.mk ((by rw [hg]; exact (below_size (by repeat (first | (with_reducible first | exact HB.out | apply below_alloc | apply pw_below_drewN | apply below_drew1 | refine below_set ?_ GE169.out | refine below_set ?_ GE174.out) | exact HB.out))) : w.heap.size ≤ gb178)); have n6_ := Aside0.mk ((by rw [hg]; exact Nat.ne_of_lt (blk_lt (g := gb169) (o := .cells #[.int .i64 t166, .int .i64 t167] 26 (0, 0)) (by (with_reducible repeat (first | refine blk_drewN ?_ _ | refine blk_drew ?_ | refine blk_alloc ?_ _)); exact BK169.out)) : gb169 ≠ gb178)); have n7_ := Aside0.mk ((by rw [hg]; exact Nat.ne_of_gt (blk_lt (g := gb169) (o := .cells #[.int .i64 t166, .int .i64 t167] 26 (0, 0)) (by (with_reducible repeat (first | refine blk_drewN ?_ _ | refine blk_drew ?_ | refine blk_alloc ?_ _)); exact BK169.out)) : gb178 ≠ gb169)); have n8_ := Aside0.mk ((by rw [hg]; exact Nat.ne_of_lt (blk_lt (g := gb174) (o := .cells #[.int .i64 t171, .int .i64 t172] 26 (0, 0)) (by (with_reducible repeat (first | refine blk_drewN ?_ _ | refine blk_drew ?_ | refine blk_alloc ?_ _)); exact BK174.out)) : gb174 ≠ gb178)); have n9_ := Aside0.mk ((by rw [hg]; exact Nat.ne_of_gt (blk_lt (g := gb174) (o := .cells #[.int .i64 t171, .int .i64 t172] 26 (0, 0)) (by (with_reducible repeat (first | refine blk_drewN ?_ _ | refine blk_drew ?_ | refine blk_alloc ?_ _)); exact BK174.out)) : gb178 ≠ gb174)); clear BK169; clear BK174; clear HB; have BK169 := n0_; have BK174 := n1_; have HB := n2_; have BK178 := n3_; have GW178 := n4_; have GE178 := n5_; have NB169_178 := n6_; have NB178_169 := n7_; have NB174_178 := n8_; have NB178_174 := n9_; clear n0_ n1_ n2_ n3_ n4_ n5_ n6_ n7_ n8_ n9_; clear hb hbox hg; have hnb35 := NB178_169.out; have hnc35 := NB169_178.out; have hnb36 := NB178_174.out; have hnc36 := NB174_178.out; have hcz37_0 : w34.cell? ⟨gb178, 0, none⟩ = some (.int .i64 0) := (blk_cell BK178.out 0).trans rfl; have hcz37_1 : w34.cell? ⟨gb178, 1, none⟩ = some (.int .i64 0) := (blk_cell BK178.out 1).trans rfl; have hfz37_0 := blk_frozen BK178.out 0; have hfz37_1 := blk_frozen BK178.out 1)); go_upto_region 12 with (first | (go_at_call 11; (with_reducible refine (view_Behind.calls kj17 _ _ l0 t166 t167 t175 t176 t177 _ ?side1 ?side2 A29.out).mono ?_); (case side1 => repeat (first | exact (Kd.C_below HR0.out HB.out) | (with_reducible refine Kd.C_alloc ?_ _) | (with_reducible refine Kd.C_drewN ?_ _) | (with_reducible refine Kd.C_drew ?_))); (case side2 => exact HC0.out); rintro e w33 ⟨rfl, hb⟩; have n0_ := Aside0.mk (blk_below (g := gb169) (o := .cells #[.int .i64 t166, .int .i64 t167] 26 (0, 0)) (by (with_reducible repeat (first | refine blk_drewN ?_ _ | refine blk_drew ?_ | refine blk_alloc ?_ _)); exact BK169.out) hb); have n1_ := Aside0.mk (blk_below (g := gb174) (o := .cells #[.int .i64 t171, .int .i64 t172] 26 (0, 0)) (by (with_reducible repeat (first | refine blk_drewN ?_ _ | refine blk_drew ?_ | refine blk_alloc ?_ _)); exact BK174.out) hb); have n2_ := Aside0.mk (below_step (by repeat (first | (with_reducible first | exact HB.out | apply below_alloc | apply pw_below_drewN | apply below_drew1 | refine below_set ?_ GE169.out | refine below_set ?_ GE174.out) | exact HB.out)) hb); clear BK169; clear BK174; clear HB; have BK169 := n0_; have BK174 := n1_; have HB := n2_; clear n0_ n1_ n2_; (try clear hb); (try clear hb2); (try clear hk); (try clear hi)) | ((with_reducible refine gate_dst (N := 8) rfl ?_); (try (refine gate_guard (by rfl) ?_; dsimp only)); refine box_event ?hg (N := 8) ?hd (cs := #[.int .i64 0, .int .i64 0]) (t := 26) ?hr ?_; (case hd => rfl); (case hg => rfl); (case hr => first | (go_simp; done) | (go_simp; rfl)); intro gb178 hg w34 hbox hb; have n0_ := Aside0.mk (blk_below (g := gb169) (o := .cells #[.int .i64 t166, .int .i64 t167] 26 (0, 0)) (by (with_reducible repeat (first | refine blk_drewN ?_ _ | refine blk_drew ?_ | refine blk_alloc ?_ _)); exact BK169.out) hb); have n1_ := Aside0.mk (blk_below (g := gb174) (o := .cells #[.int .i64 t171, .int .i64 t172] 26 (0, 0)) (by (with_reducible repeat (first | refine blk_drewN ?_ _ | refine blk_drew ?_ | refine blk_alloc ?_ _)); exact BK174.out) hb); have n2_ := Aside0.mk (below_step (by repeat (first | (with_reducible first | exact HB.out | apply below_alloc | apply pw_below_drewN | apply below_drew1 | refine below_set ?_ GE169.out | refine below_set ?_ GE174.out) | exact HB.out)) hb); have n3_ := Aside0.mk (hbox); have n4_ := Aside0.mk ((by rw [hg]; exact (below_size (by repeat (first | (with_reducible first | exact HB.out | apply below_alloc | apply pw_below_drewN | apply below_drew1 | refine below_set ?_ GE169.out | refine below_set ?_ GE174.out) | exact HB.out))) : w.heap.size ≤ gb178)); have n5_ := Aside0.mk ((by rw [hg]; exact (below_size (by repeat (first | (with_reducible first | exact HB.out | apply below_alloc | apply pw_below_drewN | apply below_drew1 | refine below_set ?_ GE169.out | refine below_set ?_ GE174.out) | exact HB.out))) : w.heap.size ≤ gb178)); have n6_ := Aside0.mk ((by rw [hg]; exact Nat.ne_of_lt (blk_lt (g := gb169) (o := .cells #[.int .i64 t166, .int .i64 t167] 26 (0, 0)) (by (with_reducible repeat (first | refine blk_drewN ?_ _ | refine blk_drew ?_ | refine blk_alloc ?_ _)); exact BK169.out)) : gb169 ≠ gb178)); have n7_ := Aside0.mk ((by rw [hg]; exact Nat.ne_of_gt (blk_lt (g := gb169) (o := .cells #[.int .i64 t166, .int .i64 t167] 26 (0, 0)) (by (with_reducible repeat (first | refine blk_drewN ?_ _ | refine blk_drew ?_ | refine blk_alloc ?_ _)); exact BK169.out)) : gb178 ≠ gb169)); have n8_ := Aside0.mk ((by rw [hg]; exact Nat.ne_of_lt (blk_lt (g := gb174) (o := .cells #[.int .i64 t171, .int .i64 t172] 26 (0, 0)) (by (with_reducible repeat (first | refine blk_drewN ?_ _ | refine blk_drew ?_ | refine blk_alloc ?_ _)); exact BK174.out)) : gb174 ≠ gb178)); have n9_ := Aside0.mk ((by rw [hg]; exact Nat.ne_of_gt (blk_lt (g := gb174) (o := .cells #[.int .i64 t171, .int .i64 t172] 26 (0, 0)) (by (with_reducible repeat (first | refine blk_drewN ?_ _ | refine blk_drew ?_ | refine blk_alloc ?_ _)); exact BK174.out)) : gb178 ≠ gb174)); clear BK169; clear BK174; clear HB; have BK169 := n0_; have BK174 := n1_; have HB := n2_; have BK178 := n3_; have GW178 := n4_; have GE178 := n5_; have NB169_178 := n6_; have NB178_169 := n7_; have NB174_178 := n8_; have NB178_174 := n9_; clear n0_ n1_ n2_ n3_ n4_ n5_ n6_ n7_ n8_ n9_; clear hb hbox hg; have hnb35 := NB178_169.out; have hnc35 := NB169_178.out; have hnb36 := NB178_174.out; have hnc36 := NB174_178.out; have hcz37_0 : w34.cell? ⟨gb178, 0, none⟩ = some (.int .i64 0) := (blk_cell BK178.out 0).trans rfl; have hcz37_1 : w34.cell? ⟨gb178, 1, none⟩ = some (.int .i64 0) := (blk_cell BK178.out 1).trans rfl; have hfz37_0 := blk_frozen BK178.out 0; have hfz37_1 := blk_frozen BK178.out 1)))
                        (try simp only [Act.put, List.setIfInBounds_toArray, List.set_cons_zero, List.set_cons_succ])
                        go_cut [76] (fun v76 wc => ∃ (kq : Nat) (x76_29 : Bool), v76 = .bool x76_29 ∧ Aside0 (lockgatelaw16_ViewNeighbours.j3 kq l0 x3_2 t173 x76_29 t171 t172 = some r) ∧ Aside0 (kq ≤ kj17) ∧ Aside0 (wc.heap[gb169]? = some (.cells #[.int .i64 t166, .int .i64 t167] 26 (0, 0))) ∧ Aside0 (wc.heap[gb174]? = some (.cells #[.int .i64 t171, .int .i64 t172] 26 (0, 0))) ∧ Aside0 (wc.heap[gb178]? = some (.cells #[.int .i64 t175, .int .i64 t176] 26 (0, 0))) ∧ Aside0 (Below w.heap.size w wc))
                        case first =>
                          have H := HC30.out
                          clear HC30
                          by_cases c38 : t177 = true
                          · subst c38
                            have H1 : (if 0 ≤ x3_2 then (if x3_2 < (l0.length : Int) then (lockgatelaw16_ViewNeighbours.j3 kj17 l0 x3_2 t173 (!(t175 == ((rd_T26 l0 x3_2).f0)) || (!(t176 == ((rd_T26 l0 x3_2).f1)))) t171 t172) else (none)) else (none)) = some r := by rw [if_pos rfl] at H; exact H
                            clear H
                            have H := H1
                            clear H1
                            by_cases c39 : 0 ≤ x3_2
                            · rw [if_pos c39] at H
                              have c39b0 : decide (0 ≤ x3_2) = true := decide_eq_true c39
                              clear c39
                              (first | rw [c39b0] | (simp only [i64_w, i32_w]; rw [c39b0]) | skip)
                              by_cases c40 : x3_2 < (l0.length : Int)
                              · rw [if_pos c40] at H
                                have c40b0 : decide (x3_2 < (l0.length : Int)) = true := decide_eq_true c40
                                clear c40
                                have H' := Aside0.mk H
                                clear H
                                have hnb41 := NB178_169.out
                                have hnc41 := NB169_178.out
                                have hnb42 := NB178_174.out
                                have hnc42 := NB174_178.out
                                have hcz43_0 : w34.cell? ⟨gb178, 0, none⟩ = some (.int .i64 0) := (blk_cell BK178.out 0).trans rfl
                                have hcz43_1 : w34.cell? ⟨gb178, 1, none⟩ = some (.int .i64 0) := (blk_cell BK178.out 1).trans rfl
                                have hfz43_0 := blk_frozen BK178.out 0
                                have hfz43_1 := blk_frozen BK178.out 1
                                have p179 : 0 ≤ (x3_2 : Int) := of_decide_eq_true (by first | (with_reducible assumption) | assumption)
                                have q179 : x3_2 < (l0.length : Int) := of_decide_eq_true (by first | (with_reducible assumption) | assumption)
                                obtain ⟨ad179, e179, hx179_0, hx179_1⟩ := at_T26 HR0.out x3_2 p179 q179
                                obtain rfl : ad165 = ad179 := (by injection e179)
                                have hn179_0 : ad165.block ≠ gb178 := Nat.ne_of_lt (Nat.lt_of_lt_of_le (by have := World.block_lt_of_cell? _ _ hx179_0; first | rwa [add_block] at this | exact this) GW178.out)
                                have hn179_1 : ad165.block ≠ gb178 := Nat.ne_of_lt (Nat.lt_of_lt_of_le (by have := World.block_lt_of_cell? _ _ hx179_0; first | rwa [add_block] at this | exact this) GW178.out)
                                replace hx179_0 := (HB.out.cell (World.block_lt_of_cell? w _ hx179_0)).trans hx179_0
                                replace hx179_1 := (HB.out.cell (World.block_lt_of_cell? w _ hx179_1)).trans hx179_1
                                replace hx179_0 := (cell_far (p := ⟨gb178, 0, none⟩) (by first | (rw [add_block]; exact hn179_0) | (show (Addr.add _ _).block ≠ _; rw [add_block]; exact hn179_0) | exact hn179_0) (.int .i64 t175)).trans hx179_0
                                replace hx179_1 := (cell_far (p := ⟨gb178, 0, none⟩) (by first | (rw [add_block]; exact hn179_0) | (show (Addr.add _ _).block ≠ _; rw [add_block]; exact hn179_0) | exact hn179_0) (.int .i64 t175)).trans hx179_1
                                replace hx179_0 := (cell_far (p := ⟨gb178, 1, none⟩) (by first | (rw [add_block]; exact hn179_1) | (show (Addr.add _ _).block ≠ _; rw [add_block]; exact hn179_1) | exact hn179_1) (.int .i64 t176)).trans hx179_0
                                replace hx179_1 := (cell_far (p := ⟨gb178, 1, none⟩) (by first | (rw [add_block]; exact hn179_1) | (show (Addr.add _ _).block ≠ _; rw [add_block]; exact hn179_1) | exact hn179_1) (.int .i64 t176)).trans hx179_1
                                (try have hy179_0 := fun (n_ : Nat) => (show ((((w34.drewN n_).setCell ⟨gb178, 0, none⟩ (.int .i64 t175)).setCell ⟨gb178, 1, none⟩ (.int .i64 t176))).cell? _ = some _ from hx179_0))
                                (try have hy179_1 := fun (n_ : Nat) => (show ((((w34.drewN n_).setCell ⟨gb178, 0, none⟩ (.int .i64 t175)).setCell ⟨gb178, 1, none⟩ (.int .i64 t176))).cell? _ = some _ from hx179_1))
                                clear hn179_0
                                clear hn179_1
                                replace p179 := eq_true p179
                                replace q179 := eq_true q179
                                go_wp2
                                repeat (go_quiet (fail); try go_wp2)
                                go_meet
                                case rel => exact ⟨_, ((!(t175 == ((rd_T26 l0 x3_2).f0)) || (!(t176 == ((rd_T26 l0 x3_2).f1))))), (by first | rfl | (simp; done) | (simp [*]; done)), H', ⟨by have := HJ1.out; have := HK2.out; have := HJ17.out; first | omega | exact Nat.le_refl _⟩, ⟨by (with_reducible repeat (first | refine blk_drewN ?_ _ | refine blk_drew ?_ | refine blk_alloc ?_ _)); refine blk_far ?_ NB169_178.out _; (with_reducible repeat (first | refine blk_drewN ?_ _ | refine blk_drew ?_ | refine blk_alloc ?_ _)); refine blk_far ?_ NB169_178.out _; (with_reducible repeat (first | refine blk_drewN ?_ _ | refine blk_drew ?_ | refine blk_alloc ?_ _)); exact BK169.out⟩, ⟨by (with_reducible repeat (first | refine blk_drewN ?_ _ | refine blk_drew ?_ | refine blk_alloc ?_ _)); refine blk_far ?_ NB174_178.out _; (with_reducible repeat (first | refine blk_drewN ?_ _ | refine blk_drew ?_ | refine blk_alloc ?_ _)); refine blk_far ?_ NB174_178.out _; (with_reducible repeat (first | refine blk_drewN ?_ _ | refine blk_drew ?_ | refine blk_alloc ?_ _)); exact BK174.out⟩, ⟨by (with_reducible repeat (first | refine blk_drewN ?_ _ | refine blk_drew ?_ | refine blk_alloc ?_ _)); refine blk_put (cs := #[.int .i64 t175, .int .i64 0]) ?_ 1 _ rfl; (with_reducible repeat (first | refine blk_drewN ?_ _ | refine blk_drew ?_ | refine blk_alloc ?_ _)); refine blk_put (cs := #[.int .i64 0, .int .i64 0]) ?_ 0 _ rfl; (with_reducible repeat (first | refine blk_drewN ?_ _ | refine blk_drew ?_ | refine blk_alloc ?_ _)); exact BK178.out⟩, ⟨by repeat (first | (with_reducible first | exact HB.out | apply below_alloc | apply pw_below_drewN | apply below_drew1 | refine below_set ?_ GE169.out | refine below_set ?_ GE174.out | refine below_set ?_ GE178.out) | exact HB.out)⟩⟩
                              · rw [if_neg c40] at H
                                exact absurd H (by simp)
                            · rw [if_neg c39] at H
                              exact absurd H (by simp)
                          · replace c38 := Bool.eq_false_iff.mpr c38
                            subst c38
                            have H1 : (lockgatelaw16_ViewNeighbours.j3 kj17 l0 x3_2 t173 true t171 t172) = some r := by rw [if_neg (show ¬ (false = true) by decide)] at H; exact H
                            clear H
                            have H := H1
                            clear H1
                            have H' := Aside0.mk H
                            clear H
                            go_wp2
                            repeat (go_quiet (fail); try go_wp2)
                            go_meet
                            case rel => exact ⟨_, (true), (by first | rfl | (simp; done) | (simp [*]; done)), H', ⟨by have := HJ1.out; have := HK2.out; have := HJ17.out; first | omega | exact Nat.le_refl _⟩, ⟨by (with_reducible repeat (first | refine blk_drewN ?_ _ | refine blk_drew ?_ | refine blk_alloc ?_ _)); refine blk_far ?_ NB169_178.out _; (with_reducible repeat (first | refine blk_drewN ?_ _ | refine blk_drew ?_ | refine blk_alloc ?_ _)); refine blk_far ?_ NB169_178.out _; (with_reducible repeat (first | refine blk_drewN ?_ _ | refine blk_drew ?_ | refine blk_alloc ?_ _)); exact BK169.out⟩, ⟨by (with_reducible repeat (first | refine blk_drewN ?_ _ | refine blk_drew ?_ | refine blk_alloc ?_ _)); refine blk_far ?_ NB174_178.out _; (with_reducible repeat (first | refine blk_drewN ?_ _ | refine blk_drew ?_ | refine blk_alloc ?_ _)); refine blk_far ?_ NB174_178.out _; (with_reducible repeat (first | refine blk_drewN ?_ _ | refine blk_drew ?_ | refine blk_alloc ?_ _)); exact BK174.out⟩, ⟨by (with_reducible repeat (first | refine blk_drewN ?_ _ | refine blk_drew ?_ | refine blk_alloc ?_ _)); refine blk_put (cs := #[.int .i64 t175, .int .i64 0]) ?_ 1 _ rfl; (with_reducible repeat (first | refine blk_drewN ?_ _ | refine blk_drew ?_ | refine blk_alloc ?_ _)); refine blk_put (cs := #[.int .i64 0, .int .i64 0]) ?_ 0 _ rfl; (with_reducible repeat (first | refine blk_drewN ?_ _ | refine blk_drew ?_ | refine blk_alloc ?_ _)); exact BK178.out⟩, ⟨by repeat (first | (with_reducible first | exact HB.out | apply below_alloc | apply pw_below_drewN | apply below_drew1 | refine below_set ?_ GE169.out | refine below_set ?_ GE174.out | refine below_set ?_ GE178.out) | exact HB.out)⟩⟩
                        case rest =>
                          clear HC30
                          try clear c1
                          try clear p1
                          try clear q1
                          try clear hx1
                          try clear c2
                          try clear p2
                          try clear c3
                          try clear c4
                          try clear c5
                          try clear c5b0
                          try clear c5b1
                          try clear p6
                          try clear c11
                          try clear c14
                          try clear c14b0
                          try clear c15
                          try clear c15b0
                          try clear p16
                          try clear q16
                          try clear hx16
                          try clear p17
                          try clear q17
                          try clear hx17
                          try clear c24
                          try clear c26
                          try clear c26b0
                          try clear c26b1
                          try clear c26b2
                          try clear c27
                          try clear c28
                          try clear c31
                          try clear c35
                          try clear c36
                          try clear c38
                          try clear c39
                          try clear c39b0
                          try clear c40
                          try clear c40b0
                          try clear c41
                          try clear c42
                          try clear hcz21_0
                          try clear hcz21_1
                          try clear hcz25_0
                          try clear hcz25_1
                          try clear hcz32_0
                          try clear hcz32_1
                          try clear hcz37_0
                          try clear hcz37_1
                          try clear hcz43_0
                          try clear hcz43_1
                          try clear hfz21_0
                          try clear hfz21_1
                          try clear hfz25_0
                          try clear hfz25_1
                          try clear hfz32_0
                          try clear hfz32_1
                          try clear hfz37_0
                          try clear hfz37_1
                          try clear hfz43_0
                          try clear hfz43_1
                          try clear hx165_0
                          try clear hx165_1
                          try clear hx170_0
                          try clear hx170_1
                          try clear hx179_0
                          try clear hx179_1
                          try clear p1
                          try clear p16
                          try clear p165
                          try clear p17
                          try clear p170
                          try clear p179
                          try clear p2
                          try clear p6
                          try clear q1
                          try clear q16
                          try clear q165
                          try clear q17
                          try clear q170
                          try clear q179
                          obtain ⟨kq, x76_29, rfl, HA, HJ29, BK169, BK174, BK178, HB⟩ := hcut
                          cases kq with
                          | zero => exact absurd HA.out (by simp [lockgatelaw16_ViewNeighbours.j3])
                          | succ kj29 =>
                            have H := HA.out
                            clear HA
                            simp only [lockgatelaw16_ViewNeighbours.j3] at H
                            by_cases c44 : x76_29 = true
                            · subst c44
                              have H1 : (some false) = some r := by rw [if_pos rfl] at H; exact H
                              clear H
                              have H := H1
                              clear H1
                              obtain rfl := Option.some.inj H
                              go_wp2
                              repeat (go_quiet (fail); try go_wp2)
                              go_ret
                              exact ⟨by first | rfl | (simp [errW_none, errW_some] <;> rfl) | (simp [*, errW_none, errW_some] <;> rfl), by repeat (first | (with_reducible first | exact HB.out | apply below_alloc | apply pw_below_drewN | apply below_drew1 | refine below_set ?_ GE169.out | refine below_set ?_ GE174.out | refine below_set ?_ GE178.out) | exact HB.out)⟩
                            · replace c44 := Bool.eq_false_iff.mpr c44
                              subst c44
                              have H1 : (if t173 = true then (if 0 ≤ (wrap64 (x3_2 + 1)) then (if (wrap64 (x3_2 + 1)) < (l0.length : Int) then (if (!(t171 == ((rd_T26 l0 (wrap64 (x3_2 + 1))).f0)) || (!(t172 == ((rd_T26 l0 (wrap64 (x3_2 + 1))).f1)))) = true then (some false) else (lockgatelaw16_ViewNeighbours.l0 kj29 l0 (wrap64 (x3_2 + 1)))) else (none)) else (none)) else (lockgatelaw16_ViewNeighbours.l0 kj29 l0 (wrap64 (x3_2 + 1)))) = some r := by rw [if_neg (show ¬ (false = true) by decide)] at H; exact H
                              clear H
                              have H := H1
                              clear H1
                              by_cases c45 : t173 = true
                              · subst c45
                                have H1 : (if 0 ≤ (wrap64 (x3_2 + 1)) then (if (wrap64 (x3_2 + 1)) < (l0.length : Int) then (if (!(t171 == ((rd_T26 l0 (wrap64 (x3_2 + 1))).f0)) || (!(t172 == ((rd_T26 l0 (wrap64 (x3_2 + 1))).f1)))) = true then (some false) else (lockgatelaw16_ViewNeighbours.l0 kj29 l0 (wrap64 (x3_2 + 1)))) else (none)) else (none)) = some r := by rw [if_pos rfl] at H; exact H
                                clear H
                                have H := H1
                                clear H1
                                obtain ⟨ji46, hji46⟩ : ∃ j_ : Int, (wrap64 (x3_2 + 1)) = j_ := ⟨_, rfl⟩
                                replace H : (if 0 ≤ (ji46) then (if (ji46) < (l0.length : Int) then (if (!(t171 == ((rd_T26 l0 (ji46)).f0)) || (!(t172 == ((rd_T26 l0 (ji46)).f1)))) = true then (some false) else (lockgatelaw16_ViewNeighbours.l0 kj29 l0 ji46)) else (none)) else (none)) = some r := by first | (rw [hji46] at H; exact H) | (simp only [hji46] at H ⊢; exact H)
                                have hji46w : (IntKind.i64.wrap (x3_2 + 1)) = ji46 := (i64_w _).trans hji46
                                by_cases c47 : 0 ≤ (ji46)
                                · rw [if_pos c47] at H
                                  have c47b0 : decide (0 ≤ (ji46)) = true := decide_eq_true c47
                                  clear c47
                                  by_cases c48 : (ji46) < (l0.length : Int)
                                  · rw [if_pos c48] at H
                                    have c48b0 : decide ((ji46) < (l0.length : Int)) = true := decide_eq_true c48
                                    clear c48
                                    by_cases c49 : (!(t171 == ((rd_T26 l0 (ji46)).f0)) || (!(t172 == ((rd_T26 l0 (ji46)).f1)))) = true
                                    · rw [if_pos c49] at H
                                      have c49b0 : (!(t171 == ((rd_T26 l0 (ji46)).f0)) || (!(t172 == ((rd_T26 l0 (ji46)).f1)))) = true := c49
                                      clear c49
                                      obtain rfl := Option.some.inj H
                                      have hnb50 := NB174_169.out
                                      have hnc50 := NB169_174.out
                                      have hnb51 := NB174_178.out
                                      have hnc51 := NB178_174.out
                                      have hcz52_0 : wc.cell? ⟨gb174, 0, none⟩ = some (.int .i64 t171) := (blk_cell BK174.out 0).trans rfl
                                      have hcz52_1 : wc.cell? ⟨gb174, 1, none⟩ = some (.int .i64 t172) := (blk_cell BK174.out 1).trans rfl
                                      have hfz52_0 := blk_frozen BK174.out 0
                                      have hfz52_1 := blk_frozen BK174.out 1
                                      have p180 : 0 ≤ ((ji46) : Int) := of_decide_eq_true (by first | (with_reducible assumption) | assumption)
                                      have q180 : (ji46) < (l0.length : Int) := of_decide_eq_true (by first | (with_reducible assumption) | assumption)
                                      obtain ⟨ad180, e180, hx180_0, hx180_1⟩ := at_T26 HR0.out (ji46) p180 q180
                                      obtain rfl : ad165 = ad180 := (by injection e180)
                                      replace hx180_0 := (HB.out.cell (World.block_lt_of_cell? w _ hx180_0)).trans hx180_0
                                      replace hx180_1 := (HB.out.cell (World.block_lt_of_cell? w _ hx180_1)).trans hx180_1
                                      replace p180 := eq_true p180
                                      replace q180 := eq_true q180
                                      go_wp2
                                      repeat (go_quiet (fail); try go_wp2)
                                      go_ret
                                      exact ⟨by first | rfl | (simp [errW_none, errW_some] <;> rfl) | (simp only [← hji46]; first | rfl | (simp [errW_none, errW_some] <;> rfl)) | (simp [*, errW_none, errW_some] <;> rfl), by repeat (first | (with_reducible first | exact HB.out | apply below_alloc | apply pw_below_drewN | apply below_drew1 | refine below_set ?_ GE169.out | refine below_set ?_ GE174.out | refine below_set ?_ GE178.out) | exact HB.out)⟩
                                    · rw [if_neg c49] at H
                                      have c49b0 : (!(t171 == ((rd_T26 l0 (ji46)).f0)) || (!(t172 == ((rd_T26 l0 (ji46)).f1)))) = false := by simpa using c49
                                      clear c49
                                      have H' := Aside0.mk H
                                      clear H
                                      have hnb53 := NB174_169.out
                                      have hnc53 := NB169_174.out
                                      have hnb54 := NB174_178.out
                                      have hnc54 := NB178_174.out
                                      have hcz55_0 : wc.cell? ⟨gb174, 0, none⟩ = some (.int .i64 t171) := (blk_cell BK174.out 0).trans rfl
                                      have hcz55_1 : wc.cell? ⟨gb174, 1, none⟩ = some (.int .i64 t172) := (blk_cell BK174.out 1).trans rfl
                                      have hfz55_0 := blk_frozen BK174.out 0
                                      have hfz55_1 := blk_frozen BK174.out 1
                                      have p180 : 0 ≤ ((ji46) : Int) := of_decide_eq_true (by first | (with_reducible assumption) | assumption)
                                      have q180 : (ji46) < (l0.length : Int) := of_decide_eq_true (by first | (with_reducible assumption) | assumption)
                                      obtain ⟨ad180, e180, hx180_0, hx180_1⟩ := at_T26 HR0.out (ji46) p180 q180
                                      obtain rfl : ad165 = ad180 := (by injection e180)
                                      replace hx180_0 := (HB.out.cell (World.block_lt_of_cell? w _ hx180_0)).trans hx180_0
                                      replace hx180_1 := (HB.out.cell (World.block_lt_of_cell? w _ hx180_1)).trans hx180_1
                                      replace p180 := eq_true p180
                                      replace q180 := eq_true q180
                                      go_wp2
                                      repeat (go_quiet (fail); try go_wp2)
                                      go_roundg kj29
                                      case measure => have := HJ1.out; have := HK2.out; have := HJ17.out; have := HJ29.out; omega
                                      case rel => exact ⟨(ji46), (by first | rfl | (simp; done) | (simp only [← hji46] <;> (first | rfl | simp)) | (simp [*]; done)), H', ⟨by have := HJ1.out; have := HK2.out; have := HJ17.out; have := HJ29.out; omega⟩, ⟨by repeat (first | (with_reducible first | exact HB.out | apply below_alloc | apply pw_below_drewN | apply below_drew1 | refine below_set ?_ GE169.out | refine below_set ?_ GE174.out | refine below_set ?_ GE178.out) | exact HB.out)⟩⟩
                                  · rw [if_neg c48] at H
                                    exact absurd H (by simp)
                                · rw [if_neg c47] at H
                                  exact absurd H (by simp)
                              · replace c45 := Bool.eq_false_iff.mpr c45
                                subst c45
                                have H1 : (lockgatelaw16_ViewNeighbours.l0 kj29 l0 (wrap64 (x3_2 + 1))) = some r := by rw [if_neg (show ¬ (false = true) by decide)] at H; exact H
                                clear H
                                have H := H1
                                clear H1
                                have H' := Aside0.mk H
                                clear H
                                go_wp2
                                repeat (go_quiet (fail); try go_wp2)
                                go_roundg kj29
                                case measure => have := HJ1.out; have := HK2.out; have := HJ17.out; have := HJ29.out; omega
                                case rel => exact ⟨(wrap64 (x3_2 + 1)), (by first | rfl | (simp; done) | (simp [*]; done)), H', ⟨by have := HJ1.out; have := HK2.out; have := HJ17.out; have := HJ29.out; omega⟩, ⟨by repeat (first | (with_reducible first | exact HB.out | apply below_alloc | apply pw_below_drewN | apply below_drew1 | refine below_set ?_ GE169.out | refine below_set ?_ GE174.out | refine below_set ?_ GE178.out) | exact HB.out)⟩⟩
                      · replace c28 := Bool.eq_false_iff.mpr c28
                        subst c28
                        have H1 : (if t173 = true then (if 0 ≤ (wrap64 (x3_2 + 1)) then (if (wrap64 (x3_2 + 1)) < (l0.length : Int) then (if (!(t171 == ((rd_T26 l0 (wrap64 (x3_2 + 1))).f0)) || (!(t172 == ((rd_T26 l0 (wrap64 (x3_2 + 1))).f1)))) = true then (some false) else (lockgatelaw16_ViewNeighbours.l0 kj17 l0 (wrap64 (x3_2 + 1)))) else (none)) else (none)) else (lockgatelaw16_ViewNeighbours.l0 kj17 l0 (wrap64 (x3_2 + 1)))) = some r := by rw [if_neg (show ¬ (false = true) by decide)] at H; exact H
                        clear H
                        have H := H1
                        clear H1
                        by_cases c56 : t173 = true
                        · subst c56
                          have H1 : (if 0 ≤ (wrap64 (x3_2 + 1)) then (if (wrap64 (x3_2 + 1)) < (l0.length : Int) then (if (!(t171 == ((rd_T26 l0 (wrap64 (x3_2 + 1))).f0)) || (!(t172 == ((rd_T26 l0 (wrap64 (x3_2 + 1))).f1)))) = true then (some false) else (lockgatelaw16_ViewNeighbours.l0 kj17 l0 (wrap64 (x3_2 + 1)))) else (none)) else (none)) = some r := by rw [if_pos rfl] at H; exact H
                          clear H
                          have H := H1
                          clear H1
                          obtain ⟨ji57, hji57⟩ : ∃ j_ : Int, (wrap64 (x3_2 + 1)) = j_ := ⟨_, rfl⟩
                          replace H : (if 0 ≤ (ji57) then (if (ji57) < (l0.length : Int) then (if (!(t171 == ((rd_T26 l0 (ji57)).f0)) || (!(t172 == ((rd_T26 l0 (ji57)).f1)))) = true then (some false) else (lockgatelaw16_ViewNeighbours.l0 kj17 l0 ji57)) else (none)) else (none)) = some r := by first | (rw [hji57] at H; exact H) | (simp only [hji57] at H ⊢; exact H)
                          have hji57w : (IntKind.i64.wrap (x3_2 + 1)) = ji57 := (i64_w _).trans hji57
                          by_cases c58 : 0 ≤ (ji57)
                          · rw [if_pos c58] at H
                            have c58b0 : decide (0 ≤ (ji57)) = true := decide_eq_true c58
                            clear c58
                            by_cases c59 : (ji57) < (l0.length : Int)
                            · rw [if_pos c59] at H
                              have c59b0 : decide ((ji57) < (l0.length : Int)) = true := decide_eq_true c59
                              clear c59
                              by_cases c60 : (!(t171 == ((rd_T26 l0 (ji57)).f0)) || (!(t172 == ((rd_T26 l0 (ji57)).f1)))) = true
                              · rw [if_pos c60] at H
                                have c60b0 : (!(t171 == ((rd_T26 l0 (ji57)).f0)) || (!(t172 == ((rd_T26 l0 (ji57)).f1)))) = true := c60
                                clear c60
                                obtain rfl := Option.some.inj H
                                have hnb61 := NB174_169.out
                                have hnc61 := NB169_174.out
                                have hcz62_0 : wc.cell? ⟨gb174, 0, none⟩ = some (.int .i64 t171) := (blk_cell BK174.out 0).trans rfl
                                have hcz62_1 : wc.cell? ⟨gb174, 1, none⟩ = some (.int .i64 t172) := (blk_cell BK174.out 1).trans rfl
                                have hfz62_0 := blk_frozen BK174.out 0
                                have hfz62_1 := blk_frozen BK174.out 1
                                have p181 : 0 ≤ ((ji57) : Int) := of_decide_eq_true (by first | (with_reducible assumption) | assumption)
                                have q181 : (ji57) < (l0.length : Int) := of_decide_eq_true (by first | (with_reducible assumption) | assumption)
                                obtain ⟨ad181, e181, hx181_0, hx181_1⟩ := at_T26 HR0.out (ji57) p181 q181
                                obtain rfl : ad165 = ad181 := (by injection e181)
                                replace hx181_0 := (HB.out.cell (World.block_lt_of_cell? w _ hx181_0)).trans hx181_0
                                replace hx181_1 := (HB.out.cell (World.block_lt_of_cell? w _ hx181_1)).trans hx181_1
                                replace p181 := eq_true p181
                                replace q181 := eq_true q181
                                go_wp2
                                repeat (go_quiet (fail); try go_wp2)
                                go_ret
                                exact ⟨by first | rfl | (simp [errW_none, errW_some] <;> rfl) | (simp only [← hji57]; first | rfl | (simp [errW_none, errW_some] <;> rfl)) | (simp [*, errW_none, errW_some] <;> rfl), by repeat (first | (with_reducible first | exact HB.out | apply below_alloc | apply pw_below_drewN | apply below_drew1 | refine below_set ?_ GE169.out | refine below_set ?_ GE174.out) | exact HB.out)⟩
                              · rw [if_neg c60] at H
                                have c60b0 : (!(t171 == ((rd_T26 l0 (ji57)).f0)) || (!(t172 == ((rd_T26 l0 (ji57)).f1)))) = false := by simpa using c60
                                clear c60
                                have H' := Aside0.mk H
                                clear H
                                have hnb63 := NB174_169.out
                                have hnc63 := NB169_174.out
                                have hcz64_0 : wc.cell? ⟨gb174, 0, none⟩ = some (.int .i64 t171) := (blk_cell BK174.out 0).trans rfl
                                have hcz64_1 : wc.cell? ⟨gb174, 1, none⟩ = some (.int .i64 t172) := (blk_cell BK174.out 1).trans rfl
                                have hfz64_0 := blk_frozen BK174.out 0
                                have hfz64_1 := blk_frozen BK174.out 1
                                have p181 : 0 ≤ ((ji57) : Int) := of_decide_eq_true (by first | (with_reducible assumption) | assumption)
                                have q181 : (ji57) < (l0.length : Int) := of_decide_eq_true (by first | (with_reducible assumption) | assumption)
                                obtain ⟨ad181, e181, hx181_0, hx181_1⟩ := at_T26 HR0.out (ji57) p181 q181
                                obtain rfl : ad165 = ad181 := (by injection e181)
                                replace hx181_0 := (HB.out.cell (World.block_lt_of_cell? w _ hx181_0)).trans hx181_0
                                replace hx181_1 := (HB.out.cell (World.block_lt_of_cell? w _ hx181_1)).trans hx181_1
                                replace p181 := eq_true p181
                                replace q181 := eq_true q181
                                go_wp2
                                repeat (go_quiet (fail); try go_wp2)
                                go_roundg kj17
                                case measure => have := HJ1.out; have := HK2.out; have := HJ17.out; omega
                                case rel => exact ⟨(ji57), (by first | rfl | (simp; done) | (simp only [← hji57] <;> (first | rfl | simp)) | (simp [*]; done)), H', ⟨by have := HJ1.out; have := HK2.out; have := HJ17.out; omega⟩, ⟨by repeat (first | (with_reducible first | exact HB.out | apply below_alloc | apply pw_below_drewN | apply below_drew1 | refine below_set ?_ GE169.out | refine below_set ?_ GE174.out) | exact HB.out)⟩⟩
                            · rw [if_neg c59] at H
                              exact absurd H (by simp)
                          · rw [if_neg c58] at H
                            exact absurd H (by simp)
                        · replace c56 := Bool.eq_false_iff.mpr c56
                          subst c56
                          have H1 : (lockgatelaw16_ViewNeighbours.l0 kj17 l0 (wrap64 (x3_2 + 1))) = some r := by rw [if_neg (show ¬ (false = true) by decide)] at H; exact H
                          clear H
                          have H := H1
                          clear H1
                          have H' := Aside0.mk H
                          clear H
                          go_wp2
                          repeat (go_quiet (fail); try go_wp2)
                          go_roundg kj17
                          case measure => have := HJ1.out; have := HK2.out; have := HJ17.out; omega
                          case rel => exact ⟨(wrap64 (x3_2 + 1)), (by first | rfl | (simp; done) | (simp [*]; done)), H', ⟨by have := HJ1.out; have := HK2.out; have := HJ17.out; omega⟩, ⟨by repeat (first | (with_reducible first | exact HB.out | apply below_alloc | apply pw_below_drewN | apply below_drew1 | refine below_set ?_ GE169.out | refine below_set ?_ GE174.out) | exact HB.out)⟩⟩
              · rw [if_neg c15] at H
                exact absurd H (by simp)
            · rw [if_neg c14] at H
              have c14b0 : decide (x3_2 < (l0.length : Int)) = false := decide_eq_false c14
              clear c14
              obtain rfl := Option.some.inj H
              go_wp2
              repeat (go_quiet (fail); try go_wp2)
              go_ret
              exact ⟨by first | rfl | (simp [errW_none, errW_some] <;> rfl) | (simp [*, errW_none, errW_some] <;> rfl), by repeat (first | (with_reducible first | exact HB.out | apply below_alloc | apply pw_below_drewN | apply below_drew1) | exact HB.out)⟩

-- NOT PRINTED: function 8 (view_Live)

-- NOT PRINTED: function 3 (lockgatelaw16_ViewLive)

end Go.Proofs.Yteipphlhbhahfaa.PView
