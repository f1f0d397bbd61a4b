-- Written for this claim by the session's own driver of the kit's printer (mprint.py).
import Derived.Test.YtaphejpphlcchaaPNetx0
import Derived.Test.YtaphejpphlcchaaPNetx1
import Derived.Test.YtaphejpphlcchaaPNetx2
namespace Go.Proofs.Ytaphejpphlcchaa.PNet
open Go.RowKit Go.Proofs.YtaphejpphlcchaaW.PrintWords Go.Proofs.YtaphejpphlcchaaW.PrintLast Go.Proofs.YtaphejpphlcchaaW.PrintMore
attribute [local go_sem] max2_int min2_int max_two min_two max_three min_three max_four min_four   -- for this text's walks alone
set_option linter.unusedVariables false
set_option linter.unusedSimpArgs false

/-! ### lockgateref11_without: function 24 -/
def lockgateref11_without.l0 : Nat → Int → Int → Int → List (S29) → Int → List (S29) → Option (Int × (List (S29)))
  | 0, _, _, _, _, _, _ => none
  | k + 1, x1, x6, x215000, x215001, x217000, x217001 => if x6 < (x215001.length : Int) then (if x6 = x1 then (lockgateref11_without.l0 k x1 (wrap64 (x6 + 1)) x215000 x215001 x217000 x217001) else (if 0 ≤ x6 then (if x217001.length < 3518437208883 then (lockgateref11_without.l0 k x1 (wrap64 (x6 + 1)) x215000 x215001 x217000 (x217001 ++ [(⟨(rd_T29 x215001 x6).f0, (rd_T29 x215001 x6).f1, (rd_T29 x215001 x6).f2⟩ : S29)])) else (none)) else (none))) else (some (x217000, x217001))
def lockgateref11_without.f (k : Nat) (a0_0 : Int) (l0_1 : List (S29)) (a1 : Int) : Option (Int × (List (S29))) := lockgateref11_without.l0 k a1 0 a0_0 l0_1 a0_0 ([] : List (S29))
theorem lockgateref11_without.mono_l : ∀ k, (∀ y0 y1 y2 y3 y4 y5, LeO (lockgateref11_without.l0 k y0 y1 y2 y3 y4 y5) (lockgateref11_without.l0 (k + 1) y0 y1 y2 y3 y4 y5))
  | 0 => fun _ _ _ _ _ _ r h => by simp [lockgateref11_without.l0] at h
  | k + 1 => by
    have ih0 := lockgateref11_without.mono_l k
    · intro y0 y1 y2 y3 y4 y5
      unfold lockgateref11_without.l0
      repeat' first
      | (with_reducible exact ih0 _ _ _ _ _ _)
      | (with_reducible exact LeO.refl _)
      | (with_reducible exact LeO.none _)
      | (with_reducible refine LeO.ite ?_ ?_)
      | (with_reducible refine LeO.bind ?_ (fun _ => ?_))
      | exact ih0 _ _ _ _ _ _
      | exact LeO.none _
      | refine LeO.ite ?_ ?_
      | refine LeO.bind ?_ (fun _ => ?_)
theorem lockgateref11_without.mono : ∀ a0 a1 a2 k, LeO (lockgateref11_without.f k a0 a1 a2) (lockgateref11_without.f (k + 1) a0 a1 a2) := by
  intro a0 a1 a2 k
  have ih0 := lockgateref11_without.mono_l k
  unfold lockgateref11_without.f
  repeat' first
      | (with_reducible exact ih0 _ _ _ _ _ _)
      | (with_reducible exact LeO.refl _)
      | (with_reducible exact LeO.none _)
      | (with_reducible refine LeO.ite ?_ ?_)
      | (with_reducible refine LeO.bind ?_ (fun _ => ?_))
      | exact ih0 _ _ _ _ _ _
      | exact LeO.none _
      | refine LeO.ite ?_ ?_
      | refine LeO.bind ?_ (fun _ => ?_)
def lockgateref11_without.T6 : Bool × List (List Nat × List Nat) := (true, [([], []), ([0], [0]), ([], []), ([2], [2]), ([], []), ([3, 4], [3, 4]), ([5], [5]), ([6], [6]), ([1, 7], [1, 7]), ([0, 1, 2, 3, 4, 5, 6, 7, 8], []), ([9, 8, 8, 0, 1, 2, 3, 4, 5, 6, 7, 8], [8, 9])])
def lockgateref11_without.B6 : List Nat := [0, 1, 0, 4, 0, 28, 60, 124, 255, 511, 1023]
theorem lockgateref11_without.tab6 : rtab .any (opsOf Try.f24 6) = lockgateref11_without.T6 := by kernel_rfl
theorem lockgateref11_without.bits6 : waitsOk lockgateref11_without.T6.2 lockgateref11_without.B6 = true := by kernel_rfl
set_option maxHeartbeats 8000000 in
set_option maxRecDepth 100000 in
theorem lockgateref11_without.calls (k : Nat) (a0_0 : Int) (P0_1_ : Nat → Prop) (A0_1 : Option Addr) (c0_1 : Nat) (l0_1 : List (S29)) (a1 : Int) (r1 : Int) (r2 : List (S29)) (w : World) (hs0_1 : Kd.V k29 29 w w.heap.size (fun k_ => P0_1_ k_) (.slice A0_1 l0_1.length c0_1) l0_1) (h : lockgateref11_without.f k a0_0 l0_1 a1 = some (r1, r2)) :
    Calls Try.prog 24 #[.agg #[.int .i64 a0_0, .slice A0_1 l0_1.length c0_1], .int .i64 a1] w fun e w' => ∃ v1_ : Value, e = .returned (.agg #[.int .i64 r1, v1_]) ∧ Kd.N k29 29 w' w.heap.size (fun k_ => (P0_1_ k_ ∨ w.heap.size ≤ k_)) v1_ r2 ∧ Below w.heap.size w w' := by
  have hu24 := Try.underlying24
  have hu29 := Try.underlying29
  have HO0_1 := Aside0.mk (show Kd.V k29 29 w w.heap.size (fun k_ => (P0_1_ k_ ∨ w.heap.size ≤ k_)) (.slice A0_1 l0_1.length c0_1) l0_1 from Kd.V_mono hs0_1 (fun k_ hk => .inl hk))
  have HB := Aside0.mk (Below.refl w.heap.size w)
  have H : (lockgateref11_without.l0 k a1 0 a0_0 l0_1 a0_0 ([] : List (S29))) = some (r1, r2) := h
  clear h
  have H' := Aside0.mk H
  clear H
  go_enter Try.func24, Try.ntmps24
  go_wp2_with (first | ((with_reducible refine gate_dst (N := 2) rfl ?_); refine box_event ?hg (N := 2) ?hd (cs := #[.int .i64 a0_0, .slice A0_1 l0_1.length c0_1]) (t := 24) ?hr ?_; (case hd => rfl); (case hg => rfl); (case hr => first | (go_simp; done) | (go_simp; rfl)); intro gb214 hg w3 hbox hb; have n0_ := Aside0.mk (Kd.V_below (Kd.V_elderB (by (with_reducible repeat (first | apply Kd.V_alloc | apply Kd.V_drewN | apply Kd.V_drew)); exact HO0_1.out) gb214 (Nat.le_of_eq hg.symm)) hb); have n1_ := Aside0.mk (below_step (by repeat (first | (with_reducible first | exact HB.out | apply below_alloc | apply pw_below_drewN | apply below_drew1) | exact HB.out)) hb); have n2_ := Aside0.mk (hbox); have n3_ := Aside0.mk ((by rw [hg]; exact (below_size (by repeat (first | (with_reducible first | exact HB.out | apply below_alloc | apply pw_below_drewN | apply below_drew1) | exact HB.out))) : w.heap.size ≤ gb214)); have n4_ := Aside0.mk ((by rw [hg]; exact (below_size (by repeat (first | (with_reducible first | exact HB.out | apply below_alloc | apply pw_below_drewN | apply below_drew1) | exact HB.out))) : w.heap.size ≤ gb214)); clear HO0_1; clear HB; have HO0_1 := n0_; have HB := n1_; have BK214 := n2_; have GW214 := n3_; have GE214 := n4_; clear n0_ n1_ n2_ n3_ n4_; clear hb hbox hg) | ((with_reducible refine gate_dst (N := 4) rfl ?_); refine box_event ?hg (N := 4) ?hd (cs := #[.int .i64 0, .slice none 0 0]) (t := 24) ?hr ?_; (case hd => rfl); (case hg => rfl); (case hr => first | (go_simp; done) | (go_simp; rfl)); intro gb215 hg w4 hbox hb; have n0_ := Aside0.mk (Kd.V_below (Kd.V_elderB (by (with_reducible repeat (first | apply Kd.V_alloc | apply Kd.V_drewN | apply Kd.V_drew)); exact HO0_1.out) gb215 (Nat.le_of_eq hg.symm)) hb); have n1_ := Aside0.mk (blk_below (g := gb214) (o := .cells #[.int .i64 a0_0, .slice A0_1 l0_1.length c0_1] 24 (0, 0)) (by (with_reducible repeat (first | refine blk_drewN ?_ _ | refine blk_drew ?_ | refine blk_alloc ?_ _)); exact BK214.out) hb); have n2_ := Aside0.mk (below_step (by repeat (first | (with_reducible first | exact HB.out | apply below_alloc | apply pw_below_drewN | apply below_drew1 | refine below_set ?_ GE214.out) | exact HB.out)) hb); have n3_ := Aside0.mk (hbox); have n4_ := Aside0.mk ((by rw [hg]; exact (below_size (by repeat (first | (with_reducible first | exact HB.out | apply below_alloc | apply pw_below_drewN | apply below_drew1 | refine below_set ?_ GE214.out) | exact HB.out))) : w.heap.size ≤ gb215)); have n5_ := Aside0.mk ((by rw [hg]; exact (below_size (by repeat (first | (with_reducible first | exact HB.out | apply below_alloc | apply pw_below_drewN | apply below_drew1 | refine below_set ?_ GE214.out) | exact HB.out))) : w.heap.size ≤ gb215)); have n6_ := Aside0.mk ((by rw [hg]; exact Nat.ne_of_lt (blk_lt (g := gb214) (o := .cells #[.int .i64 a0_0, .slice A0_1 l0_1.length c0_1] 24 (0, 0)) (by (with_reducible repeat (first | refine blk_drewN ?_ _ | refine blk_drew ?_ | refine blk_alloc ?_ _)); exact BK214.out)) : gb214 ≠ gb215)); have n7_ := Aside0.mk ((by rw [hg]; exact Nat.ne_of_gt (blk_lt (g := gb214) (o := .cells #[.int .i64 a0_0, .slice A0_1 l0_1.length c0_1] 24 (0, 0)) (by (with_reducible repeat (first | refine blk_drewN ?_ _ | refine blk_drew ?_ | refine blk_alloc ?_ _)); exact BK214.out)) : gb215 ≠ gb214)); clear HO0_1; clear BK214; clear HB; have HO0_1 := n0_; have BK214 := n1_; have HB := n2_; have BK215 := n3_; have GW215 := n4_; have GE215 := n5_; have NB214_215 := n6_; have NB215_214 := n7_; clear n0_ n1_ n2_ n3_ n4_ n5_ n6_ n7_; clear hb hbox hg; have hnb5 := NB214_215.out; have hnc5 := NB215_214.out; have hcz6_0 : w4.cell? ⟨gb214, 0, none⟩ = some (.int .i64 a0_0) := (blk_cell BK214.out 0).trans rfl; have hcz6_1 : w4.cell? ⟨gb214, 1, none⟩ = some (.slice A0_1 l0_1.length c0_1) := (blk_cell BK214.out 1).trans rfl; have hfz6_0 := blk_frozen BK214.out 0; have hfz6_1 := blk_frozen BK214.out 1) | ((with_reducible refine gate_dst (N := 5) rfl ?_); refine box_event ?hg (N := 5) ?hd (cs := #[.int .i64 0, .slice none 0 0]) (t := 24) ?hr ?_; (case hd => rfl); (case hg => rfl); (case hr => first | (go_simp; done) | (go_simp; rfl)); intro gb216 hg w7 hbox hb; have n0_ := Aside0.mk (Kd.V_below (Kd.V_elderB (by (with_reducible repeat (first | apply Kd.V_alloc | apply Kd.V_drewN | apply Kd.V_drew)); exact HO0_1.out) gb216 (Nat.le_of_eq hg.symm)) hb); have n1_ := Aside0.mk (blk_below (g := gb214) (o := .cells #[.int .i64 a0_0, .slice A0_1 l0_1.length c0_1] 24 (0, 0)) (by (with_reducible repeat (first | refine blk_drewN ?_ _ | refine blk_drew ?_ | refine blk_alloc ?_ _)); exact BK214.out) hb); have n2_ := Aside0.mk (blk_below (g := gb215) (o := .cells #[.int .i64 0, .slice none 0 0] 24 (0, 0)) (by (with_reducible repeat (first | refine blk_drewN ?_ _ | refine blk_drew ?_ | refine blk_alloc ?_ _)); exact BK215.out) hb); have n3_ := Aside0.mk (below_step (by repeat (first | (with_reducible first | exact HB.out | apply below_alloc | apply pw_below_drewN | apply below_drew1 | refine below_set ?_ GE214.out | refine below_set ?_ GE215.out) | exact HB.out)) hb); have n4_ := Aside0.mk (hbox); have n5_ := Aside0.mk ((by rw [hg]; exact (below_size (by repeat (first | (with_reducible first | exact HB.out | apply below_alloc | apply pw_below_drewN | apply below_drew1 | refine below_set ?_ GE214.out | refine below_set ?_ GE215.out) | exact HB.out))) : w.heap.size ≤ gb216)); have n6_ := Aside0.mk ((by rw [hg]; exact (below_size (by repeat (first | (with_reducible first | exact HB.out | apply below_alloc | apply pw_below_drewN | apply below_drew1 | refine below_set ?_ GE214.out | refine below_set ?_ GE215.out) | exact HB.out))) : w.heap.size ≤ gb216)); have n7_ := Aside0.mk ((by rw [hg]; exact Nat.ne_of_lt (blk_lt (g := gb214) (o := .cells #[.int .i64 a0_0, .slice A0_1 l0_1.length c0_1] 24 (0, 0)) (by (with_reducible repeat (first | refine blk_drewN ?_ _ | refine blk_drew ?_ | refine blk_alloc ?_ _)); exact BK214.out)) : gb214 ≠ gb216)); have n8_ := Aside0.mk ((by rw [hg]; exact Nat.ne_of_gt (blk_lt (g := gb214) (o := .cells #[.int .i64 a0_0, .slice A0_1 l0_1.length c0_1] 24 (0, 0)) (by (with_reducible repeat (first | refine blk_drewN ?_ _ | refine blk_drew ?_ | refine blk_alloc ?_ _)); exact BK214.out)) : gb216 ≠ gb214)); have n9_ := Aside0.mk ((by rw [hg]; exact Nat.ne_of_lt (blk_lt (g := gb215) (o := .cells #[.int .i64 0, .slice none 0 0] 24 (0, 0)) (by (with_reducible repeat (first | refine blk_drewN ?_ _ | refine blk_drew ?_ | refine blk_alloc ?_ _)); exact BK215.out)) : gb215 ≠ gb216)); have n10_ := Aside0.mk ((by rw [hg]; exact Nat.ne_of_gt (blk_lt (g := gb215) (o := .cells #[.int .i64 0, .slice none 0 0] 24 (0, 0)) (by (with_reducible repeat (first | refine blk_drewN ?_ _ | refine blk_drew ?_ | refine blk_alloc ?_ _)); exact BK215.out)) : gb216 ≠ gb215)); clear HO0_1; clear BK214; clear BK215; clear HB; have HO0_1 := n0_; have BK214 := n1_; have BK215 := n2_; have HB := n3_; have BK216 := n4_; have GW216 := n5_; have GE216 := n6_; have NB214_216 := n7_; have NB216_214 := n8_; have NB215_216 := n9_; have NB216_215 := n10_; clear n0_ n1_ n2_ n3_ n4_ n5_ n6_ n7_ n8_ n9_ n10_; clear hb hbox hg; have hnb8 := NB216_214.out; have hnc8 := NB214_216.out; have hnb9 := NB216_215.out; have hnc9 := NB215_216.out; have hcz10_0 : w7.cell? ⟨gb216, 0, none⟩ = some (.int .i64 0) := (blk_cell BK216.out 0).trans rfl; have hcz10_1 : w7.cell? ⟨gb216, 1, none⟩ = some (.slice none 0 0) := (blk_cell BK216.out 1).trans rfl; have hfz10_0 := blk_frozen BK216.out 0; have hfz10_1 := blk_frozen BK216.out 1))
  go_loopg [6] k (fun kq v6 w' => ∃ (x6_1 : Int) (x217001_1 : List (S29)) (u217001 : Value), v6 = .int .i64 x6_1 ∧ Aside0 (lockgateref11_without.l0 kq a1 x6_1 a0_0 l0_1 a0_0 x217001_1 = some (r1, r2)) ∧ Aside0 (kq ≤ k) ∧ Aside0 (Kd.V k29 29 w' w.heap.size (fun k_ => (P0_1_ k_ ∨ w.heap.size ≤ k_) ∧ some k_ ≠ (u217001 : Value).ownBlock ∧ k_ ≠ gb214 ∧ k_ ≠ gb215 ∧ k_ ≠ gb216) (.slice A0_1 l0_1.length c0_1) l0_1) ∧ Aside0 (Kd.N k29 29 w' w.heap.size (fun k_ => (P0_1_ k_ ∨ w.heap.size ≤ k_) ∧ k_ ≠ gb214 ∧ k_ ≠ gb215 ∧ k_ ≠ gb216) u217001 x217001_1) ∧ Aside0 (w'.heap[gb214]? = some (.cells #[.int .i64 a0_0, (.slice A0_1 l0_1.length c0_1)] 24 (0, 0))) ∧ Aside0 (w'.heap[gb215]? = some (.cells #[.int .i64 0, (.slice none 0 0)] 24 (0, 0))) ∧ Aside0 (w'.heap[gb216]? = some (.cells #[.int .i64 a0_0, u217001] 24 (0, 0))) ∧ Aside0 (Below w.heap.size w w'))
  case atStart => exact ⟨(0), (([] : List (S29))), (.slice none 0 0), (by first | rfl | (simp; done) | (simp [*]; done)), H', ⟨Nat.le_refl _⟩, ⟨by (with_reducible repeat (first | apply Kd.V_alloc | apply Kd.V_drewN | apply Kd.V_drew)); exact Kd.V_mono (Kd.V_far (p := ⟨gb216, 1, none⟩) (Kd.V_far (p := ⟨gb216, 0, none⟩) (Kd.V_mono HO0_1.out (fun k_ hk => (⟨hk, hk.2⟩ : _ ∧ k_ ≠ gb216))) (fun _ hk => hk.2) (.int .i64 a0_0)) (fun _ hk => hk.2) (.slice none 0 0)) (fun _ hk => ⟨hk.1.1.1.1, ⟨(by simp [Value.ownBlock]), ⟨hk.1.1.1.2, ⟨hk.1.1.2, hk.1.2⟩⟩⟩⟩)⟩, ⟨by first | exact Kd.S_nil _ _ _ _ _ | exact Kd.N_nil _ _ _ _ _ | exact Kd.V_nil _ _ _ _ _ | exact Kd.Q_nil _ _ _ _ _ | exact Kd.R_nil _ _ _ _ _⟩, ⟨by (with_reducible repeat (first | refine blk_drewN ?_ _ | refine blk_drew ?_ | refine blk_alloc ?_ _)); refine blk_far ?_ NB214_216.out _; (with_reducible repeat (first | refine blk_drewN ?_ _ | refine blk_drew ?_ | refine blk_alloc ?_ _)); refine blk_far ?_ NB214_216.out _; (with_reducible repeat (first | refine blk_drewN ?_ _ | refine blk_drew ?_ | refine blk_alloc ?_ _)); exact BK214.out⟩, ⟨by (with_reducible repeat (first | refine blk_drewN ?_ _ | refine blk_drew ?_ | refine blk_alloc ?_ _)); refine blk_far ?_ NB215_216.out _; (with_reducible repeat (first | refine blk_drewN ?_ _ | refine blk_drew ?_ | refine blk_alloc ?_ _)); refine blk_far ?_ NB215_216.out _; (with_reducible repeat (first | refine blk_drewN ?_ _ | refine blk_drew ?_ | refine blk_alloc ?_ _)); exact BK215.out⟩, ⟨by (with_reducible repeat (first | refine blk_drewN ?_ _ | refine blk_drew ?_ | refine blk_alloc ?_ _)); refine blk_put (cs := #[.int .i64 a0_0, .slice none 0 0]) ?_ 1 _ rfl; (with_reducible repeat (first | refine blk_drewN ?_ _ | refine blk_drew ?_ | refine blk_alloc ?_ _)); refine blk_put (cs := #[.int .i64 0, .slice none 0 0]) ?_ 0 _ rfl; (with_reducible repeat (first | refine blk_drewN ?_ _ | refine blk_drew ?_ | refine blk_alloc ?_ _)); exact BK216.out⟩, ⟨by repeat (first | (with_reducible first | exact HB.out | apply below_alloc | apply pw_below_drewN | apply below_drew1 | refine below_set ?_ GE214.out | refine below_set ?_ GE215.out | refine below_set ?_ GE216.out) | exact HB.out)⟩⟩
  case round =>
    clear H'
    try clear c2
    try clear p2
    try clear c5
    try clear c8
    try clear c9
    try clear hcz10_0
    try clear hcz10_1
    try clear hcz6_0
    try clear hcz6_1
    try clear hfz10_0
    try clear hfz10_1
    try clear hfz6_0
    try clear hfz6_1
    obtain ⟨x6_1, x217001_1, u217001, rfl, HA, HK1, HO_215001, HO_217001, BK214, BK215, BK216, HB⟩ := hrel
    cases gk with
    | zero => exact absurd HA.out (by simp [lockgateref11_without.l0])
    | succ k1 =>
      have H := HA.out
      clear HA
      simp only [lockgateref11_without.l0] at H
      by_cases c11 : x6_1 < (l0_1.length : Int)
      · rw [if_pos c11] at H
        have c11b0 : decide (x6_1 < (l0_1.length : Int)) = true := decide_eq_true c11
        clear c11
        by_cases c12 : x6_1 = a1
        · rw [if_pos c12] at H
          have c12b0 : (x6_1 == a1) = true := beq_iff_eq.mpr c12
          have c12b1 : (x6_1 != a1) = false := bne_eq_false_iff_eq.mpr c12
          clear c12
          have H' := Aside0.mk H
          clear H
          have hnb13 := NB214_215.out
          have hnc13 := NB215_214.out
          have hnb14 := NB214_216.out
          have hnc14 := NB216_214.out
          have hcz15_0 : wr.cell? ⟨gb214, 0, none⟩ = some (.int .i64 a0_0) := (blk_cell BK214.out 0).trans rfl
          have hcz15_1 : wr.cell? ⟨gb214, 1, none⟩ = some (.slice A0_1 l0_1.length c0_1) := (blk_cell BK214.out 1).trans rfl
          have hfz15_0 := blk_frozen BK214.out 0
          have hfz15_1 := blk_frozen BK214.out 1
          go_wp2
          go_roundg k1
          case measure => have := HK1.out; omega
          case rel => exact ⟨(wrap64 (x6_1 + 1)), (x217001_1), (u217001), (by first | rfl | (simp; done) | (simp [*]; done)), H', ⟨by have := HK1.out; omega⟩, ⟨by (with_reducible repeat (first | apply Kd.V_alloc | apply Kd.V_drewN | apply Kd.V_drew)); exact HO_215001.out⟩, ⟨by (with_reducible repeat (first | apply Kd.N_alloc | apply Kd.N_drewN | apply Kd.N_drew)); exact HO_217001.out⟩, ⟨by (with_reducible repeat (first | refine blk_drewN ?_ _ | refine blk_drew ?_ | refine blk_alloc ?_ _)); exact BK214.out⟩, ⟨by (with_reducible repeat (first | refine blk_drewN ?_ _ | refine blk_drew ?_ | refine blk_alloc ?_ _)); exact BK215.out⟩, ⟨by (with_reducible repeat (first | refine blk_drewN ?_ _ | refine blk_drew ?_ | refine blk_alloc ?_ _)); exact BK216.out⟩, ⟨by repeat (first | (with_reducible first | exact HB.out | apply below_alloc | apply pw_below_drewN | apply below_drew1 | refine below_set ?_ GE214.out | refine below_set ?_ GE215.out | refine below_set ?_ GE216.out) | exact HB.out)⟩⟩
        · rw [if_neg c12] at H
          have c12b0 : (x6_1 == a1) = false := beq_eq_false_iff_ne.mpr c12
          have c12b1 : (x6_1 != a1) = true := bne_iff_ne.mpr c12
          by_cases c16 : 0 ≤ x6_1
          · rw [if_pos c16] at H
            have c16b0 : decide (0 ≤ x6_1) = true := decide_eq_true c16
            clear c16
            by_cases c17 : x217001_1.length < 3518437208883
            · rw [if_pos c17] at H
              have LMc17 := Aside0.mk c17
              clear c17
              obtain ⟨y218, hy218⟩ : ∃ y_ : List (S29), y_ = (x217001_1 ++ [(⟨(rd_T29 l0_1 x6_1).f0, (rd_T29 l0_1 x6_1).f1, (rd_T29 l0_1 x6_1).f2⟩ : S29)]) := ⟨_, rfl⟩
              replace H : (lockgateref11_without.l0 k1 a1 (wrap64 (x6_1 + 1)) a0_0 l0_1 a0_0 y218) = some (r1, r2) := by first | (rw [hy218]; with_reducible exact H) | (have H2_ := (Option.bind_some _ _).symm.trans H; rw [hy218]; with_reducible exact H2_) | (have H2_ := (Option.bind_some _ _).symm.trans H; with_reducible exact H2_) | with_reducible exact H | (rw [hy218]; exact H) | exact H
              have Ny218 := Aside0.mk hy218
              clear hy218
              have H' := Aside0.mk H
              clear H
              have hnb18 := NB214_215.out
              have hnc18 := NB215_214.out
              have hnb19 := NB214_216.out
              have hnc19 := NB216_214.out
              have hcz20_0 : wr.cell? ⟨gb214, 0, none⟩ = some (.int .i64 a0_0) := (blk_cell BK214.out 0).trans rfl
              have hcz20_1 : wr.cell? ⟨gb214, 1, none⟩ = some (.slice A0_1 l0_1.length c0_1) := (blk_cell BK214.out 1).trans rfl
              have hfz20_0 := blk_frozen BK214.out 0
              have hfz20_1 := blk_frozen BK214.out 1
              try go_wp2
              have n0_ := Aside0.mk (Kd.V_drew HO_215001.out)
              have n1_ := Aside0.mk (Kd.N_drew HO_217001.out)
              have n2_ := Aside0.mk (blk_drew BK214.out)
              have n3_ := Aside0.mk (blk_drew BK215.out)
              have n4_ := Aside0.mk (blk_drew BK216.out)
              have n5_ := Aside0.mk (below_drew1 HB.out)
              clear HO_215001
              clear HO_217001
              clear BK214
              clear BK215
              clear BK216
              clear HB
              have HO_215001 := n0_
              have HO_217001 := n1_
              have BK214 := n2_
              have BK215 := n3_
              have BK216 := n4_
              have HB := n5_
              clear n0_ n1_ n2_ n3_ n4_ n5_
              have p217 : 0 ≤ (x6_1 : Int) := of_decide_eq_true (by first | (with_reducible assumption) | assumption)
              have q217 : x6_1 < (l0_1.length : Int) := of_decide_eq_true (by first | (with_reducible assumption) | assumption)
              obtain ⟨ad217, A217_2, c217_2, e217, hx217_0, hx217_1, hx217_2, hl217_2, hi217_2⟩ := at_T29 (Kd.V_reads' HO_215001.out).2.2 x6_1 p217 q217
              cases e217
              obtain ⟨ce217, hce217, hMe217, hcc217⟩ := Kd.V_get HO_215001.out z29 x6_1 p217 (by first | exact q217 | exact of_decide_eq_true (by first | (with_reducible assumption) | assumption) | (have e_ := (Kd.V_reads' HO_215001.out).1; omega))
              obtain ⟨ua217_2, uc217_2, rfl, ul217_2, ge217_2⟩ := k29_openF hMe217
              have hv217_2 := hcc217 2 _ rfl
              rw [add_field _ _ 2 (by omega)] at hv217_2
              replace hv217_2 := Option.some.inj (hv217_2.symm.trans hx217_2)
              injection hv217_2 with hva_ hvn_ hvc_
              rw [hva_] at ge217_2
              rw [hvc_] at ul217_2
              have HL217_2 := Aside0.mk (show Kd.V (Kd.int .u8) 5 _ w.heap.size _ _ ((rd_T29 l0_1 x6_1).f2) from Kd.V_mk ul217_2 ge217_2)
              clear hva_ hvn_ hvc_ ge217_2 ul217_2
              clear hcc217 hce217
              have HR217_2 := Aside0.mk hi217_2
              have HC217_2 := Aside0.mk hl217_2
              clear hi217_2 hl217_2
              replace p217 := eq_true p217
              replace q217 := eq_true q217
              refine start_ (n := 11) (S := fun w' => w'.cell? ⟨gb216, 0, none⟩ = some (.int .i64 a0_0) ∧ w'.cell? ⟨gb216, 1, none⟩ = some (u217001) ∧ w'.cell? ⟨gb214, 0, none⟩ = some (.int .i64 a0_0) ∧ w'.cell? ⟨gb214, 1, none⟩ = some (.slice (some ad217) l0_1.length c0_1) ∧ w'.cell? (ad217.add ((x6_1).toNat * 3)) = some (.int .i64 ((rd_T29 l0_1 x6_1).f0)) ∧ w'.cell? ⟨(ad217.add ((x6_1).toNat * 3)).block, (ad217.add ((x6_1).toNat * 3)).off + 1, none⟩ = some (.int .i64 ((rd_T29 l0_1 x6_1).f1)) ∧ w'.cell? ⟨(ad217.add ((x6_1).toNat * 3)).block, (ad217.add ((x6_1).toNat * 3)).off + 2, none⟩ = some (.slice A217_2 ((rd_T29 l0_1 x6_1).f2).length c217_2)) (ds := [8, 10]) #[false, false, false, false, false, false, false, false, false, false, false] (by kernel_rfl) rfl rfl ⟨(blk_cell BK216.out 0).trans rfl, (blk_cell BK216.out 1).trans rfl, (blk_cell BK214.out 0).trans rfl, (blk_cell BK214.out 1).trans rfl, hx217_0, hx217_1, hx217_2⟩ (fun hHeld => ?_); refine with_tabW lockgateref11_without.tab6 lockgateref11_without.bits6 (fun HT_ HW_ => ?_)
              generalize wr.drew = w21 at HO_215001 HO_217001 BK214 BK215 BK216 HB HL217_2 HR217_2 hx217_0 hx217_1 hx217_2 hHeld ⊢
              refine pure_ (i := 0) (N := some 20) (v := ?_) (a' := ?_) #[true, false, false, false, false, false, false, false, false, false, false] rfl rfl (any_of HT_.out (by kernel_rfl)) (fun _ _ _ h => h) (Or.inl ⟨by rfl, ?_⟩) ?_ ?_
              rotate_left
              · intro w'
                go_simp
                with_reducible rfl
              rotate_left
              · simp only [Act.put, List.setIfInBounds_toArray, List.set_cons_zero, List.set_cons_succ, i64_w, i32_w]
                rfl
              refine pure_ (i := 2) (N := some 22) (v := ?_) (a' := ?_) #[true, false, true, false, false, false, false, false, false, false, false] rfl rfl (any_of HT_.out (by kernel_rfl)) (fun _ _ _ h => h) (Or.inl ⟨by rfl, ?_⟩) ?_ ?_
              rotate_left
              · intro w'
                go_simp
                with_reducible rfl
              rotate_left
              · simp only [Act.put, List.setIfInBounds_toArray, List.set_cons_zero, List.set_cons_succ, i64_w, i32_w]
                rfl
              refine pure_ (i := 4) (N := some 24) (v := ?_) (a' := ?_) #[true, false, true, false, true, false, false, false, false, false, false] rfl rfl (any_of HT_.out (by kernel_rfl)) (fun _ _ _ h => h) (Or.inl ⟨by rfl, ?_⟩) ?_ ?_
              rotate_left
              · intro w'
                go_simp
                with_reducible rfl
              rotate_left
              · simp only [Act.put, List.setIfInBounds_toArray, List.set_cons_zero, List.set_cons_succ, i64_w, i32_w]
                rfl
              refine take_ (i := 1) (N := some 21) (v := ?_) (a' := ?_) #[true, true, true, false, true, false, false, false, false, false, false] rfl rfl (take_ofW HT_.out HW_.out (by kernel_rfl)) (fun _ _ _ h => h) (Or.inl ⟨by rfl, ?_⟩) hHeld ?_ ?_
              rotate_left
              · rintro w' ⟨s0, s1, s2, s3, s4, s5, s6⟩
                go_simp
                with_reducible rfl
              rotate_left
              · simp only [Act.put, List.setIfInBounds_toArray, List.set_cons_zero, List.set_cons_succ, i64_w, i32_w]
                rfl
              refine take_ (i := 3) (N := some 23) (v := ?_) (a' := ?_) #[true, true, true, true, true, false, false, false, false, false, false] rfl rfl (take_ofW HT_.out HW_.out (by kernel_rfl)) (fun _ _ _ h => h) (Or.inl ⟨by rfl, ?_⟩) hHeld ?_ ?_
              rotate_left
              · rintro w' ⟨s0, s1, s2, s3, s4, s5, s6⟩
                go_simp
                with_reducible rfl
              rotate_left
              · simp only [Act.put, List.setIfInBounds_toArray, List.set_cons_zero, List.set_cons_succ, i64_w, i32_w]
                rfl
              refine pure_ (i := 5) (N := some 25) (v := ?_) (a' := ?_) #[true, true, true, true, true, true, false, false, false, false, false] rfl rfl (any_of HT_.out (by kernel_rfl)) (fun _ _ _ h => h) (Or.inl ⟨by rfl, ?_⟩) ?_ ?_
              rotate_left
              · intro w'
                go_simp
                with_reducible rfl
              rotate_left
              · simp only [Act.put, List.setIfInBounds_toArray, List.set_cons_zero, List.set_cons_succ, i64_w, i32_w]
                rfl
              refine take_ (i := 6) (N := some 26) (v := ?_) (a' := ?_) #[true, true, true, true, true, true, true, false, false, false, false] rfl rfl (take_ofW HT_.out HW_.out (by kernel_rfl)) (fun _ _ _ h => h) (Or.inl ⟨by rfl, ?_⟩) hHeld ?_ ?_
              rotate_left
              · rintro w' ⟨s0, s1, s2, s3, s4, s5, s6⟩
                go_simp
                with_reducible rfl
              rotate_left
              · simp only [Act.put, List.setIfInBounds_toArray, List.set_cons_zero, List.set_cons_succ, i64_w, i32_w]
                rfl
              refine one_ (i := 7) (N := some 27) #[true, true, true, true, true, true, true, true, false, false, false] rfl rfl (one_of HT_.out (by kernel_rfl)) (by decide) (fun K hK => ?_)
              refine value_ (w1 := ?_) (v := ?_) (by rfl) rfl ?_ ?_
              rotate_left 2
              · go_simp
                constructor
                · rfl
                · rfl
              refine hK.out _ _ ⟨(blk_cell (blk_alloc BK216.out _) 0).trans rfl, (blk_cell (blk_alloc BK216.out _) 1).trans rfl, (blk_cell (blk_alloc BK214.out _) 0).trans rfl, (blk_cell (blk_alloc BK214.out _) 1).trans rfl, (World.cell?_alloc_lt _ _ _ (World.block_lt_of_cell? _ _ (hHeld.2.2.2.2.1))).trans (hHeld.2.2.2.2.1), (World.cell?_alloc_lt _ _ _ (World.block_lt_of_cell? _ _ (hHeld.2.2.2.2.2.1))).trans (hHeld.2.2.2.2.2.1), (World.cell?_alloc_lt _ _ _ (World.block_lt_of_cell? _ _ (hHeld.2.2.2.2.2.2))).trans (hHeld.2.2.2.2.2.2)⟩ (fun hHeld => ?_)
              clear hK K
              refine norm_ (a' := ?_) ?_ ?_
              rotate_left
              · show Act.put _ (some 27) _ = _
                simp only [Act.put, List.setIfInBounds_toArray, List.set_cons_zero, List.set_cons_succ, i64_w, i32_w]
                rfl
              refine last_ (i := 8) (N := some 28) #[true, true, true, true, true, true, true, true, true, false, false] rfl rfl (one_of HT_.out (by kernel_rfl)) (by decide) (fun K hK => ?_)
              refine Kd.N_append_step k29 (w0 := w) w.heap.size (by rfl) (.tmp 21) (.tmp 27) 22 29 (.agg #[(.int .i64 0), (.int .i64 0), (.slice none 0 0)]) 40 rfl Try.underlying22 info29 rfl (by decide) (by omega) u217001 x217001_1 (⟨(rd_T29 l0_1 x6_1).f0, (rd_T29 l0_1 x6_1).f1, (rd_T29 l0_1 x6_1).f2⟩ : S29) [.int .i64 ((rd_T29 l0_1 x6_1).f0), .int .i64 ((rd_T29 l0_1 x6_1).f1), .slice A217_2 ((rd_T29 l0_1 x6_1).f2).length c217_2] (fun k_ => (P0_1_ k_ ∨ w.heap.size ≤ k_) ∧ k_ ≠ gb214 ∧ k_ ≠ gb215 ∧ k_ ≠ gb216) (fun k_ => ((fun k_ => (P0_1_ k_ ∨ w.heap.size ≤ k_) ∧ k_ ≠ gb214 ∧ k_ ≠ gb215 ∧ k_ ≠ gb216)) k_ ∧ some k_ ≠ (u217001 : Value).ownBlock) rfl rfl ?aP (fun _ hk => hk) ?aF ?aO ?aB ?aS ?aL ?_
              (case aP => exact (k29_mkF _ _ (⟨(rd_T29 l0_1 x6_1).f0, (rd_T29 l0_1 x6_1).f1, (rd_T29 l0_1 x6_1).f2⟩ : S29) (Kd.V_reads' (Kd.V_mono (ok' := (fun k_ => ((fun k_ => (P0_1_ k_ ∨ w.heap.size ≤ k_) ∧ k_ ≠ gb214 ∧ k_ ≠ gb215 ∧ k_ ≠ gb216)) k_ ∧ some k_ ≠ (u217001 : Value).ownBlock)) (HL217_2.out) (fun k_ hk => ⟨⟨hk.1, ⟨hk.2.2.1, ⟨hk.2.2.2.1, hk.2.2.2.2⟩⟩⟩, hk.2.1⟩))).2.1 (Kd.V_F (Kd.V_mono (ok' := (fun k_ => ((fun k_ => (P0_1_ k_ ∨ w.heap.size ≤ k_) ∧ k_ ≠ gb214 ∧ k_ ≠ gb215 ∧ k_ ≠ gb216)) k_ ∧ some k_ ≠ (u217001 : Value).ownBlock)) (HL217_2.out) (fun k_ hk => ⟨⟨hk.1, ⟨hk.2.2.1, ⟨hk.2.2.2.1, hk.2.2.2.2⟩⟩⟩, hk.2.1⟩)))))
              (case aB => exact (by repeat (first | (with_reducible first | exact HB.out | apply below_alloc | apply pw_below_drewN | apply below_drew1 | refine below_set ?_ GE214.out | refine below_set ?_ GE215.out | refine below_set ?_ GE216.out) | exact HB.out)))
              (case aF => exact (fun k_ hk => ⟨(.inr (Nat.le_trans (below_size (by repeat (first | (with_reducible first | exact HB.out | apply below_alloc | apply pw_below_drewN | apply below_drew1 | refine below_set ?_ GE214.out | refine below_set ?_ GE215.out | refine below_set ?_ GE216.out) | exact HB.out))) hk)), Kd.freshB (g := gb214) (o := .cells #[.int .i64 a0_0, .slice (some ad217) l0_1.length c0_1] 24 (0, 0)) (by (with_reducible repeat (first | refine blk_drewN ?_ _ | refine blk_drew ?_ | refine blk_alloc ?_ _)); exact BK214.out) k_ hk, Kd.freshB (g := gb215) (o := .cells #[.int .i64 0, .slice none 0 0] 24 (0, 0)) (by (with_reducible repeat (first | refine blk_drewN ?_ _ | refine blk_drew ?_ | refine blk_alloc ?_ _)); exact BK215.out) k_ hk, Kd.freshB (g := gb216) (o := .cells #[.int .i64 a0_0, u217001] 24 (0, 0)) (by (with_reducible repeat (first | refine blk_drewN ?_ _ | refine blk_drew ?_ | refine blk_alloc ?_ _)); exact BK216.out) k_ hk⟩))
              (case aO => exact (by (with_reducible repeat (first | apply Kd.N_alloc | apply Kd.N_drewN | apply Kd.N_drew)); exact HO_217001.out))
              (case aS => exact (below_size (by repeat (first | (with_reducible first | exact HB.out | apply below_alloc | apply pw_below_drewN | apply below_drew1 | refine below_set ?_ GE214.out | refine below_set ?_ GE215.out | refine below_set ?_ GE216.out) | exact HB.out))))
              (case aL => have := LMc17.out; omega)
              intro v219 w22 ho hb hg hat
              rw [← Ny218.out] at ho
              have n0_ := Aside0.mk (Kd.V_afterv (ok := (fun k_ => (P0_1_ k_ ∨ w.heap.size ≤ k_) ∧ k_ ≠ gb214 ∧ k_ ≠ gb215 ∧ k_ ≠ gb216)) (by (with_reducible repeat (first | apply Kd.V_alloc | apply Kd.V_drewN | apply Kd.V_drew)); exact Kd.V_mono HO_215001.out (fun _ hk => ⟨⟨hk.1, ⟨hk.2.2.1, ⟨hk.2.2.2.1, hk.2.2.2.2⟩⟩⟩, hk.2.1⟩)) hg hat)
              have n1_ := Aside0.mk (blk_grown (g := gb214) (o := .cells #[.int .i64 a0_0, .slice (some ad217) l0_1.length c0_1] 24 (0, 0)) (by (with_reducible repeat (first | refine blk_drewN ?_ _ | refine blk_drew ?_ | refine blk_alloc ?_ _)); exact BK214.out) hg (Kd.N_ne HO_217001.out BK214.out (by decide)))
              have n2_ := Aside0.mk (blk_grown (g := gb215) (o := .cells #[.int .i64 0, .slice none 0 0] 24 (0, 0)) (by (with_reducible repeat (first | refine blk_drewN ?_ _ | refine blk_drew ?_ | refine blk_alloc ?_ _)); exact BK215.out) hg (Kd.N_ne HO_217001.out BK215.out (by decide)))
              have n3_ := Aside0.mk (blk_grown (g := gb216) (o := .cells #[.int .i64 a0_0, u217001] 24 (0, 0)) (by (with_reducible repeat (first | refine blk_drewN ?_ _ | refine blk_drew ?_ | refine blk_alloc ?_ _)); exact BK216.out) hg (Kd.N_ne HO_217001.out BK216.out (by decide)))
              have n4_ := Aside0.mk (Kd.V_afterv (ok := (fun k_ => (P0_1_ k_ ∨ w.heap.size ≤ k_) ∧ k_ ≠ gb214 ∧ k_ ≠ gb215 ∧ k_ ≠ gb216)) (by (with_reducible repeat (first | apply Kd.V_alloc | apply Kd.V_drewN | apply Kd.V_drew)); exact Kd.V_mono HL217_2.out (fun _ hk => ⟨⟨hk.1, ⟨hk.2.2.1, ⟨hk.2.2.2.1, hk.2.2.2.2⟩⟩⟩, hk.2.1⟩)) hg hat)
              have n5_ := Aside0.mk (hb)
              have n6_ := Aside0.mk (ho)
              clear HO_215001
              clear BK214
              clear BK215
              clear BK216
              clear HL217_2
              clear HB
              clear HO_217001
              have HO_215001 := n0_
              have BK214 := n1_
              have BK215 := n2_
              have BK216 := n3_
              have HL217_2 := n4_
              have HB := n5_
              have HO220 := n6_
              clear n0_ n1_ n2_ n3_ n4_ n5_ n6_
              clear ho hb hg hat
              obtain ⟨Ao23, co23, eo23⟩ := Kd.N_slice HO220.out
              (first | subst eo23 | (injection eo23 with f1_ f2_ f3_; have f4_ := f1_.symm; have f5_ := f3_.symm; clear f1_ f2_ f3_; subst f4_; subst f5_))
              refine hK.out _ _ ?_
              clear hK K
              refine norm_ (a' := ?_) ?_ ?_
              rotate_left
              · show Act.put _ (some 28) _ = _
                simp only [Act.put, List.setIfInBounds_toArray, List.set_cons_zero, List.set_cons_succ, i64_w, i32_w]
                rfl
              refine pure_ (i := 9) (N := some 29) (v := ?_) (a' := ?_) #[true, true, true, true, true, true, true, true, true, true, false] rfl rfl (any_of HT_.out (by kernel_rfl)) (fun _ _ _ h => h) (Or.inl ⟨by rfl, ?_⟩) ?_ ?_
              rotate_left
              · intro w'
                go_simp
                with_reducible rfl
              rotate_left
              · simp only [Act.put, List.setIfInBounds_toArray, List.set_cons_zero, List.set_cons_succ, i64_w, i32_w]
                rfl
              refine last_ (i := 10) (N := none) #[true, true, true, true, true, true, true, true, true, true, true] rfl rfl (one_of HT_.out (by kernel_rfl)) (by decide) (fun K hK => ?_)
              have hs24 : w22.cell? ⟨gb216, 1, none⟩ = some (u217001) := (blk_cell BK216.out 1).trans rfl
              have hfs24 := blk_frozen BK216.out 1
              have hns24_0 := NB214_216.out
              have hns24_1 := NB215_216.out
              have hms24_0 := NB216_214.out
              have hms24_1 := NB216_215.out
              refine skip_ (w1 := ?_) (by rfl) rfl ?_ ?_
              rotate_left
              · go_simp
                rfl
              refine hK.out _ _ ?_
              clear hK K
              refine done_ (done_of HT_.out (by kernel_rfl)) ?_
              try go_wp2
              go_roundg k1
              case measure => have := HK1.out; omega
              case rel => exact ⟨(wrap64 (x6_1 + 1)), (y218), (.slice Ao23 y218.length co23), (by first | rfl | (simp; done) | (simp [*]; done)), H', ⟨by have := HK1.out; omega⟩, ⟨by (with_reducible repeat (first | apply Kd.V_alloc | apply Kd.V_drewN | apply Kd.V_drew)); exact Kd.V_mono (Kd.V_far (p := ⟨gb216, 1, none⟩) (Kd.V_mono HO_215001.out (fun k_ hk => (⟨hk, hk.1.2.2.2⟩ : _ ∧ k_ ≠ gb216))) (fun _ hk => hk.2) (.slice Ao23 y218.length co23)) (fun _ hk => ⟨hk.1.1.1, ⟨hk.1.2, ⟨hk.1.1.2.1, ⟨hk.1.1.2.2.1, hk.1.1.2.2.2⟩⟩⟩⟩)⟩, ⟨by (with_reducible repeat (first | apply Kd.N_alloc | apply Kd.N_drewN | apply Kd.N_drew)); exact Kd.N_mono (Kd.N_far (p := ⟨gb216, 1, none⟩) (Kd.N_mono HO220.out (fun k_ hk => (⟨hk, hk.2.2.2⟩ : _ ∧ k_ ≠ gb216))) (fun _ hk => hk.2) (.slice Ao23 y218.length co23)) (fun _ hk => ⟨hk.1.1, ⟨hk.1.2.1, ⟨hk.1.2.2.1, hk.1.2.2.2⟩⟩⟩)⟩, ⟨by (with_reducible repeat (first | refine blk_drewN ?_ _ | refine blk_drew ?_ | refine blk_alloc ?_ _)); refine blk_far ?_ NB214_216.out _; (with_reducible repeat (first | refine blk_drewN ?_ _ | refine blk_drew ?_ | refine blk_alloc ?_ _)); exact BK214.out⟩, ⟨by (with_reducible repeat (first | refine blk_drewN ?_ _ | refine blk_drew ?_ | refine blk_alloc ?_ _)); refine blk_far ?_ NB215_216.out _; (with_reducible repeat (first | refine blk_drewN ?_ _ | refine blk_drew ?_ | refine blk_alloc ?_ _)); exact BK215.out⟩, ⟨by (with_reducible repeat (first | refine blk_drewN ?_ _ | refine blk_drew ?_ | refine blk_alloc ?_ _)); refine blk_put (cs := #[.int .i64 a0_0, u217001]) ?_ 1 _ rfl; (with_reducible repeat (first | refine blk_drewN ?_ _ | refine blk_drew ?_ | refine blk_alloc ?_ _)); exact BK216.out⟩, ⟨by repeat (first | (with_reducible first | exact HB.out | apply below_alloc | apply pw_below_drewN | apply below_drew1 | refine below_set ?_ GE214.out | refine below_set ?_ GE215.out | refine below_set ?_ GE216.out) | exact HB.out)⟩⟩
            · rw [if_neg c17] at H
              exact absurd H (by simp)
          · rw [if_neg c16] at H
            exact absurd H (by simp)
      · rw [if_neg c11] at H
        have c11b0 : decide (x6_1 < (l0_1.length : Int)) = false := decide_eq_false c11
        clear c11
        simp only [Option.some.injEq, Prod.mk.injEq] at H
        obtain ⟨rfl, rfl⟩ := H
        have hnb25 := NB214_215.out
        have hnc25 := NB215_214.out
        have hnb26 := NB214_216.out
        have hnc26 := NB216_214.out
        have hcz27_0 : wr.cell? ⟨gb214, 0, none⟩ = some (.int .i64 a0_0) := (blk_cell BK214.out 0).trans rfl
        have hcz27_1 : wr.cell? ⟨gb214, 1, none⟩ = some (.slice A0_1 l0_1.length c0_1) := (blk_cell BK214.out 1).trans rfl
        have hfz27_0 := blk_frozen BK214.out 0
        have hfz27_1 := blk_frozen BK214.out 1
        have hnb28 := NB216_215.out
        have hnc28 := NB215_216.out
        have hcz29_0 : wr.cell? ⟨gb216, 0, none⟩ = some (.int .i64 a0_0) := (blk_cell BK216.out 0).trans rfl
        have hcz29_1 : wr.cell? ⟨gb216, 1, none⟩ = some (u217001) := (blk_cell BK216.out 1).trans rfl
        have hfz29_0 := blk_frozen BK216.out 0
        have hfz29_1 := blk_frozen BK216.out 1
        have hcz30_0 : wr.cell? ⟨gb215, 0, none⟩ = some (.int .i64 0) := (blk_cell BK215.out 0).trans rfl
        have hcz30_1 : wr.cell? ⟨gb215, 1, none⟩ = some (.slice none 0 0) := (blk_cell BK215.out 1).trans rfl
        have hfz30_0 := blk_frozen BK215.out 0
        have hfz30_1 := blk_frozen BK215.out 1
        obtain ⟨Ao31, co31, eo31⟩ := Kd.N_slice HO_217001.out
        subst eo31
        go_wp2
        refine bodyPost_ret (results_cell_row rfl _ _ gb215 24 #[.int .i64 a0_0, .slice Ao31 x217001_1.length co31] (0, 0) _ rfl (by (with_reducible repeat (first | refine blk_drewN ?_ _ | refine blk_drew ?_ | refine blk_alloc ?_ _)); refine blk_put (cs := #[.int .i64 a0_0, .slice none 0 0]) ?_ 1 _ rfl; (with_reducible repeat (first | refine blk_drewN ?_ _ | refine blk_drew ?_ | refine blk_alloc ?_ _)); refine blk_put (cs := #[.int .i64 0, .slice none 0 0]) ?_ 0 _ rfl; (with_reducible repeat (first | refine blk_drewN ?_ _ | refine blk_drew ?_ | refine blk_alloc ?_ _)); exact BK215.out) Try.underlying24 rfl (by kernel_rfl)) rfl ?_
        exact ⟨_, by first | rfl | (simp [errW_none, errW_some] <;> rfl) | (simp [*, errW_none, errW_some] <;> rfl), by (with_reducible repeat (first | apply Kd.N_alloc | apply Kd.N_drewN | apply Kd.N_drew)); exact Kd.N_mono (Kd.N_far (p := ⟨gb215, 1, none⟩) (Kd.N_far (p := ⟨gb215, 0, none⟩) (Kd.N_mono HO_217001.out (fun k_ hk => (⟨hk, hk.2.2.1⟩ : _ ∧ k_ ≠ gb215))) (fun _ hk => hk.2) (.int .i64 a0_0)) (fun _ hk => hk.2) (.slice Ao31 x217001_1.length co31)) (fun _ hk => hk.1.1), by repeat (first | (with_reducible first | exact HB.out | apply below_alloc | apply pw_below_drewN | apply below_drew1 | refine below_set ?_ GE214.out | refine below_set ?_ GE215.out | refine below_set ?_ GE216.out) | exact HB.out)⟩

/-! ### lockgateref11_Take: function 15 -/
def lockgateref11_Take.f (k : Nat) (a0_0 : Int) (l0_1 : List (S29)) (a1 : Int) : Option (Int × Int × List Int × Int × (List (S29)) × Bool) := if (l0_1.length : Int) = 0 then (some (0, 0, ([] : List Int), a0_0, l0_1, false)) else (if 0 ≤ (Int.tmod a1 (l0_1.length : Int)) then (if (Int.tmod a1 (l0_1.length : Int)) < (l0_1.length : Int) then ((lockgateref11_without.f k a0_0 l0_1 (Int.tmod a1 (l0_1.length : Int))).bind fun bt225 => (some ((rd_T29 l0_1 (Int.tmod a1 (l0_1.length : Int))).f0, (rd_T29 l0_1 (Int.tmod a1 (l0_1.length : Int))).f1, (rd_T29 l0_1 (Int.tmod a1 (l0_1.length : Int))).f2, bt225.1, bt225.2, true))) else (none)) else (none))
theorem lockgateref11_Take.mono : ∀ a0 a1 a2 k, LeO (lockgateref11_Take.f k a0 a1 a2) (lockgateref11_Take.f (k + 1) a0 a1 a2) := by
  intro a0 a1 a2 k
  unfold lockgateref11_Take.f
  repeat' first
      | (with_reducible exact lockgateref11_without.mono _ _ _ _)
      | (with_reducible exact LeO.refl _)
      | (with_reducible exact LeO.none _)
      | (with_reducible refine LeO.ite ?_ ?_)
      | (with_reducible refine LeO.bind ?_ (fun _ => ?_))
      | exact lockgateref11_without.mono _ _ _ _
      | exact LeO.none _
      | refine LeO.ite ?_ ?_
      | refine LeO.bind ?_ (fun _ => ?_)
def lockgateref11_Take.T4 : Bool × List (List Nat × List Nat) := (true, [([], []), ([0], [0]), ([], []), ([1, 2], [1, 2]), ([3], [3]), ([], []), ([], []), ([5, 6], [5, 6]), ([4, 7, 0, 1, 2, 3, 4], [4]), ([7, 8, 0, 1, 2, 3, 4, 5, 6, 7, 8], [7]), ([9, 0, 1, 2, 3, 4, 5, 6, 7, 8, 9], [])])
def lockgateref11_Take.B4 : List Nat := [0, 1, 0, 7, 15, 0, 0, 96, 255, 511, 1023]
theorem lockgateref11_Take.tab4 : rtab .any (opsOf Try.f15 4) = lockgateref11_Take.T4 := by kernel_rfl
theorem lockgateref11_Take.bits4 : waitsOk lockgateref11_Take.T4.2 lockgateref11_Take.B4 = true := by kernel_rfl
set_option maxHeartbeats 8000000 in
set_option maxRecDepth 100000 in
theorem lockgateref11_Take.calls (k : Nat) (a0_0 : Int) (P0_1_ : Nat → Prop) (A0_1 : Option Addr) (c0_1 : Nat) (l0_1 : List (S29)) (a1 : Int) (r1 : Int) (r2 : Int) (r3 : List Int) (r4 : Int) (r5 : List (S29)) (r6 : Bool) (w : World) (hs0_1 : Kd.V k29 29 w w.heap.size (fun k_ => P0_1_ k_) (.slice A0_1 l0_1.length c0_1) l0_1) (h : lockgateref11_Take.f k a0_0 l0_1 a1 = some (r1, r2, r3, r4, r5, r6)) :
    Calls Try.prog 15 #[.agg #[.int .i64 a0_0, .slice A0_1 l0_1.length c0_1], .int .i64 a1] w fun e w' => ∃ v2_ v4_ : Value, e = .returned (.tuple #[.agg #[.int .i64 r1, .int .i64 r2, v2_], .agg #[.int .i64 r4, v4_], .bool r6]) ∧ Kd.V (Kd.int .u8) 5 w' w.heap.size (fun k_ => (P0_1_ k_ ∨ w.heap.size ≤ k_)) v2_ r3 ∧ Kd.V k29 29 w' w.heap.size (fun k_ => (P0_1_ k_ ∨ w.heap.size ≤ k_)) v4_ r5 ∧ Below w.heap.size w w' := by
  have hu24 := Try.underlying24
  have hu29 := Try.underlying29
  have HO0_1 := Aside0.mk (show Kd.V k29 29 w w.heap.size (fun k_ => (P0_1_ k_ ∨ w.heap.size ≤ k_)) (.slice A0_1 l0_1.length c0_1) l0_1 from Kd.V_mono hs0_1 (fun k_ hk => .inl hk))
  have HB := Aside0.mk (Below.refl w.heap.size w)
  have H : (if (l0_1.length : Int) = 0 then (some (0, 0, ([] : List Int), a0_0, l0_1, false)) else (if 0 ≤ (Int.tmod a1 (l0_1.length : Int)) then (if (Int.tmod a1 (l0_1.length : Int)) < (l0_1.length : Int) then ((lockgateref11_without.f k a0_0 l0_1 (Int.tmod a1 (l0_1.length : Int))).bind fun bt225 => (some ((rd_T29 l0_1 (Int.tmod a1 (l0_1.length : Int))).f0, (rd_T29 l0_1 (Int.tmod a1 (l0_1.length : Int))).f1, (rd_T29 l0_1 (Int.tmod a1 (l0_1.length : Int))).f2, bt225.1, bt225.2, true))) else (none)) else (none))) = some (r1, r2, r3, r4, r5, r6) := h
  clear h
  by_cases c3 : (l0_1.length : Int) = 0
  · rw [if_pos c3] at H
    have c3b0 : ((l0_1.length : Int) == 0) = true := beq_iff_eq.mpr c3
    have c3b1 : ((l0_1.length : Int) != 0) = false := bne_eq_false_iff_eq.mpr c3
    clear c3
    simp only [Option.some.injEq, Prod.mk.injEq] at H
    obtain ⟨rfl, rfl, rfl, rfl, rfl, rfl⟩ := H
    go_enter Try.func15, Try.ntmps15
    try go_wp2_with (first | ((with_reducible refine gate_dst (N := 2) rfl ?_); refine box_event ?hg (N := 2) ?hd (cs := #[.int .i64 a0_0, .slice A0_1 l0_1.length c0_1]) (t := 24) ?hr ?_; (case hd => rfl); (case hg => rfl); (case hr => first | (go_simp; done) | (go_simp; rfl)); intro gb221 hg w4 hbox hb; have n0_ := Aside0.mk (Kd.V_below (Kd.V_elderB (by (with_reducible repeat (first | apply Kd.V_alloc | apply Kd.V_drewN | apply Kd.V_drew)); exact HO0_1.out) gb221 (Nat.le_of_eq hg.symm)) hb); have n1_ := Aside0.mk (below_step (by repeat (first | (with_reducible first | exact HB.out | apply below_alloc | apply pw_below_drewN | apply below_drew1) | exact HB.out)) hb); have n2_ := Aside0.mk (hbox); have n3_ := Aside0.mk ((by rw [hg]; exact (below_size (by repeat (first | (with_reducible first | exact HB.out | apply below_alloc | apply pw_below_drewN | apply below_drew1) | exact HB.out))) : w.heap.size ≤ gb221)); have n4_ := Aside0.mk ((by rw [hg]; exact (below_size (by repeat (first | (with_reducible first | exact HB.out | apply below_alloc | apply pw_below_drewN | apply below_drew1) | exact HB.out))) : w.heap.size ≤ gb221)); clear HO0_1; clear HB; have HO0_1 := n0_; have HB := n1_; have BK221 := n2_; have GW221 := n3_; have GE221 := n4_; clear n0_ n1_ n2_ n3_ n4_; clear hb hbox hg) | ((with_reducible refine gate_dst (N := 4) rfl ?_); refine box_event ?hg (N := 4) ?hd (cs := #[.int .i64 0, .int .i64 0, .slice none 0 0]) (t := 29) ?hr ?_; (case hd => rfl); (case hg => rfl); (case hr => first | (go_simp; done) | (go_simp; rfl)); intro gb222 hg w5 hbox hb; have n0_ := Aside0.mk (Kd.V_below (Kd.V_elderB (by (with_reducible repeat (first | apply Kd.V_alloc | apply Kd.V_drewN | apply Kd.V_drew)); exact HO0_1.out) gb222 (Nat.le_of_eq hg.symm)) hb); have n1_ := Aside0.mk (blk_below (g := gb221) (o := .cells #[.int .i64 a0_0, .slice A0_1 l0_1.length c0_1] 24 (0, 0)) (by (with_reducible repeat (first | refine blk_drewN ?_ _ | refine blk_drew ?_ | refine blk_alloc ?_ _)); exact BK221.out) hb); have n2_ := Aside0.mk (below_step (by repeat (first | (with_reducible first | exact HB.out | apply below_alloc | apply pw_below_drewN | apply below_drew1 | refine below_set ?_ GE221.out) | exact HB.out)) hb); have n3_ := Aside0.mk (hbox); have n4_ := Aside0.mk ((by rw [hg]; exact (below_size (by repeat (first | (with_reducible first | exact HB.out | apply below_alloc | apply pw_below_drewN | apply below_drew1 | refine below_set ?_ GE221.out) | exact HB.out))) : w.heap.size ≤ gb222)); have n5_ := Aside0.mk ((by rw [hg]; exact (below_size (by repeat (first | (with_reducible first | exact HB.out | apply below_alloc | apply pw_below_drewN | apply below_drew1 | refine below_set ?_ GE221.out) | exact HB.out))) : w.heap.size ≤ gb222)); have n6_ := Aside0.mk ((by rw [hg]; exact Nat.ne_of_lt (blk_lt (g := gb221) (o := .cells #[.int .i64 a0_0, .slice A0_1 l0_1.length c0_1] 24 (0, 0)) (by (with_reducible repeat (first | refine blk_drewN ?_ _ | refine blk_drew ?_ | refine blk_alloc ?_ _)); exact BK221.out)) : gb221 ≠ gb222)); have n7_ := Aside0.mk ((by rw [hg]; exact Nat.ne_of_gt (blk_lt (g := gb221) (o := .cells #[.int .i64 a0_0, .slice A0_1 l0_1.length c0_1] 24 (0, 0)) (by (with_reducible repeat (first | refine blk_drewN ?_ _ | refine blk_drew ?_ | refine blk_alloc ?_ _)); exact BK221.out)) : gb222 ≠ gb221)); clear HO0_1; clear BK221; clear HB; have HO0_1 := n0_; have BK221 := n1_; have HB := n2_; have BK222 := n3_; have GW222 := n4_; have GE222 := n5_; have NB221_222 := n6_; have NB222_221 := n7_; clear n0_ n1_ n2_ n3_ n4_ n5_ n6_ n7_; clear hb hbox hg) | ((with_reducible refine gate_dst (N := 5) rfl ?_); refine box_event ?hg (N := 5) ?hd (cs := #[.int .i64 0, .slice none 0 0]) (t := 24) ?hr ?_; (case hd => rfl); (case hg => rfl); (case hr => first | (go_simp; done) | (go_simp; rfl)); intro gb223 hg w6 hbox hb; have n0_ := Aside0.mk (Kd.V_below (Kd.V_elderB (by (with_reducible repeat (first | apply Kd.V_alloc | apply Kd.V_drewN | apply Kd.V_drew)); exact HO0_1.out) gb223 (Nat.le_of_eq hg.symm)) hb); have n1_ := Aside0.mk (blk_below (g := gb221) (o := .cells #[.int .i64 a0_0, .slice A0_1 l0_1.length c0_1] 24 (0, 0)) (by (with_reducible repeat (first | refine blk_drewN ?_ _ | refine blk_drew ?_ | refine blk_alloc ?_ _)); exact BK221.out) hb); have n2_ := Aside0.mk (blk_below (g := gb222) (o := .cells #[.int .i64 0, .int .i64 0, .slice none 0 0] 29 (0, 0)) (by (with_reducible repeat (first | refine blk_drewN ?_ _ | refine blk_drew ?_ | refine blk_alloc ?_ _)); exact BK222.out) hb); have n3_ := Aside0.mk (below_step (by repeat (first | (with_reducible first | exact HB.out | apply below_alloc | apply pw_below_drewN | apply below_drew1 | refine below_set ?_ GE221.out | refine below_set ?_ GE222.out) | exact HB.out)) hb); have n4_ := Aside0.mk (hbox); have n5_ := Aside0.mk ((by rw [hg]; exact (below_size (by repeat (first | (with_reducible first | exact HB.out | apply below_alloc | apply pw_below_drewN | apply below_drew1 | refine below_set ?_ GE221.out | refine below_set ?_ GE222.out) | exact HB.out))) : w.heap.size ≤ gb223)); have n6_ := Aside0.mk ((by rw [hg]; exact (below_size (by repeat (first | (with_reducible first | exact HB.out | apply below_alloc | apply pw_below_drewN | apply below_drew1 | refine below_set ?_ GE221.out | refine below_set ?_ GE222.out) | exact HB.out))) : w.heap.size ≤ gb223)); have n7_ := Aside0.mk ((by rw [hg]; exact Nat.ne_of_lt (blk_lt (g := gb221) (o := .cells #[.int .i64 a0_0, .slice A0_1 l0_1.length c0_1] 24 (0, 0)) (by (with_reducible repeat (first | refine blk_drewN ?_ _ | refine blk_drew ?_ | refine blk_alloc ?_ _)); exact BK221.out)) : gb221 ≠ gb223)); have n8_ := Aside0.mk ((by rw [hg]; exact Nat.ne_of_gt (blk_lt (g := gb221) (o := .cells #[.int .i64 a0_0, .slice A0_1 l0_1.length c0_1] 24 (0, 0)) (by (with_reducible repeat (first | refine blk_drewN ?_ _ | refine blk_drew ?_ | refine blk_alloc ?_ _)); exact BK221.out)) : gb223 ≠ gb221)); have n9_ := Aside0.mk ((by rw [hg]; exact Nat.ne_of_lt (blk_lt (g := gb222) (o := .cells #[.int .i64 0, .int .i64 0, .slice none 0 0] 29 (0, 0)) (by (with_reducible repeat (first | refine blk_drewN ?_ _ | refine blk_drew ?_ | refine blk_alloc ?_ _)); exact BK222.out)) : gb222 ≠ gb223)); have n10_ := Aside0.mk ((by rw [hg]; exact Nat.ne_of_gt (blk_lt (g := gb222) (o := .cells #[.int .i64 0, .int .i64 0, .slice none 0 0] 29 (0, 0)) (by (with_reducible repeat (first | refine blk_drewN ?_ _ | refine blk_drew ?_ | refine blk_alloc ?_ _)); exact BK222.out)) : gb223 ≠ gb222)); clear HO0_1; clear BK221; clear BK222; clear HB; have HO0_1 := n0_; have BK221 := n1_; have BK222 := n2_; have HB := n3_; have BK223 := n4_; have GW223 := n5_; have GE223 := n6_; have NB221_223 := n7_; have NB223_221 := n8_; have NB222_223 := n9_; have NB223_222 := n10_; clear n0_ n1_ n2_ n3_ n4_ n5_ n6_ n7_ n8_ n9_ n10_; clear hb hbox hg; have hnb7 := NB221_222.out; have hnc7 := NB222_221.out; have hnb8 := NB221_223.out; have hnc8 := NB223_221.out; have hcz9_0 : w6.cell? ⟨gb221, 0, none⟩ = some (.int .i64 a0_0) := (blk_cell BK221.out 0).trans rfl; have hcz9_1 : w6.cell? ⟨gb221, 1, none⟩ = some (.slice A0_1 l0_1.length c0_1) := (blk_cell BK221.out 1).trans rfl; have hfz9_0 := blk_frozen BK221.out 0; have hfz9_1 := blk_frozen BK221.out 1))
    have n0_ := Aside0.mk (Kd.V_drew HO0_1.out)
    have n1_ := Aside0.mk (blk_drew BK221.out)
    have n2_ := Aside0.mk (blk_drew BK222.out)
    have n3_ := Aside0.mk (blk_drew BK223.out)
    have n4_ := Aside0.mk (below_drew1 HB.out)
    clear HO0_1
    clear BK221
    clear BK222
    clear BK223
    clear HB
    have HO0_1 := n0_
    have BK221 := n1_
    have BK222 := n2_
    have BK223 := n3_
    have HB := n4_
    clear n0_ n1_ n2_ n3_ n4_
    refine start_ (n := 5) (S := fun w' => w'.cell? ⟨gb221, 0, none⟩ = some (.int .i64 a0_0) ∧ w'.cell? ⟨gb221, 1, none⟩ = some (.slice A0_1 l0_1.length c0_1)) (ds := []) #[false, false, false, false, false] (by kernel_rfl) rfl rfl ⟨(blk_cell BK221.out 0).trans rfl, (blk_cell BK221.out 1).trans rfl⟩ (fun hHeld => ?_)
    generalize w6.drew = w10 at HO0_1 BK221 BK222 BK223 HB hHeld ⊢
    refine pure_ (i := 0) (N := some 12) (v := ?_) (a' := ?_) #[true, false, false, false, false] rfl rfl (by kernel_rfl) (fun _ _ _ h => h) (Or.inl ⟨by rfl, ?_⟩) ?_ ?_
    rotate_left
    · intro w'
      go_simp
      with_reducible rfl
    rotate_left
    · simp only [Act.put, List.setIfInBounds_toArray, List.set_cons_zero, List.set_cons_succ, i64_w, i32_w]
      rfl
    refine take_ (i := 1) (N := some 13) (v := ?_) (a' := ?_) #[true, true, false, false, false] rfl rfl (by kernel_rfl) (fun _ _ _ h => h) (Or.inl ⟨by rfl, ?_⟩) hHeld ?_ ?_
    rotate_left
    · rintro w' ⟨s0, s1⟩
      go_simp
      with_reducible rfl
    rotate_left
    · simp only [Act.put, List.setIfInBounds_toArray, List.set_cons_zero, List.set_cons_succ, i64_w, i32_w]
      rfl
    refine one_ (i := 2) (N := none) #[true, true, true, false, false] rfl rfl (by kernel_rfl) (by decide) (fun K hK => ?_)
    have hs11 : w10.cell? ⟨gb222, 0, none⟩ = some (.int .i64 0) := (blk_cell BK222.out 0).trans rfl
    have hfs11 := blk_frozen BK222.out 0
    have hns11_0 := NB221_222.out
    have hns11_2 := NB223_222.out
    have hms11_0 := NB222_221.out
    have hms11_2 := NB222_223.out
    have hs12 : w10.cell? ⟨gb222, 1, none⟩ = some (.int .i64 0) := (blk_cell BK222.out 1).trans rfl
    have hfs12 := blk_frozen BK222.out 1
    have hns12_0 := NB221_222.out
    have hns12_2 := NB223_222.out
    have hms12_0 := NB222_221.out
    have hms12_2 := NB222_223.out
    have hs13 : w10.cell? ⟨gb222, 2, none⟩ = some (.slice none 0 0) := (blk_cell BK222.out 2).trans rfl
    have hfs13 := blk_frozen BK222.out 2
    have hns13_0 := NB221_222.out
    have hns13_2 := NB223_222.out
    have hms13_0 := NB222_221.out
    have hms13_2 := NB222_223.out
    refine skip_ (w1 := ?_) (by rfl) rfl ?_ ?_
    rotate_left
    · go_simp
      rfl
    refine hK.out _ _ ⟨((cell_far (p := ⟨gb222, _, none⟩) NB221_222.out _).trans (((cell_far (p := ⟨gb222, _, none⟩) NB221_222.out _).trans (((cell_far (p := ⟨gb222, _, none⟩) NB221_222.out _).trans (hHeld.1)))))), ((cell_far (p := ⟨gb222, _, none⟩) NB221_222.out _).trans (((cell_far (p := ⟨gb222, _, none⟩) NB221_222.out _).trans (((cell_far (p := ⟨gb222, _, none⟩) NB221_222.out _).trans (hHeld.2))))))⟩ (fun hHeld => ?_)
    clear hK K
    refine one_ (i := 3) (N := none) #[true, true, true, true, false] rfl rfl (by kernel_rfl) (by decide) (fun K hK => ?_)
    have hs14 : w10.cell? ⟨gb223, 0, none⟩ = some (.int .i64 0) := (blk_cell BK223.out 0).trans rfl
    have hfs14 := blk_frozen BK223.out 0
    have hns14_0 := NB221_223.out
    have hns14_1 := NB222_223.out
    have hms14_0 := NB223_221.out
    have hms14_1 := NB223_222.out
    have hs15 : w10.cell? ⟨gb223, 1, none⟩ = some (.slice none 0 0) := (blk_cell BK223.out 1).trans rfl
    have hfs15 := blk_frozen BK223.out 1
    have hns15_0 := NB221_223.out
    have hns15_1 := NB222_223.out
    have hms15_0 := NB223_221.out
    have hms15_1 := NB223_222.out
    refine skip_ (w1 := ?_) (by rfl) rfl ?_ ?_
    rotate_left
    · go_simp
      rfl
    refine hK.out _ _ ⟨((cell_far (p := ⟨gb223, _, none⟩) NB221_223.out _).trans (((cell_far (p := ⟨gb223, _, none⟩) NB221_223.out _).trans (hHeld.1)))), ((cell_far (p := ⟨gb223, _, none⟩) NB221_223.out _).trans (((cell_far (p := ⟨gb223, _, none⟩) NB221_223.out _).trans (hHeld.2))))⟩ (fun hHeld => ?_)
    clear hK K
    refine pure_ (i := 4) (N := some 6) (v := ?_) (a' := ?_) #[true, true, true, true, true] rfl rfl (by kernel_rfl) (fun _ _ _ h => h) (Or.inl ⟨by rfl, ?_⟩) ?_ ?_
    rotate_left
    · intro w'
      go_simp
      with_reducible rfl
    rotate_left
    · simp only [Act.put, List.setIfInBounds_toArray, List.set_cons_zero, List.set_cons_succ, i64_w, i32_w]
      rfl
    refine done_ (by kernel_rfl) ?_
    try go_wp2
    refine bodyPost_ret (results_list (rs := [.cell 4 29, .cell 5 24, .tmp 6]) rfl (by simp) (.cell gb222 29 #[.int .i64 0, .int .i64 0, .slice none 0 0] (0, 0) _ rfl (by (with_reducible repeat (first | refine blk_drewN ?_ _ | refine blk_drew ?_ | refine blk_alloc ?_ _)); refine blk_far ?_ NB222_223.out _; (with_reducible repeat (first | refine blk_drewN ?_ _ | refine blk_drew ?_ | refine blk_alloc ?_ _)); refine blk_far ?_ NB222_223.out _; (with_reducible repeat (first | refine blk_drewN ?_ _ | refine blk_drew ?_ | refine blk_alloc ?_ _)); refine blk_put (cs := #[.int .i64 0, .int .i64 0, .slice none 0 0]) ?_ 2 _ rfl; (with_reducible repeat (first | refine blk_drewN ?_ _ | refine blk_drew ?_ | refine blk_alloc ?_ _)); refine blk_put (cs := #[.int .i64 0, .int .i64 0, .slice none 0 0]) ?_ 1 _ rfl; (with_reducible repeat (first | refine blk_drewN ?_ _ | refine blk_drew ?_ | refine blk_alloc ?_ _)); refine blk_put (cs := #[.int .i64 0, .int .i64 0, .slice none 0 0]) ?_ 0 _ rfl; (with_reducible repeat (first | refine blk_drewN ?_ _ | refine blk_drew ?_ | refine blk_alloc ?_ _)); exact BK222.out) Try.underlying29 rfl (by kernel_rfl) (.cell gb223 24 #[.int .i64 a0_0, .slice A0_1 l0_1.length c0_1] (0, 0) _ rfl (by (with_reducible repeat (first | refine blk_drewN ?_ _ | refine blk_drew ?_ | refine blk_alloc ?_ _)); refine blk_put (cs := #[.int .i64 a0_0, .slice none 0 0]) ?_ 1 _ rfl; (with_reducible repeat (first | refine blk_drewN ?_ _ | refine blk_drew ?_ | refine blk_alloc ?_ _)); refine blk_put (cs := #[.int .i64 0, .slice none 0 0]) ?_ 0 _ rfl; (with_reducible repeat (first | refine blk_drewN ?_ _ | refine blk_drew ?_ | refine blk_alloc ?_ _)); refine blk_far ?_ NB223_222.out _; (with_reducible repeat (first | refine blk_drewN ?_ _ | refine blk_drew ?_ | refine blk_alloc ?_ _)); refine blk_far ?_ NB223_222.out _; (with_reducible repeat (first | refine blk_drewN ?_ _ | refine blk_drew ?_ | refine blk_alloc ?_ _)); refine blk_far ?_ NB223_222.out _; (with_reducible repeat (first | refine blk_drewN ?_ _ | refine blk_drew ?_ | refine blk_alloc ?_ _)); exact BK223.out) Try.underlying24 rfl (by kernel_rfl) (.tmp .nil)))) rfl ?_
    exact ⟨_, _, by first | rfl | (simp [errW_none, errW_some] <;> rfl) | (simp [*, errW_none, errW_some] <;> rfl), Kd.V_nil _ _ _ _ _, by (with_reducible repeat (first | apply Kd.V_alloc | apply Kd.V_drewN | apply Kd.V_drew)); exact Kd.V_mono (Kd.V_far (p := ⟨gb223, 1, none⟩) (Kd.V_far (p := ⟨gb223, 0, none⟩) (Kd.V_far (p := ⟨gb222, 2, none⟩) (Kd.V_far (p := ⟨gb222, 1, none⟩) (Kd.V_far (p := ⟨gb222, 0, none⟩) (Kd.V_mono (Kd.V_mono HO0_1.out (fun k_ hk => (⟨hk, hk.1.2⟩ : _ ∧ k_ ≠ gb222))) (fun k_ hk => (⟨hk, hk.1.2⟩ : _ ∧ k_ ≠ gb223))) (fun _ hk => hk.1.2) (.int .i64 0)) (fun _ hk => hk.1.2) (.int .i64 0)) (fun _ hk => hk.1.2) (.slice none 0 0)) (fun _ hk => hk.2) (.int .i64 a0_0)) (fun _ hk => hk.2) (.slice A0_1 l0_1.length c0_1)) (fun _ hk => hk.1.1.1.1.1), by repeat (first | (with_reducible first | exact HB.out | apply below_alloc | apply pw_below_drewN | apply below_drew1 | refine below_set ?_ GE221.out | refine below_set ?_ GE222.out | refine below_set ?_ GE223.out) | exact HB.out)⟩
  · rw [if_neg c3] at H
    have c3b0 : ((l0_1.length : Int) == 0) = false := beq_eq_false_iff_ne.mpr c3
    have c3b1 : ((l0_1.length : Int) != 0) = true := bne_iff_ne.mpr c3
    have c3b2 : ¬ (l0_1 = []) := fun h_ => c3 (by rw [h_]; rfl)
    obtain ⟨ji16, hji16⟩ : ∃ j_ : Int, (Int.tmod a1 (l0_1.length : Int)) = j_ := ⟨_, rfl⟩
    replace H : (if 0 ≤ (ji16) then (if (ji16) < (l0_1.length : Int) then ((lockgateref11_without.f k a0_0 l0_1 (ji16)).bind fun bt225 => (some ((rd_T29 l0_1 (ji16)).f0, (rd_T29 l0_1 (ji16)).f1, (rd_T29 l0_1 (ji16)).f2, bt225.1, bt225.2, true))) else (none)) else (none)) = some (r1, r2, r3, r4, r5, r6) := by first | (rw [hji16] at H; exact H) | (simp only [hji16] at H ⊢; exact H)
    by_cases c17 : 0 ≤ (ji16)
    · rw [if_pos c17] at H
      have c17b0 : decide (0 ≤ (ji16)) = true := decide_eq_true c17
      clear c17
      by_cases c18 : (ji16) < (l0_1.length : Int)
      · rw [if_pos c18] at H
        have c18b0 : decide ((ji16) < (l0_1.length : Int)) = true := decide_eq_true c18
        clear c18
        replace H := Option.bind_eq_some_iff.mp H
        obtain ⟨⟨t225, t226⟩, A190, H⟩ := H
        replace H : (some ((rd_T29 l0_1 (ji16)).f0, (rd_T29 l0_1 (ji16)).f1, (rd_T29 l0_1 (ji16)).f2, t225, t226, true)) = some (r1, r2, r3, r4, r5, r6) := H
        have A19 := Aside0.mk A190
        clear A190
        simp only [Option.some.injEq, Prod.mk.injEq] at H
        obtain ⟨rfl, rfl, rfl, rfl, rfl, rfl⟩ := H
        go_enter Try.func15, Try.ntmps15
        try go_wp2_with (first | ((with_reducible refine gate_dst (N := 2) rfl ?_); refine box_event ?hg (N := 2) ?hd (cs := #[.int .i64 a0_0, .slice A0_1 l0_1.length c0_1]) (t := 24) ?hr ?_; (case hd => rfl); (case hg => rfl); (case hr => first | (go_simp; done) | (go_simp; rfl)); intro gb221 hg w20 hbox hb; have n0_ := Aside0.mk (Kd.V_below (Kd.V_elderB (by (with_reducible repeat (first | apply Kd.V_alloc | apply Kd.V_drewN | apply Kd.V_drew)); exact HO0_1.out) gb221 (Nat.le_of_eq hg.symm)) hb); have n1_ := Aside0.mk (below_step (by repeat (first | (with_reducible first | exact HB.out | apply below_alloc | apply pw_below_drewN | apply below_drew1) | exact HB.out)) hb); have n2_ := Aside0.mk (hbox); have n3_ := Aside0.mk ((by rw [hg]; exact (below_size (by repeat (first | (with_reducible first | exact HB.out | apply below_alloc | apply pw_below_drewN | apply below_drew1) | exact HB.out))) : w.heap.size ≤ gb221)); have n4_ := Aside0.mk ((by rw [hg]; exact (below_size (by repeat (first | (with_reducible first | exact HB.out | apply below_alloc | apply pw_below_drewN | apply below_drew1) | exact HB.out))) : w.heap.size ≤ gb221)); clear HO0_1; clear HB; have HO0_1 := n0_; have HB := n1_; have BK221 := n2_; have GW221 := n3_; have GE221 := n4_; clear n0_ n1_ n2_ n3_ n4_; clear hb hbox hg) | ((with_reducible refine gate_dst (N := 4) rfl ?_); refine box_event ?hg (N := 4) ?hd (cs := #[.int .i64 0, .int .i64 0, .slice none 0 0]) (t := 29) ?hr ?_; (case hd => rfl); (case hg => rfl); (case hr => first | (go_simp; done) | (go_simp; rfl)); intro gb222 hg w21 hbox hb; have n0_ := Aside0.mk (Kd.V_below (Kd.V_elderB (by (with_reducible repeat (first | apply Kd.V_alloc | apply Kd.V_drewN | apply Kd.V_drew)); exact HO0_1.out) gb222 (Nat.le_of_eq hg.symm)) hb); have n1_ := Aside0.mk (blk_below (g := gb221) (o := .cells #[.int .i64 a0_0, .slice A0_1 l0_1.length c0_1] 24 (0, 0)) (by (with_reducible repeat (first | refine blk_drewN ?_ _ | refine blk_drew ?_ | refine blk_alloc ?_ _)); exact BK221.out) hb); have n2_ := Aside0.mk (below_step (by repeat (first | (with_reducible first | exact HB.out | apply below_alloc | apply pw_below_drewN | apply below_drew1 | refine below_set ?_ GE221.out) | exact HB.out)) hb); have n3_ := Aside0.mk (hbox); have n4_ := Aside0.mk ((by rw [hg]; exact (below_size (by repeat (first | (with_reducible first | exact HB.out | apply below_alloc | apply pw_below_drewN | apply below_drew1 | refine below_set ?_ GE221.out) | exact HB.out))) : w.heap.size ≤ gb222)); have n5_ := Aside0.mk ((by rw [hg]; exact (below_size (by repeat (first | (with_reducible first | exact HB.out | apply below_alloc | apply pw_below_drewN | apply below_drew1 | refine below_set ?_ GE221.out) | exact HB.out))) : w.heap.size ≤ gb222)); have n6_ := Aside0.mk ((by rw [hg]; exact Nat.ne_of_lt (blk_lt (g := gb221) (o := .cells #[.int .i64 a0_0, .slice A0_1 l0_1.length c0_1] 24 (0, 0)) (by (with_reducible repeat (first | refine blk_drewN ?_ _ | refine blk_drew ?_ | refine blk_alloc ?_ _)); exact BK221.out)) : gb221 ≠ gb222)); have n7_ := Aside0.mk ((by rw [hg]; exact Nat.ne_of_gt (blk_lt (g := gb221) (o := .cells #[.int .i64 a0_0, .slice A0_1 l0_1.length c0_1] 24 (0, 0)) (by (with_reducible repeat (first | refine blk_drewN ?_ _ | refine blk_drew ?_ | refine blk_alloc ?_ _)); exact BK221.out)) : gb222 ≠ gb221)); clear HO0_1; clear BK221; clear HB; have HO0_1 := n0_; have BK221 := n1_; have HB := n2_; have BK222 := n3_; have GW222 := n4_; have GE222 := n5_; have NB221_222 := n6_; have NB222_221 := n7_; clear n0_ n1_ n2_ n3_ n4_ n5_ n6_ n7_; clear hb hbox hg) | ((with_reducible refine gate_dst (N := 5) rfl ?_); refine box_event ?hg (N := 5) ?hd (cs := #[.int .i64 0, .slice none 0 0]) (t := 24) ?hr ?_; (case hd => rfl); (case hg => rfl); (case hr => first | (go_simp; done) | (go_simp; rfl)); intro gb223 hg w22 hbox hb; have n0_ := Aside0.mk (Kd.V_below (Kd.V_elderB (by (with_reducible repeat (first | apply Kd.V_alloc | apply Kd.V_drewN | apply Kd.V_drew)); exact HO0_1.out) gb223 (Nat.le_of_eq hg.symm)) hb); have n1_ := Aside0.mk (blk_below (g := gb221) (o := .cells #[.int .i64 a0_0, .slice A0_1 l0_1.length c0_1] 24 (0, 0)) (by (with_reducible repeat (first | refine blk_drewN ?_ _ | refine blk_drew ?_ | refine blk_alloc ?_ _)); exact BK221.out) hb); have n2_ := Aside0.mk (blk_below (g := gb222) (o := .cells #[.int .i64 0, .int .i64 0, .slice none 0 0] 29 (0, 0)) (by (with_reducible repeat (first | refine blk_drewN ?_ _ | refine blk_drew ?_ | refine blk_alloc ?_ _)); exact BK222.out) hb); have n3_ := Aside0.mk (below_step (by repeat (first | (with_reducible first | exact HB.out | apply below_alloc | apply pw_below_drewN | apply below_drew1 | refine below_set ?_ GE221.out | refine below_set ?_ GE222.out) | exact HB.out)) hb); have n4_ := Aside0.mk (hbox); have n5_ := Aside0.mk ((by rw [hg]; exact (below_size (by repeat (first | (with_reducible first | exact HB.out | apply below_alloc | apply pw_below_drewN | apply below_drew1 | refine below_set ?_ GE221.out | refine below_set ?_ GE222.out) | exact HB.out))) : w.heap.size ≤ gb223)); have n6_ := Aside0.mk ((by rw [hg]; exact (below_size (by repeat (first | (with_reducible first | exact HB.out | apply below_alloc | apply pw_below_drewN | apply below_drew1 | refine below_set ?_ GE221.out | refine below_set ?_ GE222.out) | exact HB.out))) : w.heap.size ≤ gb223)); have n7_ := Aside0.mk ((by rw [hg]; exact Nat.ne_of_lt (blk_lt (g := gb221) (o := .cells #[.int .i64 a0_0, .slice A0_1 l0_1.length c0_1] 24 (0, 0)) (by (with_reducible repeat (first | refine blk_drewN ?_ _ | refine blk_drew ?_ | refine blk_alloc ?_ _)); exact BK221.out)) : gb221 ≠ gb223)); have n8_ := Aside0.mk ((by rw [hg]; exact Nat.ne_of_gt (blk_lt (g := gb221) (o := .cells #[.int .i64 a0_0, .slice A0_1 l0_1.length c0_1] 24 (0, 0)) (by (with_reducible repeat (first | refine blk_drewN ?_ _ | refine blk_drew ?_ | refine blk_alloc ?_ _)); exact BK221.out)) : gb223 ≠ gb221)); have n9_ := Aside0.mk ((by rw [hg]; exact Nat.ne_of_lt (blk_lt (g := gb222) (o := .cells #[.int .i64 0, .int .i64 0, .slice none 0 0] 29 (0, 0)) (by (with_reducible repeat (first | refine blk_drewN ?_ _ | refine blk_drew ?_ | refine blk_alloc ?_ _)); exact BK222.out)) : gb222 ≠ gb223)); have n10_ := Aside0.mk ((by rw [hg]; exact Nat.ne_of_gt (blk_lt (g := gb222) (o := .cells #[.int .i64 0, .int .i64 0, .slice none 0 0] 29 (0, 0)) (by (with_reducible repeat (first | refine blk_drewN ?_ _ | refine blk_drew ?_ | refine blk_alloc ?_ _)); exact BK222.out)) : gb223 ≠ gb222)); clear HO0_1; clear BK221; clear BK222; clear HB; have HO0_1 := n0_; have BK221 := n1_; have BK222 := n2_; have HB := n3_; have BK223 := n4_; have GW223 := n5_; have GE223 := n6_; have NB221_223 := n7_; have NB223_221 := n8_; have NB222_223 := n9_; have NB223_222 := n10_; clear n0_ n1_ n2_ n3_ n4_ n5_ n6_ n7_ n8_ n9_ n10_; clear hb hbox hg; have hnb23 := NB221_222.out; have hnc23 := NB222_221.out; have hnb24 := NB221_223.out; have hnc24 := NB223_221.out; have hcz25_0 : w22.cell? ⟨gb221, 0, none⟩ = some (.int .i64 a0_0) := (blk_cell BK221.out 0).trans rfl; have hcz25_1 : w22.cell? ⟨gb221, 1, none⟩ = some (.slice A0_1 l0_1.length c0_1) := (blk_cell BK221.out 1).trans rfl; have hfz25_0 := blk_frozen BK221.out 0; have hfz25_1 := blk_frozen BK221.out 1))
        have n0_ := Aside0.mk (Kd.V_drew HO0_1.out)
        have n1_ := Aside0.mk (blk_drew BK221.out)
        have n2_ := Aside0.mk (blk_drew BK222.out)
        have n3_ := Aside0.mk (blk_drew BK223.out)
        have n4_ := Aside0.mk (below_drew1 HB.out)
        clear HO0_1
        clear BK221
        clear BK222
        clear BK223
        clear HB
        have HO0_1 := n0_
        have BK221 := n1_
        have BK222 := n2_
        have BK223 := n3_
        have HB := n4_
        clear n0_ n1_ n2_ n3_ n4_
        have p224 : 0 ≤ ((ji16) : Int) := of_decide_eq_true (by first | (with_reducible assumption) | assumption)
        have q224 : (ji16) < (l0_1.length : Int) := of_decide_eq_true (by first | (with_reducible assumption) | assumption)
        obtain ⟨ad224, A224_2, c224_2, e224, hx224_0, hx224_1, hx224_2, hl224_2, hi224_2⟩ := at_T29 (Kd.V_reads' HO0_1.out).2.2 (ji16) p224 q224
        cases e224
        obtain ⟨ce224, hce224, hMe224, hcc224⟩ := Kd.V_get HO0_1.out z29 (ji16) p224 (by first | exact q224 | exact of_decide_eq_true (by first | (with_reducible assumption) | assumption) | (have e_ := (Kd.V_reads' HO0_1.out).1; omega))
        obtain ⟨ua224_2, uc224_2, rfl, ul224_2, ge224_2⟩ := k29_openF hMe224
        have hv224_2 := hcc224 2 _ rfl
        rw [add_field _ _ 2 (by omega)] at hv224_2
        replace hv224_2 := Option.some.inj (hv224_2.symm.trans hx224_2)
        injection hv224_2 with hva_ hvn_ hvc_
        rw [hva_] at ge224_2
        rw [hvc_] at ul224_2
        have HL224_2 := Aside0.mk (show Kd.V (Kd.int .u8) 5 _ w.heap.size _ _ ((rd_T29 l0_1 (ji16)).f2) from Kd.V_mk ul224_2 ge224_2)
        clear hva_ hvn_ hvc_ ge224_2 ul224_2
        clear hcc224 hce224
        have HR224_2 := Aside0.mk hi224_2
        have HC224_2 := Aside0.mk hl224_2
        clear hi224_2 hl224_2
        replace p224 := eq_true p224
        replace q224 := eq_true q224
        refine start_ (n := 11) (S := fun w' => w'.cell? ⟨gb221, 0, none⟩ = some (.int .i64 a0_0) ∧ w'.cell? ⟨gb221, 1, none⟩ = some (.slice (some ad224) l0_1.length c0_1) ∧ w'.cell? (ad224.add (((ji16)).toNat * 3)) = some (.int .i64 ((rd_T29 l0_1 (ji16)).f0)) ∧ w'.cell? ⟨(ad224.add (((ji16)).toNat * 3)).block, (ad224.add (((ji16)).toNat * 3)).off + 1, none⟩ = some (.int .i64 ((rd_T29 l0_1 (ji16)).f1)) ∧ w'.cell? ⟨(ad224.add (((ji16)).toNat * 3)).block, (ad224.add (((ji16)).toNat * 3)).off + 2, none⟩ = some (.slice A224_2 ((rd_T29 l0_1 (ji16)).f2).length c224_2)) (ds := []) #[false, false, false, false, false, false, false, false, false, false, false] (by kernel_rfl) rfl rfl ⟨(blk_cell BK221.out 0).trans rfl, (blk_cell BK221.out 1).trans rfl, hx224_0, hx224_1, hx224_2⟩ (fun hHeld => ?_); refine with_tabW lockgateref11_Take.tab4 lockgateref11_Take.bits4 (fun HT_ HW_ => ?_)
        generalize w22.drew = w26 at HO0_1 BK221 BK222 BK223 HB HL224_2 HR224_2 hx224_0 hx224_1 hx224_2 hHeld ⊢
        refine pure_ (i := 0) (N := some 19) (v := ?_) (a' := ?_) #[true, false, false, false, false, false, false, false, false, false, false] rfl rfl (any_of HT_.out (by kernel_rfl)) (fun _ _ _ h => h) (Or.inl ⟨by rfl, ?_⟩) ?_ ?_
        rotate_left
        · intro w'
          go_simp
          with_reducible rfl
        rotate_left
        · simp only [Act.put, List.setIfInBounds_toArray, List.set_cons_zero, List.set_cons_succ, i64_w, i32_w]
          rfl
        refine pure_ (i := 2) (N := some 21) (v := ?_) (a' := ?_) #[true, false, true, false, false, false, false, false, false, false, false] rfl rfl (any_of HT_.out (by kernel_rfl)) (fun _ _ _ h => h) (Or.inl ⟨by rfl, ?_⟩) ?_ ?_
        rotate_left
        · intro w'
          go_simp
          with_reducible rfl
        rotate_left
        · simp only [Act.put, List.setIfInBounds_toArray, List.set_cons_zero, List.set_cons_succ, i64_w, i32_w]
          rfl
        refine pure_ (i := 6) (N := some 25) (v := ?_) (a' := ?_) #[true, false, true, false, false, false, true, false, false, false, false] rfl rfl (any_of HT_.out (by kernel_rfl)) (fun _ _ _ h => h) (Or.inl ⟨by rfl, ?_⟩) ?_ ?_
        rotate_left
        · intro w'
          go_simp
          with_reducible rfl
        rotate_left
        · simp only [Act.put, List.setIfInBounds_toArray, List.set_cons_zero, List.set_cons_succ, i64_w, i32_w]
          rfl
        refine take_ (i := 1) (N := some 20) (v := ?_) (a' := ?_) #[true, true, true, false, false, false, true, false, false, false, false] rfl rfl (take_ofW HT_.out HW_.out (by kernel_rfl)) (fun _ _ _ h => h) (Or.inl ⟨by rfl, ?_⟩) hHeld ?_ ?_
        rotate_left
        · rintro w' ⟨s0, s1, s2, s3, s4⟩
          go_simp
          with_reducible rfl
        rotate_left
        · simp only [Act.put, List.setIfInBounds_toArray, List.set_cons_zero, List.set_cons_succ, i64_w, i32_w]
          rfl
        refine pure_ (i := 3) (N := some 22) (v := ?_) (a' := ?_) #[true, true, true, true, false, false, true, false, false, false, false] rfl rfl (any_of HT_.out (by kernel_rfl)) (fun _ _ _ h => h) (Or.inl ⟨by rfl, ?_⟩) ?_ ?_
        rotate_left
        · intro w'
          go_simp
          with_reducible rfl
        rotate_left
        · simp only [Act.put, List.setIfInBounds_toArray, List.set_cons_zero, List.set_cons_succ, i64_w, i32_w]
          rfl
        refine take_ (i := 4) (N := some 23) (v := ?_) (a' := ?_) #[true, true, true, true, true, false, true, false, false, false, false] rfl rfl (take_ofW HT_.out HW_.out (by kernel_rfl)) (fun _ _ _ h => h) (Or.inl ⟨by rfl, ?_⟩) hHeld ?_ ?_
        rotate_left
        · rintro w' ⟨s0, s1, s2, s3, s4⟩
          go_simp
          with_reducible rfl
        rotate_left
        · simp only [Act.put, List.setIfInBounds_toArray, List.set_cons_zero, List.set_cons_succ, i64_w, i32_w]
          rfl
        refine take_ (i := 5) (N := some 24) (v := ?_) (a' := ?_) #[true, true, true, true, true, true, true, false, false, false, false] rfl rfl (take_ofW HT_.out HW_.out (by kernel_rfl)) (fun _ _ _ h => h) (Or.inl ⟨by rfl, ?_⟩) hHeld ?_ ?_
        rotate_left
        · rintro w' ⟨s0, s1, s2, s3, s4⟩
          go_simp
          with_reducible rfl
        rotate_left
        · simp only [Act.put, List.setIfInBounds_toArray, List.set_cons_zero, List.set_cons_succ, i64_w, i32_w]
          rfl
        refine one_ (i := 7) (N := some 26) #[true, true, true, true, true, true, true, true, false, false, false] rfl rfl (one_of HT_.out (by kernel_rfl)) (by decide) (fun K hK => ?_)
        refine goes_ Try.func24 (by kernel_rfl) rfl #[.agg #[.int .i64 a0_0, .slice (some ad224) l0_1.length c0_1], .int .i64 ji16] (by rfl) rfl rfl (by (try simp only [List.map_toArray, List.map_cons, List.map_nil]); first | done | (simp only [hji16]; rfl) | rfl | (simp only [List.length_drop, List.length_take]; rfl)) ?_
        with_reducible refine (lockgateref11_without.calls k a0_0 (fun k_ => ((((P0_1_ k_ ∨ w.heap.size ≤ k_) ∧ k_ ≠ gb221) ∧ k_ ≠ gb222) ∧ k_ ≠ gb223)) _ _ l0_1 ji16 t225 t226 _ ?side1 A19.out).mono ?_
        (case side1 => exact HO0_1.out)
        rintro e w27 ⟨v227, rfl, ho0, hb⟩
        have HS2_ := (hb.cell (World.block_lt_of_cell? _ _ (hHeld.2.2.1))).trans (hHeld.2.2.1)
        have HS3_ := (hb.cell (World.block_lt_of_cell? _ _ (hHeld.2.2.2.1))).trans (hHeld.2.2.2.1)
        have HS4_ := (hb.cell (World.block_lt_of_cell? _ _ (hHeld.2.2.2.2))).trans (hHeld.2.2.2.2)
        refine ⟨_, rfl, ?_⟩
        have n0_ := Aside0.mk (Kd.V_elder' (by (with_reducible repeat (first | apply Kd.V_alloc | apply Kd.V_drewN | apply Kd.V_drew)); exact HO0_1.out) (Kd.N_base ho0) hb)
        have n1_ := Aside0.mk (Kd.V_elder' (by (with_reducible repeat (first | apply Kd.V_alloc | apply Kd.V_drewN | apply Kd.V_drew)); exact HL224_2.out) (Kd.N_base ho0) hb)
        have n2_ := Aside0.mk (Kd.N_lower (Kd.N_mono (ok' := fun k_ => (P0_1_ k_ ∨ w.heap.size ≤ k_) ∧ k_ ≠ gb221 ∧ k_ ≠ gb222 ∧ k_ ≠ gb223) ho0 (fun k_ hk_ => ⟨Or.elim hk_ (fun hs_ => hs_.1.1.1) (fun hn_ => (.inr (Nat.le_trans (below_size (by repeat (first | (with_reducible first | exact HB.out | apply below_alloc | apply pw_below_drewN | apply below_drew1 | refine below_set ?_ GE221.out | refine below_set ?_ GE222.out | refine below_set ?_ GE223.out) | exact HB.out))) hn_))), Or.elim hk_ (fun hs_ => hs_.1.1.2) (fun hn_ => (Kd.freshB (g := gb221) (o := .cells #[.int .i64 a0_0, .slice (some ad224) l0_1.length c0_1] 24 (0, 0)) (by (with_reducible repeat (first | refine blk_drewN ?_ _ | refine blk_drew ?_ | refine blk_alloc ?_ _)); exact BK221.out) k_ hn_)), Or.elim hk_ (fun hs_ => hs_.1.2) (fun hn_ => (Kd.freshB (g := gb222) (o := .cells #[.int .i64 0, .int .i64 0, .slice none 0 0] 29 (0, 0)) (by (with_reducible repeat (first | refine blk_drewN ?_ _ | refine blk_drew ?_ | refine blk_alloc ?_ _)); exact BK222.out) k_ hn_)), Or.elim hk_ (fun hs_ => hs_.2) (fun hn_ => (Kd.freshB (g := gb223) (o := .cells #[.int .i64 0, .slice none 0 0] 24 (0, 0)) (by (with_reducible repeat (first | refine blk_drewN ?_ _ | refine blk_drew ?_ | refine blk_alloc ?_ _)); exact BK223.out) k_ hn_))⟩)) (below_size (by repeat (first | (with_reducible first | exact HB.out | apply below_alloc | apply pw_below_drewN | apply below_drew1 | refine below_set ?_ GE221.out | refine below_set ?_ GE222.out | refine below_set ?_ GE223.out) | exact HB.out))))
        have n3_ := Aside0.mk (blk_below (g := gb221) (o := .cells #[.int .i64 a0_0, .slice (some ad224) l0_1.length c0_1] 24 (0, 0)) (by (with_reducible repeat (first | refine blk_drewN ?_ _ | refine blk_drew ?_ | refine blk_alloc ?_ _)); exact BK221.out) hb)
        have n4_ := Aside0.mk (blk_below (g := gb222) (o := .cells #[.int .i64 0, .int .i64 0, .slice none 0 0] 29 (0, 0)) (by (with_reducible repeat (first | refine blk_drewN ?_ _ | refine blk_drew ?_ | refine blk_alloc ?_ _)); exact BK222.out) hb)
        have n5_ := Aside0.mk (blk_below (g := gb223) (o := .cells #[.int .i64 0, .slice none 0 0] 24 (0, 0)) (by (with_reducible repeat (first | refine blk_drewN ?_ _ | refine blk_drew ?_ | refine blk_alloc ?_ _)); exact BK223.out) hb)
        have n6_ := Aside0.mk (Kd.C_below (by repeat (first | (with_reducible exact HR224_2.out) | (with_reducible refine Kd.C_alloc ?_ _) | (with_reducible refine Kd.C_drewN ?_ _) | (with_reducible refine Kd.C_drew ?_) | exact HR224_2.out)) hb)
        have n7_ := Aside0.mk (below_step (by repeat (first | (with_reducible first | exact HB.out | apply below_alloc | apply pw_below_drewN | apply below_drew1 | refine below_set ?_ GE221.out | refine below_set ?_ GE222.out | refine below_set ?_ GE223.out) | exact HB.out)) hb)
        clear HO0_1
        clear HL224_2
        clear BK221
        clear BK222
        clear BK223
        clear HR224_2
        clear HB
        have HO0_1 := n0_
        have HL224_2 := n1_
        have HO228 := n2_
        have BK221 := n3_
        have BK222 := n4_
        have BK223 := n5_
        have HR224_2 := n6_
        have HB := n7_
        clear n0_ n1_ n2_ n3_ n4_ n5_ n6_ n7_
        (try clear hb)
        (try clear hb2)
        (try clear hk)
        (try clear hi)
        (try clear ho0)
        obtain ⟨Ao32, co32, eo32⟩ := Kd.N_slice HO228.out
        (first | subst eo32 | (injection eo32 with f1_ f2_ f3_; have f4_ := f1_.symm; have f5_ := f3_.symm; clear f1_ f2_ f3_; subst f4_; subst f5_))
        refine hK.out _ _ ⟨(blk_cell BK221.out 0).trans rfl, (blk_cell BK221.out 1).trans rfl, HS2_, HS3_, HS4_⟩ (fun hHeld => ?_)
        clear hK K
        refine norm_ (a' := ?_) ?_ ?_
        rotate_left
        · show Act.put _ (some 26) _ = _
          simp only [Act.put, List.setIfInBounds_toArray, List.set_cons_zero, List.set_cons_succ, i64_w, i32_w]
          rfl
        refine one_ (i := 8) (N := none) #[true, true, true, true, true, true, true, true, true, false, false] rfl rfl (one_of HT_.out (by kernel_rfl)) (by decide) (fun K hK => ?_)
        have hs28 : w27.cell? ⟨gb222, 0, none⟩ = some (.int .i64 0) := (blk_cell BK222.out 0).trans rfl
        have hfs28 := blk_frozen BK222.out 0
        have hns28_0 := NB221_222.out
        have hns28_2 := NB223_222.out
        have hms28_0 := NB222_221.out
        have hms28_2 := NB222_223.out
        have hs29 : w27.cell? ⟨gb222, 1, none⟩ = some (.int .i64 0) := (blk_cell BK222.out 1).trans rfl
        have hfs29 := blk_frozen BK222.out 1
        have hns29_0 := NB221_222.out
        have hns29_2 := NB223_222.out
        have hms29_0 := NB222_221.out
        have hms29_2 := NB222_223.out
        have hs30 : w27.cell? ⟨gb222, 2, none⟩ = some (.slice none 0 0) := (blk_cell BK222.out 2).trans rfl
        have hfs30 := blk_frozen BK222.out 2
        have hns30_0 := NB221_222.out
        have hns30_2 := NB223_222.out
        have hms30_0 := NB222_221.out
        have hms30_2 := NB222_223.out
        refine skip_ (w1 := ?_) (by rfl) rfl ?_ ?_
        rotate_left
        · go_simp
          rfl
        refine hK.out _ _ ⟨((cell_far (p := ⟨gb222, _, none⟩) NB221_222.out _).trans (((cell_far (p := ⟨gb222, _, none⟩) NB221_222.out _).trans (((cell_far (p := ⟨gb222, _, none⟩) NB221_222.out _).trans (hHeld.1)))))), ((cell_far (p := ⟨gb222, _, none⟩) NB221_222.out _).trans (((cell_far (p := ⟨gb222, _, none⟩) NB221_222.out _).trans (((cell_far (p := ⟨gb222, _, none⟩) NB221_222.out _).trans (hHeld.2.1)))))), ((cell_far (p := ⟨gb222, _, none⟩) (by first | exact Kd.own_blk (Kd.V_away HO0_1.out (fun _ hk => hk.1.1.2)) | (rw [add_block]; exact Kd.own_blk (Kd.V_away HO0_1.out (fun _ hk => hk.1.1.2))) | (show (Addr.add _ _).block ≠ _; rw [add_block]; exact Kd.own_blk (Kd.V_away HO0_1.out (fun _ hk => hk.1.1.2))) | (dsimp only; exact Kd.own_blk (Kd.V_away HO0_1.out (fun _ hk => hk.1.1.2)))) _).trans (((cell_far (p := ⟨gb222, _, none⟩) (by first | exact Kd.own_blk (Kd.V_away HO0_1.out (fun _ hk => hk.1.1.2)) | (rw [add_block]; exact Kd.own_blk (Kd.V_away HO0_1.out (fun _ hk => hk.1.1.2))) | (show (Addr.add _ _).block ≠ _; rw [add_block]; exact Kd.own_blk (Kd.V_away HO0_1.out (fun _ hk => hk.1.1.2))) | (dsimp only; exact Kd.own_blk (Kd.V_away HO0_1.out (fun _ hk => hk.1.1.2)))) _).trans (((cell_far (p := ⟨gb222, _, none⟩) (by first | exact Kd.own_blk (Kd.V_away HO0_1.out (fun _ hk => hk.1.1.2)) | (rw [add_block]; exact Kd.own_blk (Kd.V_away HO0_1.out (fun _ hk => hk.1.1.2))) | (show (Addr.add _ _).block ≠ _; rw [add_block]; exact Kd.own_blk (Kd.V_away HO0_1.out (fun _ hk => hk.1.1.2))) | (dsimp only; exact Kd.own_blk (Kd.V_away HO0_1.out (fun _ hk => hk.1.1.2)))) _).trans (hHeld.2.2.1)))))), ((cell_far (p := ⟨gb222, _, none⟩) (by first | exact Kd.own_blk (Kd.V_away HO0_1.out (fun _ hk => hk.1.1.2)) | (rw [add_block]; exact Kd.own_blk (Kd.V_away HO0_1.out (fun _ hk => hk.1.1.2))) | (show (Addr.add _ _).block ≠ _; rw [add_block]; exact Kd.own_blk (Kd.V_away HO0_1.out (fun _ hk => hk.1.1.2))) | (dsimp only; exact Kd.own_blk (Kd.V_away HO0_1.out (fun _ hk => hk.1.1.2)))) _).trans (((cell_far (p := ⟨gb222, _, none⟩) (by first | exact Kd.own_blk (Kd.V_away HO0_1.out (fun _ hk => hk.1.1.2)) | (rw [add_block]; exact Kd.own_blk (Kd.V_away HO0_1.out (fun _ hk => hk.1.1.2))) | (show (Addr.add _ _).block ≠ _; rw [add_block]; exact Kd.own_blk (Kd.V_away HO0_1.out (fun _ hk => hk.1.1.2))) | (dsimp only; exact Kd.own_blk (Kd.V_away HO0_1.out (fun _ hk => hk.1.1.2)))) _).trans (((cell_far (p := ⟨gb222, _, none⟩) (by first | exact Kd.own_blk (Kd.V_away HO0_1.out (fun _ hk => hk.1.1.2)) | (rw [add_block]; exact Kd.own_blk (Kd.V_away HO0_1.out (fun _ hk => hk.1.1.2))) | (show (Addr.add _ _).block ≠ _; rw [add_block]; exact Kd.own_blk (Kd.V_away HO0_1.out (fun _ hk => hk.1.1.2))) | (dsimp only; exact Kd.own_blk (Kd.V_away HO0_1.out (fun _ hk => hk.1.1.2)))) _).trans (hHeld.2.2.2.1)))))), ((cell_far (p := ⟨gb222, _, none⟩) (by first | exact Kd.own_blk (Kd.V_away HO0_1.out (fun _ hk => hk.1.1.2)) | (rw [add_block]; exact Kd.own_blk (Kd.V_away HO0_1.out (fun _ hk => hk.1.1.2))) | (show (Addr.add _ _).block ≠ _; rw [add_block]; exact Kd.own_blk (Kd.V_away HO0_1.out (fun _ hk => hk.1.1.2))) | (dsimp only; exact Kd.own_blk (Kd.V_away HO0_1.out (fun _ hk => hk.1.1.2)))) _).trans (((cell_far (p := ⟨gb222, _, none⟩) (by first | exact Kd.own_blk (Kd.V_away HO0_1.out (fun _ hk => hk.1.1.2)) | (rw [add_block]; exact Kd.own_blk (Kd.V_away HO0_1.out (fun _ hk => hk.1.1.2))) | (show (Addr.add _ _).block ≠ _; rw [add_block]; exact Kd.own_blk (Kd.V_away HO0_1.out (fun _ hk => hk.1.1.2))) | (dsimp only; exact Kd.own_blk (Kd.V_away HO0_1.out (fun _ hk => hk.1.1.2)))) _).trans (((cell_far (p := ⟨gb222, _, none⟩) (by first | exact Kd.own_blk (Kd.V_away HO0_1.out (fun _ hk => hk.1.1.2)) | (rw [add_block]; exact Kd.own_blk (Kd.V_away HO0_1.out (fun _ hk => hk.1.1.2))) | (show (Addr.add _ _).block ≠ _; rw [add_block]; exact Kd.own_blk (Kd.V_away HO0_1.out (fun _ hk => hk.1.1.2))) | (dsimp only; exact Kd.own_blk (Kd.V_away HO0_1.out (fun _ hk => hk.1.1.2)))) _).trans (hHeld.2.2.2.2))))))⟩ (fun hHeld => ?_)
        clear hK K
        refine one_ (i := 9) (N := none) #[true, true, true, true, true, true, true, true, true, true, false] rfl rfl (one_of HT_.out (by kernel_rfl)) (by decide) (fun K hK => ?_)
        have hs31 : w27.cell? ⟨gb223, 0, none⟩ = some (.int .i64 0) := (blk_cell BK223.out 0).trans rfl
        have hfs31 := blk_frozen BK223.out 0
        have hns31_0 := NB221_223.out
        have hns31_1 := NB222_223.out
        have hms31_0 := NB223_221.out
        have hms31_1 := NB223_222.out
        have hs33 : w27.cell? ⟨gb223, 1, none⟩ = some (.slice none 0 0) := (blk_cell BK223.out 1).trans rfl
        have hfs33 := blk_frozen BK223.out 1
        have hns33_0 := NB221_223.out
        have hns33_1 := NB222_223.out
        have hms33_0 := NB223_221.out
        have hms33_1 := NB223_222.out
        refine skip_ (w1 := ?_) (by rfl) rfl ?_ ?_
        rotate_left
        · go_simp
          rfl
        refine hK.out _ _ ⟨((cell_far (p := ⟨gb223, _, none⟩) NB221_223.out _).trans (((cell_far (p := ⟨gb223, _, none⟩) NB221_223.out _).trans (hHeld.1)))), ((cell_far (p := ⟨gb223, _, none⟩) NB221_223.out _).trans (((cell_far (p := ⟨gb223, _, none⟩) NB221_223.out _).trans (hHeld.2.1)))), ((cell_far (p := ⟨gb223, _, none⟩) (by first | exact Kd.own_blk (Kd.V_away HO0_1.out (fun _ hk => hk.1.2)) | (rw [add_block]; exact Kd.own_blk (Kd.V_away HO0_1.out (fun _ hk => hk.1.2))) | (show (Addr.add _ _).block ≠ _; rw [add_block]; exact Kd.own_blk (Kd.V_away HO0_1.out (fun _ hk => hk.1.2))) | (dsimp only; exact Kd.own_blk (Kd.V_away HO0_1.out (fun _ hk => hk.1.2)))) _).trans (((cell_far (p := ⟨gb223, _, none⟩) (by first | exact Kd.own_blk (Kd.V_away HO0_1.out (fun _ hk => hk.1.2)) | (rw [add_block]; exact Kd.own_blk (Kd.V_away HO0_1.out (fun _ hk => hk.1.2))) | (show (Addr.add _ _).block ≠ _; rw [add_block]; exact Kd.own_blk (Kd.V_away HO0_1.out (fun _ hk => hk.1.2))) | (dsimp only; exact Kd.own_blk (Kd.V_away HO0_1.out (fun _ hk => hk.1.2)))) _).trans (hHeld.2.2.1)))), ((cell_far (p := ⟨gb223, _, none⟩) (by first | exact Kd.own_blk (Kd.V_away HO0_1.out (fun _ hk => hk.1.2)) | (rw [add_block]; exact Kd.own_blk (Kd.V_away HO0_1.out (fun _ hk => hk.1.2))) | (show (Addr.add _ _).block ≠ _; rw [add_block]; exact Kd.own_blk (Kd.V_away HO0_1.out (fun _ hk => hk.1.2))) | (dsimp only; exact Kd.own_blk (Kd.V_away HO0_1.out (fun _ hk => hk.1.2)))) _).trans (((cell_far (p := ⟨gb223, _, none⟩) (by first | exact Kd.own_blk (Kd.V_away HO0_1.out (fun _ hk => hk.1.2)) | (rw [add_block]; exact Kd.own_blk (Kd.V_away HO0_1.out (fun _ hk => hk.1.2))) | (show (Addr.add _ _).block ≠ _; rw [add_block]; exact Kd.own_blk (Kd.V_away HO0_1.out (fun _ hk => hk.1.2))) | (dsimp only; exact Kd.own_blk (Kd.V_away HO0_1.out (fun _ hk => hk.1.2)))) _).trans (hHeld.2.2.2.1)))), ((cell_far (p := ⟨gb223, _, none⟩) (by first | exact Kd.own_blk (Kd.V_away HO0_1.out (fun _ hk => hk.1.2)) | (rw [add_block]; exact Kd.own_blk (Kd.V_away HO0_1.out (fun _ hk => hk.1.2))) | (show (Addr.add _ _).block ≠ _; rw [add_block]; exact Kd.own_blk (Kd.V_away HO0_1.out (fun _ hk => hk.1.2))) | (dsimp only; exact Kd.own_blk (Kd.V_away HO0_1.out (fun _ hk => hk.1.2)))) _).trans (((cell_far (p := ⟨gb223, _, none⟩) (by first | exact Kd.own_blk (Kd.V_away HO0_1.out (fun _ hk => hk.1.2)) | (rw [add_block]; exact Kd.own_blk (Kd.V_away HO0_1.out (fun _ hk => hk.1.2))) | (show (Addr.add _ _).block ≠ _; rw [add_block]; exact Kd.own_blk (Kd.V_away HO0_1.out (fun _ hk => hk.1.2))) | (dsimp only; exact Kd.own_blk (Kd.V_away HO0_1.out (fun _ hk => hk.1.2)))) _).trans (hHeld.2.2.2.2))))⟩ (fun hHeld => ?_)
        clear hK K
        refine pure_ (i := 10) (N := some 6) (v := ?_) (a' := ?_) #[true, true, true, true, true, true, true, true, true, true, true] rfl rfl (any_of HT_.out (by kernel_rfl)) (fun _ _ _ h => h) (Or.inl ⟨by rfl, ?_⟩) ?_ ?_
        rotate_left
        · intro w'
          go_simp
          with_reducible rfl
        rotate_left
        · simp only [Act.put, List.setIfInBounds_toArray, List.set_cons_zero, List.set_cons_succ, i64_w, i32_w]
          rfl
        refine done_ (done_of HT_.out (by kernel_rfl)) ?_
        try go_wp2
        refine bodyPost_ret (results_list (rs := [.cell 4 29, .cell 5 24, .tmp 6]) rfl (by simp) (.cell gb222 29 #[.int .i64 ((rd_T29 l0_1 (ji16)).f0), .int .i64 ((rd_T29 l0_1 (ji16)).f1), .slice A224_2 ((rd_T29 l0_1 (ji16)).f2).length c224_2] (0, 0) _ rfl (by (with_reducible repeat (first | refine blk_drewN ?_ _ | refine blk_drew ?_ | refine blk_alloc ?_ _)); refine blk_far ?_ NB222_223.out _; (with_reducible repeat (first | refine blk_drewN ?_ _ | refine blk_drew ?_ | refine blk_alloc ?_ _)); refine blk_far ?_ NB222_223.out _; (with_reducible repeat (first | refine blk_drewN ?_ _ | refine blk_drew ?_ | refine blk_alloc ?_ _)); refine blk_put (cs := #[.int .i64 ((rd_T29 l0_1 (ji16)).f0), .int .i64 ((rd_T29 l0_1 (ji16)).f1), .slice none 0 0]) ?_ 2 _ rfl; (with_reducible repeat (first | refine blk_drewN ?_ _ | refine blk_drew ?_ | refine blk_alloc ?_ _)); refine blk_put (cs := #[.int .i64 ((rd_T29 l0_1 (ji16)).f0), .int .i64 0, .slice none 0 0]) ?_ 1 _ rfl; (with_reducible repeat (first | refine blk_drewN ?_ _ | refine blk_drew ?_ | refine blk_alloc ?_ _)); refine blk_put (cs := #[.int .i64 0, .int .i64 0, .slice none 0 0]) ?_ 0 _ rfl; (with_reducible repeat (first | refine blk_drewN ?_ _ | refine blk_drew ?_ | refine blk_alloc ?_ _)); exact BK222.out) Try.underlying29 rfl (by kernel_rfl) (.cell gb223 24 #[.int .i64 t225, .slice Ao32 t226.length co32] (0, 0) _ rfl (by (with_reducible repeat (first | refine blk_drewN ?_ _ | refine blk_drew ?_ | refine blk_alloc ?_ _)); refine blk_put (cs := #[.int .i64 t225, .slice none 0 0]) ?_ 1 _ rfl; (with_reducible repeat (first | refine blk_drewN ?_ _ | refine blk_drew ?_ | refine blk_alloc ?_ _)); refine blk_put (cs := #[.int .i64 0, .slice none 0 0]) ?_ 0 _ rfl; (with_reducible repeat (first | refine blk_drewN ?_ _ | refine blk_drew ?_ | refine blk_alloc ?_ _)); refine blk_far ?_ NB223_222.out _; (with_reducible repeat (first | refine blk_drewN ?_ _ | refine blk_drew ?_ | refine blk_alloc ?_ _)); refine blk_far ?_ NB223_222.out _; (with_reducible repeat (first | refine blk_drewN ?_ _ | refine blk_drew ?_ | refine blk_alloc ?_ _)); refine blk_far ?_ NB223_222.out _; (with_reducible repeat (first | refine blk_drewN ?_ _ | refine blk_drew ?_ | refine blk_alloc ?_ _)); exact BK223.out) Try.underlying24 rfl (by kernel_rfl) (.tmp .nil)))) rfl ?_
        exact ⟨_, _, by first | rfl | (simp [errW_none, errW_some] <;> rfl) | (simp only [← hji16]; first | rfl | (simp [errW_none, errW_some] <;> rfl)) | (simp [*, errW_none, errW_some] <;> rfl), by (with_reducible repeat (first | apply Kd.V_alloc | apply Kd.V_drewN | apply Kd.V_drew)); exact Kd.V_mono (Kd.V_far (p := ⟨gb223, 1, none⟩) (Kd.V_far (p := ⟨gb223, 0, none⟩) (Kd.V_far (p := ⟨gb222, 2, none⟩) (Kd.V_far (p := ⟨gb222, 1, none⟩) (Kd.V_far (p := ⟨gb222, 0, none⟩) (Kd.V_mono (Kd.V_mono HL224_2.out (fun k_ hk => (⟨hk, hk.1.1.2⟩ : _ ∧ k_ ≠ gb222))) (fun k_ hk => (⟨hk, hk.1.1.2⟩ : _ ∧ k_ ≠ gb223))) (fun _ hk => hk.1.2) (.int .i64 ((rd_T29 l0_1 (ji16)).f0))) (fun _ hk => hk.1.2) (.int .i64 ((rd_T29 l0_1 (ji16)).f1))) (fun _ hk => hk.1.2) (.slice A224_2 ((rd_T29 l0_1 (ji16)).f2).length c224_2)) (fun _ hk => hk.2) (.int .i64 t225)) (fun _ hk => hk.2) (.slice Ao32 t226.length co32)) (fun _ hk => hk.1.1.1.1.1.1), Kd.N_V (by (with_reducible repeat (first | apply Kd.N_alloc | apply Kd.N_drewN | apply Kd.N_drew)); exact Kd.N_mono (Kd.N_far (p := ⟨gb223, 1, none⟩) (Kd.N_far (p := ⟨gb223, 0, none⟩) (Kd.N_far (p := ⟨gb222, 2, none⟩) (Kd.N_far (p := ⟨gb222, 1, none⟩) (Kd.N_far (p := ⟨gb222, 0, none⟩) (Kd.N_mono (Kd.N_mono HO228.out (fun k_ hk => (⟨hk, hk.2.2.1⟩ : _ ∧ k_ ≠ gb222))) (fun k_ hk => (⟨hk, hk.1.2.2.2⟩ : _ ∧ k_ ≠ gb223))) (fun _ hk => hk.1.2) (.int .i64 ((rd_T29 l0_1 (ji16)).f0))) (fun _ hk => hk.1.2) (.int .i64 ((rd_T29 l0_1 (ji16)).f1))) (fun _ hk => hk.1.2) (.slice A224_2 ((rd_T29 l0_1 (ji16)).f2).length c224_2)) (fun _ hk => hk.2) (.int .i64 t225)) (fun _ hk => hk.2) (.slice Ao32 t226.length co32)) (fun _ hk => hk.1.1.1)), by repeat (first | (with_reducible first | exact HB.out | apply below_alloc | apply pw_below_drewN | apply below_drew1 | refine below_set ?_ GE221.out | refine below_set ?_ GE222.out | refine below_set ?_ GE223.out) | exact HB.out)⟩
      · rw [if_neg c18] at H
        exact absurd H (by simp)
    · rw [if_neg c17] at H
      exact absurd H (by simp)

/-! ### lockgateref11_Send: function 16 -/
def lockgateref11_Send.f (k : Nat) (a0_0 : Int) (l0_1 : List (S29)) (a1 : Int) (l2 : List Int) : Option (Int × (List (S29))) := (lockgateref11_without.f k a0_0 l0_1 (-1)).bind fun bt231 => (if bt231.2.length < 3518437208883 then (some (wrap64 (a0_0 + 1), (bt231.2 ++ [(⟨a0_0, a1, l2⟩ : S29)]))) else (none))
theorem lockgateref11_Send.mono : ∀ a0 a1 a2 a3 k, LeO (lockgateref11_Send.f k a0 a1 a2 a3) (lockgateref11_Send.f (k + 1) a0 a1 a2 a3) := by
  intro a0 a1 a2 a3 k
  unfold lockgateref11_Send.f
  repeat' first
      | (with_reducible exact lockgateref11_without.mono _ _ _ _)
      | (with_reducible exact LeO.refl _)
      | (with_reducible exact LeO.none _)
      | (with_reducible refine LeO.ite ?_ ?_)
      | (with_reducible refine LeO.bind ?_ (fun _ => ?_))
      | exact lockgateref11_without.mono _ _ _ _
      | exact LeO.none _
      | refine LeO.ite ?_ ?_
      | refine LeO.bind ?_ (fun _ => ?_)
set_option maxHeartbeats 8000000 in
set_option maxRecDepth 100000 in
theorem lockgateref11_Send.calls (k : Nat) (a0_0 : Int) (P0_1_ : Nat → Prop) (A0_1 : Option Addr) (c0_1 : Nat) (l0_1 : List (S29)) (a1 : Int) (P2_ : Nat → Prop) (A2 : Option Addr) (c2 : Nat) (l2 : List Int) (r1 : Int) (r2 : List (S29)) (w : World) (hs0_1 : Kd.V k29 29 w w.heap.size (fun k_ => P0_1_ k_) (.slice A0_1 l0_1.length c0_1) l0_1) (hs2 : Kd.V (Kd.int .u8) 5 w w.heap.size (fun k_ => P2_ k_) (.slice A2 l2.length c2) l2) (h : lockgateref11_Send.f k a0_0 l0_1 a1 l2 = some (r1, r2)) :
    Calls Try.prog 16 #[.agg #[.int .i64 a0_0, .slice A0_1 l0_1.length c0_1], .int .i64 a1, .slice A2 l2.length c2] w fun e w' => ∃ v1_ : Value, e = .returned (.agg #[.int .i64 r1, v1_]) ∧ Kd.N k29 29 w' w.heap.size (fun k_ => ((P0_1_ k_ ∨ P2_ k_) ∨ w.heap.size ≤ k_)) v1_ r2 ∧ Below w.heap.size w w' := by
  have hu24 := Try.underlying24
  have hu29 := Try.underlying29
  have HO0_1 := Aside0.mk (show Kd.V k29 29 w w.heap.size (fun k_ => ((P0_1_ k_ ∨ P2_ k_) ∨ w.heap.size ≤ k_)) (.slice A0_1 l0_1.length c0_1) l0_1 from Kd.V_mono hs0_1 (fun k_ hk => .inl (.inl hk)))
  have HO2 := Aside0.mk (show Kd.V (Kd.int .u8) 5 w w.heap.size (fun k_ => ((P0_1_ k_ ∨ P2_ k_) ∨ w.heap.size ≤ k_)) (.slice A2 l2.length c2) l2 from Kd.V_mono hs2 (fun k_ hk => .inl (.inr hk)))
  have HB := Aside0.mk (Below.refl w.heap.size w)
  have H : ((lockgateref11_without.f k a0_0 l0_1 (-1)).bind fun bt231 => (if bt231.2.length < 3518437208883 then (some (wrap64 (a0_0 + 1), (bt231.2 ++ [(⟨a0_0, a1, l2⟩ : S29)]))) else (none))) = some (r1, r2) := h
  clear h
  replace H := Option.bind_eq_some_iff.mp H
  obtain ⟨⟨t231, t232⟩, A40, H⟩ := H
  replace H : (if t232.length < 3518437208883 then (some (wrap64 (a0_0 + 1), (t232 ++ [(⟨a0_0, a1, l2⟩ : S29)]))) else (none)) = some (r1, r2) := H
  have A4 := Aside0.mk A40
  clear A40
  by_cases c5 : t232.length < 3518437208883
  · rw [if_pos c5] at H
    have LMc5 := Aside0.mk c5
    clear c5
    obtain ⟨y236, hy236⟩ : ∃ y_ : List (S29), y_ = (t232 ++ [(⟨a0_0, a1, l2⟩ : S29)]) := ⟨_, rfl⟩
    replace H : (some (wrap64 (a0_0 + 1), y236)) = some (r1, r2) := by first | (rw [hy236]; with_reducible exact H) | (have H2_ := (Option.bind_some _ _).symm.trans H; rw [hy236]; with_reducible exact H2_) | (have H2_ := (Option.bind_some _ _).symm.trans H; with_reducible exact H2_) | with_reducible exact H | (rw [hy236]; exact H) | exact H
    have Ny236 := Aside0.mk hy236
    clear hy236
    simp only [Option.some.injEq, Prod.mk.injEq] at H
    obtain ⟨rfl, rfl⟩ := H
    go_enter Try.func16, Try.ntmps16
    go_wp2_with (first | ((with_reducible refine gate_dst (N := 3) rfl ?_); refine box_event ?hg (N := 3) ?hd (cs := #[.int .i64 a0_0, .slice A0_1 l0_1.length c0_1]) (t := 24) ?hr ?_; (case hd => rfl); (case hg => rfl); (case hr => first | (go_simp; done) | (go_simp; rfl)); intro gb229 hg w6 hbox hb; have n0_ := Aside0.mk (Kd.V_below (Kd.V_elderB (by (with_reducible repeat (first | apply Kd.V_alloc | apply Kd.V_drewN | apply Kd.V_drew)); exact HO0_1.out) gb229 (Nat.le_of_eq hg.symm)) hb); have n1_ := Aside0.mk (Kd.V_below (Kd.V_elderB (by (with_reducible repeat (first | apply Kd.V_alloc | apply Kd.V_drewN | apply Kd.V_drew)); exact HO2.out) gb229 (Nat.le_of_eq hg.symm)) hb); have n2_ := Aside0.mk (below_step (by repeat (first | (with_reducible first | exact HB.out | apply below_alloc | apply pw_below_drewN | apply below_drew1) | exact HB.out)) hb); have n3_ := Aside0.mk (hbox); have n4_ := Aside0.mk ((by rw [hg]; exact (below_size (by repeat (first | (with_reducible first | exact HB.out | apply below_alloc | apply pw_below_drewN | apply below_drew1) | exact HB.out))) : w.heap.size ≤ gb229)); have n5_ := Aside0.mk ((by rw [hg]; exact (below_size (by repeat (first | (with_reducible first | exact HB.out | apply below_alloc | apply pw_below_drewN | apply below_drew1) | exact HB.out))) : w.heap.size ≤ gb229)); clear HO0_1; clear HO2; clear HB; have HO0_1 := n0_; have HO2 := n1_; have HB := n2_; have BK229 := n3_; have GW229 := n4_; have GE229 := n5_; clear n0_ n1_ n2_ n3_ n4_ n5_; clear hb hbox hg) | ((with_reducible refine gate_dst (N := 6) rfl ?_); refine box_event ?hg (N := 6) ?hd (cs := #[.int .i64 0, .slice none 0 0]) (t := 24) ?hr ?_; (case hd => rfl); (case hg => rfl); (case hr => first | (go_simp; done) | (go_simp; rfl)); intro gb230 hg w7 hbox hb; have n0_ := Aside0.mk (Kd.V_below (Kd.V_elderB (by (with_reducible repeat (first | apply Kd.V_alloc | apply Kd.V_drewN | apply Kd.V_drew)); exact HO0_1.out) gb230 (Nat.le_of_eq hg.symm)) hb); have n1_ := Aside0.mk (Kd.V_below (Kd.V_elderB (by (with_reducible repeat (first | apply Kd.V_alloc | apply Kd.V_drewN | apply Kd.V_drew)); exact HO2.out) gb230 (Nat.le_of_eq hg.symm)) hb); have n2_ := Aside0.mk (blk_below (g := gb229) (o := .cells #[.int .i64 a0_0, .slice A0_1 l0_1.length c0_1] 24 (0, 0)) (by (with_reducible repeat (first | refine blk_drewN ?_ _ | refine blk_drew ?_ | refine blk_alloc ?_ _)); exact BK229.out) hb); have n3_ := Aside0.mk (below_step (by repeat (first | (with_reducible first | exact HB.out | apply below_alloc | apply pw_below_drewN | apply below_drew1 | refine below_set ?_ GE229.out) | exact HB.out)) hb); have n4_ := Aside0.mk (hbox); have n5_ := Aside0.mk ((by rw [hg]; exact (below_size (by repeat (first | (with_reducible first | exact HB.out | apply below_alloc | apply pw_below_drewN | apply below_drew1 | refine below_set ?_ GE229.out) | exact HB.out))) : w.heap.size ≤ gb230)); have n6_ := Aside0.mk ((by rw [hg]; exact (below_size (by repeat (first | (with_reducible first | exact HB.out | apply below_alloc | apply pw_below_drewN | apply below_drew1 | refine below_set ?_ GE229.out) | exact HB.out))) : w.heap.size ≤ gb230)); have n7_ := Aside0.mk ((by rw [hg]; exact Nat.ne_of_lt (blk_lt (g := gb229) (o := .cells #[.int .i64 a0_0, .slice A0_1 l0_1.length c0_1] 24 (0, 0)) (by (with_reducible repeat (first | refine blk_drewN ?_ _ | refine blk_drew ?_ | refine blk_alloc ?_ _)); exact BK229.out)) : gb229 ≠ gb230)); have n8_ := Aside0.mk ((by rw [hg]; exact Nat.ne_of_gt (blk_lt (g := gb229) (o := .cells #[.int .i64 a0_0, .slice A0_1 l0_1.length c0_1] 24 (0, 0)) (by (with_reducible repeat (first | refine blk_drewN ?_ _ | refine blk_drew ?_ | refine blk_alloc ?_ _)); exact BK229.out)) : gb230 ≠ gb229)); clear HO0_1; clear HO2; clear BK229; clear HB; have HO0_1 := n0_; have HO2 := n1_; have BK229 := n2_; have HB := n3_; have BK230 := n4_; have GW230 := n5_; have GE230 := n6_; have NB229_230 := n7_; have NB230_229 := n8_; clear n0_ n1_ n2_ n3_ n4_ n5_ n6_ n7_ n8_; clear hb hbox hg; have hnb8 := NB229_230.out; have hnc8 := NB230_229.out; have hcz9_0 : w7.cell? ⟨gb229, 0, none⟩ = some (.int .i64 a0_0) := (blk_cell BK229.out 0).trans rfl; have hcz9_1 : w7.cell? ⟨gb229, 1, none⟩ = some (.slice A0_1 l0_1.length c0_1) := (blk_cell BK229.out 1).trans rfl; have hfz9_0 := blk_frozen BK229.out 0; have hfz9_1 := blk_frozen BK229.out 1) | ((with_reducible refine gate_callee (f := 24) rfl ?_); refine goesL_ (some 9) rfl rfl Try.func24 (by kernel_rfl) rfl #[.agg #[.int .i64 a0_0, .slice A0_1 l0_1.length c0_1], .int .i64 (-1)] rfl (by (try simp only [List.map_toArray, List.map_cons, List.map_nil]); first | done | rfl | (simp only [List.length_drop, List.length_take]; rfl)) ?_; (with_reducible refine (lockgateref11_without.calls k a0_0 (fun k_ => ((((P0_1_ k_ ∨ P2_ k_) ∨ w.heap.size ≤ k_) ∧ k_ ≠ gb229) ∧ k_ ≠ gb230)) _ _ l0_1 (-1) t231 t232 _ ?side1 A4.out).mono ?_); (case side1 => exact HO0_1.out); rintro e w10 ⟨v233, rfl, ho0, hb⟩; refine ⟨_, rfl, ?_⟩; have n0_ := Aside0.mk (Kd.V_elder' (by (with_reducible repeat (first | apply Kd.V_alloc | apply Kd.V_drewN | apply Kd.V_drew)); exact HO0_1.out) (Kd.N_base ho0) hb); have n1_ := Aside0.mk (Kd.V_elder' (by (with_reducible repeat (first | apply Kd.V_alloc | apply Kd.V_drewN | apply Kd.V_drew)); exact HO2.out) (Kd.N_base ho0) hb); have n2_ := Aside0.mk (Kd.N_lower (Kd.N_mono (ok' := fun k_ => ((P0_1_ k_ ∨ P2_ k_) ∨ w.heap.size ≤ k_) ∧ k_ ≠ gb229 ∧ k_ ≠ gb230) ho0 (fun k_ hk_ => ⟨Or.elim hk_ (fun hs_ => hs_.1.1) (fun hn_ => (.inr (Nat.le_trans (below_size (by repeat (first | (with_reducible first | exact HB.out | apply below_alloc | apply pw_below_drewN | apply below_drew1 | refine below_set ?_ GE229.out | refine below_set ?_ GE230.out) | exact HB.out))) hn_))), Or.elim hk_ (fun hs_ => hs_.1.2) (fun hn_ => (Kd.freshB (g := gb229) (o := .cells #[.int .i64 a0_0, .slice A0_1 l0_1.length c0_1] 24 (0, 0)) (by (with_reducible repeat (first | refine blk_drewN ?_ _ | refine blk_drew ?_ | refine blk_alloc ?_ _)); exact BK229.out) k_ hn_)), Or.elim hk_ (fun hs_ => hs_.2) (fun hn_ => (Kd.freshB (g := gb230) (o := .cells #[.int .i64 0, .slice none 0 0] 24 (0, 0)) (by (with_reducible repeat (first | refine blk_drewN ?_ _ | refine blk_drew ?_ | refine blk_alloc ?_ _)); exact BK230.out) k_ hn_))⟩)) (below_size (by repeat (first | (with_reducible first | exact HB.out | apply below_alloc | apply pw_below_drewN | apply below_drew1 | refine below_set ?_ GE229.out | refine below_set ?_ GE230.out) | exact HB.out)))); have n3_ := Aside0.mk (blk_below (g := gb229) (o := .cells #[.int .i64 a0_0, .slice A0_1 l0_1.length c0_1] 24 (0, 0)) (by (with_reducible repeat (first | refine blk_drewN ?_ _ | refine blk_drew ?_ | refine blk_alloc ?_ _)); exact BK229.out) hb); have n4_ := Aside0.mk (blk_below (g := gb230) (o := .cells #[.int .i64 0, .slice none 0 0] 24 (0, 0)) (by (with_reducible repeat (first | refine blk_drewN ?_ _ | refine blk_drew ?_ | refine blk_alloc ?_ _)); exact BK230.out) hb); have n5_ := Aside0.mk (below_step (by repeat (first | (with_reducible first | exact HB.out | apply below_alloc | apply pw_below_drewN | apply below_drew1 | refine below_set ?_ GE229.out | refine below_set ?_ GE230.out) | exact HB.out)) hb); clear HO0_1; clear HO2; clear BK229; clear BK230; clear HB; have HO0_1 := n0_; have HO2 := n1_; have HO234 := n2_; have BK229 := n3_; have BK230 := n4_; have HB := n5_; clear n0_ n1_ n2_ n3_ n4_ n5_; (try clear hb); (try clear hb2); (try clear hk); (try clear hi); (try clear ho0)) | ((with_reducible refine gate_dst (N := 7) rfl ?_); refine box_event ?hg (N := 7) ?hd (cs := #[.int .i64 0, .slice none 0 0]) (t := 24) ?hr ?_; (case hd => rfl); (case hg => rfl); (case hr => first | (go_simp; done) | (go_simp; rfl)); intro gb235 hg w11 hbox hb; have n0_ := Aside0.mk (Kd.V_below (Kd.V_elderB (by (with_reducible repeat (first | apply Kd.V_alloc | apply Kd.V_drewN | apply Kd.V_drew)); exact HO0_1.out) gb235 (Nat.le_of_eq hg.symm)) hb); have n1_ := Aside0.mk (Kd.V_below (Kd.V_elderB (by (with_reducible repeat (first | apply Kd.V_alloc | apply Kd.V_drewN | apply Kd.V_drew)); exact HO2.out) gb235 (Nat.le_of_eq hg.symm)) hb); have n2_ := Aside0.mk (Kd.N_below (Kd.N_elderB (by (with_reducible repeat (first | apply Kd.N_alloc | apply Kd.N_drewN | apply Kd.N_drew)); exact HO234.out) gb235 (Nat.le_of_eq hg.symm)) hb); have n3_ := Aside0.mk (blk_below (g := gb229) (o := .cells #[.int .i64 a0_0, .slice A0_1 l0_1.length c0_1] 24 (0, 0)) (by (with_reducible repeat (first | refine blk_drewN ?_ _ | refine blk_drew ?_ | refine blk_alloc ?_ _)); exact BK229.out) hb); have n4_ := Aside0.mk (blk_below (g := gb230) (o := .cells #[.int .i64 0, .slice none 0 0] 24 (0, 0)) (by (with_reducible repeat (first | refine blk_drewN ?_ _ | refine blk_drew ?_ | refine blk_alloc ?_ _)); exact BK230.out) hb); have n5_ := Aside0.mk (below_step (by repeat (first | (with_reducible first | exact HB.out | apply below_alloc | apply pw_below_drewN | apply below_drew1 | refine below_set ?_ GE229.out | refine below_set ?_ GE230.out) | exact HB.out)) hb); have n6_ := Aside0.mk (hbox); have n7_ := Aside0.mk ((by rw [hg]; exact (below_size (by repeat (first | (with_reducible first | exact HB.out | apply below_alloc | apply pw_below_drewN | apply below_drew1 | refine below_set ?_ GE229.out | refine below_set ?_ GE230.out) | exact HB.out))) : w.heap.size ≤ gb235)); have n8_ := Aside0.mk ((by rw [hg]; exact (below_size (by repeat (first | (with_reducible first | exact HB.out | apply below_alloc | apply pw_below_drewN | apply below_drew1 | refine below_set ?_ GE229.out | refine below_set ?_ GE230.out) | exact HB.out))) : w.heap.size ≤ gb235)); have n9_ := Aside0.mk ((by rw [hg]; exact Nat.ne_of_lt (blk_lt (g := gb229) (o := .cells #[.int .i64 a0_0, .slice A0_1 l0_1.length c0_1] 24 (0, 0)) (by (with_reducible repeat (first | refine blk_drewN ?_ _ | refine blk_drew ?_ | refine blk_alloc ?_ _)); exact BK229.out)) : gb229 ≠ gb235)); have n10_ := Aside0.mk ((by rw [hg]; exact Nat.ne_of_gt (blk_lt (g := gb229) (o := .cells #[.int .i64 a0_0, .slice A0_1 l0_1.length c0_1] 24 (0, 0)) (by (with_reducible repeat (first | refine blk_drewN ?_ _ | refine blk_drew ?_ | refine blk_alloc ?_ _)); exact BK229.out)) : gb235 ≠ gb229)); have n11_ := Aside0.mk ((by rw [hg]; exact Nat.ne_of_lt (blk_lt (g := gb230) (o := .cells #[.int .i64 0, .slice none 0 0] 24 (0, 0)) (by (with_reducible repeat (first | refine blk_drewN ?_ _ | refine blk_drew ?_ | refine blk_alloc ?_ _)); exact BK230.out)) : gb230 ≠ gb235)); have n12_ := Aside0.mk ((by rw [hg]; exact Nat.ne_of_gt (blk_lt (g := gb230) (o := .cells #[.int .i64 0, .slice none 0 0] 24 (0, 0)) (by (with_reducible repeat (first | refine blk_drewN ?_ _ | refine blk_drew ?_ | refine blk_alloc ?_ _)); exact BK230.out)) : gb235 ≠ gb230)); clear HO0_1; clear HO2; clear HO234; clear BK229; clear BK230; clear HB; have HO0_1 := n0_; have HO2 := n1_; have HO234 := n2_; have BK229 := n3_; have BK230 := n4_; have HB := n5_; have BK235 := n6_; have GW235 := n7_; have GE235 := n8_; have NB229_235 := n9_; have NB235_229 := n10_; have NB230_235 := n11_; have NB235_230 := n12_; clear n0_ n1_ n2_ n3_ n4_ n5_ n6_ n7_ n8_ n9_ n10_ n11_ n12_; clear hb hbox hg; have hnb12 := NB235_229.out; have hnc12 := NB229_235.out; have hnb13 := NB235_230.out; have hnc13 := NB230_235.out; have hcz14_0 : w11.cell? ⟨gb235, 0, none⟩ = some (.int .i64 0) := (blk_cell BK235.out 0).trans rfl; have hcz14_1 : w11.cell? ⟨gb235, 1, none⟩ = some (.slice none 0 0) := (blk_cell BK235.out 1).trans rfl; have hfz14_0 := blk_frozen BK235.out 0; have hfz14_1 := blk_frozen BK235.out 1; obtain ⟨Ao15, co15, eo15⟩ := Kd.N_slice HO234.out; subst eo15) | ((with_reducible refine gate_store (t := 24) (p := 7) rfl ?_); refine store_event (t := 24) (p := 7) (v := ?vo_w16) (w1 := ((w11.setCell ⟨gb235, 0, none⟩ (.int .i64 t231)).setCell ⟨gb235, 1, none⟩ (.slice Ao15 t232.length co15))) ?hg ?ho ?hn ?hr ?_; (case ho => rfl); (case hg => rfl); (case hn => rfl); (case hr => first | (go_simp; done) | (go_simp; rfl)); intro w16 hw; have n0_ : Aside0 (Kd.V k29 29 w16 w.heap.size (fun k_ => ((P0_1_ k_ ∨ P2_ k_) ∨ w.heap.size ≤ k_) ∧ some k_ ≠ (.slice Ao15 t232.length co15 : Value).ownBlock ∧ k_ ≠ gb229 ∧ k_ ≠ gb230 ∧ k_ ≠ gb235) (.slice A0_1 l0_1.length c0_1) l0_1) := ⟨(by rw [hw]; exact (by (with_reducible repeat (first | apply Kd.V_alloc | apply Kd.V_drewN | apply Kd.V_drew)); exact Kd.V_mono (Kd.V_far (p := ⟨gb235, 1, none⟩) (Kd.V_far (p := ⟨gb235, 0, none⟩) (Kd.V_mono HO0_1.out (fun k_ hk => (⟨hk, hk.2⟩ : _ ∧ k_ ≠ gb235))) (fun _ hk => hk.2) (.int .i64 t231)) (fun _ hk => hk.2) (.slice Ao15 t232.length co15)) (fun _ hk => ⟨hk.1.1.1.1.1, ⟨hk.1.1.2, ⟨hk.1.1.1.1.2, ⟨hk.1.1.1.2, hk.1.2⟩⟩⟩⟩)))⟩; have n1_ : Aside0 (Kd.V (Kd.int .u8) 5 w16 w.heap.size (fun k_ => ((P0_1_ k_ ∨ P2_ k_) ∨ w.heap.size ≤ k_) ∧ some k_ ≠ (.slice Ao15 t232.length co15 : Value).ownBlock ∧ k_ ≠ gb229 ∧ k_ ≠ gb230 ∧ k_ ≠ gb235) (.slice A2 l2.length c2) l2) := ⟨(by rw [hw]; exact (by (with_reducible repeat (first | apply Kd.V_alloc | apply Kd.V_drewN | apply Kd.V_drew)); exact Kd.V_mono (Kd.V_far (p := ⟨gb235, 1, none⟩) (Kd.V_far (p := ⟨gb235, 0, none⟩) (Kd.V_mono HO2.out (fun k_ hk => (⟨hk, hk.2⟩ : _ ∧ k_ ≠ gb235))) (fun _ hk => hk.2) (.int .i64 t231)) (fun _ hk => hk.2) (.slice Ao15 t232.length co15)) (fun _ hk => ⟨hk.1.1.1.1.1, ⟨hk.1.1.2, ⟨hk.1.1.1.1.2, ⟨hk.1.1.1.2, hk.1.2⟩⟩⟩⟩)))⟩; have n2_ : Aside0 (Kd.N k29 29 w16 w.heap.size (fun k_ => ((P0_1_ k_ ∨ P2_ k_) ∨ w.heap.size ≤ k_) ∧ k_ ≠ gb229 ∧ k_ ≠ gb230 ∧ k_ ≠ gb235) (.slice Ao15 t232.length co15) t232) := ⟨(by rw [hw]; exact (by (with_reducible repeat (first | apply Kd.N_alloc | apply Kd.N_drewN | apply Kd.N_drew)); exact Kd.N_mono (Kd.N_far (p := ⟨gb235, 1, none⟩) (Kd.N_far (p := ⟨gb235, 0, none⟩) (Kd.N_mono HO234.out (fun k_ hk => (⟨hk, hk.2⟩ : _ ∧ k_ ≠ gb235))) (fun _ hk => hk.2) (.int .i64 t231)) (fun _ hk => hk.2) (.slice Ao15 t232.length co15)) (fun _ hk => ⟨hk.1.1.1, ⟨hk.1.1.2.1, ⟨hk.1.1.2.2, hk.1.2⟩⟩⟩)))⟩; have n3_ : Aside0 (w16.heap[gb229]? = some (.cells #[.int .i64 a0_0, .slice A0_1 l0_1.length c0_1] 24 (0, 0))) := ⟨(by rw [hw]; exact (by (with_reducible repeat (first | refine blk_drewN ?_ _ | refine blk_drew ?_ | refine blk_alloc ?_ _)); refine blk_far ?_ NB229_235.out _; (with_reducible repeat (first | refine blk_drewN ?_ _ | refine blk_drew ?_ | refine blk_alloc ?_ _)); refine blk_far ?_ NB229_235.out _; (with_reducible repeat (first | refine blk_drewN ?_ _ | refine blk_drew ?_ | refine blk_alloc ?_ _)); exact BK229.out))⟩; have n4_ : Aside0 (w16.heap[gb230]? = some (.cells #[.int .i64 0, .slice none 0 0] 24 (0, 0))) := ⟨(by rw [hw]; exact (by (with_reducible repeat (first | refine blk_drewN ?_ _ | refine blk_drew ?_ | refine blk_alloc ?_ _)); refine blk_far ?_ NB230_235.out _; (with_reducible repeat (first | refine blk_drewN ?_ _ | refine blk_drew ?_ | refine blk_alloc ?_ _)); refine blk_far ?_ NB230_235.out _; (with_reducible repeat (first | refine blk_drewN ?_ _ | refine blk_drew ?_ | refine blk_alloc ?_ _)); exact BK230.out))⟩; have n5_ : Aside0 (w16.heap[gb235]? = some (.cells #[.int .i64 t231, .slice Ao15 t232.length co15] 24 (0, 0))) := ⟨(by rw [hw]; exact (by (with_reducible repeat (first | refine blk_drewN ?_ _ | refine blk_drew ?_ | refine blk_alloc ?_ _)); refine blk_put (cs := #[.int .i64 t231, .slice none 0 0]) ?_ 1 _ rfl; (with_reducible repeat (first | refine blk_drewN ?_ _ | refine blk_drew ?_ | refine blk_alloc ?_ _)); refine blk_put (cs := #[.int .i64 0, .slice none 0 0]) ?_ 0 _ rfl; (with_reducible repeat (first | refine blk_drewN ?_ _ | refine blk_drew ?_ | refine blk_alloc ?_ _)); exact BK235.out))⟩; have n6_ : Aside0 (Below w.heap.size w w16) := ⟨(by rw [hw]; exact (by repeat (first | (with_reducible first | exact HB.out | apply below_alloc | apply pw_below_drewN | apply below_drew1 | refine below_set ?_ GE229.out | refine below_set ?_ GE230.out | refine below_set ?_ GE235.out) | exact HB.out)))⟩; clear hw; clear HO0_1; clear HO2; clear HO234; clear BK229; clear BK230; clear BK235; clear HB; have HO0_1 := n0_; have HO2 := n1_; have HO234 := n2_; have BK229 := n3_; have BK230 := n4_; have BK235 := n5_; have HB := n6_; clear n0_ n1_ n2_ n3_ n4_ n5_ n6_; have hcz17_0 : w16.cell? ⟨gb235, 0, none⟩ = some (.int .i64 t231) := (blk_cell BK235.out 0).trans rfl; have hcz17_1 : w16.cell? ⟨gb235, 1, none⟩ = some (.slice Ao15 t232.length co15) := (blk_cell BK235.out 1).trans rfl; have hfz17_0 := blk_frozen BK235.out 0; have hfz17_1 := blk_frozen BK235.out 1; have hcz18_0 : w16.cell? ⟨gb229, 0, none⟩ = some (.int .i64 a0_0) := (blk_cell BK229.out 0).trans rfl; have hcz18_1 : w16.cell? ⟨gb229, 1, none⟩ = some (.slice A0_1 l0_1.length c0_1) := (blk_cell BK229.out 1).trans rfl; have hfz18_0 := blk_frozen BK229.out 0; have hfz18_1 := blk_frozen BK229.out 1) | ((with_reducible refine gate_builtin (b := .append) (xs := #[.tmp 11, .tmp 17]) rfl ?_); at_builtin; refine Kd.N_append k29 (w0 := w) w.heap.size rfl (.tmp 11) (.tmp 17) 22 29 (.agg #[(.int .i64 0), (.int .i64 0), (.slice none 0 0)]) 40 rfl Try.underlying22 info29 rfl (by decide) (by omega) (.slice Ao15 t232.length co15) t232 (⟨a0_0, a1, l2⟩ : S29) [.int .i64 a0_0, .int .i64 a1, .slice A2 l2.length c2] (fun k_ => ((P0_1_ k_ ∨ P2_ k_) ∨ w.heap.size ≤ k_) ∧ k_ ≠ gb229 ∧ k_ ≠ gb230 ∧ k_ ≠ gb235) (fun k_ => ((fun k_ => ((P0_1_ k_ ∨ P2_ k_) ∨ w.heap.size ≤ k_) ∧ k_ ≠ gb229 ∧ k_ ≠ gb230 ∧ k_ ≠ gb235)) k_ ∧ some k_ ≠ (.slice Ao15 t232.length co15 : Value).ownBlock) rfl rfl ?aP (fun _ hk => hk) ?aF ?aO ?aB ?aS ?aL ?_; (case aP => exact (k29_mkF _ _ (⟨a0_0, a1, l2⟩ : S29) (Kd.V_reads' (Kd.V_mono (ok' := (fun k_ => ((fun k_ => ((P0_1_ k_ ∨ P2_ k_) ∨ w.heap.size ≤ k_) ∧ k_ ≠ gb229 ∧ k_ ≠ gb230 ∧ k_ ≠ gb235)) k_ ∧ some k_ ≠ (.slice Ao15 t232.length co15 : Value).ownBlock)) (HO2.out) (fun k_ hk => ⟨⟨hk.1, ⟨hk.2.2.1, ⟨hk.2.2.2.1, hk.2.2.2.2⟩⟩⟩, hk.2.1⟩))).2.1 (Kd.V_F (Kd.V_mono (ok' := (fun k_ => ((fun k_ => ((P0_1_ k_ ∨ P2_ k_) ∨ w.heap.size ≤ k_) ∧ k_ ≠ gb229 ∧ k_ ≠ gb230 ∧ k_ ≠ gb235)) k_ ∧ some k_ ≠ (.slice Ao15 t232.length co15 : Value).ownBlock)) (HO2.out) (fun k_ hk => ⟨⟨hk.1, ⟨hk.2.2.1, ⟨hk.2.2.2.1, hk.2.2.2.2⟩⟩⟩, hk.2.1⟩))))); (case aB => exact (by repeat (first | (with_reducible first | exact HB.out | apply below_alloc | apply pw_below_drewN | apply below_drew1 | refine below_set ?_ GE229.out | refine below_set ?_ GE230.out | refine below_set ?_ GE235.out) | exact HB.out))); (case aF => exact (fun k_ hk => ⟨(.inr (Nat.le_trans (below_size (by repeat (first | (with_reducible first | exact HB.out | apply below_alloc | apply pw_below_drewN | apply below_drew1 | refine below_set ?_ GE229.out | refine below_set ?_ GE230.out | refine below_set ?_ GE235.out) | exact HB.out))) hk)), Kd.freshB (g := gb229) (o := .cells #[.int .i64 a0_0, .slice A0_1 l0_1.length c0_1] 24 (0, 0)) (by (with_reducible repeat (first | refine blk_drewN ?_ _ | refine blk_drew ?_ | refine blk_alloc ?_ _)); exact BK229.out) k_ hk, Kd.freshB (g := gb230) (o := .cells #[.int .i64 0, .slice none 0 0] 24 (0, 0)) (by (with_reducible repeat (first | refine blk_drewN ?_ _ | refine blk_drew ?_ | refine blk_alloc ?_ _)); exact BK230.out) k_ hk, Kd.freshB (g := gb235) (o := .cells #[.int .i64 t231, .slice Ao15 t232.length co15] 24 (0, 0)) (by (with_reducible repeat (first | refine blk_drewN ?_ _ | refine blk_drew ?_ | refine blk_alloc ?_ _)); exact BK235.out) k_ hk⟩)); (case aO => exact (by (with_reducible repeat (first | apply Kd.N_alloc | apply Kd.N_drewN | apply Kd.N_drew)); exact HO234.out)); (case aS => exact (below_size (by repeat (first | (with_reducible first | exact HB.out | apply below_alloc | apply pw_below_drewN | apply below_drew1 | refine below_set ?_ GE229.out | refine below_set ?_ GE230.out | refine below_set ?_ GE235.out) | exact HB.out)))); (case aL => have := LMc5.out; omega); intro v237 w19 ho hb hg hat; rw [← Ny236.out] at ho; have n0_ := Aside0.mk (Kd.V_afterv (ok := (fun k_ => ((P0_1_ k_ ∨ P2_ k_) ∨ w.heap.size ≤ k_) ∧ k_ ≠ gb229 ∧ k_ ≠ gb230 ∧ k_ ≠ gb235)) (by (with_reducible repeat (first | apply Kd.V_alloc | apply Kd.V_drewN | apply Kd.V_drew)); exact Kd.V_mono HO0_1.out (fun _ hk => ⟨⟨hk.1, ⟨hk.2.2.1, ⟨hk.2.2.2.1, hk.2.2.2.2⟩⟩⟩, hk.2.1⟩)) hg hat); have n1_ := Aside0.mk (Kd.V_afterv (ok := (fun k_ => ((P0_1_ k_ ∨ P2_ k_) ∨ w.heap.size ≤ k_) ∧ k_ ≠ gb229 ∧ k_ ≠ gb230 ∧ k_ ≠ gb235)) (by (with_reducible repeat (first | apply Kd.V_alloc | apply Kd.V_drewN | apply Kd.V_drew)); exact Kd.V_mono HO2.out (fun _ hk => ⟨⟨hk.1, ⟨hk.2.2.1, ⟨hk.2.2.2.1, hk.2.2.2.2⟩⟩⟩, hk.2.1⟩)) hg hat); have n2_ := Aside0.mk (blk_grown (g := gb229) (o := .cells #[.int .i64 a0_0, .slice A0_1 l0_1.length c0_1] 24 (0, 0)) (by (with_reducible repeat (first | refine blk_drewN ?_ _ | refine blk_drew ?_ | refine blk_alloc ?_ _)); exact BK229.out) hg (Kd.N_ne HO234.out BK229.out (by decide))); have n3_ := Aside0.mk (blk_grown (g := gb230) (o := .cells #[.int .i64 0, .slice none 0 0] 24 (0, 0)) (by (with_reducible repeat (first | refine blk_drewN ?_ _ | refine blk_drew ?_ | refine blk_alloc ?_ _)); exact BK230.out) hg (Kd.N_ne HO234.out BK230.out (by decide))); have n4_ := Aside0.mk (blk_grown (g := gb235) (o := .cells #[.int .i64 t231, .slice Ao15 t232.length co15] 24 (0, 0)) (by (with_reducible repeat (first | refine blk_drewN ?_ _ | refine blk_drew ?_ | refine blk_alloc ?_ _)); exact BK235.out) hg (Kd.N_ne HO234.out BK235.out (by decide))); have n5_ := Aside0.mk (hb); have n6_ := Aside0.mk (ho); clear HO0_1; clear HO2; clear BK229; clear BK230; clear BK235; clear HB; clear HO234; have HO0_1 := n0_; have HO2 := n1_; have BK229 := n2_; have BK230 := n3_; have BK235 := n4_; have HB := n5_; have HO238 := n6_; clear n0_ n1_ n2_ n3_ n4_ n5_ n6_; clear ho hb hg hat; obtain ⟨Ao20, co20, eo20⟩ := Kd.N_slice HO238.out; subst eo20; have hcz21_0 : w19.cell? ⟨gb235, 0, none⟩ = some (.int .i64 t231) := (blk_cell BK235.out 0).trans rfl; have hcz21_1 : w19.cell? ⟨gb235, 1, none⟩ = some (.slice Ao15 t232.length co15) := (blk_cell BK235.out 1).trans rfl; have hfz21_0 := blk_frozen BK235.out 0; have hfz21_1 := blk_frozen BK235.out 1; have hcz22_0 : w19.cell? ⟨gb229, 0, none⟩ = some (.int .i64 a0_0) := (blk_cell BK229.out 0).trans rfl; have hcz22_1 : w19.cell? ⟨gb229, 1, none⟩ = some (.slice A0_1 l0_1.length c0_1) := (blk_cell BK229.out 1).trans rfl; have hfz22_0 := blk_frozen BK229.out 0; have hfz22_1 := blk_frozen BK229.out 1; have hcz23_0 : w19.cell? ⟨gb230, 0, none⟩ = some (.int .i64 0) := (blk_cell BK230.out 0).trans rfl; have hcz23_1 : w19.cell? ⟨gb230, 1, none⟩ = some (.slice none 0 0) := (blk_cell BK230.out 1).trans rfl; have hfz23_0 := blk_frozen BK230.out 0; have hfz23_1 := blk_frozen BK230.out 1))
    refine bodyPost_ret (results_cell_row rfl _ _ gb230 24 #[.int .i64 (wrap64 (a0_0 + 1)), .slice Ao20 y236.length co20] (0, 0) _ rfl (by (with_reducible repeat (first | refine blk_drewN ?_ _ | refine blk_drew ?_ | refine blk_alloc ?_ _)); refine blk_put (cs := #[.int .i64 (wrap64 (a0_0 + 1)), .slice none 0 0]) ?_ 1 _ rfl; (with_reducible repeat (first | refine blk_drewN ?_ _ | refine blk_drew ?_ | refine blk_alloc ?_ _)); refine blk_put (cs := #[.int .i64 0, .slice none 0 0]) ?_ 0 _ rfl; (with_reducible repeat (first | refine blk_drewN ?_ _ | refine blk_drew ?_ | refine blk_alloc ?_ _)); refine blk_far ?_ NB230_235.out _; (with_reducible repeat (first | refine blk_drewN ?_ _ | refine blk_drew ?_ | refine blk_alloc ?_ _)); refine blk_far ?_ NB230_235.out _; (with_reducible repeat (first | refine blk_drewN ?_ _ | refine blk_drew ?_ | refine blk_alloc ?_ _)); exact BK230.out) Try.underlying24 rfl (by kernel_rfl)) rfl ?_
    exact ⟨_, by first | rfl | (simp [errW_none, errW_some] <;> rfl) | (simp [*, errW_none, errW_some] <;> rfl), by (with_reducible repeat (first | apply Kd.N_alloc | apply Kd.N_drewN | apply Kd.N_drew)); exact Kd.N_mono (Kd.N_far (p := ⟨gb230, 1, none⟩) (Kd.N_far (p := ⟨gb230, 0, none⟩) (Kd.N_far (p := ⟨gb235, 0, none⟩) (Kd.N_far (p := ⟨gb235, 1, none⟩) (Kd.N_mono (Kd.N_mono HO238.out (fun k_ hk => (⟨hk, hk.2.2.2⟩ : _ ∧ k_ ≠ gb235))) (fun k_ hk => (⟨hk, hk.1.2.2.1⟩ : _ ∧ k_ ≠ gb230))) (fun _ hk => hk.1.2) (.slice Ao20 y236.length co20)) (fun _ hk => hk.1.2) (.int .i64 (wrap64 (a0_0 + 1)))) (fun _ hk => hk.2) (.int .i64 (wrap64 (a0_0 + 1)))) (fun _ hk => hk.2) (.slice Ao20 y236.length co20)) (fun _ hk => hk.1.1.1), by repeat (first | (with_reducible first | exact HB.out | apply below_alloc | apply pw_below_drewN | apply below_drew1 | refine below_set ?_ GE229.out | refine below_set ?_ GE230.out | refine below_set ?_ GE235.out) | exact HB.out)⟩
  · rw [if_neg c5] at H
    exact absurd H (by simp)

/-! ### net_Drop: function 17 -/
def net_Drop.f (k : Nat) (a0_0 : Int) (l0_1 : List (S29)) (a1 : Int) : Option (Int × (List (S29))) := (net_Take.f k a0_0 l0_1 a1).bind fun bt241 => (some (bt241.2.2.2.1, bt241.2.2.2.2.1))
theorem net_Drop.mono : ∀ a0 a1 a2 k, LeO (net_Drop.f k a0 a1 a2) (net_Drop.f (k + 1) a0 a1 a2) := by
  intro a0 a1 a2 k
  unfold net_Drop.f
  repeat' first
      | (with_reducible exact net_Take.mono _ _ _ _)
      | (with_reducible exact LeO.refl _)
      | (with_reducible exact LeO.none _)
      | (with_reducible refine LeO.ite ?_ ?_)
      | (with_reducible refine LeO.bind ?_ (fun _ => ?_))
      | exact net_Take.mono _ _ _ _
      | exact LeO.none _
      | refine LeO.ite ?_ ?_
      | refine LeO.bind ?_ (fun _ => ?_)
set_option maxHeartbeats 8000000 in
set_option maxRecDepth 100000 in
theorem net_Drop.calls (k : Nat) (a0_0 : Int) (A0_1 : Option Addr) (c0_1 : Nat) (l0_1 : List (S29)) (a1 : Int) (r1 : Int) (r2 : List (S29)) (w : World) (hr0_1 : Kd.C k29 w A0_1 l0_1.length l0_1) (hc0_1 : l0_1.length ≤ c0_1) (h : net_Drop.f k a0_0 l0_1 a1 = some (r1, r2)) :
    Calls Try.prog 17 #[.agg #[.int .i64 a0_0, .slice A0_1 l0_1.length c0_1], .int .i64 a1] w fun e w' => ∃ v1_ : Value, e = .returned (.agg #[.int .i64 r1, v1_]) ∧ Kd.S k29 29 w' w.heap.size (fun _ => True) v1_ r2 ∧ Below w.heap.size w w' := by
  have hu24 := Try.underlying24
  have hu29 := Try.underlying29
  have HR0_1 := Aside0.mk hr0_1
  have HC0_1 := Aside0.mk hc0_1
  clear hr0_1 hc0_1
  have HB := Aside0.mk (Below.refl w.heap.size w)
  have H : ((net_Take.f k a0_0 l0_1 a1).bind fun bt241 => (some (bt241.2.2.2.1, bt241.2.2.2.2.1))) = some (r1, r2) := h
  clear h
  replace H := Option.bind_eq_some_iff.mp H
  obtain ⟨⟨t241, t242, t243, t246, t247, t250⟩, A30, H⟩ := H
  replace H : (some (t246, t247)) = some (r1, r2) := H
  have A3 := Aside0.mk A30
  clear A30
  simp only [Option.some.injEq, Prod.mk.injEq] at H
  obtain ⟨rfl, rfl⟩ := H
  go_enter Try.func17, Try.ntmps17
  go_wp2_with (first | ((with_reducible refine gate_dst (N := 2) rfl ?_); refine box_event ?hg (N := 2) ?hd (cs := #[.int .i64 a0_0, .slice A0_1 l0_1.length c0_1]) (t := 24) ?hr ?_; (case hd => rfl); (case hg => rfl); (case hr => first | (go_simp; done) | (go_simp; rfl)); intro gb239 hg w4 hbox hb; have n0_ := Aside0.mk (below_step (by repeat (first | (with_reducible first | exact HB.out | apply below_alloc | apply pw_below_drewN | apply below_drew1) | exact HB.out)) hb); have n1_ := Aside0.mk (hbox); have n2_ := Aside0.mk ((by rw [hg]; exact (below_size (by repeat (first | (with_reducible first | exact HB.out | apply below_alloc | apply pw_below_drewN | apply below_drew1) | exact HB.out))) : w.heap.size ≤ gb239)); have n3_ := Aside0.mk ((by rw [hg]; exact (below_size (by repeat (first | (with_reducible first | exact HB.out | apply below_alloc | apply pw_below_drewN | apply below_drew1) | exact HB.out))) : w.heap.size ≤ gb239)); clear HB; have HB := n0_; have BK239 := n1_; have GW239 := n2_; have GE239 := n3_; clear n0_ n1_ n2_ n3_; clear hb hbox hg) | ((with_reducible refine gate_dst (N := 4) rfl ?_); refine box_event ?hg (N := 4) ?hd (cs := #[.int .i64 0, .slice none 0 0]) (t := 24) ?hr ?_; (case hd => rfl); (case hg => rfl); (case hr => first | (go_simp; done) | (go_simp; rfl)); intro gb240 hg w5 hbox hb; have n0_ := Aside0.mk (blk_below (g := gb239) (o := .cells #[.int .i64 a0_0, .slice A0_1 l0_1.length c0_1] 24 (0, 0)) (by (with_reducible repeat (first | refine blk_drewN ?_ _ | refine blk_drew ?_ | refine blk_alloc ?_ _)); exact BK239.out) hb); have n1_ := Aside0.mk (below_step (by repeat (first | (with_reducible first | exact HB.out | apply below_alloc | apply pw_below_drewN | apply below_drew1 | refine below_set ?_ GE239.out) | exact HB.out)) hb); have n2_ := Aside0.mk (hbox); have n3_ := Aside0.mk ((by rw [hg]; exact (below_size (by repeat (first | (with_reducible first | exact HB.out | apply below_alloc | apply pw_below_drewN | apply below_drew1 | refine below_set ?_ GE239.out) | exact HB.out))) : w.heap.size ≤ gb240)); have n4_ := Aside0.mk ((by rw [hg]; exact (below_size (by repeat (first | (with_reducible first | exact HB.out | apply below_alloc | apply pw_below_drewN | apply below_drew1 | refine below_set ?_ GE239.out) | exact HB.out))) : w.heap.size ≤ gb240)); have n5_ := Aside0.mk ((by rw [hg]; exact Nat.ne_of_lt (blk_lt (g := gb239) (o := .cells #[.int .i64 a0_0, .slice A0_1 l0_1.length c0_1] 24 (0, 0)) (by (with_reducible repeat (first | refine blk_drewN ?_ _ | refine blk_drew ?_ | refine blk_alloc ?_ _)); exact BK239.out)) : gb239 ≠ gb240)); have n6_ := Aside0.mk ((by rw [hg]; exact Nat.ne_of_gt (blk_lt (g := gb239) (o := .cells #[.int .i64 a0_0, .slice A0_1 l0_1.length c0_1] 24 (0, 0)) (by (with_reducible repeat (first | refine blk_drewN ?_ _ | refine blk_drew ?_ | refine blk_alloc ?_ _)); exact BK239.out)) : gb240 ≠ gb239)); clear BK239; clear HB; have BK239 := n0_; have HB := n1_; have BK240 := n2_; have GW240 := n3_; have GE240 := n4_; have NB239_240 := n5_; have NB240_239 := n6_; clear n0_ n1_ n2_ n3_ n4_ n5_ n6_; clear hb hbox hg; have hnb6 := NB239_240.out; have hnc6 := NB240_239.out; have hcz7_0 : w5.cell? ⟨gb239, 0, none⟩ = some (.int .i64 a0_0) := (blk_cell BK239.out 0).trans rfl; have hcz7_1 : w5.cell? ⟨gb239, 1, none⟩ = some (.slice A0_1 l0_1.length c0_1) := (blk_cell BK239.out 1).trans rfl; have hfz7_0 := blk_frozen BK239.out 0; have hfz7_1 := blk_frozen BK239.out 1) | ((with_reducible refine gate_callee (f := 11) rfl ?_); refine goesL_ (some 11) rfl rfl Try.func11 (by kernel_rfl) rfl #[.agg #[.int .i64 a0_0, .slice A0_1 l0_1.length c0_1], .int .i64 a1] rfl (by (try simp only [List.map_toArray, List.map_cons, List.map_nil]); first | done | rfl | (simp only [List.length_drop, List.length_take]; rfl)) ?_; (with_reducible refine (net_Take.calls k a0_0 _ _ l0_1 a1 t241 t242 t243 t246 t247 t250 _ ?side1 ?side2 A3.out).mono ?_); (case side1 => repeat (first | exact (Kd.C_below HR0_1.out HB.out) | (with_reducible refine Kd.C_alloc ?_ _) | (with_reducible refine Kd.C_drewN ?_ _) | (with_reducible refine Kd.C_drew ?_))); (case side2 => exact HC0_1.out); rintro e w8 ⟨v244, v248, rfl, ho0, ho1, hb⟩; refine ⟨_, rfl, ?_⟩; have n0_ := Aside0.mk (Kd.R_lower ho0 (below_size (by repeat (first | (with_reducible first | exact HB.out | apply below_alloc | apply pw_below_drewN | apply below_drew1 | refine below_set ?_ GE239.out | refine below_set ?_ GE240.out) | exact HB.out)))); have n1_ := Aside0.mk (Kd.S_lower ho1 (below_size (by repeat (first | (with_reducible first | exact HB.out | apply below_alloc | apply pw_below_drewN | apply below_drew1 | refine below_set ?_ GE239.out | refine below_set ?_ GE240.out) | exact HB.out)))); have n2_ := Aside0.mk (blk_below (g := gb239) (o := .cells #[.int .i64 a0_0, .slice A0_1 l0_1.length c0_1] 24 (0, 0)) (by (with_reducible repeat (first | refine blk_drewN ?_ _ | refine blk_drew ?_ | refine blk_alloc ?_ _)); exact BK239.out) hb); have n3_ := Aside0.mk (blk_below (g := gb240) (o := .cells #[.int .i64 0, .slice none 0 0] 24 (0, 0)) (by (with_reducible repeat (first | refine blk_drewN ?_ _ | refine blk_drew ?_ | refine blk_alloc ?_ _)); exact BK240.out) hb); have n4_ := Aside0.mk (below_step (by repeat (first | (with_reducible first | exact HB.out | apply below_alloc | apply pw_below_drewN | apply below_drew1 | refine below_set ?_ GE239.out | refine below_set ?_ GE240.out) | exact HB.out)) hb); clear BK239; clear BK240; clear HB; have HO245 := n0_; have HO249 := n1_; have BK239 := n2_; have BK240 := n3_; have HB := n4_; clear n0_ n1_ n2_ n3_ n4_; (try clear hb); (try clear hb2); (try clear hk); (try clear hi); (try clear ho0); (try clear ho1)) | ((with_reducible refine gate_dst (N := 5) rfl ?_); refine box_event ?hg (N := 5) ?hd (cs := #[.int .i64 0, .int .i64 0, .slice none 0 0]) (t := 29) ?hr ?_; (case hd => rfl); (case hg => rfl); (case hr => first | (go_simp; done) | (go_simp; rfl)); intro gb251 hg w9 hbox hb; have n0_ := Aside0.mk (Kd.R_below (by (with_reducible repeat (first | apply Kd.R_alloc | apply Kd.R_drewN | apply Kd.R_drew)); exact HO245.out) hb); have n1_ := Aside0.mk (Kd.S_below (Kd.S_elderB (by (with_reducible repeat (first | apply Kd.S_alloc | apply Kd.S_drewN | apply Kd.S_drew)); exact HO249.out) gb251 (Nat.le_of_eq hg.symm)) hb); have n2_ := Aside0.mk (blk_below (g := gb239) (o := .cells #[.int .i64 a0_0, .slice A0_1 l0_1.length c0_1] 24 (0, 0)) (by (with_reducible repeat (first | refine blk_drewN ?_ _ | refine blk_drew ?_ | refine blk_alloc ?_ _)); exact BK239.out) hb); have n3_ := Aside0.mk (blk_below (g := gb240) (o := .cells #[.int .i64 0, .slice none 0 0] 24 (0, 0)) (by (with_reducible repeat (first | refine blk_drewN ?_ _ | refine blk_drew ?_ | refine blk_alloc ?_ _)); exact BK240.out) hb); have n4_ := Aside0.mk (below_step (by repeat (first | (with_reducible first | exact HB.out | apply below_alloc | apply pw_below_drewN | apply below_drew1 | refine below_set ?_ GE239.out | refine below_set ?_ GE240.out) | exact HB.out)) hb); have n5_ := Aside0.mk (hbox); have n6_ := Aside0.mk ((by rw [hg]; exact (below_size (by repeat (first | (with_reducible first | exact HB.out | apply below_alloc | apply pw_below_drewN | apply below_drew1 | refine below_set ?_ GE239.out | refine below_set ?_ GE240.out) | exact HB.out))) : w.heap.size ≤ gb251)); have n7_ := Aside0.mk ((by rw [hg]; exact (below_size (by repeat (first | (with_reducible first | exact HB.out | apply below_alloc | apply pw_below_drewN | apply below_drew1 | refine below_set ?_ GE239.out | refine below_set ?_ GE240.out) | exact HB.out))) : w.heap.size ≤ gb251)); have n8_ := Aside0.mk ((by rw [hg]; exact Nat.ne_of_lt (blk_lt (g := gb239) (o := .cells #[.int .i64 a0_0, .slice A0_1 l0_1.length c0_1] 24 (0, 0)) (by (with_reducible repeat (first | refine blk_drewN ?_ _ | refine blk_drew ?_ | refine blk_alloc ?_ _)); exact BK239.out)) : gb239 ≠ gb251)); have n9_ := Aside0.mk ((by rw [hg]; exact Nat.ne_of_gt (blk_lt (g := gb239) (o := .cells #[.int .i64 a0_0, .slice A0_1 l0_1.length c0_1] 24 (0, 0)) (by (with_reducible repeat (first | refine blk_drewN ?_ _ | refine blk_drew ?_ | refine blk_alloc ?_ _)); exact BK239.out)) : gb251 ≠ gb239)); have n10_ := Aside0.mk ((by rw [hg]; exact Nat.ne_of_lt (blk_lt (g := gb240) (o := .cells #[.int .i64 0, .slice none 0 0] 24 (0, 0)) (by (with_reducible repeat (first | refine blk_drewN ?_ _ | refine blk_drew ?_ | refine blk_alloc ?_ _)); exact BK240.out)) : gb240 ≠ gb251)); have n11_ := Aside0.mk ((by rw [hg]; exact Nat.ne_of_gt (blk_lt (g := gb240) (o := .cells #[.int .i64 0, .slice none 0 0] 24 (0, 0)) (by (with_reducible repeat (first | refine blk_drewN ?_ _ | refine blk_drew ?_ | refine blk_alloc ?_ _)); exact BK240.out)) : gb251 ≠ gb240)); clear HO245; clear HO249; clear BK239; clear BK240; clear HB; have HO245 := n0_; have HO249 := n1_; have BK239 := n2_; have BK240 := n3_; have HB := n4_; have BK251 := n5_; have GW251 := n6_; have GE251 := n7_; have NB239_251 := n8_; have NB251_239 := n9_; have NB240_251 := n10_; have NB251_240 := n11_; clear n0_ n1_ n2_ n3_ n4_ n5_ n6_ n7_ n8_ n9_ n10_ n11_; clear hb hbox hg) | ((with_reducible refine gate_dst (N := 6) rfl ?_); refine box_event ?hg (N := 6) ?hd (cs := #[.int .i64 0, .slice none 0 0]) (t := 24) ?hr ?_; (case hd => rfl); (case hg => rfl); (case hr => first | (go_simp; done) | (go_simp; rfl)); intro gb252 hg w10 hbox hb; have n0_ := Aside0.mk (Kd.R_below (by (with_reducible repeat (first | apply Kd.R_alloc | apply Kd.R_drewN | apply Kd.R_drew)); exact HO245.out) hb); have n1_ := Aside0.mk (Kd.S_below (by (with_reducible repeat (first | apply Kd.S_alloc | apply Kd.S_drewN | apply Kd.S_drew)); exact HO249.out) hb); have n2_ := Aside0.mk (blk_below (g := gb239) (o := .cells #[.int .i64 a0_0, .slice A0_1 l0_1.length c0_1] 24 (0, 0)) (by (with_reducible repeat (first | refine blk_drewN ?_ _ | refine blk_drew ?_ | refine blk_alloc ?_ _)); exact BK239.out) hb); have n3_ := Aside0.mk (blk_below (g := gb240) (o := .cells #[.int .i64 0, .slice none 0 0] 24 (0, 0)) (by (with_reducible repeat (first | refine blk_drewN ?_ _ | refine blk_drew ?_ | refine blk_alloc ?_ _)); exact BK240.out) hb); have n4_ := Aside0.mk (blk_below (g := gb251) (o := .cells #[.int .i64 0, .int .i64 0, .slice none 0 0] 29 (0, 0)) (by (with_reducible repeat (first | refine blk_drewN ?_ _ | refine blk_drew ?_ | refine blk_alloc ?_ _)); exact BK251.out) hb); have n5_ := Aside0.mk (below_step (by repeat (first | (with_reducible first | exact HB.out | apply below_alloc | apply pw_below_drewN | apply below_drew1 | refine below_set ?_ GE239.out | refine below_set ?_ GE240.out | refine below_set ?_ GE251.out) | exact HB.out)) hb); have n6_ := Aside0.mk (hbox); have n7_ := Aside0.mk ((by rw [hg]; exact (below_size (by repeat (first | (with_reducible first | exact HB.out | apply below_alloc | apply pw_below_drewN | apply below_drew1 | refine below_set ?_ GE239.out | refine below_set ?_ GE240.out | refine below_set ?_ GE251.out) | exact HB.out))) : w.heap.size ≤ gb252)); have n8_ := Aside0.mk ((by rw [hg]; exact (below_size (by repeat (first | (with_reducible first | exact HB.out | apply below_alloc | apply pw_below_drewN | apply below_drew1 | refine below_set ?_ GE239.out | refine below_set ?_ GE240.out | refine below_set ?_ GE251.out) | exact HB.out))) : w.heap.size ≤ gb252)); have n9_ := Aside0.mk ((by rw [hg]; exact Nat.ne_of_lt (blk_lt (g := gb239) (o := .cells #[.int .i64 a0_0, .slice A0_1 l0_1.length c0_1] 24 (0, 0)) (by (with_reducible repeat (first | refine blk_drewN ?_ _ | refine blk_drew ?_ | refine blk_alloc ?_ _)); exact BK239.out)) : gb239 ≠ gb252)); have n10_ := Aside0.mk ((by rw [hg]; exact Nat.ne_of_gt (blk_lt (g := gb239) (o := .cells #[.int .i64 a0_0, .slice A0_1 l0_1.length c0_1] 24 (0, 0)) (by (with_reducible repeat (first | refine blk_drewN ?_ _ | refine blk_drew ?_ | refine blk_alloc ?_ _)); exact BK239.out)) : gb252 ≠ gb239)); have n11_ := Aside0.mk ((by rw [hg]; exact Nat.ne_of_lt (blk_lt (g := gb240) (o := .cells #[.int .i64 0, .slice none 0 0] 24 (0, 0)) (by (with_reducible repeat (first | refine blk_drewN ?_ _ | refine blk_drew ?_ | refine blk_alloc ?_ _)); exact BK240.out)) : gb240 ≠ gb252)); have n12_ := Aside0.mk ((by rw [hg]; exact Nat.ne_of_gt (blk_lt (g := gb240) (o := .cells #[.int .i64 0, .slice none 0 0] 24 (0, 0)) (by (with_reducible repeat (first | refine blk_drewN ?_ _ | refine blk_drew ?_ | refine blk_alloc ?_ _)); exact BK240.out)) : gb252 ≠ gb240)); have n13_ := Aside0.mk ((by rw [hg]; exact Nat.ne_of_lt (blk_lt (g := gb251) (o := .cells #[.int .i64 0, .int .i64 0, .slice none 0 0] 29 (0, 0)) (by (with_reducible repeat (first | refine blk_drewN ?_ _ | refine blk_drew ?_ | refine blk_alloc ?_ _)); exact BK251.out)) : gb251 ≠ gb252)); have n14_ := Aside0.mk ((by rw [hg]; exact Nat.ne_of_gt (blk_lt (g := gb251) (o := .cells #[.int .i64 0, .int .i64 0, .slice none 0 0] 29 (0, 0)) (by (with_reducible repeat (first | refine blk_drewN ?_ _ | refine blk_drew ?_ | refine blk_alloc ?_ _)); exact BK251.out)) : gb252 ≠ gb251)); clear HO245; clear HO249; clear BK239; clear BK240; clear BK251; clear HB; have HO245 := n0_; have HO249 := n1_; have BK239 := n2_; have BK240 := n3_; have BK251 := n4_; have HB := n5_; have BK252 := n6_; have GW252 := n7_; have GE252 := n8_; have NB239_252 := n9_; have NB252_239 := n10_; have NB240_252 := n11_; have NB252_240 := n12_; have NB251_252 := n13_; have NB252_251 := n14_; clear n0_ n1_ n2_ n3_ n4_ n5_ n6_ n7_ n8_ n9_ n10_ n11_ n12_ n13_ n14_; clear hb hbox hg; have hnb11 := NB251_239.out; have hnc11 := NB239_251.out; have hnb12 := NB251_240.out; have hnc12 := NB240_251.out; have hnb13 := NB251_252.out; have hnc13 := NB252_251.out; have hcz14_0 : w10.cell? ⟨gb251, 0, none⟩ = some (.int .i64 0) := (blk_cell BK251.out 0).trans rfl; have hcz14_1 : w10.cell? ⟨gb251, 1, none⟩ = some (.int .i64 0) := (blk_cell BK251.out 1).trans rfl; have hcz14_2 : w10.cell? ⟨gb251, 2, none⟩ = some (.slice none 0 0) := (blk_cell BK251.out 2).trans rfl; have hfz14_0 := blk_frozen BK251.out 0; have hfz14_1 := blk_frozen BK251.out 1; have hfz14_2 := blk_frozen BK251.out 2; obtain ⟨Ao15, co15, eo15⟩ := Kd.R_slice HO245.out; subst eo15; have hnb16 := NB252_239.out; have hnc16 := NB239_252.out; have hnb17 := NB252_240.out; have hnc17 := NB240_252.out; have hcz18_0 : w10.cell? ⟨gb252, 0, none⟩ = some (.int .i64 0) := (blk_cell BK252.out 0).trans rfl; have hcz18_1 : w10.cell? ⟨gb252, 1, none⟩ = some (.slice none 0 0) := (blk_cell BK252.out 1).trans rfl; have hfz18_0 := blk_frozen BK252.out 0; have hfz18_1 := blk_frozen BK252.out 1; obtain ⟨Ao19, co19, eo19⟩ := Kd.S_slice HO249.out; subst eo19; have hcz20_0 : w10.cell? ⟨gb240, 0, none⟩ = some (.int .i64 0) := (blk_cell BK240.out 0).trans rfl; have hcz20_1 : w10.cell? ⟨gb240, 1, none⟩ = some (.slice none 0 0) := (blk_cell BK240.out 1).trans rfl; have hfz20_0 := blk_frozen BK240.out 0; have hfz20_1 := blk_frozen BK240.out 1))
  refine bodyPost_ret (results_cell_row rfl _ _ gb240 24 #[.int .i64 t246, .slice Ao19 t247.length co19] (0, 0) _ rfl (by (with_reducible repeat (first | refine blk_drewN ?_ _ | refine blk_drew ?_ | refine blk_alloc ?_ _)); refine blk_put (cs := #[.int .i64 t246, .slice none 0 0]) ?_ 1 _ rfl; (with_reducible repeat (first | refine blk_drewN ?_ _ | refine blk_drew ?_ | refine blk_alloc ?_ _)); refine blk_put (cs := #[.int .i64 0, .slice none 0 0]) ?_ 0 _ rfl; (with_reducible repeat (first | refine blk_drewN ?_ _ | refine blk_drew ?_ | refine blk_alloc ?_ _)); refine blk_far ?_ NB240_252.out _; (with_reducible repeat (first | refine blk_drewN ?_ _ | refine blk_drew ?_ | refine blk_alloc ?_ _)); refine blk_far ?_ NB240_252.out _; (with_reducible repeat (first | refine blk_drewN ?_ _ | refine blk_drew ?_ | refine blk_alloc ?_ _)); refine blk_far ?_ NB240_251.out _; (with_reducible repeat (first | refine blk_drewN ?_ _ | refine blk_drew ?_ | refine blk_alloc ?_ _)); refine blk_far ?_ NB240_251.out _; (with_reducible repeat (first | refine blk_drewN ?_ _ | refine blk_drew ?_ | refine blk_alloc ?_ _)); refine blk_far ?_ NB240_251.out _; (with_reducible repeat (first | refine blk_drewN ?_ _ | refine blk_drew ?_ | refine blk_alloc ?_ _)); exact BK240.out) Try.underlying24 rfl (by kernel_rfl)) rfl ?_
  exact ⟨_, by first | rfl | (simp [errW_none, errW_some] <;> rfl) | (simp [*, errW_none, errW_some] <;> rfl), by (with_reducible repeat (first | apply Kd.S_alloc | apply Kd.S_drewN | apply Kd.S_drew)); exact Kd.S_mono (Kd.S_far (p := ⟨gb240, 1, none⟩) (Kd.S_far (p := ⟨gb240, 0, none⟩) (Kd.S_far (p := ⟨gb252, 1, none⟩) (Kd.S_far (p := ⟨gb252, 0, none⟩) (Kd.S_far (p := ⟨gb251, 2, none⟩) (Kd.S_far (p := ⟨gb251, 1, none⟩) (Kd.S_far (p := ⟨gb251, 0, none⟩) (Kd.S_types (Kd.S_types (Kd.S_mono HO249.out (fun k_ hk => (⟨hk, hk.2⟩ : _ ∧ k_ ≠ gb251))) BK252.out (by decide)) BK240.out (by decide)) (fun _ hk => hk.1.1.2) (.int .i64 t241)) (fun _ hk => hk.1.1.2) (.int .i64 t242)) (fun _ hk => hk.1.1.2) (.slice Ao15 t243.length co15)) (fun _ hk => hk.1.2) (.int .i64 t246)) (fun _ hk => hk.1.2) (.slice Ao19 t247.length co19)) (fun _ hk => hk.2) (.int .i64 t246)) (fun _ hk => hk.2) (.slice Ao19 t247.length co19)) (fun _ hk => trivial), by repeat (first | (with_reducible first | exact HB.out | apply below_alloc | apply pw_below_drewN | apply below_drew1 | refine below_set ?_ GE239.out | refine below_set ?_ GE240.out | refine below_set ?_ GE251.out | refine below_set ?_ GE252.out) | exact HB.out)⟩

end Go.Proofs.Ytaphejpphlcchaa.PNet
