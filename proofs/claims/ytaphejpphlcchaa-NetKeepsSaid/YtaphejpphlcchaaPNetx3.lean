-- Written for this claim by the session's own driver of the kit's printer (mprint.py).
import Derived.Test.YtaphejpphlcchaaPNetx0
namespace Go.Proofs.Ytaphejpphlcchaa.PNet
open Go.RowKit Go.Proofs.YtaphejpphlcchaaW.PrintWords Go.Proofs.YtaphejpphlcchaaW.PrintLast Go.Proofs.YtaphejpphlcchaaW.PrintMore
attribute [local go_sem] max2_int min2_int max_two min_two max_three min_three max_four min_four   -- for this text's walks alone
set_option linter.unusedVariables false
set_option linter.unusedSimpArgs false

/-! ### lockgateref11_Right: function 8 -/
mutual
def lockgateref11_Right.j0 : Nat → Bool → Int → List (S29) → Option (Bool)
  | 0, _, _, _ => none
  | k + 1, x17, x138000, x138001 => if x17 = true then (some false) else (lockgateref11_Right.l0 k 0 x138000 x138001)
def lockgateref11_Right.l0 : Nat → Int → Int → List (S29) → Option (Bool)
  | 0, _, _, _ => none
  | k + 1, x3, x138000, x138001 => if x3 < (x138001.length : Int) then (if 0 ≤ x3 then (if ((rd_T29 x138001 x3).f0) < 0 then (some false) else (if ((rd_T29 x138001 x3).f0) ≥ x138000 then (some false) else (if x3 > 0 then (if 0 ≤ (wrap64 (x3 - 1)) then (if (wrap64 (x3 - 1)) < (x138001.length : Int) then (if ((rd_T29 x138001 (wrap64 (x3 - 1))).f0) ≥ ((rd_T29 x138001 x3).f0) then (some false) else (if (((rd_T29 x138001 x3).f2).length : Int) > 500 then (some false) else (lockgateref11_Right.l0 k (wrap64 (x3 + 1)) x138000 x138001))) else (none)) else (none)) else (if (((rd_T29 x138001 x3).f2).length : Int) > 500 then (some false) else (lockgateref11_Right.l0 k (wrap64 (x3 + 1)) x138000 x138001))))) else (none)) else (some true)
end
def lockgateref11_Right.f (k : Nat) (a0_0 : Int) (l0_1 : List (S29)) : Option (Bool) := if a0_0 < 0 then (lockgateref11_Right.j0 k true a0_0 l0_1) else (if a0_0 > 4611686018427387904 then (lockgateref11_Right.j0 k true a0_0 l0_1) else (lockgateref11_Right.j0 k (decide ((l0_1.length : Int) > 60)) a0_0 l0_1))
theorem lockgateref11_Right.mono_l : ∀ k, (∀ y0 y1 y2, LeO (lockgateref11_Right.j0 k y0 y1 y2) (lockgateref11_Right.j0 (k + 1) y0 y1 y2)) ∧ (∀ y0 y1 y2, LeO (lockgateref11_Right.l0 k y0 y1 y2) (lockgateref11_Right.l0 (k + 1) y0 y1 y2))
  | 0 => ⟨fun _ _ _ r h => by simp [lockgateref11_Right.j0] at h, fun _ _ _ r h => by simp [lockgateref11_Right.l0] at h⟩
  | k + 1 => by
    obtain ⟨ih0, ih1⟩ := lockgateref11_Right.mono_l k
    refine ⟨?_, ?_⟩
    · intro y0 y1 y2
      unfold lockgateref11_Right.j0
      repeat' first
      | (with_reducible exact ih0 _ _ _)
      | (with_reducible exact ih1 _ _ _)
      | (with_reducible exact LeO.refl _)
      | (with_reducible exact LeO.none _)
      | (with_reducible refine LeO.ite ?_ ?_)
      | (with_reducible refine LeO.bind ?_ (fun _ => ?_))
      | exact ih0 _ _ _
      | exact ih1 _ _ _
      | exact LeO.none _
      | refine LeO.ite ?_ ?_
      | refine LeO.bind ?_ (fun _ => ?_)
    · intro y0 y1 y2
      unfold lockgateref11_Right.l0
      repeat' first
      | (with_reducible exact ih0 _ _ _)
      | (with_reducible exact ih1 _ _ _)
      | (with_reducible exact LeO.refl _)
      | (with_reducible exact LeO.none _)
      | (with_reducible refine LeO.ite ?_ ?_)
      | (with_reducible refine LeO.bind ?_ (fun _ => ?_))
      | exact ih0 _ _ _
      | exact ih1 _ _ _
      | exact LeO.none _
      | refine LeO.ite ?_ ?_
      | refine LeO.bind ?_ (fun _ => ?_)
theorem lockgateref11_Right.mono : ∀ a0 a1 k, LeO (lockgateref11_Right.f k a0 a1) (lockgateref11_Right.f (k + 1) a0 a1) := by
  intro a0 a1 k
  obtain ⟨ih0, ih1⟩ := lockgateref11_Right.mono_l k
  unfold lockgateref11_Right.f
  repeat' first
      | (with_reducible exact ih0 _ _ _)
      | (with_reducible exact ih1 _ _ _)
      | (with_reducible exact LeO.refl _)
      | (with_reducible exact LeO.none _)
      | (with_reducible refine LeO.ite ?_ ?_)
      | (with_reducible refine LeO.bind ?_ (fun _ => ?_))
      | exact ih0 _ _ _
      | exact ih1 _ _ _
      | exact LeO.none _
      | refine LeO.ite ?_ ?_
      | refine LeO.bind ?_ (fun _ => ?_)
set_option maxHeartbeats 8000000 in
set_option maxRecDepth 100000 in
theorem lockgateref11_Right.calls (k : Nat) (a0_0 : Int) (A0_1 : Option Addr) (c0_1 : Nat) (l0_1 : List (S29)) (r : Bool) (w : World) (hr0_1 : Kd.C k29 w A0_1 l0_1.length l0_1) (hc0_1 : l0_1.length ≤ c0_1) (h : lockgateref11_Right.f k a0_0 l0_1 = some r) :
    Calls Try.prog 8 #[.agg #[.int .i64 a0_0, .slice A0_1 l0_1.length c0_1]] w fun e w' => e = .returned (.bool r) ∧ Below w.heap.size w w' := by
  have hu24 := Try.underlying24
  have HR0_1 := Aside0.mk hr0_1
  have HC0_1 := Aside0.mk hc0_1
  clear hr0_1 hc0_1
  have HB := Aside0.mk (Below.refl w.heap.size w)
  have H : (if a0_0 < 0 then (lockgateref11_Right.j0 k true a0_0 l0_1) else (if a0_0 > 4611686018427387904 then (lockgateref11_Right.j0 k true a0_0 l0_1) else (lockgateref11_Right.j0 k (decide ((l0_1.length : Int) > 60)) a0_0 l0_1))) = some r := h
  clear h
  have HC2 := Aside0.mk H
  clear H
  go_enter Try.func8, Try.ntmps8
  go_upto_region 1 with (first | ((with_reducible refine gate_dst (N := 1) rfl ?_); (try (refine gate_guard (by rfl) ?_; dsimp only)); refine box_event ?hg (N := 1) ?hd (cs := #[.int .i64 a0_0, .slice A0_1 l0_1.length c0_1]) (t := 24) ?hr ?_; (case hd => rfl); (case hg => rfl); (case hr => first | (go_simp; done) | (go_simp; rfl)); intro gb137 hg w3 hbox hb; have n0_ := Aside0.mk (below_step (by repeat (first | (with_reducible first | exact HB.out | apply below_alloc | apply pw_below_drewN | apply below_drew1) | exact HB.out)) hb); have n1_ := Aside0.mk (hbox); have n2_ := Aside0.mk ((by rw [hg]; exact (below_size (by repeat (first | (with_reducible first | exact HB.out | apply below_alloc | apply pw_below_drewN | apply below_drew1) | exact HB.out))) : w.heap.size ≤ gb137)); have n3_ := Aside0.mk ((by rw [hg]; exact (below_size (by repeat (first | (with_reducible first | exact HB.out | apply below_alloc | apply pw_below_drewN | apply below_drew1) | exact HB.out))) : w.heap.size ≤ gb137)); clear HB; have HB := n0_; have BK137 := n1_; have GW137 := n2_; have GE137 := n3_; clear n0_ n1_ n2_ n3_; clear hb hbox hg))
  repeat (go_quiet (first | ((with_reducible refine gate_dst (N := 1) rfl ?_); (try (refine gate_guard (by rfl) ?_; dsimp only)); refine box_event ?hg (N := 1) ?hd (cs := #[.int .i64 a0_0, .slice A0_1 l0_1.length c0_1]) (t := 24) ?hr ?_; (case hd => rfl); (case hg => rfl); (case hr => first | (go_simp; done) | (go_simp; rfl)); intro gb137 hg w3 hbox hb; have n0_ := Aside0.mk (below_step (by repeat (first | (with_reducible first | exact HB.out | apply below_alloc | apply pw_below_drewN | apply below_drew1) | exact HB.out)) hb); have n1_ := Aside0.mk (hbox); have n2_ := Aside0.mk ((by rw [hg]; exact (below_size (by repeat (first | (with_reducible first | exact HB.out | apply below_alloc | apply pw_below_drewN | apply below_drew1) | exact HB.out))) : w.heap.size ≤ gb137)); have n3_ := Aside0.mk ((by rw [hg]; exact (below_size (by repeat (first | (with_reducible first | exact HB.out | apply below_alloc | apply pw_below_drewN | apply below_drew1) | exact HB.out))) : w.heap.size ≤ gb137)); clear HB; have HB := n0_; have BK137 := n1_; have GW137 := n2_; have GE137 := n3_; clear n0_ n1_ n2_ n3_; clear hb hbox hg)); go_upto_region 1 with (first | ((with_reducible refine gate_dst (N := 1) rfl ?_); (try (refine gate_guard (by rfl) ?_; dsimp only)); refine box_event ?hg (N := 1) ?hd (cs := #[.int .i64 a0_0, .slice A0_1 l0_1.length c0_1]) (t := 24) ?hr ?_; (case hd => rfl); (case hg => rfl); (case hr => first | (go_simp; done) | (go_simp; rfl)); intro gb137 hg w3 hbox hb; have n0_ := Aside0.mk (below_step (by repeat (first | (with_reducible first | exact HB.out | apply below_alloc | apply pw_below_drewN | apply below_drew1) | exact HB.out)) hb); have n1_ := Aside0.mk (hbox); have n2_ := Aside0.mk ((by rw [hg]; exact (below_size (by repeat (first | (with_reducible first | exact HB.out | apply below_alloc | apply pw_below_drewN | apply below_drew1) | exact HB.out))) : w.heap.size ≤ gb137)); have n3_ := Aside0.mk ((by rw [hg]; exact (below_size (by repeat (first | (with_reducible first | exact HB.out | apply below_alloc | apply pw_below_drewN | apply below_drew1) | exact HB.out))) : w.heap.size ≤ gb137)); clear HB; have HB := n0_; have BK137 := n1_; have GW137 := n2_; have GE137 := n3_; clear n0_ n1_ n2_ n3_; clear hb hbox hg)))
  (try simp only [Act.put, List.setIfInBounds_toArray, List.set_cons_zero, List.set_cons_succ])
  go_cut [17] (fun v17 wc => ∃ (kq : Nat) (x17_1 : Bool), v17 = .bool x17_1 ∧ Aside0 (lockgateref11_Right.j0 kq x17_1 a0_0 l0_1 = some r) ∧ Aside0 (kq ≤ k) ∧ Aside0 (wc.heap[gb137]? = some (.cells #[.int .i64 a0_0, (.slice A0_1 l0_1.length c0_1)] 24 (0, 0))) ∧ Aside0 (Below w.heap.size w wc))
  case first =>
    have H := HC2.out
    clear HC2
    by_cases c4 : a0_0 < 0
    · rw [if_pos c4] at H
      have c4b0 : decide (a0_0 < 0) = true := decide_eq_true c4
      clear c4
      (first | rw [c4b0] | (simp only [i64_w, i32_w]; rw [c4b0]) | skip)
      have H' := Aside0.mk H
      clear H
      have hcz5_0 : w3.cell? ⟨gb137, 0, none⟩ = some (.int .i64 a0_0) := (blk_cell BK137.out 0).trans rfl
      have hcz5_1 : w3.cell? ⟨gb137, 1, none⟩ = some (.slice A0_1 l0_1.length c0_1) := (blk_cell BK137.out 1).trans rfl
      have hfz5_0 := blk_frozen BK137.out 0
      have hfz5_1 := blk_frozen BK137.out 1
      go_wp2
      repeat (go_quiet (fail); try go_wp2)
      go_meet
      case rel => exact ⟨_, (true), (by first | rfl | (simp; done) | (simp [*]; done)), H', ⟨by first | omega | exact Nat.le_refl _⟩, ⟨by (with_reducible repeat (first | refine blk_drewN ?_ _ | refine blk_drew ?_ | refine blk_alloc ?_ _)); exact BK137.out⟩, ⟨by repeat (first | (with_reducible first | exact HB.out | apply below_alloc | apply pw_below_drewN | apply below_drew1 | refine below_set ?_ GE137.out) | exact HB.out)⟩⟩
    · rw [if_neg c4] at H
      have c4b0 : decide (a0_0 < 0) = false := decide_eq_false c4
      clear c4
      (first | rw [c4b0] | (simp only [i64_w, i32_w]; rw [c4b0]) | skip)
      by_cases c6 : a0_0 > 4611686018427387904
      · rw [if_pos c6] at H
        have c6b0 : decide (4611686018427387904 < a0_0) = true := decide_eq_true c6
        clear c6
        have H' := Aside0.mk H
        clear H
        have hcz7_0 : w3.cell? ⟨gb137, 0, none⟩ = some (.int .i64 a0_0) := (blk_cell BK137.out 0).trans rfl
        have hcz7_1 : w3.cell? ⟨gb137, 1, none⟩ = some (.slice A0_1 l0_1.length c0_1) := (blk_cell BK137.out 1).trans rfl
        have hfz7_0 := blk_frozen BK137.out 0
        have hfz7_1 := blk_frozen BK137.out 1
        go_wp2
        repeat (go_quiet (fail); try go_wp2)
        go_meet
        case rel => exact ⟨_, (true), (by first | rfl | (simp; done) | (simp [*]; done)), H', ⟨by first | omega | exact Nat.le_refl _⟩, ⟨by (with_reducible repeat (first | refine blk_drewN ?_ _ | refine blk_drew ?_ | refine blk_alloc ?_ _)); exact BK137.out⟩, ⟨by repeat (first | (with_reducible first | exact HB.out | apply below_alloc | apply pw_below_drewN | apply below_drew1 | refine below_set ?_ GE137.out) | exact HB.out)⟩⟩
      · rw [if_neg c6] at H
        have c6b0 : decide (4611686018427387904 < a0_0) = false := decide_eq_false c6
        clear c6
        have H' := Aside0.mk H
        clear H
        have hcz8_0 : w3.cell? ⟨gb137, 0, none⟩ = some (.int .i64 a0_0) := (blk_cell BK137.out 0).trans rfl
        have hcz8_1 : w3.cell? ⟨gb137, 1, none⟩ = some (.slice A0_1 l0_1.length c0_1) := (blk_cell BK137.out 1).trans rfl
        have hfz8_0 := blk_frozen BK137.out 0
        have hfz8_1 := blk_frozen BK137.out 1
        go_wp2
        repeat (go_quiet (fail); try go_wp2)
        go_meet
        case rel => exact ⟨_, (decide ((l0_1.length : Int) > 60)), (by first | rfl | (simp; done) | (simp [*]; done)), H', ⟨by first | omega | exact Nat.le_refl _⟩, ⟨by (with_reducible repeat (first | refine blk_drewN ?_ _ | refine blk_drew ?_ | refine blk_alloc ?_ _)); exact BK137.out⟩, ⟨by repeat (first | (with_reducible first | exact HB.out | apply below_alloc | apply pw_below_drewN | apply below_drew1 | refine below_set ?_ GE137.out) | exact HB.out)⟩⟩
  case rest =>
    clear HC2
    try clear p2
    try clear c4
    try clear c4b0
    try clear c6
    try clear c6b0
    try clear c8
    try clear hcz5_0
    try clear hcz5_1
    try clear hcz7_0
    try clear hcz7_1
    try clear hcz8_0
    try clear hcz8_1
    try clear hfz5_0
    try clear hfz5_1
    try clear hfz7_0
    try clear hfz7_1
    try clear hfz8_0
    try clear hfz8_1
    obtain ⟨kq, x17_1, rfl, HA, HJ1, BK137, HB⟩ := hcut
    cases kq with
    | zero => exact absurd HA.out (by simp [lockgateref11_Right.j0])
    | succ kj1 =>
      have H := HA.out
      clear HA
      simp only [lockgateref11_Right.j0] at H
      by_cases c9 : x17_1 = true
      · subst c9
        have H1 : (some false) = some r := by rw [if_pos rfl] at H; exact H
        clear H
        have H := H1
        clear H1
        obtain rfl := Option.some.inj H
        go_wp2
        repeat (go_quiet (fail); try go_wp2)
        go_ret
        exact ⟨by first | rfl | (simp [errW_none, errW_some] <;> rfl) | (simp [*, errW_none, errW_some] <;> rfl), by repeat (first | (with_reducible first | exact HB.out | apply below_alloc | apply pw_below_drewN | apply below_drew1 | refine below_set ?_ GE137.out) | exact HB.out)⟩
      · replace c9 := Bool.eq_false_iff.mpr c9
        subst c9
        have H1 : (lockgateref11_Right.l0 kj1 0 a0_0 l0_1) = some r := by rw [if_neg (show ¬ (false = true) by decide)] at H; exact H
        clear H
        have H := H1
        clear H1
        have H' := Aside0.mk H
        clear H
        go_wp2
        repeat (go_quiet (fail); try go_wp2)
        go_loopg [3] kj1 (fun kq v3 w' => ∃ (x3_2 : Int), v3 = .int .i64 x3_2 ∧ Aside0 (lockgateref11_Right.l0 kq x3_2 a0_0 l0_1 = some r) ∧ Aside0 (kq ≤ kj1) ∧ Aside0 (w'.heap[gb137]? = some (.cells #[.int .i64 a0_0, (.slice A0_1 l0_1.length c0_1)] 24 (0, 0))) ∧ Aside0 (Below w.heap.size w w'))
        case atStart => exact ⟨(0), (by first | rfl | (simp; done) | (simp [*]; done)), H', ⟨Nat.le_refl _⟩, ⟨by (with_reducible repeat (first | refine blk_drewN ?_ _ | refine blk_drew ?_ | refine blk_alloc ?_ _)); exact BK137.out⟩, ⟨by repeat (first | (with_reducible first | exact HB.out | apply below_alloc | apply pw_below_drewN | apply below_drew1 | refine below_set ?_ GE137.out) | exact HB.out)⟩⟩
        case round =>
          clear H'
          try clear p2
          try clear c4
          try clear c4b0
          try clear c6
          try clear c6b0
          try clear c8
          try clear c9
          try clear hcz5_0
          try clear hcz5_1
          try clear hcz7_0
          try clear hcz7_1
          try clear hcz8_0
          try clear hcz8_1
          try clear hfz5_0
          try clear hfz5_1
          try clear hfz7_0
          try clear hfz7_1
          try clear hfz8_0
          try clear hfz8_1
          try clear p2
          obtain ⟨x3_2, rfl, HA, HK2, BK137, HB⟩ := hrel
          cases gk with
          | zero => exact absurd HA.out (by simp [lockgateref11_Right.l0])
          | succ k2 =>
            have H := HA.out
            clear HA
            simp only [lockgateref11_Right.l0] at H
            by_cases c10 : x3_2 < (l0_1.length : Int)
            · rw [if_pos c10] at H
              have c10b0 : decide (x3_2 < (l0_1.length : Int)) = true := decide_eq_true c10
              clear c10
              by_cases c11 : 0 ≤ x3_2
              · rw [if_pos c11] at H
                have c11b0 : decide (0 ≤ x3_2) = true := decide_eq_true c11
                clear c11
                by_cases c12 : ((rd_T29 l0_1 x3_2).f0) < 0
                · rw [if_pos c12] at H
                  have c12b0 : decide (((rd_T29 l0_1 x3_2).f0) < 0) = true := decide_eq_true c12
                  clear c12
                  obtain rfl := Option.some.inj H
                  have hcz13_0 : wr.cell? ⟨gb137, 0, none⟩ = some (.int .i64 a0_0) := (blk_cell BK137.out 0).trans rfl
                  have hcz13_1 : wr.cell? ⟨gb137, 1, none⟩ = some (.slice A0_1 l0_1.length c0_1) := (blk_cell BK137.out 1).trans rfl
                  have hfz13_0 := blk_frozen BK137.out 0
                  have hfz13_1 := blk_frozen BK137.out 1
                  have p138 : 0 ≤ (x3_2 : Int) := of_decide_eq_true (by first | (with_reducible assumption) | assumption)
                  have q138 : x3_2 < (l0_1.length : Int) := of_decide_eq_true (by first | (with_reducible assumption) | assumption)
                  obtain ⟨ad138, A138_2, c138_2, e138, hx138_0, hx138_1, hx138_2, hl138_2, hi138_2⟩ := at_T29 HR0_1.out x3_2 p138 q138
                  cases e138
                  replace hx138_0 := (HB.out.cell (World.block_lt_of_cell? w _ hx138_0)).trans hx138_0
                  replace hx138_1 := (HB.out.cell (World.block_lt_of_cell? w _ hx138_1)).trans hx138_1
                  replace hx138_2 := (HB.out.cell (World.block_lt_of_cell? w _ hx138_2)).trans hx138_2
                  have HR138_2 := Aside0.mk hi138_2
                  have HC138_2 := Aside0.mk hl138_2
                  clear hi138_2 hl138_2
                  replace p138 := eq_true p138
                  replace q138 := eq_true q138
                  go_wp2
                  repeat (go_quiet (fail); try go_wp2)
                  go_ret
                  exact ⟨by first | rfl | (simp [errW_none, errW_some] <;> rfl) | (simp [*, errW_none, errW_some] <;> rfl), by repeat (first | (with_reducible first | exact HB.out | apply below_alloc | apply pw_below_drewN | apply below_drew1 | refine below_set ?_ GE137.out) | exact HB.out)⟩
                · rw [if_neg c12] at H
                  have c12b0 : decide (((rd_T29 l0_1 x3_2).f0) < 0) = false := decide_eq_false c12
                  clear c12
                  by_cases c14 : ((rd_T29 l0_1 x3_2).f0) ≥ a0_0
                  · rw [if_pos c14] at H
                    have c14b0 : decide (a0_0 ≤ ((rd_T29 l0_1 x3_2).f0)) = true := decide_eq_true c14
                    clear c14
                    obtain rfl := Option.some.inj H
                    have hcz15_0 : wr.cell? ⟨gb137, 0, none⟩ = some (.int .i64 a0_0) := (blk_cell BK137.out 0).trans rfl
                    have hcz15_1 : wr.cell? ⟨gb137, 1, none⟩ = some (.slice A0_1 l0_1.length c0_1) := (blk_cell BK137.out 1).trans rfl
                    have hfz15_0 := blk_frozen BK137.out 0
                    have hfz15_1 := blk_frozen BK137.out 1
                    have p138 : 0 ≤ (x3_2 : Int) := of_decide_eq_true (by first | (with_reducible assumption) | assumption)
                    have q138 : x3_2 < (l0_1.length : Int) := of_decide_eq_true (by first | (with_reducible assumption) | assumption)
                    obtain ⟨ad138, A138_2, c138_2, e138, hx138_0, hx138_1, hx138_2, hl138_2, hi138_2⟩ := at_T29 HR0_1.out x3_2 p138 q138
                    cases e138
                    replace hx138_0 := (HB.out.cell (World.block_lt_of_cell? w _ hx138_0)).trans hx138_0
                    replace hx138_1 := (HB.out.cell (World.block_lt_of_cell? w _ hx138_1)).trans hx138_1
                    replace hx138_2 := (HB.out.cell (World.block_lt_of_cell? w _ hx138_2)).trans hx138_2
                    have HR138_2 := Aside0.mk hi138_2
                    have HC138_2 := Aside0.mk hl138_2
                    clear hi138_2 hl138_2
                    replace p138 := eq_true p138
                    replace q138 := eq_true q138
                    have p139 : 0 ≤ (x3_2 : Int) := of_decide_eq_true (by first | (with_reducible assumption) | assumption)
                    have q139 : x3_2 < (l0_1.length : Int) := of_decide_eq_true (by first | (with_reducible assumption) | assumption)
                    obtain ⟨ad139, A139_2, c139_2, e139, hx139_0, hx139_1, hx139_2, hl139_2, hi139_2⟩ := at_T29 HR0_1.out x3_2 p139 q139
                    obtain rfl : ad138 = ad139 := (by injection e139)
                    replace hx139_0 := (HB.out.cell (World.block_lt_of_cell? w _ hx139_0)).trans hx139_0
                    replace hx139_1 := (HB.out.cell (World.block_lt_of_cell? w _ hx139_1)).trans hx139_1
                    replace hx139_2 := (HB.out.cell (World.block_lt_of_cell? w _ hx139_2)).trans hx139_2
                    have HR139_2 := Aside0.mk hi139_2
                    have HC139_2 := Aside0.mk hl139_2
                    clear hi139_2 hl139_2
                    replace p139 := eq_true p139
                    replace q139 := eq_true q139
                    have ea_ := Option.some.inj (hx138_2.symm.trans hx139_2)
                    injection ea_ with ea_ en_ ec_
                    subst ea_
                    subst ec_
                    clear en_
                    go_wp2
                    repeat (go_quiet (fail); try go_wp2)
                    go_ret
                    exact ⟨by first | rfl | (simp [errW_none, errW_some] <;> rfl) | (simp [*, errW_none, errW_some] <;> rfl), by repeat (first | (with_reducible first | exact HB.out | apply below_alloc | apply pw_below_drewN | apply below_drew1 | refine below_set ?_ GE137.out) | exact HB.out)⟩
                  · rw [if_neg c14] at H
                    have c14b0 : decide (a0_0 ≤ ((rd_T29 l0_1 x3_2).f0)) = false := decide_eq_false c14
                    clear c14
                    by_cases c16 : x3_2 > 0
                    · rw [if_pos c16] at H
                      have c16b0 : decide (0 < x3_2) = true := decide_eq_true c16
                      clear c16
                      obtain ⟨ji17, hji17⟩ : ∃ j_ : Int, (wrap64 (x3_2 - 1)) = j_ := ⟨_, rfl⟩
                      replace H : (if 0 ≤ (ji17) then (if (ji17) < (l0_1.length : Int) then (if ((rd_T29 l0_1 (ji17)).f0) ≥ ((rd_T29 l0_1 x3_2).f0) then (some false) else (if (((rd_T29 l0_1 x3_2).f2).length : Int) > 500 then (some false) else (lockgateref11_Right.l0 k2 (wrap64 (x3_2 + 1)) a0_0 l0_1))) else (none)) else (none)) = some r := by first | (rw [hji17] at H; exact H) | (simp only [hji17] at H ⊢; exact H)
                      have hji17w : (IntKind.i64.wrap (x3_2 - 1)) = ji17 := (i64_w _).trans hji17
                      by_cases c18 : 0 ≤ (ji17)
                      · rw [if_pos c18] at H
                        have c18b0 : decide (0 ≤ (ji17)) = true := decide_eq_true c18
                        clear c18
                        by_cases c19 : (ji17) < (l0_1.length : Int)
                        · rw [if_pos c19] at H
                          have c19b0 : decide ((ji17) < (l0_1.length : Int)) = true := decide_eq_true c19
                          clear c19
                          by_cases c20 : ((rd_T29 l0_1 (ji17)).f0) ≥ ((rd_T29 l0_1 x3_2).f0)
                          · rw [if_pos c20] at H
                            have c20b0 : decide (((rd_T29 l0_1 x3_2).f0) ≤ ((rd_T29 l0_1 (ji17)).f0)) = true := decide_eq_true c20
                            clear c20
                            obtain rfl := Option.some.inj H
                            have hcz21_0 : wr.cell? ⟨gb137, 0, none⟩ = some (.int .i64 a0_0) := (blk_cell BK137.out 0).trans rfl
                            have hcz21_1 : wr.cell? ⟨gb137, 1, none⟩ = some (.slice A0_1 l0_1.length c0_1) := (blk_cell BK137.out 1).trans rfl
                            have hfz21_0 := blk_frozen BK137.out 0
                            have hfz21_1 := blk_frozen BK137.out 1
                            have p138 : 0 ≤ (x3_2 : Int) := of_decide_eq_true (by first | (with_reducible assumption) | assumption)
                            have q138 : x3_2 < (l0_1.length : Int) := of_decide_eq_true (by first | (with_reducible assumption) | assumption)
                            obtain ⟨ad138, A138_2, c138_2, e138, hx138_0, hx138_1, hx138_2, hl138_2, hi138_2⟩ := at_T29 HR0_1.out x3_2 p138 q138
                            cases e138
                            replace hx138_0 := (HB.out.cell (World.block_lt_of_cell? w _ hx138_0)).trans hx138_0
                            replace hx138_1 := (HB.out.cell (World.block_lt_of_cell? w _ hx138_1)).trans hx138_1
                            replace hx138_2 := (HB.out.cell (World.block_lt_of_cell? w _ hx138_2)).trans hx138_2
                            have HR138_2 := Aside0.mk hi138_2
                            have HC138_2 := Aside0.mk hl138_2
                            clear hi138_2 hl138_2
                            replace p138 := eq_true p138
                            replace q138 := eq_true q138
                            have p139 : 0 ≤ (x3_2 : Int) := of_decide_eq_true (by first | (with_reducible assumption) | assumption)
                            have q139 : x3_2 < (l0_1.length : Int) := of_decide_eq_true (by first | (with_reducible assumption) | assumption)
                            obtain ⟨ad139, A139_2, c139_2, e139, hx139_0, hx139_1, hx139_2, hl139_2, hi139_2⟩ := at_T29 HR0_1.out x3_2 p139 q139
                            obtain rfl : ad138 = ad139 := (by injection e139)
                            replace hx139_0 := (HB.out.cell (World.block_lt_of_cell? w _ hx139_0)).trans hx139_0
                            replace hx139_1 := (HB.out.cell (World.block_lt_of_cell? w _ hx139_1)).trans hx139_1
                            replace hx139_2 := (HB.out.cell (World.block_lt_of_cell? w _ hx139_2)).trans hx139_2
                            have HR139_2 := Aside0.mk hi139_2
                            have HC139_2 := Aside0.mk hl139_2
                            clear hi139_2 hl139_2
                            replace p139 := eq_true p139
                            replace q139 := eq_true q139
                            have ea_ := Option.some.inj (hx138_2.symm.trans hx139_2)
                            injection ea_ with ea_ en_ ec_
                            subst ea_
                            subst ec_
                            clear en_
                            have p140 : 0 ≤ ((ji17) : Int) := of_decide_eq_true (by first | (with_reducible assumption) | assumption)
                            have q140 : (ji17) < (l0_1.length : Int) := of_decide_eq_true (by first | (with_reducible assumption) | assumption)
                            obtain ⟨ad140, A140_2, c140_2, e140, hx140_0, hx140_1, hx140_2, hl140_2, hi140_2⟩ := at_T29 HR0_1.out (ji17) p140 q140
                            obtain rfl : ad138 = ad140 := (by injection e140)
                            replace hx140_0 := (HB.out.cell (World.block_lt_of_cell? w _ hx140_0)).trans hx140_0
                            replace hx140_1 := (HB.out.cell (World.block_lt_of_cell? w _ hx140_1)).trans hx140_1
                            replace hx140_2 := (HB.out.cell (World.block_lt_of_cell? w _ hx140_2)).trans hx140_2
                            have HR140_2 := Aside0.mk hi140_2
                            have HC140_2 := Aside0.mk hl140_2
                            clear hi140_2 hl140_2
                            replace p140 := eq_true p140
                            replace q140 := eq_true q140
                            have p141 : 0 ≤ (x3_2 : Int) := of_decide_eq_true (by first | (with_reducible assumption) | assumption)
                            have q141 : x3_2 < (l0_1.length : Int) := of_decide_eq_true (by first | (with_reducible assumption) | assumption)
                            obtain ⟨ad141, A141_2, c141_2, e141, hx141_0, hx141_1, hx141_2, hl141_2, hi141_2⟩ := at_T29 HR0_1.out x3_2 p141 q141
                            obtain rfl : ad138 = ad141 := (by injection e141)
                            replace hx141_0 := (HB.out.cell (World.block_lt_of_cell? w _ hx141_0)).trans hx141_0
                            replace hx141_1 := (HB.out.cell (World.block_lt_of_cell? w _ hx141_1)).trans hx141_1
                            replace hx141_2 := (HB.out.cell (World.block_lt_of_cell? w _ hx141_2)).trans hx141_2
                            have HR141_2 := Aside0.mk hi141_2
                            have HC141_2 := Aside0.mk hl141_2
                            clear hi141_2 hl141_2
                            replace p141 := eq_true p141
                            replace q141 := eq_true q141
                            have ea_ := Option.some.inj (hx138_2.symm.trans hx141_2)
                            injection ea_ with ea_ en_ ec_
                            subst ea_
                            subst ec_
                            clear en_
                            go_wp2
                            repeat (go_quiet (fail); try go_wp2)
                            go_ret
                            exact ⟨by first | rfl | (simp [errW_none, errW_some] <;> rfl) | (simp only [← hji17]; first | rfl | (simp [errW_none, errW_some] <;> rfl)) | (simp [*, errW_none, errW_some] <;> rfl), by repeat (first | (with_reducible first | exact HB.out | apply below_alloc | apply pw_below_drewN | apply below_drew1 | refine below_set ?_ GE137.out) | exact HB.out)⟩
                          · rw [if_neg c20] at H
                            have c20b0 : decide (((rd_T29 l0_1 x3_2).f0) ≤ ((rd_T29 l0_1 (ji17)).f0)) = false := decide_eq_false c20
                            clear c20
                            by_cases c22 : (((rd_T29 l0_1 x3_2).f2).length : Int) > 500
                            · rw [if_pos c22] at H
                              have c22b0 : decide (500 < (((rd_T29 l0_1 x3_2).f2).length : Int)) = true := decide_eq_true c22
                              have c22b1 : decide (500 < ((rd_T29 l0_1 x3_2).f2).length) = true := decide_eq_true (by omega)
                              clear c22
                              obtain rfl := Option.some.inj H
                              have hcz23_0 : wr.cell? ⟨gb137, 0, none⟩ = some (.int .i64 a0_0) := (blk_cell BK137.out 0).trans rfl
                              have hcz23_1 : wr.cell? ⟨gb137, 1, none⟩ = some (.slice A0_1 l0_1.length c0_1) := (blk_cell BK137.out 1).trans rfl
                              have hfz23_0 := blk_frozen BK137.out 0
                              have hfz23_1 := blk_frozen BK137.out 1
                              have p138 : 0 ≤ (x3_2 : Int) := of_decide_eq_true (by first | (with_reducible assumption) | assumption)
                              have q138 : x3_2 < (l0_1.length : Int) := of_decide_eq_true (by first | (with_reducible assumption) | assumption)
                              obtain ⟨ad138, A138_2, c138_2, e138, hx138_0, hx138_1, hx138_2, hl138_2, hi138_2⟩ := at_T29 HR0_1.out x3_2 p138 q138
                              cases e138
                              replace hx138_0 := (HB.out.cell (World.block_lt_of_cell? w _ hx138_0)).trans hx138_0
                              replace hx138_1 := (HB.out.cell (World.block_lt_of_cell? w _ hx138_1)).trans hx138_1
                              replace hx138_2 := (HB.out.cell (World.block_lt_of_cell? w _ hx138_2)).trans hx138_2
                              have HR138_2 := Aside0.mk hi138_2
                              have HC138_2 := Aside0.mk hl138_2
                              clear hi138_2 hl138_2
                              replace p138 := eq_true p138
                              replace q138 := eq_true q138
                              have p139 : 0 ≤ (x3_2 : Int) := of_decide_eq_true (by first | (with_reducible assumption) | assumption)
                              have q139 : x3_2 < (l0_1.length : Int) := of_decide_eq_true (by first | (with_reducible assumption) | assumption)
                              obtain ⟨ad139, A139_2, c139_2, e139, hx139_0, hx139_1, hx139_2, hl139_2, hi139_2⟩ := at_T29 HR0_1.out x3_2 p139 q139
                              obtain rfl : ad138 = ad139 := (by injection e139)
                              replace hx139_0 := (HB.out.cell (World.block_lt_of_cell? w _ hx139_0)).trans hx139_0
                              replace hx139_1 := (HB.out.cell (World.block_lt_of_cell? w _ hx139_1)).trans hx139_1
                              replace hx139_2 := (HB.out.cell (World.block_lt_of_cell? w _ hx139_2)).trans hx139_2
                              have HR139_2 := Aside0.mk hi139_2
                              have HC139_2 := Aside0.mk hl139_2
                              clear hi139_2 hl139_2
                              replace p139 := eq_true p139
                              replace q139 := eq_true q139
                              have ea_ := Option.some.inj (hx138_2.symm.trans hx139_2)
                              injection ea_ with ea_ en_ ec_
                              subst ea_
                              subst ec_
                              clear en_
                              have p140 : 0 ≤ ((ji17) : Int) := of_decide_eq_true (by first | (with_reducible assumption) | assumption)
                              have q140 : (ji17) < (l0_1.length : Int) := of_decide_eq_true (by first | (with_reducible assumption) | assumption)
                              obtain ⟨ad140, A140_2, c140_2, e140, hx140_0, hx140_1, hx140_2, hl140_2, hi140_2⟩ := at_T29 HR0_1.out (ji17) p140 q140
                              obtain rfl : ad138 = ad140 := (by injection e140)
                              replace hx140_0 := (HB.out.cell (World.block_lt_of_cell? w _ hx140_0)).trans hx140_0
                              replace hx140_1 := (HB.out.cell (World.block_lt_of_cell? w _ hx140_1)).trans hx140_1
                              replace hx140_2 := (HB.out.cell (World.block_lt_of_cell? w _ hx140_2)).trans hx140_2
                              have HR140_2 := Aside0.mk hi140_2
                              have HC140_2 := Aside0.mk hl140_2
                              clear hi140_2 hl140_2
                              replace p140 := eq_true p140
                              replace q140 := eq_true q140
                              have p141 : 0 ≤ (x3_2 : Int) := of_decide_eq_true (by first | (with_reducible assumption) | assumption)
                              have q141 : x3_2 < (l0_1.length : Int) := of_decide_eq_true (by first | (with_reducible assumption) | assumption)
                              obtain ⟨ad141, A141_2, c141_2, e141, hx141_0, hx141_1, hx141_2, hl141_2, hi141_2⟩ := at_T29 HR0_1.out x3_2 p141 q141
                              obtain rfl : ad138 = ad141 := (by injection e141)
                              replace hx141_0 := (HB.out.cell (World.block_lt_of_cell? w _ hx141_0)).trans hx141_0
                              replace hx141_1 := (HB.out.cell (World.block_lt_of_cell? w _ hx141_1)).trans hx141_1
                              replace hx141_2 := (HB.out.cell (World.block_lt_of_cell? w _ hx141_2)).trans hx141_2
                              have HR141_2 := Aside0.mk hi141_2
                              have HC141_2 := Aside0.mk hl141_2
                              clear hi141_2 hl141_2
                              replace p141 := eq_true p141
                              replace q141 := eq_true q141
                              have ea_ := Option.some.inj (hx138_2.symm.trans hx141_2)
                              injection ea_ with ea_ en_ ec_
                              subst ea_
                              subst ec_
                              clear en_
                              have p142 : 0 ≤ (x3_2 : Int) := of_decide_eq_true (by first | (with_reducible assumption) | assumption)
                              have q142 : x3_2 < (l0_1.length : Int) := of_decide_eq_true (by first | (with_reducible assumption) | assumption)
                              obtain ⟨ad142, A142_2, c142_2, e142, hx142_0, hx142_1, hx142_2, hl142_2, hi142_2⟩ := at_T29 HR0_1.out x3_2 p142 q142
                              obtain rfl : ad138 = ad142 := (by injection e142)
                              replace hx142_0 := (HB.out.cell (World.block_lt_of_cell? w _ hx142_0)).trans hx142_0
                              replace hx142_1 := (HB.out.cell (World.block_lt_of_cell? w _ hx142_1)).trans hx142_1
                              replace hx142_2 := (HB.out.cell (World.block_lt_of_cell? w _ hx142_2)).trans hx142_2
                              have HR142_2 := Aside0.mk hi142_2
                              have HC142_2 := Aside0.mk hl142_2
                              clear hi142_2 hl142_2
                              replace p142 := eq_true p142
                              replace q142 := eq_true q142
                              have ea_ := Option.some.inj (hx138_2.symm.trans hx142_2)
                              injection ea_ with ea_ en_ ec_
                              subst ea_
                              subst ec_
                              clear en_
                              go_wp2
                              repeat (go_quiet (fail); try go_wp2)
                              go_ret
                              exact ⟨by first | rfl | (simp [errW_none, errW_some] <;> rfl) | (simp only [← hji17]; first | rfl | (simp [errW_none, errW_some] <;> rfl)) | (simp [*, errW_none, errW_some] <;> rfl), by repeat (first | (with_reducible first | exact HB.out | apply below_alloc | apply pw_below_drewN | apply below_drew1 | refine below_set ?_ GE137.out) | exact HB.out)⟩
                            · rw [if_neg c22] at H
                              have c22b0 : decide (500 < (((rd_T29 l0_1 x3_2).f2).length : Int)) = false := decide_eq_false c22
                              have c22b1 : decide (500 < ((rd_T29 l0_1 x3_2).f2).length) = false := decide_eq_false (by omega)
                              clear c22
                              have H' := Aside0.mk H
                              clear H
                              have hcz24_0 : wr.cell? ⟨gb137, 0, none⟩ = some (.int .i64 a0_0) := (blk_cell BK137.out 0).trans rfl
                              have hcz24_1 : wr.cell? ⟨gb137, 1, none⟩ = some (.slice A0_1 l0_1.length c0_1) := (blk_cell BK137.out 1).trans rfl
                              have hfz24_0 := blk_frozen BK137.out 0
                              have hfz24_1 := blk_frozen BK137.out 1
                              have p138 : 0 ≤ (x3_2 : Int) := of_decide_eq_true (by first | (with_reducible assumption) | assumption)
                              have q138 : x3_2 < (l0_1.length : Int) := of_decide_eq_true (by first | (with_reducible assumption) | assumption)
                              obtain ⟨ad138, A138_2, c138_2, e138, hx138_0, hx138_1, hx138_2, hl138_2, hi138_2⟩ := at_T29 HR0_1.out x3_2 p138 q138
                              cases e138
                              replace hx138_0 := (HB.out.cell (World.block_lt_of_cell? w _ hx138_0)).trans hx138_0
                              replace hx138_1 := (HB.out.cell (World.block_lt_of_cell? w _ hx138_1)).trans hx138_1
                              replace hx138_2 := (HB.out.cell (World.block_lt_of_cell? w _ hx138_2)).trans hx138_2
                              have HR138_2 := Aside0.mk hi138_2
                              have HC138_2 := Aside0.mk hl138_2
                              clear hi138_2 hl138_2
                              replace p138 := eq_true p138
                              replace q138 := eq_true q138
                              have p139 : 0 ≤ (x3_2 : Int) := of_decide_eq_true (by first | (with_reducible assumption) | assumption)
                              have q139 : x3_2 < (l0_1.length : Int) := of_decide_eq_true (by first | (with_reducible assumption) | assumption)
                              obtain ⟨ad139, A139_2, c139_2, e139, hx139_0, hx139_1, hx139_2, hl139_2, hi139_2⟩ := at_T29 HR0_1.out x3_2 p139 q139
                              obtain rfl : ad138 = ad139 := (by injection e139)
                              replace hx139_0 := (HB.out.cell (World.block_lt_of_cell? w _ hx139_0)).trans hx139_0
                              replace hx139_1 := (HB.out.cell (World.block_lt_of_cell? w _ hx139_1)).trans hx139_1
                              replace hx139_2 := (HB.out.cell (World.block_lt_of_cell? w _ hx139_2)).trans hx139_2
                              have HR139_2 := Aside0.mk hi139_2
                              have HC139_2 := Aside0.mk hl139_2
                              clear hi139_2 hl139_2
                              replace p139 := eq_true p139
                              replace q139 := eq_true q139
                              have ea_ := Option.some.inj (hx138_2.symm.trans hx139_2)
                              injection ea_ with ea_ en_ ec_
                              subst ea_
                              subst ec_
                              clear en_
                              have p140 : 0 ≤ ((ji17) : Int) := of_decide_eq_true (by first | (with_reducible assumption) | assumption)
                              have q140 : (ji17) < (l0_1.length : Int) := of_decide_eq_true (by first | (with_reducible assumption) | assumption)
                              obtain ⟨ad140, A140_2, c140_2, e140, hx140_0, hx140_1, hx140_2, hl140_2, hi140_2⟩ := at_T29 HR0_1.out (ji17) p140 q140
                              obtain rfl : ad138 = ad140 := (by injection e140)
                              replace hx140_0 := (HB.out.cell (World.block_lt_of_cell? w _ hx140_0)).trans hx140_0
                              replace hx140_1 := (HB.out.cell (World.block_lt_of_cell? w _ hx140_1)).trans hx140_1
                              replace hx140_2 := (HB.out.cell (World.block_lt_of_cell? w _ hx140_2)).trans hx140_2
                              have HR140_2 := Aside0.mk hi140_2
                              have HC140_2 := Aside0.mk hl140_2
                              clear hi140_2 hl140_2
                              replace p140 := eq_true p140
                              replace q140 := eq_true q140
                              have p141 : 0 ≤ (x3_2 : Int) := of_decide_eq_true (by first | (with_reducible assumption) | assumption)
                              have q141 : x3_2 < (l0_1.length : Int) := of_decide_eq_true (by first | (with_reducible assumption) | assumption)
                              obtain ⟨ad141, A141_2, c141_2, e141, hx141_0, hx141_1, hx141_2, hl141_2, hi141_2⟩ := at_T29 HR0_1.out x3_2 p141 q141
                              obtain rfl : ad138 = ad141 := (by injection e141)
                              replace hx141_0 := (HB.out.cell (World.block_lt_of_cell? w _ hx141_0)).trans hx141_0
                              replace hx141_1 := (HB.out.cell (World.block_lt_of_cell? w _ hx141_1)).trans hx141_1
                              replace hx141_2 := (HB.out.cell (World.block_lt_of_cell? w _ hx141_2)).trans hx141_2
                              have HR141_2 := Aside0.mk hi141_2
                              have HC141_2 := Aside0.mk hl141_2
                              clear hi141_2 hl141_2
                              replace p141 := eq_true p141
                              replace q141 := eq_true q141
                              have ea_ := Option.some.inj (hx138_2.symm.trans hx141_2)
                              injection ea_ with ea_ en_ ec_
                              subst ea_
                              subst ec_
                              clear en_
                              have p142 : 0 ≤ (x3_2 : Int) := of_decide_eq_true (by first | (with_reducible assumption) | assumption)
                              have q142 : x3_2 < (l0_1.length : Int) := of_decide_eq_true (by first | (with_reducible assumption) | assumption)
                              obtain ⟨ad142, A142_2, c142_2, e142, hx142_0, hx142_1, hx142_2, hl142_2, hi142_2⟩ := at_T29 HR0_1.out x3_2 p142 q142
                              obtain rfl : ad138 = ad142 := (by injection e142)
                              replace hx142_0 := (HB.out.cell (World.block_lt_of_cell? w _ hx142_0)).trans hx142_0
                              replace hx142_1 := (HB.out.cell (World.block_lt_of_cell? w _ hx142_1)).trans hx142_1
                              replace hx142_2 := (HB.out.cell (World.block_lt_of_cell? w _ hx142_2)).trans hx142_2
                              have HR142_2 := Aside0.mk hi142_2
                              have HC142_2 := Aside0.mk hl142_2
                              clear hi142_2 hl142_2
                              replace p142 := eq_true p142
                              replace q142 := eq_true q142
                              have ea_ := Option.some.inj (hx138_2.symm.trans hx142_2)
                              injection ea_ with ea_ en_ ec_
                              subst ea_
                              subst ec_
                              clear en_
                              go_wp2
                              repeat (go_quiet (fail); try go_wp2)
                              go_roundg k2
                              case measure => have := HJ1.out; have := HK2.out; omega
                              case rel => exact ⟨(wrap64 (x3_2 + 1)), (by first | rfl | (simp; done) | (simp [*]; done)), H', ⟨by have := HJ1.out; have := HK2.out; omega⟩, ⟨by (with_reducible repeat (first | refine blk_drewN ?_ _ | refine blk_drew ?_ | refine blk_alloc ?_ _)); exact BK137.out⟩, ⟨by repeat (first | (with_reducible first | exact HB.out | apply below_alloc | apply pw_below_drewN | apply below_drew1 | refine below_set ?_ GE137.out) | exact HB.out)⟩⟩
                        · rw [if_neg c19] at H
                          exact absurd H (by simp)
                      · rw [if_neg c18] at H
                        exact absurd H (by simp)
                    · rw [if_neg c16] at H
                      have c16b0 : decide (0 < x3_2) = false := decide_eq_false c16
                      clear c16
                      by_cases c25 : (((rd_T29 l0_1 x3_2).f2).length : Int) > 500
                      · rw [if_pos c25] at H
                        have c25b0 : decide (500 < (((rd_T29 l0_1 x3_2).f2).length : Int)) = true := decide_eq_true c25
                        have c25b1 : decide (500 < ((rd_T29 l0_1 x3_2).f2).length) = true := decide_eq_true (by omega)
                        clear c25
                        obtain rfl := Option.some.inj H
                        have hcz26_0 : wr.cell? ⟨gb137, 0, none⟩ = some (.int .i64 a0_0) := (blk_cell BK137.out 0).trans rfl
                        have hcz26_1 : wr.cell? ⟨gb137, 1, none⟩ = some (.slice A0_1 l0_1.length c0_1) := (blk_cell BK137.out 1).trans rfl
                        have hfz26_0 := blk_frozen BK137.out 0
                        have hfz26_1 := blk_frozen BK137.out 1
                        have p138 : 0 ≤ (x3_2 : Int) := of_decide_eq_true (by first | (with_reducible assumption) | assumption)
                        have q138 : x3_2 < (l0_1.length : Int) := of_decide_eq_true (by first | (with_reducible assumption) | assumption)
                        obtain ⟨ad138, A138_2, c138_2, e138, hx138_0, hx138_1, hx138_2, hl138_2, hi138_2⟩ := at_T29 HR0_1.out x3_2 p138 q138
                        cases e138
                        replace hx138_0 := (HB.out.cell (World.block_lt_of_cell? w _ hx138_0)).trans hx138_0
                        replace hx138_1 := (HB.out.cell (World.block_lt_of_cell? w _ hx138_1)).trans hx138_1
                        replace hx138_2 := (HB.out.cell (World.block_lt_of_cell? w _ hx138_2)).trans hx138_2
                        have HR138_2 := Aside0.mk hi138_2
                        have HC138_2 := Aside0.mk hl138_2
                        clear hi138_2 hl138_2
                        replace p138 := eq_true p138
                        replace q138 := eq_true q138
                        have p139 : 0 ≤ (x3_2 : Int) := of_decide_eq_true (by first | (with_reducible assumption) | assumption)
                        have q139 : x3_2 < (l0_1.length : Int) := of_decide_eq_true (by first | (with_reducible assumption) | assumption)
                        obtain ⟨ad139, A139_2, c139_2, e139, hx139_0, hx139_1, hx139_2, hl139_2, hi139_2⟩ := at_T29 HR0_1.out x3_2 p139 q139
                        obtain rfl : ad138 = ad139 := (by injection e139)
                        replace hx139_0 := (HB.out.cell (World.block_lt_of_cell? w _ hx139_0)).trans hx139_0
                        replace hx139_1 := (HB.out.cell (World.block_lt_of_cell? w _ hx139_1)).trans hx139_1
                        replace hx139_2 := (HB.out.cell (World.block_lt_of_cell? w _ hx139_2)).trans hx139_2
                        have HR139_2 := Aside0.mk hi139_2
                        have HC139_2 := Aside0.mk hl139_2
                        clear hi139_2 hl139_2
                        replace p139 := eq_true p139
                        replace q139 := eq_true q139
                        have ea_ := Option.some.inj (hx138_2.symm.trans hx139_2)
                        injection ea_ with ea_ en_ ec_
                        subst ea_
                        subst ec_
                        clear en_
                        have p143 : 0 ≤ (x3_2 : Int) := of_decide_eq_true (by first | (with_reducible assumption) | assumption)
                        have q143 : x3_2 < (l0_1.length : Int) := of_decide_eq_true (by first | (with_reducible assumption) | assumption)
                        obtain ⟨ad143, A143_2, c143_2, e143, hx143_0, hx143_1, hx143_2, hl143_2, hi143_2⟩ := at_T29 HR0_1.out x3_2 p143 q143
                        obtain rfl : ad138 = ad143 := (by injection e143)
                        replace hx143_0 := (HB.out.cell (World.block_lt_of_cell? w _ hx143_0)).trans hx143_0
                        replace hx143_1 := (HB.out.cell (World.block_lt_of_cell? w _ hx143_1)).trans hx143_1
                        replace hx143_2 := (HB.out.cell (World.block_lt_of_cell? w _ hx143_2)).trans hx143_2
                        have HR143_2 := Aside0.mk hi143_2
                        have HC143_2 := Aside0.mk hl143_2
                        clear hi143_2 hl143_2
                        replace p143 := eq_true p143
                        replace q143 := eq_true q143
                        have ea_ := Option.some.inj (hx138_2.symm.trans hx143_2)
                        injection ea_ with ea_ en_ ec_
                        subst ea_
                        subst ec_
                        clear en_
                        go_wp2
                        repeat (go_quiet (fail); try go_wp2)
                        go_ret
                        exact ⟨by first | rfl | (simp [errW_none, errW_some] <;> rfl) | (simp [*, errW_none, errW_some] <;> rfl), by repeat (first | (with_reducible first | exact HB.out | apply below_alloc | apply pw_below_drewN | apply below_drew1 | refine below_set ?_ GE137.out) | exact HB.out)⟩
                      · rw [if_neg c25] at H
                        have c25b0 : decide (500 < (((rd_T29 l0_1 x3_2).f2).length : Int)) = false := decide_eq_false c25
                        have c25b1 : decide (500 < ((rd_T29 l0_1 x3_2).f2).length) = false := decide_eq_false (by omega)
                        clear c25
                        have H' := Aside0.mk H
                        clear H
                        have hcz27_0 : wr.cell? ⟨gb137, 0, none⟩ = some (.int .i64 a0_0) := (blk_cell BK137.out 0).trans rfl
                        have hcz27_1 : wr.cell? ⟨gb137, 1, none⟩ = some (.slice A0_1 l0_1.length c0_1) := (blk_cell BK137.out 1).trans rfl
                        have hfz27_0 := blk_frozen BK137.out 0
                        have hfz27_1 := blk_frozen BK137.out 1
                        have p138 : 0 ≤ (x3_2 : Int) := of_decide_eq_true (by first | (with_reducible assumption) | assumption)
                        have q138 : x3_2 < (l0_1.length : Int) := of_decide_eq_true (by first | (with_reducible assumption) | assumption)
                        obtain ⟨ad138, A138_2, c138_2, e138, hx138_0, hx138_1, hx138_2, hl138_2, hi138_2⟩ := at_T29 HR0_1.out x3_2 p138 q138
                        cases e138
                        replace hx138_0 := (HB.out.cell (World.block_lt_of_cell? w _ hx138_0)).trans hx138_0
                        replace hx138_1 := (HB.out.cell (World.block_lt_of_cell? w _ hx138_1)).trans hx138_1
                        replace hx138_2 := (HB.out.cell (World.block_lt_of_cell? w _ hx138_2)).trans hx138_2
                        have HR138_2 := Aside0.mk hi138_2
                        have HC138_2 := Aside0.mk hl138_2
                        clear hi138_2 hl138_2
                        replace p138 := eq_true p138
                        replace q138 := eq_true q138
                        have p139 : 0 ≤ (x3_2 : Int) := of_decide_eq_true (by first | (with_reducible assumption) | assumption)
                        have q139 : x3_2 < (l0_1.length : Int) := of_decide_eq_true (by first | (with_reducible assumption) | assumption)
                        obtain ⟨ad139, A139_2, c139_2, e139, hx139_0, hx139_1, hx139_2, hl139_2, hi139_2⟩ := at_T29 HR0_1.out x3_2 p139 q139
                        obtain rfl : ad138 = ad139 := (by injection e139)
                        replace hx139_0 := (HB.out.cell (World.block_lt_of_cell? w _ hx139_0)).trans hx139_0
                        replace hx139_1 := (HB.out.cell (World.block_lt_of_cell? w _ hx139_1)).trans hx139_1
                        replace hx139_2 := (HB.out.cell (World.block_lt_of_cell? w _ hx139_2)).trans hx139_2
                        have HR139_2 := Aside0.mk hi139_2
                        have HC139_2 := Aside0.mk hl139_2
                        clear hi139_2 hl139_2
                        replace p139 := eq_true p139
                        replace q139 := eq_true q139
                        have ea_ := Option.some.inj (hx138_2.symm.trans hx139_2)
                        injection ea_ with ea_ en_ ec_
                        subst ea_
                        subst ec_
                        clear en_
                        have p143 : 0 ≤ (x3_2 : Int) := of_decide_eq_true (by first | (with_reducible assumption) | assumption)
                        have q143 : x3_2 < (l0_1.length : Int) := of_decide_eq_true (by first | (with_reducible assumption) | assumption)
                        obtain ⟨ad143, A143_2, c143_2, e143, hx143_0, hx143_1, hx143_2, hl143_2, hi143_2⟩ := at_T29 HR0_1.out x3_2 p143 q143
                        obtain rfl : ad138 = ad143 := (by injection e143)
                        replace hx143_0 := (HB.out.cell (World.block_lt_of_cell? w _ hx143_0)).trans hx143_0
                        replace hx143_1 := (HB.out.cell (World.block_lt_of_cell? w _ hx143_1)).trans hx143_1
                        replace hx143_2 := (HB.out.cell (World.block_lt_of_cell? w _ hx143_2)).trans hx143_2
                        have HR143_2 := Aside0.mk hi143_2
                        have HC143_2 := Aside0.mk hl143_2
                        clear hi143_2 hl143_2
                        replace p143 := eq_true p143
                        replace q143 := eq_true q143
                        have ea_ := Option.some.inj (hx138_2.symm.trans hx143_2)
                        injection ea_ with ea_ en_ ec_
                        subst ea_
                        subst ec_
                        clear en_
                        go_wp2
                        repeat (go_quiet (fail); try go_wp2)
                        go_roundg k2
                        case measure => have := HJ1.out; have := HK2.out; omega
                        case rel => exact ⟨(wrap64 (x3_2 + 1)), (by first | rfl | (simp; done) | (simp [*]; done)), H', ⟨by have := HJ1.out; have := HK2.out; omega⟩, ⟨by (with_reducible repeat (first | refine blk_drewN ?_ _ | refine blk_drew ?_ | refine blk_alloc ?_ _)); exact BK137.out⟩, ⟨by repeat (first | (with_reducible first | exact HB.out | apply below_alloc | apply pw_below_drewN | apply below_drew1 | refine below_set ?_ GE137.out) | exact HB.out)⟩⟩
              · rw [if_neg c11] at H
                exact absurd H (by simp)
            · rw [if_neg c10] at H
              have c10b0 : decide (x3_2 < (l0_1.length : Int)) = false := decide_eq_false c10
              clear c10
              obtain rfl := Option.some.inj H
              have hcz28_0 : wr.cell? ⟨gb137, 0, none⟩ = some (.int .i64 a0_0) := (blk_cell BK137.out 0).trans rfl
              have hcz28_1 : wr.cell? ⟨gb137, 1, none⟩ = some (.slice A0_1 l0_1.length c0_1) := (blk_cell BK137.out 1).trans rfl
              have hfz28_0 := blk_frozen BK137.out 0
              have hfz28_1 := blk_frozen BK137.out 1
              go_wp2
              repeat (go_quiet (fail); try go_wp2)
              go_ret
              exact ⟨by first | rfl | (simp [errW_none, errW_some] <;> rfl) | (simp [*, errW_none, errW_some] <;> rfl), by repeat (first | (with_reducible first | exact HB.out | apply below_alloc | apply pw_below_drewN | apply below_drew1 | refine below_set ?_ GE137.out) | exact HB.out)⟩

/-! ### lockgateref03_Same: function 13 -/
def lockgateref03_Same.l0 : Nat → List Int → List Int → Int → Option (Bool)
  | 0, _, _, _ => none
  | k + 1, x0, x1, x5 => if x5 < (x0.length : Int) then (if 0 ≤ x5 then (if x5 < (x1.length : Int) then (if (rd x0 x5) = (rd x1 x5) then (lockgateref03_Same.l0 k x0 x1 (wrap64 (x5 + 1))) else (some false)) else (none)) else (none)) else (some true)
def lockgateref03_Same.f (k : Nat) (l0 : List Int) (l1 : List Int) : Option (Bool) := if (l0.length : Int) = (l1.length : Int) then (lockgateref03_Same.l0 k l0 l1 0) else (some false)
theorem lockgateref03_Same.mono_l : ∀ k, (∀ y0 y1 y2, LeO (lockgateref03_Same.l0 k y0 y1 y2) (lockgateref03_Same.l0 (k + 1) y0 y1 y2))
  | 0 => fun _ _ _ r h => by simp [lockgateref03_Same.l0] at h
  | k + 1 => by
    have ih0 := lockgateref03_Same.mono_l k
    · intro y0 y1 y2
      unfold lockgateref03_Same.l0
      repeat' first
      | (with_reducible exact ih0 _ _ _)
      | (with_reducible exact LeO.refl _)
      | (with_reducible exact LeO.none _)
      | (with_reducible refine LeO.ite ?_ ?_)
      | (with_reducible refine LeO.bind ?_ (fun _ => ?_))
      | exact ih0 _ _ _
      | exact LeO.none _
      | refine LeO.ite ?_ ?_
      | refine LeO.bind ?_ (fun _ => ?_)
theorem lockgateref03_Same.mono : ∀ a0 a1 k, LeO (lockgateref03_Same.f k a0 a1) (lockgateref03_Same.f (k + 1) a0 a1) := by
  intro a0 a1 k
  have ih0 := lockgateref03_Same.mono_l k
  unfold lockgateref03_Same.f
  repeat' first
      | (with_reducible exact ih0 _ _ _)
      | (with_reducible exact LeO.refl _)
      | (with_reducible exact LeO.none _)
      | (with_reducible refine LeO.ite ?_ ?_)
      | (with_reducible refine LeO.bind ?_ (fun _ => ?_))
      | exact ih0 _ _ _
      | exact LeO.none _
      | refine LeO.ite ?_ ?_
      | refine LeO.bind ?_ (fun _ => ?_)
set_option maxHeartbeats 8000000 in
set_option maxRecDepth 100000 in
theorem lockgateref03_Same.calls (k : Nat) (A0 : Option Addr) (c0 : Nat) (l0 : List Int) (A1 : Option Addr) (c1 : Nat) (l1 : List Int) (r : Bool) (w : World) (hr0 : Kd.C (Kd.int .u8) w A0 l0.length l0) (hc0 : l0.length ≤ c0) (hr1 : Kd.C (Kd.int .u8) w A1 l1.length l1) (hc1 : l1.length ≤ c1) (h : lockgateref03_Same.f k l0 l1 = some r) :
    Calls Try.prog 13 #[.slice A0 l0.length c0, .slice A1 l1.length c1] w fun e w' => e = .returned (.bool r) ∧ Drawn0 w w' := by
  have HR0 := Aside0.mk hr0
  have HC0 := Aside0.mk hc0
  clear hr0 hc0
  have HR1 := Aside0.mk hr1
  have HC1 := Aside0.mk hc1
  clear hr1 hc1
  have H : (if (l0.length : Int) = (l1.length : Int) then (lockgateref03_Same.l0 k l0 l1 0) else (some false)) = some r := h
  clear h
  by_cases c3 : (l0.length : Int) = (l1.length : Int)
  · rw [if_pos c3] at H
    have c3b0 : ((l0.length : Int) == (l1.length : Int)) = true := beq_iff_eq.mpr c3
    have c3b1 : ((l0.length : Int) != (l1.length : Int)) = false := bne_eq_false_iff_eq.mpr c3
    have c3b2 : (l0.length == l1.length) = true := by first | simpa using c3 | (simp at c3 ⊢; omega)
    clear c3
    have H' := Aside0.mk H
    clear H
    go_enter Try.func13, Try.ntmps13
    go_wp2
    repeat (go_quiet (fail); try go_wp2)
    go_loopg [5] k (fun kq v5 w' => ∃ (x5_1 : Int), v5 = .int .i64 x5_1 ∧ Aside0 (lockgateref03_Same.l0 kq l0 l1 x5_1 = some r) ∧ Aside0 (kq ≤ k) ∧ Drawn0 w w')
    case atStart => exact ⟨(0), (by first | rfl | (simp; done) | (simp [*]; done)), H', ⟨Nat.le_refl _⟩, by repeat (first | exact Drawn0.refl _ | apply Drawn0.step)⟩
    case round =>
      clear H'
      try clear c1
      try clear p2
      try clear c3
      try clear c3b0
      try clear c3b1
      try clear c3b2
      obtain ⟨x5_1, rfl, HA, HK1, ⟨m1, rfl⟩⟩ := hrel
      cases gk with
      | zero => exact absurd HA.out (by simp [lockgateref03_Same.l0])
      | succ k1 =>
        have H := HA.out
        clear HA
        simp only [lockgateref03_Same.l0] at H
        by_cases c4 : x5_1 < (l0.length : Int)
        · rw [if_pos c4] at H
          have c4b0 : decide (x5_1 < (l0.length : Int)) = true := decide_eq_true c4
          clear c4
          by_cases c5 : 0 ≤ x5_1
          · rw [if_pos c5] at H
            have c5b0 : decide (0 ≤ x5_1) = true := decide_eq_true c5
            clear c5
            by_cases c6 : x5_1 < (l1.length : Int)
            · rw [if_pos c6] at H
              have c6b0 : decide (x5_1 < (l1.length : Int)) = true := decide_eq_true c6
              clear c6
              by_cases c7 : (rd l0 x5_1) = (rd l1 x5_1)
              · rw [if_pos c7] at H
                have c7b0 : ((rd l0 x5_1) == (rd l1 x5_1)) = true := beq_iff_eq.mpr c7
                have c7b1 : ((rd l0 x5_1) != (rd l1 x5_1)) = false := bne_eq_false_iff_eq.mpr c7
                clear c7
                have H' := Aside0.mk H
                clear H
                have p144 : 0 ≤ (x5_1 : Int) := of_decide_eq_true (by first | (with_reducible assumption) | assumption)
                have q144 : x5_1 < (l0.length : Int) := of_decide_eq_true (by first | (with_reducible assumption) | assumption)
                obtain ⟨ad144, e144, hx144_0⟩ := Kd.at_int HR0.out x5_1 p144 q144
                cases e144
                replace p144 := eq_true p144
                replace q144 := eq_true q144
                have p145 : 0 ≤ (x5_1 : Int) := of_decide_eq_true (by first | (with_reducible assumption) | assumption)
                have q145 : x5_1 < (l1.length : Int) := of_decide_eq_true (by first | (with_reducible assumption) | assumption)
                obtain ⟨ad145, e145, hx145_0⟩ := Kd.at_int HR1.out x5_1 p145 q145
                cases e145
                replace p145 := eq_true p145
                replace q145 := eq_true q145
                go_wp2
                repeat (go_quiet (fail); try go_wp2)
                go_roundg k1
                case measure => have := HK1.out; omega
                case rel => exact ⟨(wrap64 (x5_1 + 1)), (by first | rfl | (simp; done) | (simp [*]; done)), H', ⟨by have := HK1.out; omega⟩, by repeat (first | exact Drawn0.refl _ | apply Drawn0.step)⟩
              · rw [if_neg c7] at H
                have c7b0 : ((rd l0 x5_1) == (rd l1 x5_1)) = false := beq_eq_false_iff_ne.mpr c7
                have c7b1 : ((rd l0 x5_1) != (rd l1 x5_1)) = true := bne_iff_ne.mpr c7
                obtain rfl := Option.some.inj H
                have p144 : 0 ≤ (x5_1 : Int) := of_decide_eq_true (by first | (with_reducible assumption) | assumption)
                have q144 : x5_1 < (l0.length : Int) := of_decide_eq_true (by first | (with_reducible assumption) | assumption)
                obtain ⟨ad144, e144, hx144_0⟩ := Kd.at_int HR0.out x5_1 p144 q144
                cases e144
                replace p144 := eq_true p144
                replace q144 := eq_true q144
                have p145 : 0 ≤ (x5_1 : Int) := of_decide_eq_true (by first | (with_reducible assumption) | assumption)
                have q145 : x5_1 < (l1.length : Int) := of_decide_eq_true (by first | (with_reducible assumption) | assumption)
                obtain ⟨ad145, e145, hx145_0⟩ := Kd.at_int HR1.out x5_1 p145 q145
                cases e145
                replace p145 := eq_true p145
                replace q145 := eq_true q145
                go_wp2
                repeat (go_quiet (fail); try go_wp2)
                go_ret
                exact ⟨by first | rfl | (simp; done) | (simp [*]; done), by repeat (first | exact Drawn0.refl _ | apply Drawn0.step)⟩
            · rw [if_neg c6] at H
              exact absurd H (by simp)
          · rw [if_neg c5] at H
            exact absurd H (by simp)
        · rw [if_neg c4] at H
          have c4b0 : decide (x5_1 < (l0.length : Int)) = false := decide_eq_false c4
          clear c4
          obtain rfl := Option.some.inj H
          go_wp2
          repeat (go_quiet (fail); try go_wp2)
          go_ret
          exact ⟨by first | rfl | (simp; done) | (simp [*]; done), by repeat (first | exact Drawn0.refl _ | apply Drawn0.step)⟩
  · rw [if_neg c3] at H
    have c3b0 : ((l0.length : Int) == (l1.length : Int)) = false := beq_eq_false_iff_ne.mpr c3
    have c3b1 : ((l0.length : Int) != (l1.length : Int)) = true := bne_iff_ne.mpr c3
    have c3b2 : (l0.length == l1.length) = false := by first | simpa using c3 | (simp at c3 ⊢; omega)
    obtain rfl := Option.some.inj H
    go_enter Try.func13, Try.ntmps13
    go_wp2
    repeat (go_quiet (fail); try go_wp2)
    go_ret
    exact ⟨by first | rfl | (simp; done) | (simp [*]; done), by repeat (first | exact Drawn0.refl _ | apply Drawn0.step)⟩

end Go.Proofs.Ytaphejpphlcchaa.PNet
