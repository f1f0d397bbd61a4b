-- Written for this claim by the session's own driver of the kit's printer (mprint.py).
import Derived.Test.YtaphejpphlcchaaPNetx0
import Derived.Test.YtaphejpphlcchaaPNetx1
import Derived.Test.YtaphejpphlcchaaPNetx5
namespace Go.Proofs.Ytaphejpphlcchaa.PNet
open Go.RowKit Go.Proofs.YtaphejpphlcchaaW.PrintWords Go.Proofs.YtaphejpphlcchaaW.PrintLast Go.Proofs.YtaphejpphlcchaaW.PrintMore
attribute [local go_sem] max2_int min2_int max_two min_two max_three min_three max_four min_four   -- for this text's walks alone
set_option linter.unusedVariables false
set_option linter.unusedSimpArgs false

/-! ### lockgateref11_Copy: function 18 -/
def lockgateref11_Copy.f (k : Nat) (a0_0 : Int) (l0_1 : List (S29)) (a1 : Int) : Option (Int × (List (S29))) := if (l0_1.length : Int) = 0 then (some (a0_0, l0_1)) else (if 0 ≤ (Int.tmod a1 (l0_1.length : Int)) then (if (Int.tmod a1 (l0_1.length : Int)) < (l0_1.length : Int) then ((lockgateref11_Send.f k a0_0 l0_1 ((rd_T29 l0_1 (Int.tmod a1 (l0_1.length : Int))).f1) ((rd_T29 l0_1 (Int.tmod a1 (l0_1.length : Int))).f2)).bind fun bt257 => (some (bt257.1, bt257.2))) else (none)) else (none))
theorem lockgateref11_Copy.mono : ∀ a0 a1 a2 k, LeO (lockgateref11_Copy.f k a0 a1 a2) (lockgateref11_Copy.f (k + 1) a0 a1 a2) := by
  intro a0 a1 a2 k
  unfold lockgateref11_Copy.f
  repeat' first
      | (with_reducible exact lockgateref11_Send.mono _ _ _ _ _)
      | (with_reducible exact LeO.refl _)
      | (with_reducible exact LeO.none _)
      | (with_reducible refine LeO.ite ?_ ?_)
      | (with_reducible refine LeO.bind ?_ (fun _ => ?_))
      | exact lockgateref11_Send.mono _ _ _ _ _
      | exact LeO.none _
      | refine LeO.ite ?_ ?_
      | refine LeO.bind ?_ (fun _ => ?_)
def lockgateref11_Copy.T3 : Bool × List (List Nat × List Nat) := (true, [([], []), ([0], [0]), ([], []), ([], []), ([3], [3]), ([4], [4]), ([2, 5], [2, 5]), ([1, 6], [1, 6]), ([7], [7]), ([], []), ([9, 8, 0, 1, 2, 3, 4, 5, 6, 7, 8, 9], [8, 9])])
def lockgateref11_Copy.B3 : List Nat := [0, 1, 0, 0, 8, 24, 60, 127, 255, 0, 1023]
theorem lockgateref11_Copy.tab3 : rtab .any (opsOf Try.f18 3) = lockgateref11_Copy.T3 := by kernel_rfl
theorem lockgateref11_Copy.bits3 : waitsOk lockgateref11_Copy.T3.2 lockgateref11_Copy.B3 = true := by kernel_rfl
set_option maxHeartbeats 8000000 in
set_option maxRecDepth 100000 in
theorem lockgateref11_Copy.calls (k : Nat) (a0_0 : Int) (P0_1_ : Nat → Prop) (A0_1 : Option Addr) (c0_1 : Nat) (l0_1 : List (S29)) (a1 : Int) (r1 : Int) (r2 : List (S29)) (w : World) (hs0_1 : Kd.V k29 29 w w.heap.size (fun k_ => P0_1_ k_) (.slice A0_1 l0_1.length c0_1) l0_1) (h : lockgateref11_Copy.f k a0_0 l0_1 a1 = some (r1, r2)) :
    Calls Try.prog 18 #[.agg #[.int .i64 a0_0, .slice A0_1 l0_1.length c0_1], .int .i64 a1] w fun e w' => ∃ v1_ : Value, e = .returned (.agg #[.int .i64 r1, v1_]) ∧ Kd.V k29 29 w' w.heap.size (fun k_ => (P0_1_ k_ ∨ w.heap.size ≤ k_)) v1_ r2 ∧ Below w.heap.size w w' := by
  have hu24 := Try.underlying24
  have hu29 := Try.underlying29
  have HO0_1 := Aside0.mk (show Kd.V k29 29 w w.heap.size (fun k_ => (P0_1_ k_ ∨ w.heap.size ≤ k_)) (.slice A0_1 l0_1.length c0_1) l0_1 from Kd.V_mono hs0_1 (fun k_ hk => .inl hk))
  have HB := Aside0.mk (Below.refl w.heap.size w)
  have H : (if (l0_1.length : Int) = 0 then (some (a0_0, l0_1)) else (if 0 ≤ (Int.tmod a1 (l0_1.length : Int)) then (if (Int.tmod a1 (l0_1.length : Int)) < (l0_1.length : Int) then ((lockgateref11_Send.f k a0_0 l0_1 ((rd_T29 l0_1 (Int.tmod a1 (l0_1.length : Int))).f1) ((rd_T29 l0_1 (Int.tmod a1 (l0_1.length : Int))).f2)).bind fun bt257 => (some (bt257.1, bt257.2))) else (none)) else (none))) = some (r1, r2) := h
  clear h
  by_cases c3 : (l0_1.length : Int) = 0
  · rw [if_pos c3] at H
    have c3b0 : ((l0_1.length : Int) == 0) = true := beq_iff_eq.mpr c3
    have c3b1 : ((l0_1.length : Int) != 0) = false := bne_eq_false_iff_eq.mpr c3
    clear c3
    simp only [Option.some.injEq, Prod.mk.injEq] at H
    obtain ⟨rfl, rfl⟩ := H
    go_enter Try.func18, Try.ntmps18
    go_wp2_with (first | ((with_reducible refine gate_dst (N := 2) rfl ?_); refine box_event ?hg (N := 2) ?hd (cs := #[.int .i64 a0_0, .slice A0_1 l0_1.length c0_1]) (t := 24) ?hr ?_; (case hd => rfl); (case hg => rfl); (case hr => first | (go_simp; done) | (go_simp; rfl)); intro gb253 hg w4 hbox hb; have n0_ := Aside0.mk (Kd.V_below (Kd.V_elderB (by (with_reducible repeat (first | apply Kd.V_alloc | apply Kd.V_drewN | apply Kd.V_drew)); exact HO0_1.out) gb253 (Nat.le_of_eq hg.symm)) hb); have n1_ := Aside0.mk (below_step (by repeat (first | (with_reducible first | exact HB.out | apply below_alloc | apply pw_below_drewN | apply below_drew1) | exact HB.out)) hb); have n2_ := Aside0.mk (hbox); have n3_ := Aside0.mk ((by rw [hg]; exact (below_size (by repeat (first | (with_reducible first | exact HB.out | apply below_alloc | apply pw_below_drewN | apply below_drew1) | exact HB.out))) : w.heap.size ≤ gb253)); have n4_ := Aside0.mk ((by rw [hg]; exact (below_size (by repeat (first | (with_reducible first | exact HB.out | apply below_alloc | apply pw_below_drewN | apply below_drew1) | exact HB.out))) : w.heap.size ≤ gb253)); clear HO0_1; clear HB; have HO0_1 := n0_; have HB := n1_; have BK253 := n2_; have GW253 := n3_; have GE253 := n4_; clear n0_ n1_ n2_ n3_ n4_; clear hb hbox hg) | ((with_reducible refine gate_dst (N := 4) rfl ?_); refine box_event ?hg (N := 4) ?hd (cs := #[.int .i64 0, .slice none 0 0]) (t := 24) ?hr ?_; (case hd => rfl); (case hg => rfl); (case hr => first | (go_simp; done) | (go_simp; rfl)); intro gb254 hg w5 hbox hb; have n0_ := Aside0.mk (Kd.V_below (Kd.V_elderB (by (with_reducible repeat (first | apply Kd.V_alloc | apply Kd.V_drewN | apply Kd.V_drew)); exact HO0_1.out) gb254 (Nat.le_of_eq hg.symm)) hb); have n1_ := Aside0.mk (blk_below (g := gb253) (o := .cells #[.int .i64 a0_0, .slice A0_1 l0_1.length c0_1] 24 (0, 0)) (by (with_reducible repeat (first | refine blk_drewN ?_ _ | refine blk_drew ?_ | refine blk_alloc ?_ _)); exact BK253.out) hb); have n2_ := Aside0.mk (below_step (by repeat (first | (with_reducible first | exact HB.out | apply below_alloc | apply pw_below_drewN | apply below_drew1 | refine below_set ?_ GE253.out) | exact HB.out)) hb); have n3_ := Aside0.mk (hbox); have n4_ := Aside0.mk ((by rw [hg]; exact (below_size (by repeat (first | (with_reducible first | exact HB.out | apply below_alloc | apply pw_below_drewN | apply below_drew1 | refine below_set ?_ GE253.out) | exact HB.out))) : w.heap.size ≤ gb254)); have n5_ := Aside0.mk ((by rw [hg]; exact (below_size (by repeat (first | (with_reducible first | exact HB.out | apply below_alloc | apply pw_below_drewN | apply below_drew1 | refine below_set ?_ GE253.out) | exact HB.out))) : w.heap.size ≤ gb254)); have n6_ := Aside0.mk ((by rw [hg]; exact Nat.ne_of_lt (blk_lt (g := gb253) (o := .cells #[.int .i64 a0_0, .slice A0_1 l0_1.length c0_1] 24 (0, 0)) (by (with_reducible repeat (first | refine blk_drewN ?_ _ | refine blk_drew ?_ | refine blk_alloc ?_ _)); exact BK253.out)) : gb253 ≠ gb254)); have n7_ := Aside0.mk ((by rw [hg]; exact Nat.ne_of_gt (blk_lt (g := gb253) (o := .cells #[.int .i64 a0_0, .slice A0_1 l0_1.length c0_1] 24 (0, 0)) (by (with_reducible repeat (first | refine blk_drewN ?_ _ | refine blk_drew ?_ | refine blk_alloc ?_ _)); exact BK253.out)) : gb254 ≠ gb253)); clear HO0_1; clear BK253; clear HB; have HO0_1 := n0_; have BK253 := n1_; have HB := n2_; have BK254 := n3_; have GW254 := n4_; have GE254 := n5_; have NB253_254 := n6_; have NB254_253 := n7_; clear n0_ n1_ n2_ n3_ n4_ n5_ n6_ n7_; clear hb hbox hg; have hnb6 := NB253_254.out; have hnc6 := NB254_253.out; have hcz7_0 : w5.cell? ⟨gb253, 0, none⟩ = some (.int .i64 a0_0) := (blk_cell BK253.out 0).trans rfl; have hcz7_1 : w5.cell? ⟨gb253, 1, none⟩ = some (.slice A0_1 l0_1.length c0_1) := (blk_cell BK253.out 1).trans rfl; have hfz7_0 := blk_frozen BK253.out 0; have hfz7_1 := blk_frozen BK253.out 1; have hcz8_0 : w5.cell? ⟨gb254, 0, none⟩ = some (.int .i64 0) := (blk_cell BK254.out 0).trans rfl; have hcz8_1 : w5.cell? ⟨gb254, 1, none⟩ = some (.slice none 0 0) := (blk_cell BK254.out 1).trans rfl; have hfz8_0 := blk_frozen BK254.out 0; have hfz8_1 := blk_frozen BK254.out 1))
    refine bodyPost_ret (results_cell_row rfl _ _ gb254 24 #[.int .i64 a0_0, .slice A0_1 l0_1.length c0_1] (0, 0) _ rfl (by (with_reducible repeat (first | refine blk_drewN ?_ _ | refine blk_drew ?_ | refine blk_alloc ?_ _)); refine blk_put (cs := #[.int .i64 a0_0, .slice none 0 0]) ?_ 1 _ rfl; (with_reducible repeat (first | refine blk_drewN ?_ _ | refine blk_drew ?_ | refine blk_alloc ?_ _)); refine blk_put (cs := #[.int .i64 0, .slice none 0 0]) ?_ 0 _ rfl; (with_reducible repeat (first | refine blk_drewN ?_ _ | refine blk_drew ?_ | refine blk_alloc ?_ _)); exact BK254.out) Try.underlying24 rfl (by kernel_rfl)) rfl ?_
    exact ⟨_, by first | rfl | (simp [errW_none, errW_some] <;> rfl) | (simp [*, errW_none, errW_some] <;> rfl), by (with_reducible repeat (first | apply Kd.V_alloc | apply Kd.V_drewN | apply Kd.V_drew)); exact Kd.V_mono (Kd.V_far (p := ⟨gb254, 1, none⟩) (Kd.V_far (p := ⟨gb254, 0, none⟩) (Kd.V_mono HO0_1.out (fun k_ hk => (⟨hk, hk.2⟩ : _ ∧ k_ ≠ gb254))) (fun _ hk => hk.2) (.int .i64 a0_0)) (fun _ hk => hk.2) (.slice A0_1 l0_1.length c0_1)) (fun _ hk => hk.1.1.1), by repeat (first | (with_reducible first | exact HB.out | apply below_alloc | apply pw_below_drewN | apply below_drew1 | refine below_set ?_ GE253.out | refine below_set ?_ GE254.out) | exact HB.out)⟩
  · rw [if_neg c3] at H
    have c3b0 : ((l0_1.length : Int) == 0) = false := beq_eq_false_iff_ne.mpr c3
    have c3b1 : ((l0_1.length : Int) != 0) = true := bne_iff_ne.mpr c3
    have c3b2 : ¬ (l0_1 = []) := fun h_ => c3 (by rw [h_]; rfl)
    obtain ⟨ji9, hji9⟩ : ∃ j_ : Int, (Int.tmod a1 (l0_1.length : Int)) = j_ := ⟨_, rfl⟩
    replace H : (if 0 ≤ (ji9) then (if (ji9) < (l0_1.length : Int) then ((lockgateref11_Send.f k a0_0 l0_1 ((rd_T29 l0_1 (ji9)).f1) ((rd_T29 l0_1 (ji9)).f2)).bind fun bt257 => (some (bt257.1, bt257.2))) else (none)) else (none)) = some (r1, r2) := by first | (rw [hji9] at H; exact H) | (simp only [hji9] at H ⊢; exact H)
    by_cases c10 : 0 ≤ (ji9)
    · rw [if_pos c10] at H
      have c10b0 : decide (0 ≤ (ji9)) = true := decide_eq_true c10
      clear c10
      by_cases c11 : (ji9) < (l0_1.length : Int)
      · rw [if_pos c11] at H
        have c11b0 : decide ((ji9) < (l0_1.length : Int)) = true := decide_eq_true c11
        clear c11
        replace H := Option.bind_eq_some_iff.mp H
        obtain ⟨⟨t257, t258⟩, A120, H⟩ := H
        replace H : (some (t257, t258)) = some (r1, r2) := H
        have A12 := Aside0.mk A120
        clear A120
        simp only [Option.some.injEq, Prod.mk.injEq] at H
        obtain ⟨rfl, rfl⟩ := H
        go_enter Try.func18, Try.ntmps18
        try go_wp2_with (first | ((with_reducible refine gate_dst (N := 2) rfl ?_); refine box_event ?hg (N := 2) ?hd (cs := #[.int .i64 a0_0, .slice A0_1 l0_1.length c0_1]) (t := 24) ?hr ?_; (case hd => rfl); (case hg => rfl); (case hr => first | (go_simp; done) | (go_simp; rfl)); intro gb253 hg w13 hbox hb; have n0_ := Aside0.mk (Kd.V_below (Kd.V_elderB (by (with_reducible repeat (first | apply Kd.V_alloc | apply Kd.V_drewN | apply Kd.V_drew)); exact HO0_1.out) gb253 (Nat.le_of_eq hg.symm)) hb); have n1_ := Aside0.mk (below_step (by repeat (first | (with_reducible first | exact HB.out | apply below_alloc | apply pw_below_drewN | apply below_drew1) | exact HB.out)) hb); have n2_ := Aside0.mk (hbox); have n3_ := Aside0.mk ((by rw [hg]; exact (below_size (by repeat (first | (with_reducible first | exact HB.out | apply below_alloc | apply pw_below_drewN | apply below_drew1) | exact HB.out))) : w.heap.size ≤ gb253)); have n4_ := Aside0.mk ((by rw [hg]; exact (below_size (by repeat (first | (with_reducible first | exact HB.out | apply below_alloc | apply pw_below_drewN | apply below_drew1) | exact HB.out))) : w.heap.size ≤ gb253)); clear HO0_1; clear HB; have HO0_1 := n0_; have HB := n1_; have BK253 := n2_; have GW253 := n3_; have GE253 := n4_; clear n0_ n1_ n2_ n3_ n4_; clear hb hbox hg) | ((with_reducible refine gate_dst (N := 4) rfl ?_); refine box_event ?hg (N := 4) ?hd (cs := #[.int .i64 0, .slice none 0 0]) (t := 24) ?hr ?_; (case hd => rfl); (case hg => rfl); (case hr => first | (go_simp; done) | (go_simp; rfl)); intro gb254 hg w14 hbox hb; have n0_ := Aside0.mk (Kd.V_below (Kd.V_elderB (by (with_reducible repeat (first | apply Kd.V_alloc | apply Kd.V_drewN | apply Kd.V_drew)); exact HO0_1.out) gb254 (Nat.le_of_eq hg.symm)) hb); have n1_ := Aside0.mk (blk_below (g := gb253) (o := .cells #[.int .i64 a0_0, .slice A0_1 l0_1.length c0_1] 24 (0, 0)) (by (with_reducible repeat (first | refine blk_drewN ?_ _ | refine blk_drew ?_ | refine blk_alloc ?_ _)); exact BK253.out) hb); have n2_ := Aside0.mk (below_step (by repeat (first | (with_reducible first | exact HB.out | apply below_alloc | apply pw_below_drewN | apply below_drew1 | refine below_set ?_ GE253.out) | exact HB.out)) hb); have n3_ := Aside0.mk (hbox); have n4_ := Aside0.mk ((by rw [hg]; exact (below_size (by repeat (first | (with_reducible first | exact HB.out | apply below_alloc | apply pw_below_drewN | apply below_drew1 | refine below_set ?_ GE253.out) | exact HB.out))) : w.heap.size ≤ gb254)); have n5_ := Aside0.mk ((by rw [hg]; exact (below_size (by repeat (first | (with_reducible first | exact HB.out | apply below_alloc | apply pw_below_drewN | apply below_drew1 | refine below_set ?_ GE253.out) | exact HB.out))) : w.heap.size ≤ gb254)); have n6_ := Aside0.mk ((by rw [hg]; exact Nat.ne_of_lt (blk_lt (g := gb253) (o := .cells #[.int .i64 a0_0, .slice A0_1 l0_1.length c0_1] 24 (0, 0)) (by (with_reducible repeat (first | refine blk_drewN ?_ _ | refine blk_drew ?_ | refine blk_alloc ?_ _)); exact BK253.out)) : gb253 ≠ gb254)); have n7_ := Aside0.mk ((by rw [hg]; exact Nat.ne_of_gt (blk_lt (g := gb253) (o := .cells #[.int .i64 a0_0, .slice A0_1 l0_1.length c0_1] 24 (0, 0)) (by (with_reducible repeat (first | refine blk_drewN ?_ _ | refine blk_drew ?_ | refine blk_alloc ?_ _)); exact BK253.out)) : gb254 ≠ gb253)); clear HO0_1; clear BK253; clear HB; have HO0_1 := n0_; have BK253 := n1_; have HB := n2_; have BK254 := n3_; have GW254 := n4_; have GE254 := n5_; have NB253_254 := n6_; have NB254_253 := n7_; clear n0_ n1_ n2_ n3_ n4_ n5_ n6_ n7_; clear hb hbox hg; have hnb15 := NB253_254.out; have hnc15 := NB254_253.out; have hcz16_0 : w14.cell? ⟨gb253, 0, none⟩ = some (.int .i64 a0_0) := (blk_cell BK253.out 0).trans rfl; have hcz16_1 : w14.cell? ⟨gb253, 1, none⟩ = some (.slice A0_1 l0_1.length c0_1) := (blk_cell BK253.out 1).trans rfl; have hfz16_0 := blk_frozen BK253.out 0; have hfz16_1 := blk_frozen BK253.out 1))
        have n0_ := Aside0.mk (Kd.V_drew HO0_1.out)
        have n1_ := Aside0.mk (blk_drew BK253.out)
        have n2_ := Aside0.mk (blk_drew BK254.out)
        have n3_ := Aside0.mk (below_drew1 HB.out)
        clear HO0_1
        clear BK253
        clear BK254
        clear HB
        have HO0_1 := n0_
        have BK253 := n1_
        have BK254 := n2_
        have HB := n3_
        clear n0_ n1_ n2_ n3_
        have p255 : 0 ≤ ((ji9) : Int) := of_decide_eq_true (by first | (with_reducible assumption) | assumption)
        have q255 : (ji9) < (l0_1.length : Int) := of_decide_eq_true (by first | (with_reducible assumption) | assumption)
        obtain ⟨ad255, A255_2, c255_2, e255, hx255_0, hx255_1, hx255_2, hl255_2, hi255_2⟩ := at_T29 (Kd.V_reads' HO0_1.out).2.2 (ji9) p255 q255
        cases e255
        obtain ⟨ce255, hce255, hMe255, hcc255⟩ := Kd.V_get HO0_1.out z29 (ji9) p255 (by first | exact q255 | exact of_decide_eq_true (by first | (with_reducible assumption) | assumption) | (have e_ := (Kd.V_reads' HO0_1.out).1; omega))
        obtain ⟨ua255_2, uc255_2, rfl, ul255_2, ge255_2⟩ := k29_openF hMe255
        have hv255_2 := hcc255 2 _ rfl
        rw [add_field _ _ 2 (by omega)] at hv255_2
        replace hv255_2 := Option.some.inj (hv255_2.symm.trans hx255_2)
        injection hv255_2 with hva_ hvn_ hvc_
        rw [hva_] at ge255_2
        rw [hvc_] at ul255_2
        have HL255_2 := Aside0.mk (show Kd.V (Kd.int .u8) 5 _ w.heap.size _ _ ((rd_T29 l0_1 (ji9)).f2) from Kd.V_mk ul255_2 ge255_2)
        clear hva_ hvn_ hvc_ ge255_2 ul255_2
        clear hcc255 hce255
        have HR255_2 := Aside0.mk hi255_2
        have HC255_2 := Aside0.mk hl255_2
        clear hi255_2 hl255_2
        replace p255 := eq_true p255
        replace q255 := eq_true q255
        refine start_ (n := 11) (S := fun w' => w'.cell? ⟨gb253, 0, none⟩ = some (.int .i64 a0_0) ∧ w'.cell? ⟨gb253, 1, none⟩ = some (.slice (some ad255) l0_1.length c0_1) ∧ w'.cell? (ad255.add (((ji9)).toNat * 3)) = some (.int .i64 ((rd_T29 l0_1 (ji9)).f0)) ∧ w'.cell? ⟨(ad255.add (((ji9)).toNat * 3)).block, (ad255.add (((ji9)).toNat * 3)).off + 1, none⟩ = some (.int .i64 ((rd_T29 l0_1 (ji9)).f1)) ∧ w'.cell? ⟨(ad255.add (((ji9)).toNat * 3)).block, (ad255.add (((ji9)).toNat * 3)).off + 2, none⟩ = some (.slice A255_2 ((rd_T29 l0_1 (ji9)).f2).length c255_2)) (ds := []) #[false, false, false, false, false, false, false, false, false, false, false] (by kernel_rfl) rfl rfl ⟨(blk_cell BK253.out 0).trans rfl, (blk_cell BK253.out 1).trans rfl, hx255_0, hx255_1, hx255_2⟩ (fun hHeld => ?_); refine with_tabW lockgateref11_Copy.tab3 lockgateref11_Copy.bits3 (fun HT_ HW_ => ?_)
        generalize w14.drew = w17 at HO0_1 BK253 BK254 HB HL255_2 HR255_2 hx255_0 hx255_1 hx255_2 hHeld ⊢
        refine pure_ (i := 0) (N := some 11) (v := ?_) (a' := ?_) #[true, false, false, false, false, false, false, false, false, false, false] rfl rfl (any_of HT_.out (by kernel_rfl)) (fun _ _ _ h => h) (Or.inl ⟨by rfl, ?_⟩) ?_ ?_
        rotate_left
        · intro w'
          go_simp
          with_reducible rfl
        rotate_left
        · simp only [Act.put, List.setIfInBounds_toArray, List.set_cons_zero, List.set_cons_succ, i64_w, i32_w]
          rfl
        refine pure_ (i := 2) (N := some 13) (v := ?_) (a' := ?_) #[true, false, true, false, false, false, false, false, false, false, false] rfl rfl (any_of HT_.out (by kernel_rfl)) (fun _ _ _ h => h) (Or.inl ⟨by rfl, ?_⟩) ?_ ?_
        rotate_left
        · intro w'
          go_simp
          with_reducible rfl
        rotate_left
        · simp only [Act.put, List.setIfInBounds_toArray, List.set_cons_zero, List.set_cons_succ, i64_w, i32_w]
          rfl
        refine pure_ (i := 3) (N := some 14) (v := ?_) (a' := ?_) #[true, false, true, true, false, false, false, false, false, false, false] rfl rfl (any_of HT_.out (by kernel_rfl)) (fun _ _ _ h => h) (Or.inl ⟨by rfl, ?_⟩) ?_ ?_
        rotate_left
        · intro w'
          go_simp
          with_reducible rfl
        rotate_left
        · simp only [Act.put, List.setIfInBounds_toArray, List.set_cons_zero, List.set_cons_succ, i64_w, i32_w]
          rfl
        refine take_ (i := 1) (N := some 12) (v := ?_) (a' := ?_) #[true, true, true, true, false, false, false, false, false, false, false] rfl rfl (take_ofW HT_.out HW_.out (by kernel_rfl)) (fun _ _ _ h => h) (Or.inl ⟨by rfl, ?_⟩) hHeld ?_ ?_
        rotate_left
        · rintro w' ⟨s0, s1, s2, s3, s4⟩
          go_simp
          with_reducible rfl
        rotate_left
        · simp only [Act.put, List.setIfInBounds_toArray, List.set_cons_zero, List.set_cons_succ, i64_w, i32_w]
          rfl
        refine take_ (i := 4) (N := some 15) (v := ?_) (a' := ?_) #[true, true, true, true, true, false, false, false, false, false, false] rfl rfl (take_ofW HT_.out HW_.out (by kernel_rfl)) (fun _ _ _ h => h) (Or.inl ⟨by rfl, ?_⟩) hHeld ?_ ?_
        rotate_left
        · rintro w' ⟨s0, s1, s2, s3, s4⟩
          go_simp
          with_reducible rfl
        rotate_left
        · simp only [Act.put, List.setIfInBounds_toArray, List.set_cons_zero, List.set_cons_succ, i64_w, i32_w]
          rfl
        refine pure_ (i := 5) (N := some 16) (v := ?_) (a' := ?_) #[true, true, true, true, true, true, false, false, false, false, false] rfl rfl (any_of HT_.out (by kernel_rfl)) (fun _ _ _ h => h) (Or.inl ⟨by rfl, ?_⟩) ?_ ?_
        rotate_left
        · intro w'
          go_simp
          with_reducible rfl
        rotate_left
        · simp only [Act.put, List.setIfInBounds_toArray, List.set_cons_zero, List.set_cons_succ, i64_w, i32_w]
          rfl
        refine pure_ (i := 6) (N := some 17) (v := ?_) (a' := ?_) #[true, true, true, true, true, true, true, false, false, false, false] rfl rfl (any_of HT_.out (by kernel_rfl)) (fun _ _ _ h => h) (Or.inl ⟨by rfl, ?_⟩) ?_ ?_
        rotate_left
        · intro w'
          go_simp
          with_reducible rfl
        rotate_left
        · simp only [Act.put, List.setIfInBounds_toArray, List.set_cons_zero, List.set_cons_succ, i64_w, i32_w]
          rfl
        refine pure_ (i := 7) (N := some 18) (v := ?_) (a' := ?_) #[true, true, true, true, true, true, true, true, false, false, false] rfl rfl (any_of HT_.out (by kernel_rfl)) (fun _ _ _ h => h) (Or.inl ⟨by rfl, ?_⟩) ?_ ?_
        rotate_left
        · intro w'
          go_simp
          with_reducible rfl
        rotate_left
        · simp only [Act.put, List.setIfInBounds_toArray, List.set_cons_zero, List.set_cons_succ, i64_w, i32_w]
          rfl
        refine take_ (i := 8) (N := some 19) (v := ?_) (a' := ?_) #[true, true, true, true, true, true, true, true, true, false, false] rfl rfl (take_ofW HT_.out HW_.out (by kernel_rfl)) (fun _ _ _ h => h) (Or.inl ⟨by rfl, ?_⟩) hHeld ?_ ?_
        rotate_left
        · rintro w' ⟨s0, s1, s2, s3, s4⟩
          go_simp
          with_reducible rfl
        rotate_left
        · simp only [Act.put, List.setIfInBounds_toArray, List.set_cons_zero, List.set_cons_succ, i64_w, i32_w]
          rfl
        refine one_ (i := 9) (N := some 5) #[true, true, true, true, true, true, true, true, true, true, false] rfl rfl (one_of HT_.out (by kernel_rfl)) (by decide) (fun K hK => ?_)
        refine box_step ?hg (N := 5) ?hd (cs := #[.int .i64 0, .int .i64 0, .slice none 0 0]) (t := 29) ?hr ?_; (case hd => rfl); (case hg => rfl); (case hr => first | (go_simp; done) | (go_simp; rfl))
        intro gb256 hg w18 hbox hb
        have HS2_ := (hb.cell (World.block_lt_of_cell? _ _ (hHeld.2.2.1))).trans (hHeld.2.2.1)
        have HS3_ := (hb.cell (World.block_lt_of_cell? _ _ (hHeld.2.2.2.1))).trans (hHeld.2.2.2.1)
        have HS4_ := (hb.cell (World.block_lt_of_cell? _ _ (hHeld.2.2.2.2))).trans (hHeld.2.2.2.2)
        have n0_ := Aside0.mk (Kd.V_below (Kd.V_elderB (by (with_reducible repeat (first | apply Kd.V_alloc | apply Kd.V_drewN | apply Kd.V_drew)); exact HO0_1.out) gb256 (Nat.le_of_eq hg.symm)) hb)
        have n1_ := Aside0.mk (Kd.V_below (Kd.V_elderB (by (with_reducible repeat (first | apply Kd.V_alloc | apply Kd.V_drewN | apply Kd.V_drew)); exact HL255_2.out) gb256 (Nat.le_of_eq hg.symm)) hb)
        have n2_ := Aside0.mk (blk_below (g := gb253) (o := .cells #[.int .i64 a0_0, .slice (some ad255) l0_1.length c0_1] 24 (0, 0)) (by (with_reducible repeat (first | refine blk_drewN ?_ _ | refine blk_drew ?_ | refine blk_alloc ?_ _)); exact BK253.out) hb)
        have n3_ := Aside0.mk (blk_below (g := gb254) (o := .cells #[.int .i64 0, .slice none 0 0] 24 (0, 0)) (by (with_reducible repeat (first | refine blk_drewN ?_ _ | refine blk_drew ?_ | refine blk_alloc ?_ _)); exact BK254.out) hb)
        have n4_ := Aside0.mk (Kd.C_below (by repeat (first | (with_reducible exact HR255_2.out) | (with_reducible refine Kd.C_alloc ?_ _) | (with_reducible refine Kd.C_drewN ?_ _) | (with_reducible refine Kd.C_drew ?_) | exact HR255_2.out)) hb)
        have n5_ := Aside0.mk (below_step (by repeat (first | (with_reducible first | exact HB.out | apply below_alloc | apply pw_below_drewN | apply below_drew1 | refine below_set ?_ GE253.out | refine below_set ?_ GE254.out) | exact HB.out)) hb)
        have n6_ := Aside0.mk (hbox)
        have n7_ := Aside0.mk ((by rw [hg]; exact (below_size (by repeat (first | (with_reducible first | exact HB.out | apply below_alloc | apply pw_below_drewN | apply below_drew1 | refine below_set ?_ GE253.out | refine below_set ?_ GE254.out) | exact HB.out))) : w.heap.size ≤ gb256))
        have n8_ := Aside0.mk ((by rw [hg]; exact (below_size (by repeat (first | (with_reducible first | exact HB.out | apply below_alloc | apply pw_below_drewN | apply below_drew1 | refine below_set ?_ GE253.out | refine below_set ?_ GE254.out) | exact HB.out))) : w.heap.size ≤ gb256))
        have n9_ := Aside0.mk ((by rw [hg]; exact Nat.ne_of_lt (blk_lt (g := gb253) (o := .cells #[.int .i64 a0_0, .slice (some ad255) l0_1.length c0_1] 24 (0, 0)) (by (with_reducible repeat (first | refine blk_drewN ?_ _ | refine blk_drew ?_ | refine blk_alloc ?_ _)); exact BK253.out)) : gb253 ≠ gb256))
        have n10_ := Aside0.mk ((by rw [hg]; exact Nat.ne_of_gt (blk_lt (g := gb253) (o := .cells #[.int .i64 a0_0, .slice (some ad255) l0_1.length c0_1] 24 (0, 0)) (by (with_reducible repeat (first | refine blk_drewN ?_ _ | refine blk_drew ?_ | refine blk_alloc ?_ _)); exact BK253.out)) : gb256 ≠ gb253))
        have n11_ := Aside0.mk ((by rw [hg]; exact Nat.ne_of_lt (blk_lt (g := gb254) (o := .cells #[.int .i64 0, .slice none 0 0] 24 (0, 0)) (by (with_reducible repeat (first | refine blk_drewN ?_ _ | refine blk_drew ?_ | refine blk_alloc ?_ _)); exact BK254.out)) : gb254 ≠ gb256))
        have n12_ := Aside0.mk ((by rw [hg]; exact Nat.ne_of_gt (blk_lt (g := gb254) (o := .cells #[.int .i64 0, .slice none 0 0] 24 (0, 0)) (by (with_reducible repeat (first | refine blk_drewN ?_ _ | refine blk_drew ?_ | refine blk_alloc ?_ _)); exact BK254.out)) : gb256 ≠ gb254))
        clear HO0_1
        clear HL255_2
        clear BK253
        clear BK254
        clear HR255_2
        clear HB
        have HO0_1 := n0_
        have HL255_2 := n1_
        have BK253 := n2_
        have BK254 := n3_
        have HR255_2 := n4_
        have HB := n5_
        have BK256 := n6_
        have GW256 := n7_
        have GE256 := n8_
        have NB253_256 := n9_
        have NB256_253 := n10_
        have NB254_256 := n11_
        have NB256_254 := n12_
        clear n0_ n1_ n2_ n3_ n4_ n5_ n6_ n7_ n8_ n9_ n10_ n11_ n12_
        clear hb hbox hg
        refine hK.out _ _ ⟨(blk_cell BK253.out 0).trans rfl, (blk_cell BK253.out 1).trans rfl, HS2_, HS3_, HS4_⟩ (fun hHeld => ?_)
        clear hK K
        refine norm_ (a' := ?_) ?_ ?_
        rotate_left
        · show Act.put _ (some 5) _ = _
          simp only [Act.put, List.setIfInBounds_toArray, List.set_cons_zero, List.set_cons_succ, i64_w, i32_w]
          rfl
        refine one_ (i := 10) (N := none) #[true, true, true, true, true, true, true, true, true, true, true] rfl rfl (one_of HT_.out (by kernel_rfl)) (by decide) (fun K hK => ?_)
        have hs19 : w18.cell? ⟨gb256, 0, none⟩ = some (.int .i64 0) := (blk_cell BK256.out 0).trans rfl
        have hfs19 := blk_frozen BK256.out 0
        have hns19_0 := NB253_256.out
        have hns19_1 := NB254_256.out
        have hms19_0 := NB256_253.out
        have hms19_1 := NB256_254.out
        have hs20 : w18.cell? ⟨gb256, 1, none⟩ = some (.int .i64 0) := (blk_cell BK256.out 1).trans rfl
        have hfs20 := blk_frozen BK256.out 1
        have hns20_0 := NB253_256.out
        have hns20_1 := NB254_256.out
        have hms20_0 := NB256_253.out
        have hms20_1 := NB256_254.out
        have hs21 : w18.cell? ⟨gb256, 2, none⟩ = some (.slice none 0 0) := (blk_cell BK256.out 2).trans rfl
        have hfs21 := blk_frozen BK256.out 2
        have hns21_0 := NB253_256.out
        have hns21_1 := NB254_256.out
        have hms21_0 := NB256_253.out
        have hms21_1 := NB256_254.out
        refine skip_ (w1 := ?_) (by rfl) rfl ?_ ?_
        rotate_left
        · go_simp
          rfl
        refine hK.out _ _ ⟨((cell_far (p := ⟨gb256, _, none⟩) NB253_256.out _).trans (((cell_far (p := ⟨gb256, _, none⟩) NB253_256.out _).trans (((cell_far (p := ⟨gb256, _, none⟩) NB253_256.out _).trans (hHeld.1)))))), ((cell_far (p := ⟨gb256, _, none⟩) NB253_256.out _).trans (((cell_far (p := ⟨gb256, _, none⟩) NB253_256.out _).trans (((cell_far (p := ⟨gb256, _, none⟩) NB253_256.out _).trans (hHeld.2.1)))))), ((cell_far (p := ⟨gb256, _, none⟩) (by first | exact Kd.own_blk (Kd.V_away HO0_1.out (fun _ hk => hk.2)) | (rw [add_block]; exact Kd.own_blk (Kd.V_away HO0_1.out (fun _ hk => hk.2))) | (show (Addr.add _ _).block ≠ _; rw [add_block]; exact Kd.own_blk (Kd.V_away HO0_1.out (fun _ hk => hk.2))) | (dsimp only; exact Kd.own_blk (Kd.V_away HO0_1.out (fun _ hk => hk.2)))) _).trans (((cell_far (p := ⟨gb256, _, none⟩) (by first | exact Kd.own_blk (Kd.V_away HO0_1.out (fun _ hk => hk.2)) | (rw [add_block]; exact Kd.own_blk (Kd.V_away HO0_1.out (fun _ hk => hk.2))) | (show (Addr.add _ _).block ≠ _; rw [add_block]; exact Kd.own_blk (Kd.V_away HO0_1.out (fun _ hk => hk.2))) | (dsimp only; exact Kd.own_blk (Kd.V_away HO0_1.out (fun _ hk => hk.2)))) _).trans (((cell_far (p := ⟨gb256, _, none⟩) (by first | exact Kd.own_blk (Kd.V_away HO0_1.out (fun _ hk => hk.2)) | (rw [add_block]; exact Kd.own_blk (Kd.V_away HO0_1.out (fun _ hk => hk.2))) | (show (Addr.add _ _).block ≠ _; rw [add_block]; exact Kd.own_blk (Kd.V_away HO0_1.out (fun _ hk => hk.2))) | (dsimp only; exact Kd.own_blk (Kd.V_away HO0_1.out (fun _ hk => hk.2)))) _).trans (hHeld.2.2.1)))))), ((cell_far (p := ⟨gb256, _, none⟩) (by first | exact Kd.own_blk (Kd.V_away HO0_1.out (fun _ hk => hk.2)) | (rw [add_block]; exact Kd.own_blk (Kd.V_away HO0_1.out (fun _ hk => hk.2))) | (show (Addr.add _ _).block ≠ _; rw [add_block]; exact Kd.own_blk (Kd.V_away HO0_1.out (fun _ hk => hk.2))) | (dsimp only; exact Kd.own_blk (Kd.V_away HO0_1.out (fun _ hk => hk.2)))) _).trans (((cell_far (p := ⟨gb256, _, none⟩) (by first | exact Kd.own_blk (Kd.V_away HO0_1.out (fun _ hk => hk.2)) | (rw [add_block]; exact Kd.own_blk (Kd.V_away HO0_1.out (fun _ hk => hk.2))) | (show (Addr.add _ _).block ≠ _; rw [add_block]; exact Kd.own_blk (Kd.V_away HO0_1.out (fun _ hk => hk.2))) | (dsimp only; exact Kd.own_blk (Kd.V_away HO0_1.out (fun _ hk => hk.2)))) _).trans (((cell_far (p := ⟨gb256, _, none⟩) (by first | exact Kd.own_blk (Kd.V_away HO0_1.out (fun _ hk => hk.2)) | (rw [add_block]; exact Kd.own_blk (Kd.V_away HO0_1.out (fun _ hk => hk.2))) | (show (Addr.add _ _).block ≠ _; rw [add_block]; exact Kd.own_blk (Kd.V_away HO0_1.out (fun _ hk => hk.2))) | (dsimp only; exact Kd.own_blk (Kd.V_away HO0_1.out (fun _ hk => hk.2)))) _).trans (hHeld.2.2.2.1)))))), ((cell_far (p := ⟨gb256, _, none⟩) (by first | exact Kd.own_blk (Kd.V_away HO0_1.out (fun _ hk => hk.2)) | (rw [add_block]; exact Kd.own_blk (Kd.V_away HO0_1.out (fun _ hk => hk.2))) | (show (Addr.add _ _).block ≠ _; rw [add_block]; exact Kd.own_blk (Kd.V_away HO0_1.out (fun _ hk => hk.2))) | (dsimp only; exact Kd.own_blk (Kd.V_away HO0_1.out (fun _ hk => hk.2)))) _).trans (((cell_far (p := ⟨gb256, _, none⟩) (by first | exact Kd.own_blk (Kd.V_away HO0_1.out (fun _ hk => hk.2)) | (rw [add_block]; exact Kd.own_blk (Kd.V_away HO0_1.out (fun _ hk => hk.2))) | (show (Addr.add _ _).block ≠ _; rw [add_block]; exact Kd.own_blk (Kd.V_away HO0_1.out (fun _ hk => hk.2))) | (dsimp only; exact Kd.own_blk (Kd.V_away HO0_1.out (fun _ hk => hk.2)))) _).trans (((cell_far (p := ⟨gb256, _, none⟩) (by first | exact Kd.own_blk (Kd.V_away HO0_1.out (fun _ hk => hk.2)) | (rw [add_block]; exact Kd.own_blk (Kd.V_away HO0_1.out (fun _ hk => hk.2))) | (show (Addr.add _ _).block ≠ _; rw [add_block]; exact Kd.own_blk (Kd.V_away HO0_1.out (fun _ hk => hk.2))) | (dsimp only; exact Kd.own_blk (Kd.V_away HO0_1.out (fun _ hk => hk.2)))) _).trans (hHeld.2.2.2.2))))))⟩ (fun hHeld => ?_)
        clear hK K
        refine done_ (done_of HT_.out (by kernel_rfl)) ?_
        have n0_ : Aside0 (Kd.V k29 29 (((w18.setCell ⟨gb256, 0, none⟩ (.int .i64 ((rd_T29 l0_1 (ji9)).f0))).setCell ⟨gb256, 1, none⟩ (.int .i64 ((rd_T29 l0_1 (ji9)).f1))).setCell ⟨gb256, 2, none⟩ (.slice A255_2 ((rd_T29 l0_1 (ji9)).f2).length c255_2)) w.heap.size (fun k_ => (P0_1_ k_ ∨ w.heap.size ≤ k_) ∧ k_ ≠ gb253 ∧ k_ ≠ gb254 ∧ k_ ≠ gb256) (.slice (some ad255) l0_1.length c0_1) l0_1) := ⟨by (with_reducible repeat (first | apply Kd.V_alloc | apply Kd.V_drewN | apply Kd.V_drew)); exact Kd.V_mono (Kd.V_far (p := ⟨gb256, 2, none⟩) (Kd.V_far (p := ⟨gb256, 1, none⟩) (Kd.V_far (p := ⟨gb256, 0, none⟩) (Kd.V_mono HO0_1.out (fun k_ hk => (⟨hk, hk.2⟩ : _ ∧ k_ ≠ gb256))) (fun _ hk => hk.2) (.int .i64 ((rd_T29 l0_1 (ji9)).f0))) (fun _ hk => hk.2) (.int .i64 ((rd_T29 l0_1 (ji9)).f1))) (fun _ hk => hk.2) (.slice A255_2 ((rd_T29 l0_1 (ji9)).f2).length c255_2)) (fun _ hk => ⟨hk.1.1.1.1, ⟨hk.1.1.1.2, ⟨hk.1.1.2, hk.1.2⟩⟩⟩)⟩
        have n1_ : Aside0 (Kd.V (Kd.int .u8) 5 (((w18.setCell ⟨gb256, 0, none⟩ (.int .i64 ((rd_T29 l0_1 (ji9)).f0))).setCell ⟨gb256, 1, none⟩ (.int .i64 ((rd_T29 l0_1 (ji9)).f1))).setCell ⟨gb256, 2, none⟩ (.slice A255_2 ((rd_T29 l0_1 (ji9)).f2).length c255_2)) w.heap.size (fun k_ => (P0_1_ k_ ∨ w.heap.size ≤ k_) ∧ k_ ≠ gb253 ∧ k_ ≠ gb254 ∧ k_ ≠ gb256) (.slice A255_2 ((rd_T29 l0_1 (ji9)).f2).length c255_2) ((rd_T29 l0_1 (ji9)).f2)) := ⟨by (with_reducible repeat (first | apply Kd.V_alloc | apply Kd.V_drewN | apply Kd.V_drew)); exact Kd.V_mono (Kd.V_far (p := ⟨gb256, 2, none⟩) (Kd.V_far (p := ⟨gb256, 1, none⟩) (Kd.V_far (p := ⟨gb256, 0, none⟩) (Kd.V_mono HL255_2.out (fun k_ hk => (⟨hk, hk.2⟩ : _ ∧ k_ ≠ gb256))) (fun _ hk => hk.2) (.int .i64 ((rd_T29 l0_1 (ji9)).f0))) (fun _ hk => hk.2) (.int .i64 ((rd_T29 l0_1 (ji9)).f1))) (fun _ hk => hk.2) (.slice A255_2 ((rd_T29 l0_1 (ji9)).f2).length c255_2)) (fun _ hk => ⟨hk.1.1.1.1, ⟨hk.1.1.1.2, ⟨hk.1.1.2, hk.1.2⟩⟩⟩)⟩
        have n2_ : Aside0 ((((w18.setCell ⟨gb256, 0, none⟩ (.int .i64 ((rd_T29 l0_1 (ji9)).f0))).setCell ⟨gb256, 1, none⟩ (.int .i64 ((rd_T29 l0_1 (ji9)).f1))).setCell ⟨gb256, 2, none⟩ (.slice A255_2 ((rd_T29 l0_1 (ji9)).f2).length c255_2)).heap[gb253]? = some (.cells #[.int .i64 a0_0, .slice (some ad255) l0_1.length c0_1] 24 (0, 0))) := ⟨by (with_reducible repeat (first | refine blk_drewN ?_ _ | refine blk_drew ?_ | refine blk_alloc ?_ _)); refine blk_far ?_ NB253_256.out _; (with_reducible repeat (first | refine blk_drewN ?_ _ | refine blk_drew ?_ | refine blk_alloc ?_ _)); refine blk_far ?_ NB253_256.out _; (with_reducible repeat (first | refine blk_drewN ?_ _ | refine blk_drew ?_ | refine blk_alloc ?_ _)); refine blk_far ?_ NB253_256.out _; (with_reducible repeat (first | refine blk_drewN ?_ _ | refine blk_drew ?_ | refine blk_alloc ?_ _)); exact BK253.out⟩
        have n3_ : Aside0 ((((w18.setCell ⟨gb256, 0, none⟩ (.int .i64 ((rd_T29 l0_1 (ji9)).f0))).setCell ⟨gb256, 1, none⟩ (.int .i64 ((rd_T29 l0_1 (ji9)).f1))).setCell ⟨gb256, 2, none⟩ (.slice A255_2 ((rd_T29 l0_1 (ji9)).f2).length c255_2)).heap[gb254]? = some (.cells #[.int .i64 0, .slice none 0 0] 24 (0, 0))) := ⟨by (with_reducible repeat (first | refine blk_drewN ?_ _ | refine blk_drew ?_ | refine blk_alloc ?_ _)); refine blk_far ?_ NB254_256.out _; (with_reducible repeat (first | refine blk_drewN ?_ _ | refine blk_drew ?_ | refine blk_alloc ?_ _)); refine blk_far ?_ NB254_256.out _; (with_reducible repeat (first | refine blk_drewN ?_ _ | refine blk_drew ?_ | refine blk_alloc ?_ _)); refine blk_far ?_ NB254_256.out _; (with_reducible repeat (first | refine blk_drewN ?_ _ | refine blk_drew ?_ | refine blk_alloc ?_ _)); exact BK254.out⟩
        have n4_ : Aside0 ((((w18.setCell ⟨gb256, 0, none⟩ (.int .i64 ((rd_T29 l0_1 (ji9)).f0))).setCell ⟨gb256, 1, none⟩ (.int .i64 ((rd_T29 l0_1 (ji9)).f1))).setCell ⟨gb256, 2, none⟩ (.slice A255_2 ((rd_T29 l0_1 (ji9)).f2).length c255_2)).heap[gb256]? = some (.cells #[.int .i64 ((rd_T29 l0_1 (ji9)).f0), .int .i64 ((rd_T29 l0_1 (ji9)).f1), .slice A255_2 ((rd_T29 l0_1 (ji9)).f2).length c255_2] 29 (0, 0))) := ⟨by (with_reducible repeat (first | refine blk_drewN ?_ _ | refine blk_drew ?_ | refine blk_alloc ?_ _)); refine blk_put (cs := #[.int .i64 ((rd_T29 l0_1 (ji9)).f0), .int .i64 ((rd_T29 l0_1 (ji9)).f1), .slice none 0 0]) ?_ 2 _ rfl; (with_reducible repeat (first | refine blk_drewN ?_ _ | refine blk_drew ?_ | refine blk_alloc ?_ _)); refine blk_put (cs := #[.int .i64 ((rd_T29 l0_1 (ji9)).f0), .int .i64 0, .slice none 0 0]) ?_ 1 _ rfl; (with_reducible repeat (first | refine blk_drewN ?_ _ | refine blk_drew ?_ | refine blk_alloc ?_ _)); refine blk_put (cs := #[.int .i64 0, .int .i64 0, .slice none 0 0]) ?_ 0 _ rfl; (with_reducible repeat (first | refine blk_drewN ?_ _ | refine blk_drew ?_ | refine blk_alloc ?_ _)); exact BK256.out⟩
        have n5_ : Aside0 (Below w.heap.size w (((w18.setCell ⟨gb256, 0, none⟩ (.int .i64 ((rd_T29 l0_1 (ji9)).f0))).setCell ⟨gb256, 1, none⟩ (.int .i64 ((rd_T29 l0_1 (ji9)).f1))).setCell ⟨gb256, 2, none⟩ (.slice A255_2 ((rd_T29 l0_1 (ji9)).f2).length c255_2))) := ⟨by repeat (first | (with_reducible first | exact HB.out | apply below_alloc | apply pw_below_drewN | apply below_drew1 | refine below_set ?_ GE253.out | refine below_set ?_ GE254.out | refine below_set ?_ GE256.out) | exact HB.out)⟩
        (try clear HO0_1)
        (try clear HL255_2)
        (try clear BK253)
        (try clear BK254)
        (try clear BK256)
        (try clear HB)
        generalize (((w18.setCell ⟨gb256, 0, none⟩ (.int .i64 ((rd_T29 l0_1 (ji9)).f0))).setCell ⟨gb256, 1, none⟩ (.int .i64 ((rd_T29 l0_1 (ji9)).f1))).setCell ⟨gb256, 2, none⟩ (.slice A255_2 ((rd_T29 l0_1 (ji9)).f2).length c255_2)) = w22 at n0_ n1_ n2_ n3_ n4_ n5_ ⊢
        have HO0_1 := n0_
        have HL255_2 := n1_
        have BK253 := n2_
        have BK254 := n3_
        have BK256 := n4_
        have HB := n5_
        clear n0_ n1_ n2_ n3_ n4_ n5_
        have hnb23 := NB253_256.out
        have hnc23 := NB256_253.out
        have hcz24_0 : w22.cell? ⟨gb253, 0, none⟩ = some (.int .i64 a0_0) := (blk_cell BK253.out 0).trans rfl
        have hcz24_1 : w22.cell? ⟨gb253, 1, none⟩ = some (.slice (some ad255) l0_1.length c0_1) := (blk_cell BK253.out 1).trans rfl
        have hfz24_0 := blk_frozen BK253.out 0
        have hfz24_1 := blk_frozen BK253.out 1
        have hnb25 := NB256_254.out
        have hnc25 := NB254_256.out
        have hcz26_0 : w22.cell? ⟨gb256, 0, none⟩ = some (.int .i64 ((rd_T29 l0_1 (ji9)).f0)) := (blk_cell BK256.out 0).trans rfl
        have hcz26_1 : w22.cell? ⟨gb256, 1, none⟩ = some (.int .i64 ((rd_T29 l0_1 (ji9)).f1)) := (blk_cell BK256.out 1).trans rfl
        have hcz26_2 : w22.cell? ⟨gb256, 2, none⟩ = some (.slice A255_2 ((rd_T29 l0_1 (ji9)).f2).length c255_2) := (blk_cell BK256.out 2).trans rfl
        have hfz26_0 := blk_frozen BK256.out 0
        have hfz26_1 := blk_frozen BK256.out 1
        have hfz26_2 := blk_frozen BK256.out 2
        try go_wp2_with (first | ((with_reducible refine gate_callee (f := 16) rfl ?_); refine goesL_ (some 25) rfl rfl Try.func16 (by kernel_rfl) rfl #[.agg #[.int .i64 a0_0, .slice (some ad255) l0_1.length c0_1], .int .i64 ((rd_T29 l0_1 (ji9)).f1), .slice A255_2 ((rd_T29 l0_1 (ji9)).f2).length c255_2] rfl (by (try simp only [List.map_toArray, List.map_cons, List.map_nil]); first | done | (simp only [hji9]; rfl) | rfl | (simp only [List.length_drop, List.length_take]; rfl)) ?_; (with_reducible refine (lockgateref11_Send.calls k a0_0 (fun k_ => ((P0_1_ k_ ∨ w.heap.size ≤ k_) ∧ (k_ ≠ gb253 ∧ (k_ ≠ gb254 ∧ k_ ≠ gb256)))) _ _ l0_1 ((rd_T29 l0_1 (ji9)).f1) (fun k_ => ((P0_1_ k_ ∨ w.heap.size ≤ k_) ∧ (k_ ≠ gb253 ∧ (k_ ≠ gb254 ∧ k_ ≠ gb256)))) _ _ ((rd_T29 l0_1 (ji9)).f2) t257 t258 _ ?side1 ?side2 A12.out).mono ?_); (case side1 => exact HO0_1.out); (case side2 => exact HL255_2.out); rintro e w27 ⟨v259, rfl, ho0, hb⟩; refine ⟨_, rfl, ?_⟩; have n0_ := Aside0.mk (Kd.V_elder' (by (with_reducible repeat (first | apply Kd.V_alloc | apply Kd.V_drewN | apply Kd.V_drew)); exact HO0_1.out) (Kd.N_base ho0) hb); have n1_ := Aside0.mk (Kd.V_elder' (by (with_reducible repeat (first | apply Kd.V_alloc | apply Kd.V_drewN | apply Kd.V_drew)); exact HL255_2.out) (Kd.N_base ho0) hb); have n2_ := Aside0.mk (Kd.N_lower (Kd.N_mono (ok' := fun k_ => (P0_1_ k_ ∨ w.heap.size ≤ k_) ∧ k_ ≠ gb253 ∧ k_ ≠ gb254 ∧ k_ ≠ gb256) ho0 (fun k_ hk_ => ⟨Or.elim hk_ (fun hs_ => Or.elim hs_ (fun hs_ => hs_.1) (fun hs_ => hs_.1)) (fun hn_ => (.inr (Nat.le_trans (below_size (by repeat (first | (with_reducible first | exact HB.out | apply below_alloc | apply pw_below_drewN | apply below_drew1 | refine below_set ?_ GE253.out | refine below_set ?_ GE254.out | refine below_set ?_ GE256.out) | exact HB.out))) hn_))), Or.elim hk_ (fun hs_ => Or.elim hs_ (fun hs_ => hs_.2.1) (fun hs_ => hs_.2.1)) (fun hn_ => (Kd.freshB (g := gb253) (o := .cells #[.int .i64 a0_0, .slice (some ad255) l0_1.length c0_1] 24 (0, 0)) (by (with_reducible repeat (first | refine blk_drewN ?_ _ | refine blk_drew ?_ | refine blk_alloc ?_ _)); exact BK253.out) k_ hn_)), Or.elim hk_ (fun hs_ => Or.elim hs_ (fun hs_ => hs_.2.2.1) (fun hs_ => hs_.2.2.1)) (fun hn_ => (Kd.freshB (g := gb254) (o := .cells #[.int .i64 0, .slice none 0 0] 24 (0, 0)) (by (with_reducible repeat (first | refine blk_drewN ?_ _ | refine blk_drew ?_ | refine blk_alloc ?_ _)); exact BK254.out) k_ hn_)), Or.elim hk_ (fun hs_ => Or.elim hs_ (fun hs_ => hs_.2.2.2) (fun hs_ => hs_.2.2.2)) (fun hn_ => (Kd.freshB (g := gb256) (o := .cells #[.int .i64 ((rd_T29 l0_1 (ji9)).f0), .int .i64 ((rd_T29 l0_1 (ji9)).f1), .slice A255_2 ((rd_T29 l0_1 (ji9)).f2).length c255_2] 29 (0, 0)) (by (with_reducible repeat (first | refine blk_drewN ?_ _ | refine blk_drew ?_ | refine blk_alloc ?_ _)); exact BK256.out) k_ hn_))⟩)) (below_size (by repeat (first | (with_reducible first | exact HB.out | apply below_alloc | apply pw_below_drewN | apply below_drew1 | refine below_set ?_ GE253.out | refine below_set ?_ GE254.out | refine below_set ?_ GE256.out) | exact HB.out)))); have n3_ := Aside0.mk (blk_below (g := gb253) (o := .cells #[.int .i64 a0_0, .slice (some ad255) l0_1.length c0_1] 24 (0, 0)) (by (with_reducible repeat (first | refine blk_drewN ?_ _ | refine blk_drew ?_ | refine blk_alloc ?_ _)); exact BK253.out) hb); have n4_ := Aside0.mk (blk_below (g := gb254) (o := .cells #[.int .i64 0, .slice none 0 0] 24 (0, 0)) (by (with_reducible repeat (first | refine blk_drewN ?_ _ | refine blk_drew ?_ | refine blk_alloc ?_ _)); exact BK254.out) hb); have n5_ := Aside0.mk (blk_below (g := gb256) (o := .cells #[.int .i64 ((rd_T29 l0_1 (ji9)).f0), .int .i64 ((rd_T29 l0_1 (ji9)).f1), .slice A255_2 ((rd_T29 l0_1 (ji9)).f2).length c255_2] 29 (0, 0)) (by (with_reducible repeat (first | refine blk_drewN ?_ _ | refine blk_drew ?_ | refine blk_alloc ?_ _)); exact BK256.out) hb); have n6_ := Aside0.mk (below_step (by repeat (first | (with_reducible first | exact HB.out | apply below_alloc | apply pw_below_drewN | apply below_drew1 | refine below_set ?_ GE253.out | refine below_set ?_ GE254.out | refine below_set ?_ GE256.out) | exact HB.out)) hb); clear HO0_1; clear HL255_2; clear BK253; clear BK254; clear BK256; clear HB; have HO0_1 := n0_; have HL255_2 := n1_; have HO260 := n2_; have BK253 := n3_; have BK254 := n4_; have BK256 := n5_; have HB := n6_; clear n0_ n1_ n2_ n3_ n4_ n5_ n6_; (try clear hb); (try clear hb2); (try clear hk); (try clear hi); (try clear ho0); have hcz28_0 : w27.cell? ⟨gb254, 0, none⟩ = some (.int .i64 0) := (blk_cell BK254.out 0).trans rfl; have hcz28_1 : w27.cell? ⟨gb254, 1, none⟩ = some (.slice none 0 0) := (blk_cell BK254.out 1).trans rfl; have hfz28_0 := blk_frozen BK254.out 0; have hfz28_1 := blk_frozen BK254.out 1; obtain ⟨Ao29, co29, eo29⟩ := Kd.N_slice HO260.out; subst eo29))
        refine bodyPost_ret (results_cell_row rfl _ _ gb254 24 #[.int .i64 t257, .slice Ao29 t258.length co29] (0, 0) _ rfl (by (with_reducible repeat (first | refine blk_drewN ?_ _ | refine blk_drew ?_ | refine blk_alloc ?_ _)); refine blk_put (cs := #[.int .i64 t257, .slice none 0 0]) ?_ 1 _ rfl; (with_reducible repeat (first | refine blk_drewN ?_ _ | refine blk_drew ?_ | refine blk_alloc ?_ _)); refine blk_put (cs := #[.int .i64 0, .slice none 0 0]) ?_ 0 _ rfl; (with_reducible repeat (first | refine blk_drewN ?_ _ | refine blk_drew ?_ | refine blk_alloc ?_ _)); exact BK254.out) Try.underlying24 rfl (by kernel_rfl)) rfl ?_
        exact ⟨_, by first | rfl | (simp [errW_none, errW_some] <;> rfl) | (simp only [← hji9]; first | rfl | (simp [errW_none, errW_some] <;> rfl)) | (simp [*, errW_none, errW_some] <;> rfl), Kd.N_V (by (with_reducible repeat (first | apply Kd.N_alloc | apply Kd.N_drewN | apply Kd.N_drew)); exact Kd.N_mono (Kd.N_far (p := ⟨gb254, 1, none⟩) (Kd.N_far (p := ⟨gb254, 0, none⟩) (Kd.N_mono HO260.out (fun k_ hk => (⟨hk, hk.2.2.1⟩ : _ ∧ k_ ≠ gb254))) (fun _ hk => hk.2) (.int .i64 t257)) (fun _ hk => hk.2) (.slice Ao29 t258.length co29)) (fun _ hk => hk.1.1)), by repeat (first | (with_reducible first | exact HB.out | apply below_alloc | apply pw_below_drewN | apply below_drew1 | refine below_set ?_ GE253.out | refine below_set ?_ GE254.out | refine below_set ?_ GE256.out) | exact HB.out)⟩
      · rw [if_neg c11] at H
        exact absurd H (by simp)
    · rw [if_neg c10] at H
      exact absurd H (by simp)

/-! ### lockgateref11_Cut: function 20 -/
def lockgateref11_Cut.l0 : Nat → Int → Int → Int → List (S29) → Int → List (S29) → Option (Int × (List (S29)))
  | 0, _, _, _, _, _, _ => none
  | k + 1, x1, x6, x262000, x262001, x264000, x264001 => if x6 < (x262001.length : Int) then (if 0 ≤ x6 then (if ((rd_T29 x262001 x6).f1) = x1 then (lockgateref11_Cut.l0 k x1 (wrap64 (x6 + 1)) x262000 x262001 x264000 x264001) else (if x264001.length < 3518437208883 then (lockgateref11_Cut.l0 k x1 (wrap64 (x6 + 1)) x262000 x262001 x264000 (x264001 ++ [(⟨(rd_T29 x262001 x6).f0, (rd_T29 x262001 x6).f1, (rd_T29 x262001 x6).f2⟩ : S29)])) else (none))) else (none)) else (some (x264000, x264001))
def lockgateref11_Cut.f (k : Nat) (a0_0 : Int) (l0_1 : List (S29)) (a1 : Int) : Option (Int × (List (S29))) := lockgateref11_Cut.l0 k a1 0 a0_0 l0_1 a0_0 ([] : List (S29))
theorem lockgateref11_Cut.mono_l : ∀ k, (∀ y0 y1 y2 y3 y4 y5, LeO (lockgateref11_Cut.l0 k y0 y1 y2 y3 y4 y5) (lockgateref11_Cut.l0 (k + 1) y0 y1 y2 y3 y4 y5))
  | 0 => fun _ _ _ _ _ _ r h => by simp [lockgateref11_Cut.l0] at h
  | k + 1 => by
    have ih0 := lockgateref11_Cut.mono_l k
    · intro y0 y1 y2 y3 y4 y5
      unfold lockgateref11_Cut.l0
      repeat' first
      | (with_reducible exact ih0 _ _ _ _ _ _)
      | (with_reducible exact LeO.refl _)
      | (with_reducible exact LeO.none _)
      | (with_reducible refine LeO.ite ?_ ?_)
      | (with_reducible refine LeO.bind ?_ (fun _ => ?_))
      | exact ih0 _ _ _ _ _ _
      | exact LeO.none _
      | refine LeO.ite ?_ ?_
      | refine LeO.bind ?_ (fun _ => ?_)
theorem lockgateref11_Cut.mono : ∀ a0 a1 a2 k, LeO (lockgateref11_Cut.f k a0 a1 a2) (lockgateref11_Cut.f (k + 1) a0 a1 a2) := by
  intro a0 a1 a2 k
  have ih0 := lockgateref11_Cut.mono_l k
  unfold lockgateref11_Cut.f
  repeat' first
      | (with_reducible exact ih0 _ _ _ _ _ _)
      | (with_reducible exact LeO.refl _)
      | (with_reducible exact LeO.none _)
      | (with_reducible refine LeO.ite ?_ ?_)
      | (with_reducible refine LeO.bind ?_ (fun _ => ?_))
      | exact ih0 _ _ _ _ _ _
      | exact LeO.none _
      | refine LeO.ite ?_ ?_
      | refine LeO.bind ?_ (fun _ => ?_)
def lockgateref11_Cut.T6 : Bool × List (List Nat × List Nat) := (true, [([], []), ([0], [0]), ([], []), ([2], [2]), ([], []), ([3, 4], [3, 4]), ([5], [5]), ([6], [6]), ([1, 7], [1, 7]), ([0, 1, 2, 3, 4, 5, 6, 7, 8], []), ([9, 8, 8, 0, 1, 2, 3, 4, 5, 6, 7, 8], [8, 9])])
def lockgateref11_Cut.B6 : List Nat := [0, 1, 0, 4, 0, 28, 60, 124, 255, 511, 1023]
theorem lockgateref11_Cut.tab6 : rtab .any (opsOf Try.f20 6) = lockgateref11_Cut.T6 := by kernel_rfl
theorem lockgateref11_Cut.bits6 : waitsOk lockgateref11_Cut.T6.2 lockgateref11_Cut.B6 = true := by kernel_rfl
set_option maxHeartbeats 8000000 in
set_option maxRecDepth 100000 in
theorem lockgateref11_Cut.calls (k : Nat) (a0_0 : Int) (P0_1_ : Nat → Prop) (A0_1 : Option Addr) (c0_1 : Nat) (l0_1 : List (S29)) (a1 : Int) (r1 : Int) (r2 : List (S29)) (w : World) (hs0_1 : Kd.V k29 29 w w.heap.size (fun k_ => P0_1_ k_) (.slice A0_1 l0_1.length c0_1) l0_1) (h : lockgateref11_Cut.f k a0_0 l0_1 a1 = some (r1, r2)) :
    Calls Try.prog 20 #[.agg #[.int .i64 a0_0, .slice A0_1 l0_1.length c0_1], .int .i64 a1] w fun e w' => ∃ v1_ : Value, e = .returned (.agg #[.int .i64 r1, v1_]) ∧ Kd.N k29 29 w' w.heap.size (fun k_ => (P0_1_ k_ ∨ w.heap.size ≤ k_)) v1_ r2 ∧ Below w.heap.size w w' := by
  have hu24 := Try.underlying24
  have hu29 := Try.underlying29
  have HO0_1 := Aside0.mk (show Kd.V k29 29 w w.heap.size (fun k_ => (P0_1_ k_ ∨ w.heap.size ≤ k_)) (.slice A0_1 l0_1.length c0_1) l0_1 from Kd.V_mono hs0_1 (fun k_ hk => .inl hk))
  have HB := Aside0.mk (Below.refl w.heap.size w)
  have H : (lockgateref11_Cut.l0 k a1 0 a0_0 l0_1 a0_0 ([] : List (S29))) = some (r1, r2) := h
  clear h
  have H' := Aside0.mk H
  clear H
  go_enter Try.func20, Try.ntmps20
  go_wp2_with (first | ((with_reducible refine gate_dst (N := 2) rfl ?_); refine box_event ?hg (N := 2) ?hd (cs := #[.int .i64 a0_0, .slice A0_1 l0_1.length c0_1]) (t := 24) ?hr ?_; (case hd => rfl); (case hg => rfl); (case hr => first | (go_simp; done) | (go_simp; rfl)); intro gb261 hg w3 hbox hb; have n0_ := Aside0.mk (Kd.V_below (Kd.V_elderB (by (with_reducible repeat (first | apply Kd.V_alloc | apply Kd.V_drewN | apply Kd.V_drew)); exact HO0_1.out) gb261 (Nat.le_of_eq hg.symm)) hb); have n1_ := Aside0.mk (below_step (by repeat (first | (with_reducible first | exact HB.out | apply below_alloc | apply pw_below_drewN | apply below_drew1) | exact HB.out)) hb); have n2_ := Aside0.mk (hbox); have n3_ := Aside0.mk ((by rw [hg]; exact (below_size (by repeat (first | (with_reducible first | exact HB.out | apply below_alloc | apply pw_below_drewN | apply below_drew1) | exact HB.out))) : w.heap.size ≤ gb261)); have n4_ := Aside0.mk ((by rw [hg]; exact (below_size (by repeat (first | (with_reducible first | exact HB.out | apply below_alloc | apply pw_below_drewN | apply below_drew1) | exact HB.out))) : w.heap.size ≤ gb261)); clear HO0_1; clear HB; have HO0_1 := n0_; have HB := n1_; have BK261 := n2_; have GW261 := n3_; have GE261 := n4_; clear n0_ n1_ n2_ n3_ n4_; clear hb hbox hg) | ((with_reducible refine gate_dst (N := 4) rfl ?_); refine box_event ?hg (N := 4) ?hd (cs := #[.int .i64 0, .slice none 0 0]) (t := 24) ?hr ?_; (case hd => rfl); (case hg => rfl); (case hr => first | (go_simp; done) | (go_simp; rfl)); intro gb262 hg w4 hbox hb; have n0_ := Aside0.mk (Kd.V_below (Kd.V_elderB (by (with_reducible repeat (first | apply Kd.V_alloc | apply Kd.V_drewN | apply Kd.V_drew)); exact HO0_1.out) gb262 (Nat.le_of_eq hg.symm)) hb); have n1_ := Aside0.mk (blk_below (g := gb261) (o := .cells #[.int .i64 a0_0, .slice A0_1 l0_1.length c0_1] 24 (0, 0)) (by (with_reducible repeat (first | refine blk_drewN ?_ _ | refine blk_drew ?_ | refine blk_alloc ?_ _)); exact BK261.out) hb); have n2_ := Aside0.mk (below_step (by repeat (first | (with_reducible first | exact HB.out | apply below_alloc | apply pw_below_drewN | apply below_drew1 | refine below_set ?_ GE261.out) | exact HB.out)) hb); have n3_ := Aside0.mk (hbox); have n4_ := Aside0.mk ((by rw [hg]; exact (below_size (by repeat (first | (with_reducible first | exact HB.out | apply below_alloc | apply pw_below_drewN | apply below_drew1 | refine below_set ?_ GE261.out) | exact HB.out))) : w.heap.size ≤ gb262)); have n5_ := Aside0.mk ((by rw [hg]; exact (below_size (by repeat (first | (with_reducible first | exact HB.out | apply below_alloc | apply pw_below_drewN | apply below_drew1 | refine below_set ?_ GE261.out) | exact HB.out))) : w.heap.size ≤ gb262)); have n6_ := Aside0.mk ((by rw [hg]; exact Nat.ne_of_lt (blk_lt (g := gb261) (o := .cells #[.int .i64 a0_0, .slice A0_1 l0_1.length c0_1] 24 (0, 0)) (by (with_reducible repeat (first | refine blk_drewN ?_ _ | refine blk_drew ?_ | refine blk_alloc ?_ _)); exact BK261.out)) : gb261 ≠ gb262)); have n7_ := Aside0.mk ((by rw [hg]; exact Nat.ne_of_gt (blk_lt (g := gb261) (o := .cells #[.int .i64 a0_0, .slice A0_1 l0_1.length c0_1] 24 (0, 0)) (by (with_reducible repeat (first | refine blk_drewN ?_ _ | refine blk_drew ?_ | refine blk_alloc ?_ _)); exact BK261.out)) : gb262 ≠ gb261)); clear HO0_1; clear BK261; clear HB; have HO0_1 := n0_; have BK261 := n1_; have HB := n2_; have BK262 := n3_; have GW262 := n4_; have GE262 := n5_; have NB261_262 := n6_; have NB262_261 := n7_; clear n0_ n1_ n2_ n3_ n4_ n5_ n6_ n7_; clear hb hbox hg; have hnb5 := NB261_262.out; have hnc5 := NB262_261.out; have hcz6_0 : w4.cell? ⟨gb261, 0, none⟩ = some (.int .i64 a0_0) := (blk_cell BK261.out 0).trans rfl; have hcz6_1 : w4.cell? ⟨gb261, 1, none⟩ = some (.slice A0_1 l0_1.length c0_1) := (blk_cell BK261.out 1).trans rfl; have hfz6_0 := blk_frozen BK261.out 0; have hfz6_1 := blk_frozen BK261.out 1) | ((with_reducible refine gate_dst (N := 5) rfl ?_); refine box_event ?hg (N := 5) ?hd (cs := #[.int .i64 0, .slice none 0 0]) (t := 24) ?hr ?_; (case hd => rfl); (case hg => rfl); (case hr => first | (go_simp; done) | (go_simp; rfl)); intro gb263 hg w7 hbox hb; have n0_ := Aside0.mk (Kd.V_below (Kd.V_elderB (by (with_reducible repeat (first | apply Kd.V_alloc | apply Kd.V_drewN | apply Kd.V_drew)); exact HO0_1.out) gb263 (Nat.le_of_eq hg.symm)) hb); have n1_ := Aside0.mk (blk_below (g := gb261) (o := .cells #[.int .i64 a0_0, .slice A0_1 l0_1.length c0_1] 24 (0, 0)) (by (with_reducible repeat (first | refine blk_drewN ?_ _ | refine blk_drew ?_ | refine blk_alloc ?_ _)); exact BK261.out) hb); have n2_ := Aside0.mk (blk_below (g := gb262) (o := .cells #[.int .i64 0, .slice none 0 0] 24 (0, 0)) (by (with_reducible repeat (first | refine blk_drewN ?_ _ | refine blk_drew ?_ | refine blk_alloc ?_ _)); exact BK262.out) hb); have n3_ := Aside0.mk (below_step (by repeat (first | (with_reducible first | exact HB.out | apply below_alloc | apply pw_below_drewN | apply below_drew1 | refine below_set ?_ GE261.out | refine below_set ?_ GE262.out) | exact HB.out)) hb); have n4_ := Aside0.mk (hbox); have n5_ := Aside0.mk ((by rw [hg]; exact (below_size (by repeat (first | (with_reducible first | exact HB.out | apply below_alloc | apply pw_below_drewN | apply below_drew1 | refine below_set ?_ GE261.out | refine below_set ?_ GE262.out) | exact HB.out))) : w.heap.size ≤ gb263)); have n6_ := Aside0.mk ((by rw [hg]; exact (below_size (by repeat (first | (with_reducible first | exact HB.out | apply below_alloc | apply pw_below_drewN | apply below_drew1 | refine below_set ?_ GE261.out | refine below_set ?_ GE262.out) | exact HB.out))) : w.heap.size ≤ gb263)); have n7_ := Aside0.mk ((by rw [hg]; exact Nat.ne_of_lt (blk_lt (g := gb261) (o := .cells #[.int .i64 a0_0, .slice A0_1 l0_1.length c0_1] 24 (0, 0)) (by (with_reducible repeat (first | refine blk_drewN ?_ _ | refine blk_drew ?_ | refine blk_alloc ?_ _)); exact BK261.out)) : gb261 ≠ gb263)); have n8_ := Aside0.mk ((by rw [hg]; exact Nat.ne_of_gt (blk_lt (g := gb261) (o := .cells #[.int .i64 a0_0, .slice A0_1 l0_1.length c0_1] 24 (0, 0)) (by (with_reducible repeat (first | refine blk_drewN ?_ _ | refine blk_drew ?_ | refine blk_alloc ?_ _)); exact BK261.out)) : gb263 ≠ gb261)); have n9_ := Aside0.mk ((by rw [hg]; exact Nat.ne_of_lt (blk_lt (g := gb262) (o := .cells #[.int .i64 0, .slice none 0 0] 24 (0, 0)) (by (with_reducible repeat (first | refine blk_drewN ?_ _ | refine blk_drew ?_ | refine blk_alloc ?_ _)); exact BK262.out)) : gb262 ≠ gb263)); have n10_ := Aside0.mk ((by rw [hg]; exact Nat.ne_of_gt (blk_lt (g := gb262) (o := .cells #[.int .i64 0, .slice none 0 0] 24 (0, 0)) (by (with_reducible repeat (first | refine blk_drewN ?_ _ | refine blk_drew ?_ | refine blk_alloc ?_ _)); exact BK262.out)) : gb263 ≠ gb262)); clear HO0_1; clear BK261; clear BK262; clear HB; have HO0_1 := n0_; have BK261 := n1_; have BK262 := n2_; have HB := n3_; have BK263 := n4_; have GW263 := n5_; have GE263 := n6_; have NB261_263 := n7_; have NB263_261 := n8_; have NB262_263 := n9_; have NB263_262 := n10_; clear n0_ n1_ n2_ n3_ n4_ n5_ n6_ n7_ n8_ n9_ n10_; clear hb hbox hg; have hnb8 := NB263_261.out; have hnc8 := NB261_263.out; have hnb9 := NB263_262.out; have hnc9 := NB262_263.out; have hcz10_0 : w7.cell? ⟨gb263, 0, none⟩ = some (.int .i64 0) := (blk_cell BK263.out 0).trans rfl; have hcz10_1 : w7.cell? ⟨gb263, 1, none⟩ = some (.slice none 0 0) := (blk_cell BK263.out 1).trans rfl; have hfz10_0 := blk_frozen BK263.out 0; have hfz10_1 := blk_frozen BK263.out 1))
  go_loopg [6] k (fun kq v6 w' => ∃ (x6_1 : Int) (x264001_1 : List (S29)) (u264001 : Value), v6 = .int .i64 x6_1 ∧ Aside0 (lockgateref11_Cut.l0 kq a1 x6_1 a0_0 l0_1 a0_0 x264001_1 = some (r1, r2)) ∧ Aside0 (kq ≤ k) ∧ Aside0 (Kd.V k29 29 w' w.heap.size (fun k_ => (P0_1_ k_ ∨ w.heap.size ≤ k_) ∧ some k_ ≠ (u264001 : Value).ownBlock ∧ k_ ≠ gb261 ∧ k_ ≠ gb262 ∧ k_ ≠ gb263) (.slice A0_1 l0_1.length c0_1) l0_1) ∧ Aside0 (Kd.N k29 29 w' w.heap.size (fun k_ => (P0_1_ k_ ∨ w.heap.size ≤ k_) ∧ k_ ≠ gb261 ∧ k_ ≠ gb262 ∧ k_ ≠ gb263) u264001 x264001_1) ∧ Aside0 (w'.heap[gb261]? = some (.cells #[.int .i64 a0_0, (.slice A0_1 l0_1.length c0_1)] 24 (0, 0))) ∧ Aside0 (w'.heap[gb262]? = some (.cells #[.int .i64 0, (.slice none 0 0)] 24 (0, 0))) ∧ Aside0 (w'.heap[gb263]? = some (.cells #[.int .i64 a0_0, u264001] 24 (0, 0))) ∧ Aside0 (Below w.heap.size w w'))
  case atStart => exact ⟨(0), (([] : List (S29))), (.slice none 0 0), (by first | rfl | (simp; done) | (simp [*]; done)), H', ⟨Nat.le_refl _⟩, ⟨by (with_reducible repeat (first | apply Kd.V_alloc | apply Kd.V_drewN | apply Kd.V_drew)); exact Kd.V_mono (Kd.V_far (p := ⟨gb263, 1, none⟩) (Kd.V_far (p := ⟨gb263, 0, none⟩) (Kd.V_mono HO0_1.out (fun k_ hk => (⟨hk, hk.2⟩ : _ ∧ k_ ≠ gb263))) (fun _ hk => hk.2) (.int .i64 a0_0)) (fun _ hk => hk.2) (.slice none 0 0)) (fun _ hk => ⟨hk.1.1.1.1, ⟨(by simp [Value.ownBlock]), ⟨hk.1.1.1.2, ⟨hk.1.1.2, hk.1.2⟩⟩⟩⟩)⟩, ⟨by first | exact Kd.S_nil _ _ _ _ _ | exact Kd.N_nil _ _ _ _ _ | exact Kd.V_nil _ _ _ _ _ | exact Kd.Q_nil _ _ _ _ _ | exact Kd.R_nil _ _ _ _ _⟩, ⟨by (with_reducible repeat (first | refine blk_drewN ?_ _ | refine blk_drew ?_ | refine blk_alloc ?_ _)); refine blk_far ?_ NB261_263.out _; (with_reducible repeat (first | refine blk_drewN ?_ _ | refine blk_drew ?_ | refine blk_alloc ?_ _)); refine blk_far ?_ NB261_263.out _; (with_reducible repeat (first | refine blk_drewN ?_ _ | refine blk_drew ?_ | refine blk_alloc ?_ _)); exact BK261.out⟩, ⟨by (with_reducible repeat (first | refine blk_drewN ?_ _ | refine blk_drew ?_ | refine blk_alloc ?_ _)); refine blk_far ?_ NB262_263.out _; (with_reducible repeat (first | refine blk_drewN ?_ _ | refine blk_drew ?_ | refine blk_alloc ?_ _)); refine blk_far ?_ NB262_263.out _; (with_reducible repeat (first | refine blk_drewN ?_ _ | refine blk_drew ?_ | refine blk_alloc ?_ _)); exact BK262.out⟩, ⟨by (with_reducible repeat (first | refine blk_drewN ?_ _ | refine blk_drew ?_ | refine blk_alloc ?_ _)); refine blk_put (cs := #[.int .i64 a0_0, .slice none 0 0]) ?_ 1 _ rfl; (with_reducible repeat (first | refine blk_drewN ?_ _ | refine blk_drew ?_ | refine blk_alloc ?_ _)); refine blk_put (cs := #[.int .i64 0, .slice none 0 0]) ?_ 0 _ rfl; (with_reducible repeat (first | refine blk_drewN ?_ _ | refine blk_drew ?_ | refine blk_alloc ?_ _)); exact BK263.out⟩, ⟨by repeat (first | (with_reducible first | exact HB.out | apply below_alloc | apply pw_below_drewN | apply below_drew1 | refine below_set ?_ GE261.out | refine below_set ?_ GE262.out | refine below_set ?_ GE263.out) | exact HB.out)⟩⟩
  case round =>
    clear H'
    try clear c2
    try clear p2
    try clear c5
    try clear c8
    try clear c9
    try clear hcz10_0
    try clear hcz10_1
    try clear hcz6_0
    try clear hcz6_1
    try clear hfz10_0
    try clear hfz10_1
    try clear hfz6_0
    try clear hfz6_1
    obtain ⟨x6_1, x264001_1, u264001, rfl, HA, HK1, HO_262001, HO_264001, BK261, BK262, BK263, HB⟩ := hrel
    cases gk with
    | zero => exact absurd HA.out (by simp [lockgateref11_Cut.l0])
    | succ k1 =>
      have H := HA.out
      clear HA
      simp only [lockgateref11_Cut.l0] at H
      by_cases c11 : x6_1 < (l0_1.length : Int)
      · rw [if_pos c11] at H
        have c11b0 : decide (x6_1 < (l0_1.length : Int)) = true := decide_eq_true c11
        clear c11
        by_cases c12 : 0 ≤ x6_1
        · rw [if_pos c12] at H
          have c12b0 : decide (0 ≤ x6_1) = true := decide_eq_true c12
          clear c12
          by_cases c13 : ((rd_T29 l0_1 x6_1).f1) = a1
          · rw [if_pos c13] at H
            have c13b0 : (((rd_T29 l0_1 x6_1).f1) == a1) = true := beq_iff_eq.mpr c13
            have c13b1 : (((rd_T29 l0_1 x6_1).f1) != a1) = false := bne_eq_false_iff_eq.mpr c13
            clear c13
            have H' := Aside0.mk H
            clear H
            have hnb14 := NB261_262.out
            have hnc14 := NB262_261.out
            have hnb15 := NB261_263.out
            have hnc15 := NB263_261.out
            have hcz16_0 : wr.cell? ⟨gb261, 0, none⟩ = some (.int .i64 a0_0) := (blk_cell BK261.out 0).trans rfl
            have hcz16_1 : wr.cell? ⟨gb261, 1, none⟩ = some (.slice A0_1 l0_1.length c0_1) := (blk_cell BK261.out 1).trans rfl
            have hfz16_0 := blk_frozen BK261.out 0
            have hfz16_1 := blk_frozen BK261.out 1
            have p264 : 0 ≤ (x6_1 : Int) := of_decide_eq_true (by first | (with_reducible assumption) | assumption)
            have q264 : x6_1 < (l0_1.length : Int) := of_decide_eq_true (by first | (with_reducible assumption) | assumption)
            obtain ⟨ad264, A264_2, c264_2, e264, hx264_0, hx264_1, hx264_2, hl264_2, hi264_2⟩ := at_T29 (Kd.V_reads' HO_262001.out).2.2 x6_1 p264 q264
            cases e264
            obtain ⟨ce264, hce264, hMe264, hcc264⟩ := Kd.V_get HO_262001.out z29 x6_1 p264 (by first | exact q264 | exact of_decide_eq_true (by first | (with_reducible assumption) | assumption) | (have e_ := (Kd.V_reads' HO_262001.out).1; omega))
            obtain ⟨ua264_2, uc264_2, rfl, ul264_2, ge264_2⟩ := k29_openF hMe264
            have hv264_2 := hcc264 2 _ rfl
            rw [add_field _ _ 2 (by omega)] at hv264_2
            replace hv264_2 := Option.some.inj (hv264_2.symm.trans hx264_2)
            injection hv264_2 with hva_ hvn_ hvc_
            rw [hva_] at ge264_2
            rw [hvc_] at ul264_2
            have HL264_2 := Aside0.mk (show Kd.V (Kd.int .u8) 5 _ w.heap.size _ _ ((rd_T29 l0_1 x6_1).f2) from Kd.V_mk ul264_2 ge264_2)
            clear hva_ hvn_ hvc_ ge264_2 ul264_2
            clear hcc264 hce264
            have HR264_2 := Aside0.mk hi264_2
            have HC264_2 := Aside0.mk hl264_2
            clear hi264_2 hl264_2
            replace p264 := eq_true p264
            replace q264 := eq_true q264
            go_wp2
            go_roundg k1
            case measure => have := HK1.out; omega
            case rel => exact ⟨(wrap64 (x6_1 + 1)), (x264001_1), (u264001), (by first | rfl | (simp; done) | (simp [*]; done)), H', ⟨by have := HK1.out; omega⟩, ⟨by (with_reducible repeat (first | apply Kd.V_alloc | apply Kd.V_drewN | apply Kd.V_drew)); exact HO_262001.out⟩, ⟨by (with_reducible repeat (first | apply Kd.N_alloc | apply Kd.N_drewN | apply Kd.N_drew)); exact HO_264001.out⟩, ⟨by (with_reducible repeat (first | refine blk_drewN ?_ _ | refine blk_drew ?_ | refine blk_alloc ?_ _)); exact BK261.out⟩, ⟨by (with_reducible repeat (first | refine blk_drewN ?_ _ | refine blk_drew ?_ | refine blk_alloc ?_ _)); exact BK262.out⟩, ⟨by (with_reducible repeat (first | refine blk_drewN ?_ _ | refine blk_drew ?_ | refine blk_alloc ?_ _)); exact BK263.out⟩, ⟨by repeat (first | (with_reducible first | exact HB.out | apply below_alloc | apply pw_below_drewN | apply below_drew1 | refine below_set ?_ GE261.out | refine below_set ?_ GE262.out | refine below_set ?_ GE263.out) | exact HB.out)⟩⟩
          · rw [if_neg c13] at H
            have c13b0 : (((rd_T29 l0_1 x6_1).f1) == a1) = false := beq_eq_false_iff_ne.mpr c13
            have c13b1 : (((rd_T29 l0_1 x6_1).f1) != a1) = true := bne_iff_ne.mpr c13
            by_cases c17 : x264001_1.length < 3518437208883
            · rw [if_pos c17] at H
              have LMc17 := Aside0.mk c17
              clear c17
              obtain ⟨y266, hy266⟩ : ∃ y_ : List (S29), y_ = (x264001_1 ++ [(⟨(rd_T29 l0_1 x6_1).f0, (rd_T29 l0_1 x6_1).f1, (rd_T29 l0_1 x6_1).f2⟩ : S29)]) := ⟨_, rfl⟩
              replace H : (lockgateref11_Cut.l0 k1 a1 (wrap64 (x6_1 + 1)) a0_0 l0_1 a0_0 y266) = some (r1, r2) := by first | (rw [hy266]; with_reducible exact H) | (have H2_ := (Option.bind_some _ _).symm.trans H; rw [hy266]; with_reducible exact H2_) | (have H2_ := (Option.bind_some _ _).symm.trans H; with_reducible exact H2_) | with_reducible exact H | (rw [hy266]; exact H) | exact H
              have Ny266 := Aside0.mk hy266
              clear hy266
              have H' := Aside0.mk H
              clear H
              have hnb18 := NB261_262.out
              have hnc18 := NB262_261.out
              have hnb19 := NB261_263.out
              have hnc19 := NB263_261.out
              have hcz20_0 : wr.cell? ⟨gb261, 0, none⟩ = some (.int .i64 a0_0) := (blk_cell BK261.out 0).trans rfl
              have hcz20_1 : wr.cell? ⟨gb261, 1, none⟩ = some (.slice A0_1 l0_1.length c0_1) := (blk_cell BK261.out 1).trans rfl
              have hfz20_0 := blk_frozen BK261.out 0
              have hfz20_1 := blk_frozen BK261.out 1
              have p264 : 0 ≤ (x6_1 : Int) := of_decide_eq_true (by first | (with_reducible assumption) | assumption)
              have q264 : x6_1 < (l0_1.length : Int) := of_decide_eq_true (by first | (with_reducible assumption) | assumption)
              obtain ⟨ad264, A264_2, c264_2, e264, hx264_0, hx264_1, hx264_2, hl264_2, hi264_2⟩ := at_T29 (Kd.V_reads' HO_262001.out).2.2 x6_1 p264 q264
              cases e264
              obtain ⟨ce264, hce264, hMe264, hcc264⟩ := Kd.V_get HO_262001.out z29 x6_1 p264 (by first | exact q264 | exact of_decide_eq_true (by first | (with_reducible assumption) | assumption) | (have e_ := (Kd.V_reads' HO_262001.out).1; omega))
              obtain ⟨ua264_2, uc264_2, rfl, ul264_2, ge264_2⟩ := k29_openF hMe264
              have hv264_2 := hcc264 2 _ rfl
              rw [add_field _ _ 2 (by omega)] at hv264_2
              replace hv264_2 := Option.some.inj (hv264_2.symm.trans hx264_2)
              injection hv264_2 with hva_ hvn_ hvc_
              rw [hva_] at ge264_2
              rw [hvc_] at ul264_2
              have HL264_2 := Aside0.mk (show Kd.V (Kd.int .u8) 5 _ w.heap.size _ _ ((rd_T29 l0_1 x6_1).f2) from Kd.V_mk ul264_2 ge264_2)
              clear hva_ hvn_ hvc_ ge264_2 ul264_2
              clear hcc264 hce264
              have HR264_2 := Aside0.mk hi264_2
              have HC264_2 := Aside0.mk hl264_2
              clear hi264_2 hl264_2
              replace p264 := eq_true p264
              replace q264 := eq_true q264
              try go_wp2
              have n0_ := Aside0.mk (Kd.V_drew HO_262001.out)
              have n1_ := Aside0.mk (Kd.N_drew HO_264001.out)
              have n2_ := Aside0.mk (Kd.V_drew HL264_2.out)
              have n3_ := Aside0.mk (blk_drew BK261.out)
              have n4_ := Aside0.mk (blk_drew BK262.out)
              have n5_ := Aside0.mk (blk_drew BK263.out)
              have n6_ := Aside0.mk (Kd.C_drew HR264_2.out)
              have n7_ := Aside0.mk (below_drew1 HB.out)
              clear HO_262001
              clear HO_264001
              clear HL264_2
              clear BK261
              clear BK262
              clear BK263
              clear HR264_2
              clear HB
              have HO_262001 := n0_
              have HO_264001 := n1_
              have HL264_2 := n2_
              have BK261 := n3_
              have BK262 := n4_
              have BK263 := n5_
              have HR264_2 := n6_
              have HB := n7_
              clear n0_ n1_ n2_ n3_ n4_ n5_ n6_ n7_
              have p265 : 0 ≤ (x6_1 : Int) := of_decide_eq_true (by first | (with_reducible assumption) | assumption)
              have q265 : x6_1 < (l0_1.length : Int) := of_decide_eq_true (by first | (with_reducible assumption) | assumption)
              obtain ⟨ad265, A265_2, c265_2, e265, hx265_0, hx265_1, hx265_2, hl265_2, hi265_2⟩ := at_T29 (Kd.V_reads' HO_262001.out).2.2 x6_1 p265 q265
              obtain rfl : ad264 = ad265 := (by injection e265)
              obtain ⟨ce265, hce265, hMe265, hcc265⟩ := Kd.V_get HO_262001.out z29 x6_1 p265 (by first | exact q265 | exact of_decide_eq_true (by first | (with_reducible assumption) | assumption) | (have e_ := (Kd.V_reads' HO_262001.out).1; omega))
              obtain ⟨ua265_2, uc265_2, rfl, ul265_2, ge265_2⟩ := k29_openF hMe265
              have hv265_2 := hcc265 2 _ rfl
              rw [add_field _ _ 2 (by omega)] at hv265_2
              replace hv265_2 := Option.some.inj (hv265_2.symm.trans hx265_2)
              injection hv265_2 with hva_ hvn_ hvc_
              rw [hva_] at ge265_2
              rw [hvc_] at ul265_2
              have HL265_2 := Aside0.mk (show Kd.V (Kd.int .u8) 5 _ w.heap.size _ _ ((rd_T29 l0_1 x6_1).f2) from Kd.V_mk ul265_2 ge265_2)
              clear hva_ hvn_ hvc_ ge265_2 ul265_2
              clear hcc265 hce265
              have HR265_2 := Aside0.mk hi265_2
              have HC265_2 := Aside0.mk hl265_2
              clear hi265_2 hl265_2
              replace p265 := eq_true p265
              replace q265 := eq_true q265
              refine start_ (n := 11) (S := fun w' => w'.cell? ⟨gb263, 0, none⟩ = some (.int .i64 a0_0) ∧ w'.cell? ⟨gb263, 1, none⟩ = some (u264001) ∧ w'.cell? ⟨gb261, 0, none⟩ = some (.int .i64 a0_0) ∧ w'.cell? ⟨gb261, 1, none⟩ = some (.slice (some ad264) l0_1.length c0_1) ∧ w'.cell? (ad264.add ((x6_1).toNat * 3)) = some (.int .i64 ((rd_T29 l0_1 x6_1).f0)) ∧ w'.cell? ⟨(ad264.add ((x6_1).toNat * 3)).block, (ad264.add ((x6_1).toNat * 3)).off + 1, none⟩ = some (.int .i64 ((rd_T29 l0_1 x6_1).f1)) ∧ w'.cell? ⟨(ad264.add ((x6_1).toNat * 3)).block, (ad264.add ((x6_1).toNat * 3)).off + 2, none⟩ = some (.slice A265_2 ((rd_T29 l0_1 x6_1).f2).length c265_2)) (ds := [8, 10]) #[false, false, false, false, false, false, false, false, false, false, false] (by kernel_rfl) rfl rfl ⟨(blk_cell BK263.out 0).trans rfl, (blk_cell BK263.out 1).trans rfl, (blk_cell BK261.out 0).trans rfl, (blk_cell BK261.out 1).trans rfl, hx265_0, hx265_1, hx265_2⟩ (fun hHeld => ?_); refine with_tabW lockgateref11_Cut.tab6 lockgateref11_Cut.bits6 (fun HT_ HW_ => ?_)
              generalize wr.drew = w21 at HO_262001 HO_264001 HL264_2 BK261 BK262 BK263 HR264_2 HB HL265_2 HR265_2 hx265_0 hx265_1 hx265_2 hHeld ⊢
              refine pure_ (i := 0) (N := some 25) (v := ?_) (a' := ?_) #[true, false, false, false, false, false, false, false, false, false, false] rfl rfl (any_of HT_.out (by kernel_rfl)) (fun _ _ _ h => h) (Or.inl ⟨by rfl, ?_⟩) ?_ ?_
              rotate_left
              · intro w'
                go_simp
                with_reducible rfl
              rotate_left
              · simp only [Act.put, List.setIfInBounds_toArray, List.set_cons_zero, List.set_cons_succ, i64_w, i32_w]
                rfl
              refine pure_ (i := 2) (N := some 27) (v := ?_) (a' := ?_) #[true, false, true, false, false, false, false, false, false, false, false] rfl rfl (any_of HT_.out (by kernel_rfl)) (fun _ _ _ h => h) (Or.inl ⟨by rfl, ?_⟩) ?_ ?_
              rotate_left
              · intro w'
                go_simp
                with_reducible rfl
              rotate_left
              · simp only [Act.put, List.setIfInBounds_toArray, List.set_cons_zero, List.set_cons_succ, i64_w, i32_w]
                rfl
              refine pure_ (i := 4) (N := some 29) (v := ?_) (a' := ?_) #[true, false, true, false, true, false, false, false, false, false, false] rfl rfl (any_of HT_.out (by kernel_rfl)) (fun _ _ _ h => h) (Or.inl ⟨by rfl, ?_⟩) ?_ ?_
              rotate_left
              · intro w'
                go_simp
                with_reducible rfl
              rotate_left
              · simp only [Act.put, List.setIfInBounds_toArray, List.set_cons_zero, List.set_cons_succ, i64_w, i32_w]
                rfl
              refine take_ (i := 1) (N := some 26) (v := ?_) (a' := ?_) #[true, true, true, false, true, false, false, false, false, false, false] rfl rfl (take_ofW HT_.out HW_.out (by kernel_rfl)) (fun _ _ _ h => h) (Or.inl ⟨by rfl, ?_⟩) hHeld ?_ ?_
              rotate_left
              · rintro w' ⟨s0, s1, s2, s3, s4, s5, s6⟩
                go_simp
                with_reducible rfl
              rotate_left
              · simp only [Act.put, List.setIfInBounds_toArray, List.set_cons_zero, List.set_cons_succ, i64_w, i32_w]
                rfl
              refine take_ (i := 3) (N := some 28) (v := ?_) (a' := ?_) #[true, true, true, true, true, false, false, false, false, false, false] rfl rfl (take_ofW HT_.out HW_.out (by kernel_rfl)) (fun _ _ _ h => h) (Or.inl ⟨by rfl, ?_⟩) hHeld ?_ ?_
              rotate_left
              · rintro w' ⟨s0, s1, s2, s3, s4, s5, s6⟩
                go_simp
                with_reducible rfl
              rotate_left
              · simp only [Act.put, List.setIfInBounds_toArray, List.set_cons_zero, List.set_cons_succ, i64_w, i32_w]
                rfl
              refine pure_ (i := 5) (N := some 30) (v := ?_) (a' := ?_) #[true, true, true, true, true, true, false, false, false, false, false] rfl rfl (any_of HT_.out (by kernel_rfl)) (fun _ _ _ h => h) (Or.inl ⟨by rfl, ?_⟩) ?_ ?_
              rotate_left
              · intro w'
                go_simp
                with_reducible rfl
              rotate_left
              · simp only [Act.put, List.setIfInBounds_toArray, List.set_cons_zero, List.set_cons_succ, i64_w, i32_w]
                rfl
              refine take_ (i := 6) (N := some 31) (v := ?_) (a' := ?_) #[true, true, true, true, true, true, true, false, false, false, false] rfl rfl (take_ofW HT_.out HW_.out (by kernel_rfl)) (fun _ _ _ h => h) (Or.inl ⟨by rfl, ?_⟩) hHeld ?_ ?_
              rotate_left
              · rintro w' ⟨s0, s1, s2, s3, s4, s5, s6⟩
                go_simp
                with_reducible rfl
              rotate_left
              · simp only [Act.put, List.setIfInBounds_toArray, List.set_cons_zero, List.set_cons_succ, i64_w, i32_w]
                rfl
              refine one_ (i := 7) (N := some 32) #[true, true, true, true, true, true, true, true, false, false, false] rfl rfl (one_of HT_.out (by kernel_rfl)) (by decide) (fun K hK => ?_)
              refine value_ (w1 := ?_) (v := ?_) (by rfl) rfl ?_ ?_
              rotate_left 2
              · go_simp
                constructor
                · rfl
                · rfl
              refine hK.out _ _ ⟨(blk_cell (blk_alloc BK263.out _) 0).trans rfl, (blk_cell (blk_alloc BK263.out _) 1).trans rfl, (blk_cell (blk_alloc BK261.out _) 0).trans rfl, (blk_cell (blk_alloc BK261.out _) 1).trans rfl, (World.cell?_alloc_lt _ _ _ (World.block_lt_of_cell? _ _ (hHeld.2.2.2.2.1))).trans (hHeld.2.2.2.2.1), (World.cell?_alloc_lt _ _ _ (World.block_lt_of_cell? _ _ (hHeld.2.2.2.2.2.1))).trans (hHeld.2.2.2.2.2.1), (World.cell?_alloc_lt _ _ _ (World.block_lt_of_cell? _ _ (hHeld.2.2.2.2.2.2))).trans (hHeld.2.2.2.2.2.2)⟩ (fun hHeld => ?_)
              clear hK K
              refine norm_ (a' := ?_) ?_ ?_
              rotate_left
              · show Act.put _ (some 32) _ = _
                simp only [Act.put, List.setIfInBounds_toArray, List.set_cons_zero, List.set_cons_succ, i64_w, i32_w]
                rfl
              refine last_ (i := 8) (N := some 33) #[true, true, true, true, true, true, true, true, true, false, false] rfl rfl (one_of HT_.out (by kernel_rfl)) (by decide) (fun K hK => ?_)
              refine Kd.N_append_step k29 (w0 := w) w.heap.size (by rfl) (.tmp 26) (.tmp 32) 22 29 (.agg #[(.int .i64 0), (.int .i64 0), (.slice none 0 0)]) 40 rfl Try.underlying22 info29 rfl (by decide) (by omega) u264001 x264001_1 (⟨(rd_T29 l0_1 x6_1).f0, (rd_T29 l0_1 x6_1).f1, (rd_T29 l0_1 x6_1).f2⟩ : S29) [.int .i64 ((rd_T29 l0_1 x6_1).f0), .int .i64 ((rd_T29 l0_1 x6_1).f1), .slice A265_2 ((rd_T29 l0_1 x6_1).f2).length c265_2] (fun k_ => (P0_1_ k_ ∨ w.heap.size ≤ k_) ∧ k_ ≠ gb261 ∧ k_ ≠ gb262 ∧ k_ ≠ gb263) (fun k_ => ((fun k_ => (P0_1_ k_ ∨ w.heap.size ≤ k_) ∧ k_ ≠ gb261 ∧ k_ ≠ gb262 ∧ k_ ≠ gb263)) k_ ∧ some k_ ≠ (u264001 : Value).ownBlock) rfl rfl ?aP (fun _ hk => hk) ?aF ?aO ?aB ?aS ?aL ?_
              (case aP => exact (k29_mkF _ _ (⟨(rd_T29 l0_1 x6_1).f0, (rd_T29 l0_1 x6_1).f1, (rd_T29 l0_1 x6_1).f2⟩ : S29) (Kd.V_reads' (Kd.V_mono (ok' := (fun k_ => ((fun k_ => (P0_1_ k_ ∨ w.heap.size ≤ k_) ∧ k_ ≠ gb261 ∧ k_ ≠ gb262 ∧ k_ ≠ gb263)) k_ ∧ some k_ ≠ (u264001 : Value).ownBlock)) (HL265_2.out) (fun k_ hk => ⟨⟨hk.1, ⟨hk.2.2.1, ⟨hk.2.2.2.1, hk.2.2.2.2⟩⟩⟩, hk.2.1⟩))).2.1 (Kd.V_F (Kd.V_mono (ok' := (fun k_ => ((fun k_ => (P0_1_ k_ ∨ w.heap.size ≤ k_) ∧ k_ ≠ gb261 ∧ k_ ≠ gb262 ∧ k_ ≠ gb263)) k_ ∧ some k_ ≠ (u264001 : Value).ownBlock)) (HL265_2.out) (fun k_ hk => ⟨⟨hk.1, ⟨hk.2.2.1, ⟨hk.2.2.2.1, hk.2.2.2.2⟩⟩⟩, hk.2.1⟩)))))
              (case aB => exact (by repeat (first | (with_reducible first | exact HB.out | apply below_alloc | apply pw_below_drewN | apply below_drew1 | refine below_set ?_ GE261.out | refine below_set ?_ GE262.out | refine below_set ?_ GE263.out) | exact HB.out)))
              (case aF => exact (fun k_ hk => ⟨(.inr (Nat.le_trans (below_size (by repeat (first | (with_reducible first | exact HB.out | apply below_alloc | apply pw_below_drewN | apply below_drew1 | refine below_set ?_ GE261.out | refine below_set ?_ GE262.out | refine below_set ?_ GE263.out) | exact HB.out))) hk)), Kd.freshB (g := gb261) (o := .cells #[.int .i64 a0_0, .slice (some ad264) l0_1.length c0_1] 24 (0, 0)) (by (with_reducible repeat (first | refine blk_drewN ?_ _ | refine blk_drew ?_ | refine blk_alloc ?_ _)); exact BK261.out) k_ hk, Kd.freshB (g := gb262) (o := .cells #[.int .i64 0, .slice none 0 0] 24 (0, 0)) (by (with_reducible repeat (first | refine blk_drewN ?_ _ | refine blk_drew ?_ | refine blk_alloc ?_ _)); exact BK262.out) k_ hk, Kd.freshB (g := gb263) (o := .cells #[.int .i64 a0_0, u264001] 24 (0, 0)) (by (with_reducible repeat (first | refine blk_drewN ?_ _ | refine blk_drew ?_ | refine blk_alloc ?_ _)); exact BK263.out) k_ hk⟩))
              (case aO => exact (by (with_reducible repeat (first | apply Kd.N_alloc | apply Kd.N_drewN | apply Kd.N_drew)); exact HO_264001.out))
              (case aS => exact (below_size (by repeat (first | (with_reducible first | exact HB.out | apply below_alloc | apply pw_below_drewN | apply below_drew1 | refine below_set ?_ GE261.out | refine below_set ?_ GE262.out | refine below_set ?_ GE263.out) | exact HB.out))))
              (case aL => have := LMc17.out; omega)
              intro v267 w22 ho hb hg hat
              rw [← Ny266.out] at ho
              have n0_ := Aside0.mk (Kd.V_afterv (ok := (fun k_ => (P0_1_ k_ ∨ w.heap.size ≤ k_) ∧ k_ ≠ gb261 ∧ k_ ≠ gb262 ∧ k_ ≠ gb263)) (by (with_reducible repeat (first | apply Kd.V_alloc | apply Kd.V_drewN | apply Kd.V_drew)); exact Kd.V_mono HO_262001.out (fun _ hk => ⟨⟨hk.1, ⟨hk.2.2.1, ⟨hk.2.2.2.1, hk.2.2.2.2⟩⟩⟩, hk.2.1⟩)) hg hat)
              have n1_ := Aside0.mk (blk_grown (g := gb261) (o := .cells #[.int .i64 a0_0, .slice (some ad264) l0_1.length c0_1] 24 (0, 0)) (by (with_reducible repeat (first | refine blk_drewN ?_ _ | refine blk_drew ?_ | refine blk_alloc ?_ _)); exact BK261.out) hg (Kd.N_ne HO_264001.out BK261.out (by decide)))
              have n2_ := Aside0.mk (blk_grown (g := gb262) (o := .cells #[.int .i64 0, .slice none 0 0] 24 (0, 0)) (by (with_reducible repeat (first | refine blk_drewN ?_ _ | refine blk_drew ?_ | refine blk_alloc ?_ _)); exact BK262.out) hg (Kd.N_ne HO_264001.out BK262.out (by decide)))
              have n3_ := Aside0.mk (blk_grown (g := gb263) (o := .cells #[.int .i64 a0_0, u264001] 24 (0, 0)) (by (with_reducible repeat (first | refine blk_drewN ?_ _ | refine blk_drew ?_ | refine blk_alloc ?_ _)); exact BK263.out) hg (Kd.N_ne HO_264001.out BK263.out (by decide)))
              have n4_ := Aside0.mk (Kd.V_afterv (ok := (fun k_ => (P0_1_ k_ ∨ w.heap.size ≤ k_) ∧ k_ ≠ gb261 ∧ k_ ≠ gb262 ∧ k_ ≠ gb263)) (by (with_reducible repeat (first | apply Kd.V_alloc | apply Kd.V_drewN | apply Kd.V_drew)); exact Kd.V_mono HL264_2.out (fun _ hk => ⟨⟨hk.1, ⟨hk.2.2.1, ⟨hk.2.2.2.1, hk.2.2.2.2⟩⟩⟩, hk.2.1⟩)) hg hat)
              have n5_ := Aside0.mk (Kd.V_afterv (ok := (fun k_ => (P0_1_ k_ ∨ w.heap.size ≤ k_) ∧ k_ ≠ gb261 ∧ k_ ≠ gb262 ∧ k_ ≠ gb263)) (by (with_reducible repeat (first | apply Kd.V_alloc | apply Kd.V_drewN | apply Kd.V_drew)); exact Kd.V_mono HL265_2.out (fun _ hk => ⟨⟨hk.1, ⟨hk.2.2.1, ⟨hk.2.2.2.1, hk.2.2.2.2⟩⟩⟩, hk.2.1⟩)) hg hat)
              have n6_ := Aside0.mk (hb)
              have n7_ := Aside0.mk (ho)
              clear HO_262001
              clear BK261
              clear BK262
              clear BK263
              clear HL264_2
              clear HL265_2
              clear HB
              clear HO_264001
              have HO_262001 := n0_
              have BK261 := n1_
              have BK262 := n2_
              have BK263 := n3_
              have HL264_2 := n4_
              have HL265_2 := n5_
              have HB := n6_
              have HO268 := n7_
              clear n0_ n1_ n2_ n3_ n4_ n5_ n6_ n7_
              clear ho hb hg hat
              obtain ⟨Ao23, co23, eo23⟩ := Kd.N_slice HO268.out
              (first | subst eo23 | (injection eo23 with f1_ f2_ f3_; have f4_ := f1_.symm; have f5_ := f3_.symm; clear f1_ f2_ f3_; subst f4_; subst f5_))
              refine hK.out _ _ ?_
              clear hK K
              refine norm_ (a' := ?_) ?_ ?_
              rotate_left
              · show Act.put _ (some 33) _ = _
                simp only [Act.put, List.setIfInBounds_toArray, List.set_cons_zero, List.set_cons_succ, i64_w, i32_w]
                rfl
              refine pure_ (i := 9) (N := some 34) (v := ?_) (a' := ?_) #[true, true, true, true, true, true, true, true, true, true, false] rfl rfl (any_of HT_.out (by kernel_rfl)) (fun _ _ _ h => h) (Or.inl ⟨by rfl, ?_⟩) ?_ ?_
              rotate_left
              · intro w'
                go_simp
                with_reducible rfl
              rotate_left
              · simp only [Act.put, List.setIfInBounds_toArray, List.set_cons_zero, List.set_cons_succ, i64_w, i32_w]
                rfl
              refine last_ (i := 10) (N := none) #[true, true, true, true, true, true, true, true, true, true, true] rfl rfl (one_of HT_.out (by kernel_rfl)) (by decide) (fun K hK => ?_)
              have hs24 : w22.cell? ⟨gb263, 1, none⟩ = some (u264001) := (blk_cell BK263.out 1).trans rfl
              have hfs24 := blk_frozen BK263.out 1
              have hns24_0 := NB261_263.out
              have hns24_1 := NB262_263.out
              have hms24_0 := NB263_261.out
              have hms24_1 := NB263_262.out
              refine skip_ (w1 := ?_) (by rfl) rfl ?_ ?_
              rotate_left
              · go_simp
                rfl
              refine hK.out _ _ ?_
              clear hK K
              refine done_ (done_of HT_.out (by kernel_rfl)) ?_
              try go_wp2
              go_roundg k1
              case measure => have := HK1.out; omega
              case rel => exact ⟨(wrap64 (x6_1 + 1)), (y266), (.slice Ao23 y266.length co23), (by first | rfl | (simp; done) | (simp [*]; done)), H', ⟨by have := HK1.out; omega⟩, ⟨by (with_reducible repeat (first | apply Kd.V_alloc | apply Kd.V_drewN | apply Kd.V_drew)); exact Kd.V_mono (Kd.V_far (p := ⟨gb263, 1, none⟩) (Kd.V_mono HO_262001.out (fun k_ hk => (⟨hk, hk.1.2.2.2⟩ : _ ∧ k_ ≠ gb263))) (fun _ hk => hk.2) (.slice Ao23 y266.length co23)) (fun _ hk => ⟨hk.1.1.1, ⟨hk.1.2, ⟨hk.1.1.2.1, ⟨hk.1.1.2.2.1, hk.1.1.2.2.2⟩⟩⟩⟩)⟩, ⟨by (with_reducible repeat (first | apply Kd.N_alloc | apply Kd.N_drewN | apply Kd.N_drew)); exact Kd.N_mono (Kd.N_far (p := ⟨gb263, 1, none⟩) (Kd.N_mono HO268.out (fun k_ hk => (⟨hk, hk.2.2.2⟩ : _ ∧ k_ ≠ gb263))) (fun _ hk => hk.2) (.slice Ao23 y266.length co23)) (fun _ hk => ⟨hk.1.1, ⟨hk.1.2.1, ⟨hk.1.2.2.1, hk.1.2.2.2⟩⟩⟩)⟩, ⟨by (with_reducible repeat (first | refine blk_drewN ?_ _ | refine blk_drew ?_ | refine blk_alloc ?_ _)); refine blk_far ?_ NB261_263.out _; (with_reducible repeat (first | refine blk_drewN ?_ _ | refine blk_drew ?_ | refine blk_alloc ?_ _)); exact BK261.out⟩, ⟨by (with_reducible repeat (first | refine blk_drewN ?_ _ | refine blk_drew ?_ | refine blk_alloc ?_ _)); refine blk_far ?_ NB262_263.out _; (with_reducible repeat (first | refine blk_drewN ?_ _ | refine blk_drew ?_ | refine blk_alloc ?_ _)); exact BK262.out⟩, ⟨by (with_reducible repeat (first | refine blk_drewN ?_ _ | refine blk_drew ?_ | refine blk_alloc ?_ _)); refine blk_put (cs := #[.int .i64 a0_0, u264001]) ?_ 1 _ rfl; (with_reducible repeat (first | refine blk_drewN ?_ _ | refine blk_drew ?_ | refine blk_alloc ?_ _)); exact BK263.out⟩, ⟨by repeat (first | (with_reducible first | exact HB.out | apply below_alloc | apply pw_below_drewN | apply below_drew1 | refine below_set ?_ GE261.out | refine below_set ?_ GE262.out | refine below_set ?_ GE263.out) | exact HB.out)⟩⟩
            · rw [if_neg c17] at H
              exact absurd H (by simp)
        · rw [if_neg c12] at H
          exact absurd H (by simp)
      · rw [if_neg c11] at H
        have c11b0 : decide (x6_1 < (l0_1.length : Int)) = false := decide_eq_false c11
        clear c11
        simp only [Option.some.injEq, Prod.mk.injEq] at H
        obtain ⟨rfl, rfl⟩ := H
        have hnb25 := NB261_262.out
        have hnc25 := NB262_261.out
        have hnb26 := NB261_263.out
        have hnc26 := NB263_261.out
        have hcz27_0 : wr.cell? ⟨gb261, 0, none⟩ = some (.int .i64 a0_0) := (blk_cell BK261.out 0).trans rfl
        have hcz27_1 : wr.cell? ⟨gb261, 1, none⟩ = some (.slice A0_1 l0_1.length c0_1) := (blk_cell BK261.out 1).trans rfl
        have hfz27_0 := blk_frozen BK261.out 0
        have hfz27_1 := blk_frozen BK261.out 1
        have hnb28 := NB263_262.out
        have hnc28 := NB262_263.out
        have hcz29_0 : wr.cell? ⟨gb263, 0, none⟩ = some (.int .i64 a0_0) := (blk_cell BK263.out 0).trans rfl
        have hcz29_1 : wr.cell? ⟨gb263, 1, none⟩ = some (u264001) := (blk_cell BK263.out 1).trans rfl
        have hfz29_0 := blk_frozen BK263.out 0
        have hfz29_1 := blk_frozen BK263.out 1
        have hcz30_0 : wr.cell? ⟨gb262, 0, none⟩ = some (.int .i64 0) := (blk_cell BK262.out 0).trans rfl
        have hcz30_1 : wr.cell? ⟨gb262, 1, none⟩ = some (.slice none 0 0) := (blk_cell BK262.out 1).trans rfl
        have hfz30_0 := blk_frozen BK262.out 0
        have hfz30_1 := blk_frozen BK262.out 1
        obtain ⟨Ao31, co31, eo31⟩ := Kd.N_slice HO_264001.out
        subst eo31
        go_wp2
        refine bodyPost_ret (results_cell_row rfl _ _ gb262 24 #[.int .i64 a0_0, .slice Ao31 x264001_1.length co31] (0, 0) _ rfl (by (with_reducible repeat (first | refine blk_drewN ?_ _ | refine blk_drew ?_ | refine blk_alloc ?_ _)); refine blk_put (cs := #[.int .i64 a0_0, .slice none 0 0]) ?_ 1 _ rfl; (with_reducible repeat (first | refine blk_drewN ?_ _ | refine blk_drew ?_ | refine blk_alloc ?_ _)); refine blk_put (cs := #[.int .i64 0, .slice none 0 0]) ?_ 0 _ rfl; (with_reducible repeat (first | refine blk_drewN ?_ _ | refine blk_drew ?_ | refine blk_alloc ?_ _)); exact BK262.out) Try.underlying24 rfl (by kernel_rfl)) rfl ?_
        exact ⟨_, by first | rfl | (simp [errW_none, errW_some] <;> rfl) | (simp [*, errW_none, errW_some] <;> rfl), by (with_reducible repeat (first | apply Kd.N_alloc | apply Kd.N_drewN | apply Kd.N_drew)); exact Kd.N_mono (Kd.N_far (p := ⟨gb262, 1, none⟩) (Kd.N_far (p := ⟨gb262, 0, none⟩) (Kd.N_mono HO_264001.out (fun k_ hk => (⟨hk, hk.2.2.1⟩ : _ ∧ k_ ≠ gb262))) (fun _ hk => hk.2) (.int .i64 a0_0)) (fun _ hk => hk.2) (.slice Ao31 x264001_1.length co31)) (fun _ hk => hk.1.1), by repeat (first | (with_reducible first | exact HB.out | apply below_alloc | apply pw_below_drewN | apply below_drew1 | refine below_set ?_ GE261.out | refine below_set ?_ GE262.out | refine below_set ?_ GE263.out) | exact HB.out)⟩

end Go.Proofs.Ytaphejpphlcchaa.PNet
