-- Written for this claim by the session's own driver of the kit's printer (mprint.py).
import Derived.Test.YtpagajgpcmonkaaPDiskx0
import Derived.Test.YtpagajgpcmonkaaPDiskx1
namespace Go.Proofs.Ytpagajgpcmonkaa.PDisk
open Go.RowKit Go.Proofs.YtpagajgpcmonkaaW.PrintWords Go.Proofs.YtpagajgpcmonkaaW.PrintLast Go.Proofs.YtpagajgpcmonkaaW.PrintMore
attribute [local go_sem] max2_int min2_int max_two min_two max_three min_three max_four min_four   -- for this text's walks alone
set_option linter.unusedVariables false
set_option linter.unusedSimpArgs false

/-! ### lockgateref07_Bytes: function 33 -/
mutual
def lockgateref07_Bytes.l0 : Nat → Int → List Int → Int → List (S39) → Int → Option (List Int × Int)
  | 0, _, _, _, _, _ => none
  | k + 1, x1, x6, x7, x8, x9 => if x9 < (x8.length : Int) then (if 0 ≤ x9 then (if ((rd_T39 x8 x9).f0) = 2 then (lockgateref07_Bytes.l0 k x1 x6 ((rd_T39 x8 x9).f1) x8 (wrap64 (x9 + 1))) else (if ((rd_T39 x8 x9).f1) = x1 then (lockgateref07_Bytes.j1 k x1 x6 x7 x8 x9 (((rd_T39 x8 x9).f0) == 1)) else (lockgateref07_Bytes.j1 k x1 x6 x7 x8 x9 false))) else (none)) else (some (x6, x7))
def lockgateref07_Bytes.j1 : Nat → Int → List Int → Int → List (S39) → Int → Bool → Option (List Int × Int)
  | 0, _, _, _, _, _, _ => none
  | k + 1, x1, x6, x7, x8, x9, x48 => if x48 = true then (lockgateref07_Bytes.l0 k x1 ([] : List Int) x7 x8 (wrap64 (x9 + 1))) else (if 0 ≤ x9 then (if x9 < (x8.length : Int) then (if ((rd_T39 x8 x9).f1) = x1 then (if x6.length + ((rd_T39 x8 x9).f2).length < 140737488355328 then (lockgateref07_Bytes.l0 k x1 (x6 ++ ((rd_T39 x8 x9).f2)) x7 x8 (wrap64 (x9 + 1))) else (none)) else (lockgateref07_Bytes.l0 k x1 x6 x7 x8 (wrap64 (x9 + 1)))) else (none)) else (none))
end
def lockgateref07_Bytes.f (k : Nat) (l0_0 : List (S39)) (l0_1 : List (S39)) (a0_2 : Int) (a0_3 : Bool) (a0_4 : Bool) (a1 : Int) : Option (List Int × Int) := (some (([] : List (S39)) : List (S39))).bind fun y119 => (if y119.length + l0_0.length < 2513169434916 then ((some (y119 ++ l0_0 : List (S39))).bind fun y122 => (if y122.length + l0_1.length < 2513169434916 then (lockgateref07_Bytes.l0 k a1 ([] : List Int) 0 (y122 ++ l0_1) 0) else (none))) else (none))
theorem lockgateref07_Bytes.mono_l : ∀ k, (∀ y0 y1 y2 y3 y4, LeO (lockgateref07_Bytes.l0 k y0 y1 y2 y3 y4) (lockgateref07_Bytes.l0 (k + 1) y0 y1 y2 y3 y4)) ∧ (∀ y0 y1 y2 y3 y4 y5, LeO (lockgateref07_Bytes.j1 k y0 y1 y2 y3 y4 y5) (lockgateref07_Bytes.j1 (k + 1) y0 y1 y2 y3 y4 y5))
  | 0 => ⟨fun _ _ _ _ _ r h => by simp [lockgateref07_Bytes.l0] at h, fun _ _ _ _ _ _ r h => by simp [lockgateref07_Bytes.j1] at h⟩
  | k + 1 => by
    obtain ⟨ih0, ih1⟩ := lockgateref07_Bytes.mono_l k
    refine ⟨?_, ?_⟩
    · intro y0 y1 y2 y3 y4
      unfold lockgateref07_Bytes.l0
      repeat' first
      | (with_reducible exact ih0 _ _ _ _ _)
      | (with_reducible exact ih1 _ _ _ _ _ _)
      | (with_reducible exact LeO.refl _)
      | (with_reducible exact LeO.none _)
      | (with_reducible refine LeO.ite ?_ ?_)
      | (with_reducible refine LeO.bind ?_ (fun _ => ?_))
      | exact ih0 _ _ _ _ _
      | exact ih1 _ _ _ _ _ _
      | exact LeO.none _
      | refine LeO.ite ?_ ?_
      | refine LeO.bind ?_ (fun _ => ?_)
    · intro y0 y1 y2 y3 y4 y5
      unfold lockgateref07_Bytes.j1
      repeat' first
      | (with_reducible exact ih0 _ _ _ _ _)
      | (with_reducible exact ih1 _ _ _ _ _ _)
      | (with_reducible exact LeO.refl _)
      | (with_reducible exact LeO.none _)
      | (with_reducible refine LeO.ite ?_ ?_)
      | (with_reducible refine LeO.bind ?_ (fun _ => ?_))
      | exact ih0 _ _ _ _ _
      | exact ih1 _ _ _ _ _ _
      | exact LeO.none _
      | refine LeO.ite ?_ ?_
      | refine LeO.bind ?_ (fun _ => ?_)
theorem lockgateref07_Bytes.mono : ∀ a0 a1 a2 a3 a4 a5 k, LeO (lockgateref07_Bytes.f k a0 a1 a2 a3 a4 a5) (lockgateref07_Bytes.f (k + 1) a0 a1 a2 a3 a4 a5) := by
  intro a0 a1 a2 a3 a4 a5 k
  obtain ⟨ih0, ih1⟩ := lockgateref07_Bytes.mono_l k
  unfold lockgateref07_Bytes.f
  repeat' first
      | (with_reducible exact ih0 _ _ _ _ _)
      | (with_reducible exact ih1 _ _ _ _ _ _)
      | (with_reducible exact LeO.refl _)
      | (with_reducible exact LeO.none _)
      | (with_reducible refine LeO.ite ?_ ?_)
      | (with_reducible refine LeO.bind ?_ (fun _ => ?_))
      | exact ih0 _ _ _ _ _
      | exact ih1 _ _ _ _ _ _
      | exact LeO.none _
      | refine LeO.ite ?_ ?_
      | refine LeO.bind ?_ (fun _ => ?_)
def lockgateref07_Bytes.T3 : Bool × List (List Nat × List Nat) := (true, [([], []), ([], []), ([1], [1]), ([0, 2], [0, 2]), ([], []), ([4], [4]), ([3, 5, 3], [3, 5]), ([6, 6, 0, 1, 2, 3, 4, 5, 6], [6])])
def lockgateref07_Bytes.B3 : List Nat := [0, 0, 2, 7, 0, 16, 63, 127]
theorem lockgateref07_Bytes.tab3 : rtab .any (opsOf Try.f33 3) = lockgateref07_Bytes.T3 := by kernel_rfl
theorem lockgateref07_Bytes.bits3 : waitsOk lockgateref07_Bytes.T3.2 lockgateref07_Bytes.B3 = true := by kernel_rfl
set_option maxHeartbeats 8000000 in
set_option maxRecDepth 100000 in
theorem lockgateref07_Bytes.calls (k : Nat) (P0_0_ : Nat → Prop) (A0_0 : Option Addr) (c0_0 : Nat) (l0_0 : List (S39)) (P0_1_ : Nat → Prop) (A0_1 : Option Addr) (c0_1 : Nat) (l0_1 : List (S39)) (a0_2 : Int) (a0_3 : Bool) (a0_4 : Bool) (a1 : Int) (r1 : List Int) (r2 : Int) (w : World) (hs0_0 : Kd.V k39 39 w w.heap.size (fun k_ => P0_0_ k_) (.slice A0_0 l0_0.length c0_0) l0_0) (hs0_1 : Kd.V k39 39 w w.heap.size (fun k_ => P0_1_ k_) (.slice A0_1 l0_1.length c0_1) l0_1) (h : lockgateref07_Bytes.f k l0_0 l0_1 a0_2 a0_3 a0_4 a1 = some (r1, r2)) :
    Calls Try.prog 33 #[.agg #[.slice A0_0 l0_0.length c0_0, .slice A0_1 l0_1.length c0_1, .int .i64 a0_2, .bool a0_3, .bool a0_4], .int .i64 a1] w fun e w' => ∃ v0_ : Value, e = .returned (.tuple #[v0_, .int .i64 r2]) ∧ Kd.R (Kd.int .u8) 5 w' w.heap.size (fun k_ => (w.heap.size ≤ k_)) v0_ r1 ∧ Below w.heap.size w w' := by
  have hu36 := Try.underlying36
  have HO0_0 := Aside0.mk (show Kd.V k39 39 w w.heap.size (fun k_ => ((P0_0_ k_ ∨ P0_1_ k_) ∨ w.heap.size ≤ k_)) (.slice A0_0 l0_0.length c0_0) l0_0 from Kd.V_mono hs0_0 (fun k_ hk => .inl (.inl hk)))
  have HO0_1 := Aside0.mk (show Kd.V k39 39 w w.heap.size (fun k_ => ((P0_0_ k_ ∨ P0_1_ k_) ∨ w.heap.size ≤ k_)) (.slice A0_1 l0_1.length c0_1) l0_1 from Kd.V_mono hs0_1 (fun k_ hk => .inl (.inr hk)))
  have HB := Aside0.mk (Below.refl w.heap.size w)
  have H : ((some (([] : List (S39)) : List (S39))).bind fun y119 => (if y119.length + l0_0.length < 2513169434916 then ((some (y119 ++ l0_0 : List (S39))).bind fun y122 => (if y122.length + l0_1.length < 2513169434916 then (lockgateref07_Bytes.l0 k a1 ([] : List Int) 0 (y122 ++ l0_1) 0) else (none))) else (none))) = some (r1, r2) := h
  clear h
  obtain ⟨y119, hy119⟩ : ∃ y_ : List (S39), y_ = (([] : List (S39))) := ⟨_, rfl⟩
  replace H : (if y119.length + l0_0.length < 2513169434916 then ((some (y119 ++ l0_0 : List (S39))).bind fun y122 => (if y122.length + l0_1.length < 2513169434916 then (lockgateref07_Bytes.l0 k a1 ([] : List Int) 0 (y122 ++ l0_1) 0) else (none))) else (none)) = some (r1, r2) := by first | (rw [hy119]; with_reducible exact H) | (have H2_ := (Option.bind_some _ _).symm.trans H; rw [hy119]; with_reducible exact H2_) | (have H2_ := (Option.bind_some _ _).symm.trans H; with_reducible exact H2_) | with_reducible exact H | (rw [hy119]; exact H) | exact H
  have Ny119 := Aside0.mk hy119
  clear hy119
  by_cases c3 : y119.length + l0_0.length < 2513169434916
  · rw [if_pos c3] at H
    have LMc3 := Aside0.mk c3
    clear c3
    obtain ⟨y122, hy122⟩ : ∃ y_ : List (S39), y_ = (y119 ++ l0_0) := ⟨_, rfl⟩
    replace H : (if y122.length + l0_1.length < 2513169434916 then (lockgateref07_Bytes.l0 k a1 ([] : List Int) 0 (y122 ++ l0_1) 0) else (none)) = some (r1, r2) := by first | (rw [hy122]; with_reducible exact H) | (have H2_ := (Option.bind_some _ _).symm.trans H; rw [hy122]; with_reducible exact H2_) | (have H2_ := (Option.bind_some _ _).symm.trans H; with_reducible exact H2_) | with_reducible exact H | (rw [hy122]; exact H) | exact H
    have Ny122 := Aside0.mk hy122
    clear hy122
    by_cases c4 : y122.length + l0_1.length < 2513169434916
    · rw [if_pos c4] at H
      have LMc4 := Aside0.mk c4
      clear c4
      obtain ⟨y125, hy125⟩ : ∃ y_ : List (S39), y_ = (y122 ++ l0_1) := ⟨_, rfl⟩
      replace H : (lockgateref07_Bytes.l0 k a1 ([] : List Int) 0 y125 0) = some (r1, r2) := by first | (rw [hy125]; with_reducible exact H) | (have H2_ := (Option.bind_some _ _).symm.trans H; rw [hy125]; with_reducible exact H2_) | (have H2_ := (Option.bind_some _ _).symm.trans H; with_reducible exact H2_) | with_reducible exact H | (rw [hy125]; exact H) | exact H
      have Ny125 := Aside0.mk hy125
      clear hy125
      have H' := Aside0.mk H
      clear H
      go_enter Try.func33, Try.ntmps33
      try go_wp2_with (first | ((with_reducible refine gate_dst (N := 2) rfl ?_); refine box_event ?hg (N := 2) ?hd (cs := #[.slice A0_0 l0_0.length c0_0, .slice A0_1 l0_1.length c0_1, .int .i64 a0_2, .bool a0_3, .bool a0_4]) (t := 36) ?hr ?_; (case hd => rfl); (case hg => rfl); (case hr => first | (go_simp; done) | (go_simp; rfl)); intro gb118 hg w5 hbox hb; have n0_ := Aside0.mk (Kd.V_below (Kd.V_elderB (by (with_reducible repeat (first | apply Kd.V_alloc | apply Kd.V_drewN | apply Kd.V_drew)); exact HO0_0.out) gb118 (Nat.le_of_eq hg.symm)) hb); have n1_ := Aside0.mk (Kd.V_below (Kd.V_elderB (by (with_reducible repeat (first | apply Kd.V_alloc | apply Kd.V_drewN | apply Kd.V_drew)); exact HO0_1.out) gb118 (Nat.le_of_eq hg.symm)) hb); have n2_ := Aside0.mk (below_step (by repeat (first | (with_reducible first | exact HB.out | apply below_alloc | apply pw_below_drewN | apply below_drew1) | exact HB.out)) hb); have n3_ := Aside0.mk (hbox); have n4_ := Aside0.mk ((by rw [hg]; exact (below_size (by repeat (first | (with_reducible first | exact HB.out | apply below_alloc | apply pw_below_drewN | apply below_drew1) | exact HB.out))) : w.heap.size ≤ gb118)); have n5_ := Aside0.mk ((by rw [hg]; exact (below_size (by repeat (first | (with_reducible first | exact HB.out | apply below_alloc | apply pw_below_drewN | apply below_drew1) | exact HB.out))) : w.heap.size ≤ gb118)); clear HO0_0; clear HO0_1; clear HB; have HO0_0 := n0_; have HO0_1 := n1_; have HB := n2_; have BK118 := n3_; have GW118 := n4_; have GE118 := n5_; clear n0_ n1_ n2_ n3_ n4_ n5_; clear hb hbox hg))
      have n0_ := Aside0.mk (Kd.V_drew HO0_0.out)
      have n1_ := Aside0.mk (Kd.V_drew HO0_1.out)
      have n2_ := Aside0.mk (blk_drew BK118.out)
      have n3_ := Aside0.mk (below_drew1 HB.out)
      clear HO0_0
      clear HO0_1
      clear BK118
      clear HB
      have HO0_0 := n0_
      have HO0_1 := n1_
      have BK118 := n2_
      have HB := n3_
      clear n0_ n1_ n2_ n3_
      refine start_ (n := 8) (S := fun w' => w'.cell? ⟨gb118, 0, none⟩ = some (.slice A0_0 l0_0.length c0_0) ∧ w'.cell? ⟨gb118, 1, none⟩ = some (.slice A0_1 l0_1.length c0_1) ∧ w'.cell? ⟨gb118, 2, none⟩ = some (.int .i64 a0_2) ∧ w'.cell? ⟨gb118, 3, none⟩ = some (.bool a0_3) ∧ w'.cell? ⟨gb118, 4, none⟩ = some (.bool a0_4)) (ds := []) #[false, false, false, false, false, false, false, false] (by kernel_rfl) rfl rfl ⟨(blk_cell BK118.out 0).trans rfl, (blk_cell BK118.out 1).trans rfl, (blk_cell BK118.out 2).trans rfl, (blk_cell BK118.out 3).trans rfl, (blk_cell BK118.out 4).trans rfl⟩ (fun hHeld => ?_); refine with_tabW lockgateref07_Bytes.tab3 lockgateref07_Bytes.bits3 (fun HT_ HW_ => ?_)
      generalize w5.drew = w6 at HO0_0 HO0_1 BK118 HB hHeld ⊢
      refine pure_ (i := 1) (N := some 11) (v := ?_) (a' := ?_) #[false, true, false, false, false, false, false, false] rfl rfl (any_of HT_.out (by kernel_rfl)) (fun _ _ _ h => h) (Or.inl ⟨by rfl, ?_⟩) ?_ ?_
      rotate_left
      · intro w'
        go_simp
        with_reducible rfl
      rotate_left
      · simp only [Act.put, List.setIfInBounds_toArray, List.set_cons_zero, List.set_cons_succ, i64_w, i32_w]
        rfl
      refine pure_ (i := 4) (N := some 14) (v := ?_) (a' := ?_) #[false, true, false, false, true, false, false, false] rfl rfl (any_of HT_.out (by kernel_rfl)) (fun _ _ _ h => h) (Or.inl ⟨by rfl, ?_⟩) ?_ ?_
      rotate_left
      · intro w'
        go_simp
        with_reducible rfl
      rotate_left
      · simp only [Act.put, List.setIfInBounds_toArray, List.set_cons_zero, List.set_cons_succ, i64_w, i32_w]
        rfl
      refine take_ (i := 2) (N := some 12) (v := ?_) (a' := ?_) #[false, true, true, false, true, false, false, false] rfl rfl (take_ofW HT_.out HW_.out (by kernel_rfl)) (fun _ _ _ h => h) (Or.inl ⟨by rfl, ?_⟩) hHeld ?_ ?_
      rotate_left
      · rintro w' ⟨s0, s1, s2, s3, s4⟩
        go_simp
        with_reducible rfl
      rotate_left
      · simp only [Act.put, List.setIfInBounds_toArray, List.set_cons_zero, List.set_cons_succ, i64_w, i32_w]
        rfl
      refine take_ (i := 5) (N := some 15) (v := ?_) (a' := ?_) #[false, true, true, false, true, true, false, false] rfl rfl (take_ofW HT_.out HW_.out (by kernel_rfl)) (fun _ _ _ h => h) (Or.inl ⟨by rfl, ?_⟩) hHeld ?_ ?_
      rotate_left
      · rintro w' ⟨s0, s1, s2, s3, s4⟩
        go_simp
        with_reducible rfl
      rotate_left
      · simp only [Act.put, List.setIfInBounds_toArray, List.set_cons_zero, List.set_cons_succ, i64_w, i32_w]
        rfl
      refine one_ (i := 0) (N := some 10) #[true, true, true, false, true, true, false, false] rfl rfl (one_of HT_.out (by kernel_rfl)) (by decide) (fun K hK => ?_)
      refine Kd.N_lit_step k39 _ 39 ?hg (N' := 10) ?hd (xs := ([] : List (S39))) (inner := []) (ok := (fun k_ => ((P0_0_ k_ ∨ P0_1_ k_) ∨ w.heap.size ≤ k_) ∧ k_ ≠ gb118)) (okp := (fun k_ => ((P0_0_ k_ ∨ P0_1_ k_) ∨ w.heap.size ≤ k_) ∧ k_ ≠ gb118)) ?hr ?hp (fun _ hk => hk) ((show ∀ k_, w6.heap.size ≤ k_ → (fun k_ => ((P0_0_ k_ ∨ P0_1_ k_) ∨ w.heap.size ≤ k_) ∧ k_ ≠ gb118) k_ from fun k_ hk => ⟨(.inr (Nat.le_trans (below_size (by repeat (first | (with_reducible first | exact HB.out | apply below_alloc | apply pw_below_drewN | apply below_drew1 | refine below_set ?_ GE118.out) | exact HB.out))) hk)), Kd.freshB (g := gb118) (o := .cells #[.slice A0_0 l0_0.length c0_0, .slice A0_1 l0_1.length c0_1, .int .i64 a0_2, .bool a0_3, .bool a0_4] 36 (0, 0)) (by (with_reducible repeat (first | refine blk_drewN ?_ _ | refine blk_drew ?_ | refine blk_alloc ?_ _)); exact BK118.out) k_ hk⟩) _ (Nat.le_refl _)) (Below.refl _ _) (Nat.le_refl _) (by simp) ?_; (case hd => rfl); (case hg => rfl); (case hr => first | (go_simp; done) | (go_simp; rfl)); (case hp => exact (Reps.none _ _))
      intro v120 w7 ho8 hb hg_ hnew_
      clear hg_ hnew_
      (first | rw [← Ny119.out] at ho8 | (simp only [Int.reduceToNat] at ho8; rw [← Ny119.out] at ho8))
      have n0_ := Aside0.mk (Kd.V_elder' (by (with_reducible repeat (first | apply Kd.V_alloc | apply Kd.V_drewN | apply Kd.V_drew)); exact HO0_0.out) (Kd.N_base ho8) hb)
      have n1_ := Aside0.mk (Kd.V_elder' (by (with_reducible repeat (first | apply Kd.V_alloc | apply Kd.V_drewN | apply Kd.V_drew)); exact HO0_1.out) (Kd.N_base ho8) hb)
      have n2_ := Aside0.mk (Kd.N_lower ho8 (below_size (by repeat (first | (with_reducible first | exact HB.out | apply below_alloc | apply pw_below_drewN | apply below_drew1 | refine below_set ?_ GE118.out) | exact HB.out))))
      have n3_ := Aside0.mk (blk_below (g := gb118) (o := .cells #[.slice A0_0 l0_0.length c0_0, .slice A0_1 l0_1.length c0_1, .int .i64 a0_2, .bool a0_3, .bool a0_4] 36 (0, 0)) (by (with_reducible repeat (first | refine blk_drewN ?_ _ | refine blk_drew ?_ | refine blk_alloc ?_ _)); exact BK118.out) hb)
      have n4_ := Aside0.mk (below_step (by repeat (first | (with_reducible first | exact HB.out | apply below_alloc | apply pw_below_drewN | apply below_drew1 | refine below_set ?_ GE118.out) | exact HB.out)) hb)
      clear HO0_0
      clear HO0_1
      clear BK118
      clear HB
      have HO0_0 := n0_
      have HO0_1 := n1_
      have HO121 := n2_
      have BK118 := n3_
      have HB := n4_
      clear n0_ n1_ n2_ n3_ n4_
      clear hb ho8
      refine hK.out _ _ ⟨(blk_cell BK118.out 0).trans rfl, (blk_cell BK118.out 1).trans rfl, (blk_cell BK118.out 2).trans rfl, (blk_cell BK118.out 3).trans rfl, (blk_cell BK118.out 4).trans rfl⟩ (fun hHeld => ?_)
      clear hK K
      refine norm_ (a' := ?_) ?_ ?_
      rotate_left
      · show Act.put _ (some 10) _ = _
        simp only [Act.put, List.setIfInBounds_toArray, List.set_cons_zero, List.set_cons_succ, i64_w, i32_w]
        rfl
      refine one_ (i := 3) (N := some 13) #[true, true, true, true, true, true, false, false] rfl rfl (one_of HT_.out (by kernel_rfl)) (by decide) (fun K hK => ?_)
      refine Kd.N_append_rows_step k39 (w0 := w) w.heap.size (by rfl) (.tmp 10) (.tmp 12) 33 39 (.agg #[(.int .u8 0), (.int .i64 0), (.slice none 0 0), (.int .i64 0), (.int .i64 0)]) 56 rfl Try.underlying33 info39 rfl (by decide) (by omega) v120 y119 l0_0 _ _ _ (fun k_ => ((P0_0_ k_ ∨ P0_1_ k_) ∨ w.heap.size ≤ k_) ∧ k_ ≠ gb118) (fun k_ => ((fun k_ => ((P0_0_ k_ ∨ P0_1_ k_) ∨ w.heap.size ≤ k_) ∧ k_ ≠ gb118)) k_ ∧ some k_ ≠ (v120 : Value).ownBlock) rfl rfl ?aO ?aR (fun _ hk => hk) ?aF ?aB ?aS ?aL ?_
      (case aR => exact (by skip; exact Kd.V_F (Kd.V_mono (ok' := (fun k_ => ((fun k_ => ((P0_0_ k_ ∨ P0_1_ k_) ∨ w.heap.size ≤ k_) ∧ k_ ≠ gb118)) k_ ∧ some k_ ≠ (v120 : Value).ownBlock)) (HO0_0.out) (fun k_ hk => ⟨⟨hk.1.1, hk.1.2⟩, hk.2⟩))))
      (case aB => exact (by repeat (first | (with_reducible first | exact HB.out | apply below_alloc | apply pw_below_drewN | apply below_drew1 | refine below_set ?_ GE118.out) | exact HB.out)))
      (case aF => exact (fun k_ hk => ⟨(.inr (Nat.le_trans (below_size (by repeat (first | (with_reducible first | exact HB.out | apply below_alloc | apply pw_below_drewN | apply below_drew1 | refine below_set ?_ GE118.out) | exact HB.out))) hk)), Kd.freshB (g := gb118) (o := .cells #[.slice A0_0 l0_0.length c0_0, .slice A0_1 l0_1.length c0_1, .int .i64 a0_2, .bool a0_3, .bool a0_4] 36 (0, 0)) (by (with_reducible repeat (first | refine blk_drewN ?_ _ | refine blk_drew ?_ | refine blk_alloc ?_ _)); exact BK118.out) k_ hk⟩))
      (case aO => exact (by (with_reducible repeat (first | apply Kd.N_alloc | apply Kd.N_drewN | apply Kd.N_drew)); exact HO121.out))
      (case aS => exact (below_size (by repeat (first | (with_reducible first | exact HB.out | apply below_alloc | apply pw_below_drewN | apply below_drew1 | refine below_set ?_ GE118.out) | exact HB.out))))
      (case aL => have := LMc3.out; omega)
      intro v123 w9 ho hb hg hat
      rw [← Ny122.out] at ho
      have n0_ := Aside0.mk (Kd.V_afterv (ok := (fun k_ => ((P0_0_ k_ ∨ P0_1_ k_) ∨ w.heap.size ≤ k_) ∧ k_ ≠ gb118)) (by (with_reducible repeat (first | apply Kd.V_alloc | apply Kd.V_drewN | apply Kd.V_drew)); exact HO0_0.out) hg hat)
      have n1_ := Aside0.mk (Kd.V_afterv (ok := (fun k_ => ((P0_0_ k_ ∨ P0_1_ k_) ∨ w.heap.size ≤ k_) ∧ k_ ≠ gb118)) (by (with_reducible repeat (first | apply Kd.V_alloc | apply Kd.V_drewN | apply Kd.V_drew)); exact HO0_1.out) hg hat)
      have n2_ := Aside0.mk (blk_grown (g := gb118) (o := .cells #[.slice A0_0 l0_0.length c0_0, .slice A0_1 l0_1.length c0_1, .int .i64 a0_2, .bool a0_3, .bool a0_4] 36 (0, 0)) (by (with_reducible repeat (first | refine blk_drewN ?_ _ | refine blk_drew ?_ | refine blk_alloc ?_ _)); exact BK118.out) hg (Kd.N_ne HO121.out BK118.out (by decide)))
      have n3_ := Aside0.mk (hb)
      have n4_ := Aside0.mk (ho)
      clear HO0_0
      clear HO0_1
      clear BK118
      clear HB
      clear HO121
      have HO0_0 := n0_
      have HO0_1 := n1_
      have BK118 := n2_
      have HB := n3_
      have HO124 := n4_
      clear n0_ n1_ n2_ n3_ n4_
      clear ho hb hg hat
      refine hK.out _ _ ⟨(blk_cell BK118.out 0).trans rfl, (blk_cell BK118.out 1).trans rfl, (blk_cell BK118.out 2).trans rfl, (blk_cell BK118.out 3).trans rfl, (blk_cell BK118.out 4).trans rfl⟩ (fun hHeld => ?_)
      clear hK K
      refine norm_ (a' := ?_) ?_ ?_
      rotate_left
      · show Act.put _ (some 13) _ = _
        simp only [Act.put, List.setIfInBounds_toArray, List.set_cons_zero, List.set_cons_succ, i64_w, i32_w]
        rfl
      refine one_ (i := 6) (N := some 16) #[true, true, true, true, true, true, true, false] rfl rfl (one_of HT_.out (by kernel_rfl)) (by decide) (fun K hK => ?_)
      refine Kd.N_append_rows_step k39 (w0 := w) w.heap.size (by rfl) (.tmp 13) (.tmp 15) 33 39 (.agg #[(.int .u8 0), (.int .i64 0), (.slice none 0 0), (.int .i64 0), (.int .i64 0)]) 56 rfl Try.underlying33 info39 rfl (by decide) (by omega) v123 y122 l0_1 _ _ _ (fun k_ => ((P0_0_ k_ ∨ P0_1_ k_) ∨ w.heap.size ≤ k_) ∧ k_ ≠ gb118) (fun k_ => ((fun k_ => ((P0_0_ k_ ∨ P0_1_ k_) ∨ w.heap.size ≤ k_) ∧ k_ ≠ gb118)) k_ ∧ some k_ ≠ (v123 : Value).ownBlock) rfl rfl ?aO ?aR (fun _ hk => hk) ?aF ?aB ?aS ?aL ?_
      (case aR => exact (by skip; exact Kd.V_F (Kd.V_mono (ok' := (fun k_ => ((fun k_ => ((P0_0_ k_ ∨ P0_1_ k_) ∨ w.heap.size ≤ k_) ∧ k_ ≠ gb118)) k_ ∧ some k_ ≠ (v123 : Value).ownBlock)) (HO0_1.out) (fun k_ hk => ⟨⟨hk.1.1, hk.1.2⟩, hk.2⟩))))
      (case aB => exact (by repeat (first | (with_reducible first | exact HB.out | apply below_alloc | apply pw_below_drewN | apply below_drew1 | refine below_set ?_ GE118.out) | exact HB.out)))
      (case aF => exact (fun k_ hk => ⟨(.inr (Nat.le_trans (below_size (by repeat (first | (with_reducible first | exact HB.out | apply below_alloc | apply pw_below_drewN | apply below_drew1 | refine below_set ?_ GE118.out) | exact HB.out))) hk)), Kd.freshB (g := gb118) (o := .cells #[.slice A0_0 l0_0.length c0_0, .slice A0_1 l0_1.length c0_1, .int .i64 a0_2, .bool a0_3, .bool a0_4] 36 (0, 0)) (by (with_reducible repeat (first | refine blk_drewN ?_ _ | refine blk_drew ?_ | refine blk_alloc ?_ _)); exact BK118.out) k_ hk⟩))
      (case aO => exact (by (with_reducible repeat (first | apply Kd.N_alloc | apply Kd.N_drewN | apply Kd.N_drew)); exact HO124.out))
      (case aS => exact (below_size (by repeat (first | (with_reducible first | exact HB.out | apply below_alloc | apply pw_below_drewN | apply below_drew1 | refine below_set ?_ GE118.out) | exact HB.out))))
      (case aL => have := LMc4.out; omega)
      intro v126 w10 ho hb hg hat
      rw [← Ny125.out] at ho
      have n0_ := Aside0.mk (Kd.V_afterv (ok := (fun k_ => ((P0_0_ k_ ∨ P0_1_ k_) ∨ w.heap.size ≤ k_) ∧ k_ ≠ gb118)) (by (with_reducible repeat (first | apply Kd.V_alloc | apply Kd.V_drewN | apply Kd.V_drew)); exact HO0_0.out) hg hat)
      have n1_ := Aside0.mk (Kd.V_afterv (ok := (fun k_ => ((P0_0_ k_ ∨ P0_1_ k_) ∨ w.heap.size ≤ k_) ∧ k_ ≠ gb118)) (by (with_reducible repeat (first | apply Kd.V_alloc | apply Kd.V_drewN | apply Kd.V_drew)); exact HO0_1.out) hg hat)
      have n2_ := Aside0.mk (blk_grown (g := gb118) (o := .cells #[.slice A0_0 l0_0.length c0_0, .slice A0_1 l0_1.length c0_1, .int .i64 a0_2, .bool a0_3, .bool a0_4] 36 (0, 0)) (by (with_reducible repeat (first | refine blk_drewN ?_ _ | refine blk_drew ?_ | refine blk_alloc ?_ _)); exact BK118.out) hg (Kd.N_ne HO124.out BK118.out (by decide)))
      have n3_ := Aside0.mk (hb)
      have n4_ := Aside0.mk (ho)
      clear HO0_0
      clear HO0_1
      clear BK118
      clear HB
      clear HO124
      have HO0_0 := n0_
      have HO0_1 := n1_
      have BK118 := n2_
      have HB := n3_
      have HO127 := n4_
      clear n0_ n1_ n2_ n3_ n4_
      clear ho hb hg hat
      refine hK.out _ _ ⟨(blk_cell BK118.out 0).trans rfl, (blk_cell BK118.out 1).trans rfl, (blk_cell BK118.out 2).trans rfl, (blk_cell BK118.out 3).trans rfl, (blk_cell BK118.out 4).trans rfl⟩ (fun hHeld => ?_)
      clear hK K
      refine norm_ (a' := ?_) ?_ ?_
      rotate_left
      · show Act.put _ (some 16) _ = _
        simp only [Act.put, List.setIfInBounds_toArray, List.set_cons_zero, List.set_cons_succ, i64_w, i32_w]
        rfl
      refine pure_ (i := 7) (N := some 8) (v := ?_) (a' := ?_) #[true, true, true, true, true, true, true, true] rfl rfl (any_of HT_.out (by kernel_rfl)) (fun _ _ _ h => h) (Or.inl ⟨by rfl, ?_⟩) ?_ ?_
      rotate_left
      · intro w'
        go_simp
        with_reducible rfl
      rotate_left
      · simp only [Act.put, List.setIfInBounds_toArray, List.set_cons_zero, List.set_cons_succ, i64_w, i32_w]
        rfl
      refine done_ (done_of HT_.out (by kernel_rfl)) ?_
      try go_wp2
      go_loopg [6, 7, 9] k (fun kq v6 v7 v9 w' => ∃ (x6_1 : List Int) (x7_1 : Int) (x9_1 : Int), v7 = .int .i64 x7_1 ∧ v9 = .int .i64 x9_1 ∧ Aside0 (lockgateref07_Bytes.l0 kq a1 x6_1 x7_1 y125 x9_1 = some (r1, r2)) ∧ Aside0 (kq ≤ k) ∧ Aside0 (Kd.R (Kd.int .u8) 5 w' w.heap.size (fun k_ => (w.heap.size ≤ k_)) v6 x6_1) ∧ Aside0 (Kd.N k39 39 w' w.heap.size (fun k_ => ((P0_0_ k_ ∨ P0_1_ k_) ∨ w.heap.size ≤ k_) ∧ some k_ ≠ (v6 : Value).ownBlock ∧ k_ ≠ gb118) v126 y125) ∧ Aside0 (Kd.V k39 39 w' w.heap.size (fun k_ => ((P0_0_ k_ ∨ P0_1_ k_) ∨ w.heap.size ≤ k_) ∧ some k_ ≠ (v6 : Value).ownBlock ∧ some k_ ≠ (v126 : Value).ownBlock ∧ k_ ≠ gb118) (.slice A0_0 l0_0.length c0_0) l0_0) ∧ Aside0 (Kd.V k39 39 w' w.heap.size (fun k_ => ((P0_0_ k_ ∨ P0_1_ k_) ∨ w.heap.size ≤ k_) ∧ some k_ ≠ (v6 : Value).ownBlock ∧ some k_ ≠ (v126 : Value).ownBlock ∧ k_ ≠ gb118) (.slice A0_1 l0_1.length c0_1) l0_1) ∧ Aside0 (w'.heap[gb118]? = some (.cells #[(.slice A0_0 l0_0.length c0_0), (.slice A0_1 l0_1.length c0_1), .int .i64 a0_2, .bool a0_3, .bool a0_4] 36 (0, 0))) ∧ Aside0 (Below w.heap.size w w'))
      case atStart => exact ⟨(([] : List Int)), (0), (0), (by first | rfl | (simp; done) | (simp [*]; done)), (by first | rfl | (simp; done) | (simp [*]; done)), H', ⟨Nat.le_refl _⟩, ⟨by first | exact Kd.R_nil _ _ _ _ _ | exact Kd.N_nil _ _ _ _ _ | exact Kd.V_nil _ _ _ _ _ | exact Kd.Q_nil _ _ _ _ _ | exact Kd.S_nil _ _ _ _ _⟩, ⟨by (with_reducible repeat (first | apply Kd.N_alloc | apply Kd.N_drewN | apply Kd.N_drew)); exact Kd.N_mono HO127.out (fun _ hk => ⟨hk.1, ⟨(by simp [Value.ownBlock]), hk.2⟩⟩)⟩, ⟨by (with_reducible repeat (first | apply Kd.V_alloc | apply Kd.V_drewN | apply Kd.V_drew)); exact Kd.V_mono HO0_0.out (fun _ hk => ⟨hk.1.1, ⟨(by simp [Value.ownBlock]), ⟨hk.2, hk.1.2⟩⟩⟩)⟩, ⟨by (with_reducible repeat (first | apply Kd.V_alloc | apply Kd.V_drewN | apply Kd.V_drew)); exact Kd.V_mono HO0_1.out (fun _ hk => ⟨hk.1.1, ⟨(by simp [Value.ownBlock]), ⟨hk.2, hk.1.2⟩⟩⟩)⟩, ⟨by (with_reducible repeat (first | refine blk_drewN ?_ _ | refine blk_drew ?_ | refine blk_alloc ?_ _)); exact BK118.out⟩, ⟨by repeat (first | (with_reducible first | exact HB.out | apply below_alloc | apply pw_below_drewN | apply below_drew1 | refine below_set ?_ GE118.out) | exact HB.out)⟩⟩
      case round =>
        clear H'
        try clear p2
        try clear c3
        try clear c4
        obtain ⟨x6_1, x7_1, x9_1, rfl, rfl, HA, HK1, HO_6, HO_8, HO_119000, HO_119001, BK118, HB⟩ := hrel
        cases gk with
        | zero => exact absurd HA.out (by simp [lockgateref07_Bytes.l0])
        | succ k1 =>
          have H := HA.out
          clear HA
          simp only [lockgateref07_Bytes.l0] at H
          by_cases c11 : x9_1 < (y125.length : Int)
          · rw [if_pos c11] at H
            have c11b0 : decide (x9_1 < (y125.length : Int)) = true := decide_eq_true c11
            clear c11
            by_cases c12 : 0 ≤ x9_1
            · rw [if_pos c12] at H
              have c12b0 : decide (0 ≤ x9_1) = true := decide_eq_true c12
              clear c12
              by_cases c13 : ((rd_T39 y125 x9_1).f0) = 2
              · rw [if_pos c13] at H
                have c13b0 : (((rd_T39 y125 x9_1).f0) == 2) = true := beq_iff_eq.mpr c13
                have c13b1 : (((rd_T39 y125 x9_1).f0) != 2) = false := bne_eq_false_iff_eq.mpr c13
                clear c13
                have H' := Aside0.mk H
                clear H
                obtain ⟨Ao14, co14, eo14⟩ := Kd.N_slice HO_8.out
                subst eo14
                have p128 : 0 ≤ (x9_1 : Int) := of_decide_eq_true (by first | (with_reducible assumption) | assumption)
                have q128 : x9_1 < (y125.length : Int) := of_decide_eq_true (by first | (with_reducible assumption) | assumption)
                obtain ⟨ad128, A128_2, c128_2, e128, hx128_0, hx128_1, hx128_2, hx128_3, hx128_4, hl128_2, hi128_2⟩ := at_T39 (Kd.N_reads' HO_8.out).2.2 x9_1 p128 q128
                cases e128
                obtain ⟨ce128, hce128, hMe128, hcc128⟩ := Kd.N_get HO_8.out z39 x9_1 p128 (by first | exact q128 | exact of_decide_eq_true (by first | (with_reducible assumption) | assumption) | (have e_ := (Kd.N_reads' HO_8.out).1; omega))
                obtain ⟨ua128_2, uc128_2, rfl, ul128_2, ge128_2⟩ := k39_openF hMe128
                have hv128_2 := hcc128 2 _ rfl
                rw [add_field _ _ 2 (by omega)] at hv128_2
                replace hv128_2 := Option.some.inj (hv128_2.symm.trans hx128_2)
                injection hv128_2 with hva_ hvn_ hvc_
                rw [hva_] at ge128_2
                rw [hvc_] at ul128_2
                have HL128_2 := Aside0.mk (show Kd.V (Kd.int .u8) 5 _ w.heap.size _ _ ((rd_T39 y125 x9_1).f2) from Kd.V_mk ul128_2 ge128_2)
                clear hva_ hvn_ hvc_ ge128_2 ul128_2
                clear hcc128 hce128
                have HR128_2 := Aside0.mk hi128_2
                have HC128_2 := Aside0.mk hl128_2
                clear hi128_2 hl128_2
                replace p128 := eq_true p128
                replace q128 := eq_true q128
                have p129 : 0 ≤ (x9_1 : Int) := of_decide_eq_true (by first | (with_reducible assumption) | assumption)
                have q129 : x9_1 < (y125.length : Int) := of_decide_eq_true (by first | (with_reducible assumption) | assumption)
                obtain ⟨ad129, A129_2, c129_2, e129, hx129_0, hx129_1, hx129_2, hx129_3, hx129_4, hl129_2, hi129_2⟩ := at_T39 (Kd.N_reads' HO_8.out).2.2 x9_1 p129 q129
                obtain rfl : ad128 = ad129 := (by injection e129)
                obtain ⟨ce129, hce129, hMe129, hcc129⟩ := Kd.N_get HO_8.out z39 x9_1 p129 (by first | exact q129 | exact of_decide_eq_true (by first | (with_reducible assumption) | assumption) | (have e_ := (Kd.N_reads' HO_8.out).1; omega))
                obtain ⟨ua129_2, uc129_2, rfl, ul129_2, ge129_2⟩ := k39_openF hMe129
                have hv129_2 := hcc129 2 _ rfl
                rw [add_field _ _ 2 (by omega)] at hv129_2
                replace hv129_2 := Option.some.inj (hv129_2.symm.trans hx129_2)
                injection hv129_2 with hva_ hvn_ hvc_
                rw [hva_] at ge129_2
                rw [hvc_] at ul129_2
                have HL129_2 := Aside0.mk (show Kd.V (Kd.int .u8) 5 _ w.heap.size _ _ ((rd_T39 y125 x9_1).f2) from Kd.V_mk ul129_2 ge129_2)
                clear hva_ hvn_ hvc_ ge129_2 ul129_2
                clear hcc129 hce129
                have HR129_2 := Aside0.mk hi129_2
                have HC129_2 := Aside0.mk hl129_2
                clear hi129_2 hl129_2
                replace p129 := eq_true p129
                replace q129 := eq_true q129
                have ea_ := Option.some.inj (hx128_2.symm.trans hx129_2)
                injection ea_ with ea_ en_ ec_
                subst ea_
                subst ec_
                clear en_
                go_wp2
                go_roundg k1
                case measure => have := HK1.out; omega
                case rel => exact ⟨(x6_1), ((rd_T39 y125 x9_1).f1), (wrap64 (x9_1 + 1)), (by first | rfl | (simp; done) | (simp [*]; done)), (by first | rfl | (simp; done) | (simp [*]; done)), H', ⟨by have := HK1.out; omega⟩, ⟨by (with_reducible repeat (first | apply Kd.R_alloc | apply Kd.R_drewN | apply Kd.R_drew)); exact HO_6.out⟩, ⟨by (with_reducible repeat (first | apply Kd.N_alloc | apply Kd.N_drewN | apply Kd.N_drew)); exact HO_8.out⟩, ⟨by (with_reducible repeat (first | apply Kd.V_alloc | apply Kd.V_drewN | apply Kd.V_drew)); exact HO_119000.out⟩, ⟨by (with_reducible repeat (first | apply Kd.V_alloc | apply Kd.V_drewN | apply Kd.V_drew)); exact HO_119001.out⟩, ⟨by (with_reducible repeat (first | refine blk_drewN ?_ _ | refine blk_drew ?_ | refine blk_alloc ?_ _)); exact BK118.out⟩, ⟨by repeat (first | (with_reducible first | exact HB.out | apply below_alloc | apply pw_below_drewN | apply below_drew1 | refine below_set ?_ GE118.out) | exact HB.out)⟩⟩
              · rw [if_neg c13] at H
                have c13b0 : (((rd_T39 y125 x9_1).f0) == 2) = false := beq_eq_false_iff_ne.mpr c13
                have c13b1 : (((rd_T39 y125 x9_1).f0) != 2) = true := bne_iff_ne.mpr c13
                have HC15 := Aside0.mk H
                clear H
                obtain ⟨Ao16, co16, eo16⟩ := Kd.N_slice HO_8.out
                subst eo16
                have p128 : 0 ≤ (x9_1 : Int) := of_decide_eq_true (by first | (with_reducible assumption) | assumption)
                have q128 : x9_1 < (y125.length : Int) := of_decide_eq_true (by first | (with_reducible assumption) | assumption)
                obtain ⟨ad128, A128_2, c128_2, e128, hx128_0, hx128_1, hx128_2, hx128_3, hx128_4, hl128_2, hi128_2⟩ := at_T39 (Kd.N_reads' HO_8.out).2.2 x9_1 p128 q128
                cases e128
                obtain ⟨ce128, hce128, hMe128, hcc128⟩ := Kd.N_get HO_8.out z39 x9_1 p128 (by first | exact q128 | exact of_decide_eq_true (by first | (with_reducible assumption) | assumption) | (have e_ := (Kd.N_reads' HO_8.out).1; omega))
                obtain ⟨ua128_2, uc128_2, rfl, ul128_2, ge128_2⟩ := k39_openF hMe128
                have hv128_2 := hcc128 2 _ rfl
                rw [add_field _ _ 2 (by omega)] at hv128_2
                replace hv128_2 := Option.some.inj (hv128_2.symm.trans hx128_2)
                injection hv128_2 with hva_ hvn_ hvc_
                rw [hva_] at ge128_2
                rw [hvc_] at ul128_2
                have HL128_2 := Aside0.mk (show Kd.V (Kd.int .u8) 5 _ w.heap.size _ _ ((rd_T39 y125 x9_1).f2) from Kd.V_mk ul128_2 ge128_2)
                clear hva_ hvn_ hvc_ ge128_2 ul128_2
                clear hcc128 hce128
                have HR128_2 := Aside0.mk hi128_2
                have HC128_2 := Aside0.mk hl128_2
                clear hi128_2 hl128_2
                replace p128 := eq_true p128
                replace q128 := eq_true q128
                go_upto_region 9 with (fail)
                go_cut [48] (fun v48 wc => ∃ (kq : Nat) (x48_14 : Bool), v48 = .bool x48_14 ∧ Aside0 (lockgateref07_Bytes.j1 kq a1 x6_1 x7_1 y125 x9_1 x48_14 = some (r1, r2)) ∧ Aside0 (kq ≤ k1) ∧ Aside0 (Kd.R (Kd.int .u8) 5 wc w.heap.size (fun k_ => (w.heap.size ≤ k_)) u6 x6_1) ∧ Aside0 (Kd.N k39 39 wc w.heap.size (fun k_ => ((P0_0_ k_ ∨ P0_1_ k_) ∨ w.heap.size ≤ k_) ∧ some k_ ≠ (u6 : Value).ownBlock ∧ k_ ≠ gb118) (.slice (some ad128) y125.length co16) y125) ∧ Aside0 (Kd.V k39 39 wc w.heap.size (fun k_ => ((P0_0_ k_ ∨ P0_1_ k_) ∨ w.heap.size ≤ k_) ∧ some k_ ≠ (u6 : Value).ownBlock ∧ some k_ ≠ ((.slice (some ad128) y125.length co16) : Value).ownBlock ∧ k_ ≠ gb118) (.slice A0_0 l0_0.length c0_0) l0_0) ∧ Aside0 (Kd.V k39 39 wc w.heap.size (fun k_ => ((P0_0_ k_ ∨ P0_1_ k_) ∨ w.heap.size ≤ k_) ∧ some k_ ≠ (u6 : Value).ownBlock ∧ some k_ ≠ ((.slice (some ad128) y125.length co16) : Value).ownBlock ∧ k_ ≠ gb118) (.slice A0_1 l0_1.length c0_1) l0_1) ∧ Aside0 (wc.heap[gb118]? = some (.cells #[(.slice A0_0 l0_0.length c0_0), (.slice A0_1 l0_1.length c0_1), .int .i64 a0_2, .bool a0_3, .bool a0_4] 36 (0, 0))) ∧ Aside0 (Kd.C (Kd.int .u8) wc A128_2 ((rd_T39 y125 x9_1).f2).length ((rd_T39 y125 x9_1).f2)) ∧ Aside0 (Below w.heap.size w wc))
                case first =>
                  have H := HC15.out
                  clear HC15
                  by_cases c17 : ((rd_T39 y125 x9_1).f1) = a1
                  · rw [if_pos c17] at H
                    have c17b0 : (((rd_T39 y125 x9_1).f1) == a1) = true := beq_iff_eq.mpr c17
                    have c17b1 : (((rd_T39 y125 x9_1).f1) != a1) = false := bne_eq_false_iff_eq.mpr c17
                    clear c17
                    (first | rw [c17b0] | (simp only [i64_w, i32_w]; rw [c17b0]) | skip)
                    have H' := Aside0.mk H
                    clear H
                    have p130 : 0 ≤ (x9_1 : Int) := of_decide_eq_true (by first | (with_reducible assumption) | assumption)
                    have q130 : x9_1 < (y125.length : Int) := of_decide_eq_true (by first | (with_reducible assumption) | assumption)
                    obtain ⟨ad130, A130_2, c130_2, e130, hx130_0, hx130_1, hx130_2, hx130_3, hx130_4, hl130_2, hi130_2⟩ := at_T39 (Kd.N_reads' HO_8.out).2.2 x9_1 p130 q130
                    obtain rfl : ad128 = ad130 := (by injection e130)
                    obtain ⟨ce130, hce130, hMe130, hcc130⟩ := Kd.N_get HO_8.out z39 x9_1 p130 (by first | exact q130 | exact of_decide_eq_true (by first | (with_reducible assumption) | assumption) | (have e_ := (Kd.N_reads' HO_8.out).1; omega))
                    obtain ⟨ua130_2, uc130_2, rfl, ul130_2, ge130_2⟩ := k39_openF hMe130
                    have hv130_2 := hcc130 2 _ rfl
                    rw [add_field _ _ 2 (by omega)] at hv130_2
                    replace hv130_2 := Option.some.inj (hv130_2.symm.trans hx130_2)
                    injection hv130_2 with hva_ hvn_ hvc_
                    rw [hva_] at ge130_2
                    rw [hvc_] at ul130_2
                    have HL130_2 := Aside0.mk (show Kd.V (Kd.int .u8) 5 _ w.heap.size _ _ ((rd_T39 y125 x9_1).f2) from Kd.V_mk ul130_2 ge130_2)
                    clear hva_ hvn_ hvc_ ge130_2 ul130_2
                    clear hcc130 hce130
                    have HR130_2 := Aside0.mk hi130_2
                    have HC130_2 := Aside0.mk hl130_2
                    clear hi130_2 hl130_2
                    replace p130 := eq_true p130
                    replace q130 := eq_true q130
                    have p131 : 0 ≤ (x9_1 : Int) := of_decide_eq_true (by first | (with_reducible assumption) | assumption)
                    have q131 : x9_1 < (y125.length : Int) := of_decide_eq_true (by first | (with_reducible assumption) | assumption)
                    obtain ⟨ad131, A131_2, c131_2, e131, hx131_0, hx131_1, hx131_2, hx131_3, hx131_4, hl131_2, hi131_2⟩ := at_T39 (Kd.N_reads' HO_8.out).2.2 x9_1 p131 q131
                    obtain rfl : ad128 = ad131 := (by injection e131)
                    obtain ⟨ce131, hce131, hMe131, hcc131⟩ := Kd.N_get HO_8.out z39 x9_1 p131 (by first | exact q131 | exact of_decide_eq_true (by first | (with_reducible assumption) | assumption) | (have e_ := (Kd.N_reads' HO_8.out).1; omega))
                    obtain ⟨ua131_2, uc131_2, rfl, ul131_2, ge131_2⟩ := k39_openF hMe131
                    have hv131_2 := hcc131 2 _ rfl
                    rw [add_field _ _ 2 (by omega)] at hv131_2
                    replace hv131_2 := Option.some.inj (hv131_2.symm.trans hx131_2)
                    injection hv131_2 with hva_ hvn_ hvc_
                    rw [hva_] at ge131_2
                    rw [hvc_] at ul131_2
                    have HL131_2 := Aside0.mk (show Kd.V (Kd.int .u8) 5 _ w.heap.size _ _ ((rd_T39 y125 x9_1).f2) from Kd.V_mk ul131_2 ge131_2)
                    clear hva_ hvn_ hvc_ ge131_2 ul131_2
                    clear hcc131 hce131
                    have HR131_2 := Aside0.mk hi131_2
                    have HC131_2 := Aside0.mk hl131_2
                    clear hi131_2 hl131_2
                    replace p131 := eq_true p131
                    replace q131 := eq_true q131
                    have ea_ := Option.some.inj (hx130_2.symm.trans hx131_2)
                    injection ea_ with ea_ en_ ec_
                    subst ea_
                    subst ec_
                    clear en_
                    go_wp2
                    go_meet
                    case rel => exact ⟨_, ((((rd_T39 y125 x9_1).f0) == 1)), (by first | rfl | (simp; done) | (simp [*]; done)), H', ⟨by have := HK1.out; first | omega | exact Nat.le_refl _⟩, ⟨by (with_reducible repeat (first | apply Kd.R_alloc | apply Kd.R_drewN | apply Kd.R_drew)); exact HO_6.out⟩, ⟨by (with_reducible repeat (first | apply Kd.N_alloc | apply Kd.N_drewN | apply Kd.N_drew)); exact HO_8.out⟩, ⟨by (with_reducible repeat (first | apply Kd.V_alloc | apply Kd.V_drewN | apply Kd.V_drew)); exact HO_119000.out⟩, ⟨by (with_reducible repeat (first | apply Kd.V_alloc | apply Kd.V_drewN | apply Kd.V_drew)); exact HO_119001.out⟩, ⟨by (with_reducible repeat (first | refine blk_drewN ?_ _ | refine blk_drew ?_ | refine blk_alloc ?_ _)); exact BK118.out⟩, ⟨by repeat (first | (with_reducible exact HR128_2.out) | (with_reducible refine Kd.C_alloc ?_ _) | (with_reducible refine Kd.C_drewN ?_ _) | (with_reducible refine Kd.C_drew ?_) | exact HR128_2.out)⟩, ⟨by repeat (first | (with_reducible first | exact HB.out | apply below_alloc | apply pw_below_drewN | apply below_drew1 | refine below_set ?_ GE118.out) | exact HB.out)⟩⟩
                  · rw [if_neg c17] at H
                    have c17b0 : (((rd_T39 y125 x9_1).f1) == a1) = false := beq_eq_false_iff_ne.mpr c17
                    have c17b1 : (((rd_T39 y125 x9_1).f1) != a1) = true := bne_iff_ne.mpr c17
                    (first | rw [c17b0] | (simp only [i64_w, i32_w]; rw [c17b0]) | skip)
                    have H' := Aside0.mk H
                    clear H
                    have p130 : 0 ≤ (x9_1 : Int) := of_decide_eq_true (by first | (with_reducible assumption) | assumption)
                    have q130 : x9_1 < (y125.length : Int) := of_decide_eq_true (by first | (with_reducible assumption) | assumption)
                    obtain ⟨ad130, A130_2, c130_2, e130, hx130_0, hx130_1, hx130_2, hx130_3, hx130_4, hl130_2, hi130_2⟩ := at_T39 (Kd.N_reads' HO_8.out).2.2 x9_1 p130 q130
                    obtain rfl : ad128 = ad130 := (by injection e130)
                    obtain ⟨ce130, hce130, hMe130, hcc130⟩ := Kd.N_get HO_8.out z39 x9_1 p130 (by first | exact q130 | exact of_decide_eq_true (by first | (with_reducible assumption) | assumption) | (have e_ := (Kd.N_reads' HO_8.out).1; omega))
                    obtain ⟨ua130_2, uc130_2, rfl, ul130_2, ge130_2⟩ := k39_openF hMe130
                    have hv130_2 := hcc130 2 _ rfl
                    rw [add_field _ _ 2 (by omega)] at hv130_2
                    replace hv130_2 := Option.some.inj (hv130_2.symm.trans hx130_2)
                    injection hv130_2 with hva_ hvn_ hvc_
                    rw [hva_] at ge130_2
                    rw [hvc_] at ul130_2
                    have HL130_2 := Aside0.mk (show Kd.V (Kd.int .u8) 5 _ w.heap.size _ _ ((rd_T39 y125 x9_1).f2) from Kd.V_mk ul130_2 ge130_2)
                    clear hva_ hvn_ hvc_ ge130_2 ul130_2
                    clear hcc130 hce130
                    have HR130_2 := Aside0.mk hi130_2
                    have HC130_2 := Aside0.mk hl130_2
                    clear hi130_2 hl130_2
                    replace p130 := eq_true p130
                    replace q130 := eq_true q130
                    go_wp2
                    go_meet
                    case rel => exact ⟨_, (false), (by first | rfl | (simp; done) | (simp [*]; done)), H', ⟨by have := HK1.out; first | omega | exact Nat.le_refl _⟩, ⟨by (with_reducible repeat (first | apply Kd.R_alloc | apply Kd.R_drewN | apply Kd.R_drew)); exact HO_6.out⟩, ⟨by (with_reducible repeat (first | apply Kd.N_alloc | apply Kd.N_drewN | apply Kd.N_drew)); exact HO_8.out⟩, ⟨by (with_reducible repeat (first | apply Kd.V_alloc | apply Kd.V_drewN | apply Kd.V_drew)); exact HO_119000.out⟩, ⟨by (with_reducible repeat (first | apply Kd.V_alloc | apply Kd.V_drewN | apply Kd.V_drew)); exact HO_119001.out⟩, ⟨by (with_reducible repeat (first | refine blk_drewN ?_ _ | refine blk_drew ?_ | refine blk_alloc ?_ _)); exact BK118.out⟩, ⟨by repeat (first | (with_reducible exact HR128_2.out) | (with_reducible refine Kd.C_alloc ?_ _) | (with_reducible refine Kd.C_drewN ?_ _) | (with_reducible refine Kd.C_drew ?_) | exact HR128_2.out)⟩, ⟨by repeat (first | (with_reducible first | exact HB.out | apply below_alloc | apply pw_below_drewN | apply below_drew1 | refine below_set ?_ GE118.out) | exact HB.out)⟩⟩
                case rest =>
                  clear HC15
                  try clear c1
                  try clear p1
                  try clear q1
                  try clear hx1
                  try clear p2
                  try clear c3
                  try clear c4
                  try clear p6
                  try clear c11
                  try clear c11b0
                  try clear c12
                  try clear c12b0
                  try clear p12
                  try clear q12
                  try clear hx12
                  try clear c13
                  try clear c13b0
                  try clear c13b1
                  try clear p13
                  try clear q13
                  try clear hx13
                  try clear c17
                  try clear c17b0
                  try clear c17b1
                  try clear hx128_0
                  try clear hx128_1
                  try clear hx128_2
                  try clear hx128_3
                  try clear hx128_4
                  try clear hx129_0
                  try clear hx129_1
                  try clear hx129_2
                  try clear hx129_3
                  try clear hx129_4
                  try clear hx130_0
                  try clear hx130_1
                  try clear hx130_2
                  try clear hx130_3
                  try clear hx130_4
                  try clear hx131_0
                  try clear hx131_1
                  try clear hx131_2
                  try clear hx131_3
                  try clear hx131_4
                  try clear p128
                  try clear p129
                  try clear p130
                  try clear p131
                  try clear p2
                  try clear q128
                  try clear q129
                  try clear q130
                  try clear q131
                  obtain ⟨kq, x48_14, rfl, HA, HJ14, HO_6, HO_8, HO_119000, HO_119001, BK118, HR128_2, HB⟩ := hcut
                  cases kq with
                  | zero => exact absurd HA.out (by simp [lockgateref07_Bytes.j1])
                  | succ kj14 =>
                    have H := HA.out
                    clear HA
                    simp only [lockgateref07_Bytes.j1] at H
                    by_cases c18 : x48_14 = true
                    · subst c18
                      have H1 : (lockgateref07_Bytes.l0 kj14 a1 ([] : List Int) x7_1 y125 (wrap64 (x9_1 + 1))) = some (r1, r2) := by rw [if_pos rfl] at H; exact H
                      clear H
                      have H := H1
                      clear H1
                      have H' := Aside0.mk H
                      clear H
                      go_wp2
                      go_roundg kj14
                      case measure => have := HK1.out; have := HJ14.out; omega
                      case rel => exact ⟨(([] : List Int)), (x7_1), (wrap64 (x9_1 + 1)), (by first | rfl | (simp; done) | (simp [*]; done)), (by first | rfl | (simp; done) | (simp [*]; done)), H', ⟨by have := HK1.out; have := HJ14.out; omega⟩, ⟨by first | exact Kd.R_nil _ _ _ _ _ | exact Kd.N_nil _ _ _ _ _ | exact Kd.V_nil _ _ _ _ _ | exact Kd.Q_nil _ _ _ _ _ | exact Kd.S_nil _ _ _ _ _⟩, ⟨by (with_reducible repeat (first | apply Kd.N_alloc | apply Kd.N_drewN | apply Kd.N_drew)); exact Kd.N_mono HO_8.out (fun _ hk => ⟨hk.1, ⟨(by simp [Value.ownBlock]), hk.2.2⟩⟩)⟩, ⟨by (with_reducible repeat (first | apply Kd.V_alloc | apply Kd.V_drewN | apply Kd.V_drew)); exact Kd.V_mono HO_119000.out (fun _ hk => ⟨hk.1, ⟨(by simp [Value.ownBlock]), ⟨hk.2.2.1, hk.2.2.2⟩⟩⟩)⟩, ⟨by (with_reducible repeat (first | apply Kd.V_alloc | apply Kd.V_drewN | apply Kd.V_drew)); exact Kd.V_mono HO_119001.out (fun _ hk => ⟨hk.1, ⟨(by simp [Value.ownBlock]), ⟨hk.2.2.1, hk.2.2.2⟩⟩⟩)⟩, ⟨by (with_reducible repeat (first | refine blk_drewN ?_ _ | refine blk_drew ?_ | refine blk_alloc ?_ _)); exact BK118.out⟩, ⟨by repeat (first | (with_reducible first | exact HB.out | apply below_alloc | apply pw_below_drewN | apply below_drew1 | refine below_set ?_ GE118.out) | exact HB.out)⟩⟩
                    · replace c18 := Bool.eq_false_iff.mpr c18
                      subst c18
                      have H1 : (if 0 ≤ x9_1 then (if x9_1 < (y125.length : Int) then (if ((rd_T39 y125 x9_1).f1) = a1 then (if x6_1.length + ((rd_T39 y125 x9_1).f2).length < 140737488355328 then (lockgateref07_Bytes.l0 kj14 a1 (x6_1 ++ ((rd_T39 y125 x9_1).f2)) x7_1 y125 (wrap64 (x9_1 + 1))) else (none)) else (lockgateref07_Bytes.l0 kj14 a1 x6_1 x7_1 y125 (wrap64 (x9_1 + 1)))) else (none)) else (none)) = some (r1, r2) := by rw [if_neg (show ¬ (false = true) by decide)] at H; exact H
                      clear H
                      have H := H1
                      clear H1
                      by_cases c19 : 0 ≤ x9_1
                      · rw [if_pos c19] at H
                        have c19b0 : decide (0 ≤ x9_1) = true := decide_eq_true c19
                        clear c19
                        by_cases c20 : x9_1 < (y125.length : Int)
                        · rw [if_pos c20] at H
                          have c20b0 : decide (x9_1 < (y125.length : Int)) = true := decide_eq_true c20
                          clear c20
                          by_cases c21 : ((rd_T39 y125 x9_1).f1) = a1
                          · rw [if_pos c21] at H
                            have c21b0 : (((rd_T39 y125 x9_1).f1) == a1) = true := beq_iff_eq.mpr c21
                            have c21b1 : (((rd_T39 y125 x9_1).f1) != a1) = false := bne_eq_false_iff_eq.mpr c21
                            clear c21
                            by_cases c22 : x6_1.length + ((rd_T39 y125 x9_1).f2).length < 140737488355328
                            · rw [if_pos c22] at H
                              have LMc22 := Aside0.mk c22
                              clear c22
                              obtain ⟨y134, hy134⟩ : ∃ y_ : List Int, y_ = (x6_1 ++ ((rd_T39 y125 x9_1).f2)) := ⟨_, rfl⟩
                              replace H : (lockgateref07_Bytes.l0 kj14 a1 y134 x7_1 y125 (wrap64 (x9_1 + 1))) = some (r1, r2) := by first | (rw [hy134]; with_reducible exact H) | (have H2_ := (Option.bind_some _ _).symm.trans H; rw [hy134]; with_reducible exact H2_) | (have H2_ := (Option.bind_some _ _).symm.trans H; with_reducible exact H2_) | with_reducible exact H | (rw [hy134]; exact H) | exact H
                              have Ny134 := Aside0.mk hy134
                              clear hy134
                              have H' := Aside0.mk H
                              clear H
                              have p132 : 0 ≤ (x9_1 : Int) := of_decide_eq_true (by first | (with_reducible assumption) | assumption)
                              have q132 : x9_1 < (y125.length : Int) := of_decide_eq_true (by first | (with_reducible assumption) | assumption)
                              obtain ⟨ad132, A132_2, c132_2, e132, hx132_0, hx132_1, hx132_2, hx132_3, hx132_4, hl132_2, hi132_2⟩ := at_T39 (Kd.N_reads' HO_8.out).2.2 x9_1 p132 q132
                              obtain rfl : ad128 = ad132 := (by injection e132)
                              obtain ⟨ce132, hce132, hMe132, hcc132⟩ := Kd.N_get HO_8.out z39 x9_1 p132 (by first | exact q132 | exact of_decide_eq_true (by first | (with_reducible assumption) | assumption) | (have e_ := (Kd.N_reads' HO_8.out).1; omega))
                              obtain ⟨ua132_2, uc132_2, rfl, ul132_2, ge132_2⟩ := k39_openF hMe132
                              have hv132_2 := hcc132 2 _ rfl
                              rw [add_field _ _ 2 (by omega)] at hv132_2
                              replace hv132_2 := Option.some.inj (hv132_2.symm.trans hx132_2)
                              injection hv132_2 with hva_ hvn_ hvc_
                              rw [hva_] at ge132_2
                              rw [hvc_] at ul132_2
                              have HL132_2 := Aside0.mk (show Kd.V (Kd.int .u8) 5 _ w.heap.size _ _ ((rd_T39 y125 x9_1).f2) from Kd.V_mk ul132_2 ge132_2)
                              clear hva_ hvn_ hvc_ ge132_2 ul132_2
                              clear hcc132 hce132
                              have HR132_2 := Aside0.mk hi132_2
                              have HC132_2 := Aside0.mk hl132_2
                              clear hi132_2 hl132_2
                              replace p132 := eq_true p132
                              replace q132 := eq_true q132
                              have p133 : 0 ≤ (x9_1 : Int) := of_decide_eq_true (by first | (with_reducible assumption) | assumption)
                              have q133 : x9_1 < (y125.length : Int) := of_decide_eq_true (by first | (with_reducible assumption) | assumption)
                              obtain ⟨ad133, A133_2, c133_2, e133, hx133_0, hx133_1, hx133_2, hx133_3, hx133_4, hl133_2, hi133_2⟩ := at_T39 (Kd.N_reads' HO_8.out).2.2 x9_1 p133 q133
                              obtain rfl : ad128 = ad133 := (by injection e133)
                              obtain ⟨ce133, hce133, hMe133, hcc133⟩ := Kd.N_get HO_8.out z39 x9_1 p133 (by first | exact q133 | exact of_decide_eq_true (by first | (with_reducible assumption) | assumption) | (have e_ := (Kd.N_reads' HO_8.out).1; omega))
                              obtain ⟨ua133_2, uc133_2, rfl, ul133_2, ge133_2⟩ := k39_openF hMe133
                              have hv133_2 := hcc133 2 _ rfl
                              rw [add_field _ _ 2 (by omega)] at hv133_2
                              replace hv133_2 := Option.some.inj (hv133_2.symm.trans hx133_2)
                              injection hv133_2 with hva_ hvn_ hvc_
                              rw [hva_] at ge133_2
                              rw [hvc_] at ul133_2
                              have HL133_2 := Aside0.mk (show Kd.V (Kd.int .u8) 5 _ w.heap.size _ _ ((rd_T39 y125 x9_1).f2) from Kd.V_mk ul133_2 ge133_2)
                              clear hva_ hvn_ hvc_ ge133_2 ul133_2
                              clear hcc133 hce133
                              have HR133_2 := Aside0.mk hi133_2
                              have HC133_2 := Aside0.mk hl133_2
                              clear hi133_2 hl133_2
                              replace p133 := eq_true p133
                              replace q133 := eq_true q133
                              have ea_ := Option.some.inj (hx132_2.symm.trans hx133_2)
                              injection ea_ with ea_ en_ ec_
                              subst ea_
                              subst ec_
                              clear en_
                              go_wp2_with (first | ((with_reducible refine gate_builtin (b := .append) (xs := #[.tmp 56, .tmp 61]) rfl ?_); at_builtin; refine Kd.R_append_rows (Kd.int .u8) (w0 := w) w.heap.size rfl (.tmp 56) (.tmp 61) 22 5 (.int .u8 0) 1 rfl Try.underlying22 info5 rfl (by decide) (by omega) u6 x6_1 ((rd_T39 y125 x9_1).f2) _ _ _ (fun k_ => (w.heap.size ≤ k_)) (fun _ => False) rfl rfl ?aO ?aR (fun _ _ h => h) (fun _ h => h.elim) ?aF ?aB ?aS ?aL ?_; (case aR => repeat (first | exact (by repeat (first | (with_reducible exact HR133_2.out) | (with_reducible refine Kd.C_alloc ?_ _) | (with_reducible refine Kd.C_drewN ?_ _) | (with_reducible refine Kd.C_drew ?_) | exact HR133_2.out)) | (with_reducible refine Kd.C_alloc ?_ _) | (with_reducible refine Kd.C_drewN ?_ _) | (with_reducible refine Kd.C_drew ?_))); (case aB => exact (by repeat (first | (with_reducible first | exact HB.out | apply below_alloc | apply pw_below_drewN | apply below_drew1 | refine below_set ?_ GE118.out) | exact HB.out))); (case aF => exact (fun k_ hk => (Nat.le_trans (below_size (by repeat (first | (with_reducible first | exact HB.out | apply below_alloc | apply pw_below_drewN | apply below_drew1 | refine below_set ?_ GE118.out) | exact HB.out))) hk))); (case aO => exact (by (with_reducible repeat (first | apply Kd.R_alloc | apply Kd.R_drewN | apply Kd.R_drew)); exact HO_6.out)); (case aS => exact (below_size (by repeat (first | (with_reducible first | exact HB.out | apply below_alloc | apply pw_below_drewN | apply below_drew1 | refine below_set ?_ GE118.out) | exact HB.out)))); (case aL => have := LMc22.out; omega); intro v135 w23 ho hb hg hat; rw [← Ny134.out] at ho; have n0_ := Aside0.mk (Kd.N_afterv (ok := (fun k_ => ((P0_0_ k_ ∨ P0_1_ k_) ∨ w.heap.size ≤ k_) ∧ k_ ≠ gb118)) (by (with_reducible repeat (first | apply Kd.N_alloc | apply Kd.N_drewN | apply Kd.N_drew)); exact Kd.N_mono HO_8.out (fun _ hk => ⟨⟨hk.1, hk.2.2⟩, hk.2.1⟩)) hg hat); have n1_ := Aside0.mk (Kd.V_afterv (ok := (fun k_ => ((P0_0_ k_ ∨ P0_1_ k_) ∨ w.heap.size ≤ k_) ∧ some k_ ≠ (.slice (some ad128) y125.length co16 : Value).ownBlock ∧ k_ ≠ gb118)) (by (with_reducible repeat (first | apply Kd.V_alloc | apply Kd.V_drewN | apply Kd.V_drew)); exact Kd.V_mono HO_119000.out (fun _ hk => ⟨⟨hk.1, ⟨hk.2.2.1, hk.2.2.2⟩⟩, hk.2.1⟩)) hg hat); have n2_ := Aside0.mk (Kd.V_afterv (ok := (fun k_ => ((P0_0_ k_ ∨ P0_1_ k_) ∨ w.heap.size ≤ k_) ∧ some k_ ≠ (.slice (some ad128) y125.length co16 : Value).ownBlock ∧ k_ ≠ gb118)) (by (with_reducible repeat (first | apply Kd.V_alloc | apply Kd.V_drewN | apply Kd.V_drew)); exact Kd.V_mono HO_119001.out (fun _ hk => ⟨⟨hk.1, ⟨hk.2.2.1, hk.2.2.2⟩⟩, hk.2.1⟩)) hg hat); have n3_ := Aside0.mk (blk_grown (g := gb118) (o := .cells #[.slice A0_0 l0_0.length c0_0, .slice A0_1 l0_1.length c0_1, .int .i64 a0_2, .bool a0_3, .bool a0_4] 36 (0, 0)) (by (with_reducible repeat (first | refine blk_drewN ?_ _ | refine blk_drew ?_ | refine blk_alloc ?_ _)); exact BK118.out) hg (Kd.R_ne HO_6.out BK118.out (by decide))); have n4_ := Aside0.mk (Kd.V_afterv (ok := (fun k_ => ((P0_0_ k_ ∨ P0_1_ k_) ∨ w.heap.size ≤ k_) ∧ some k_ ≠ (.slice (some ad128) y125.length co16 : Value).ownBlock ∧ k_ ≠ gb118)) (by (with_reducible repeat (first | apply Kd.V_alloc | apply Kd.V_drewN | apply Kd.V_drew)); exact Kd.V_mono HL132_2.out (fun _ hk => ⟨⟨hk.1.1, ⟨hk.2, hk.1.2.2⟩⟩, hk.1.2.1⟩)) hg hat); have n5_ := Aside0.mk (Kd.V_afterv (ok := (fun k_ => ((P0_0_ k_ ∨ P0_1_ k_) ∨ w.heap.size ≤ k_) ∧ some k_ ≠ (.slice (some ad128) y125.length co16 : Value).ownBlock ∧ k_ ≠ gb118)) (by (with_reducible repeat (first | apply Kd.V_alloc | apply Kd.V_drewN | apply Kd.V_drew)); exact Kd.V_mono HL133_2.out (fun _ hk => ⟨⟨hk.1.1, ⟨hk.2, hk.1.2.2⟩⟩, hk.1.2.1⟩)) hg hat); have n6_ := Aside0.mk (hb); have n7_ := Aside0.mk (ho); clear HO_8; clear HO_119000; clear HO_119001; clear BK118; clear HL132_2; clear HL133_2; clear HB; clear HO_6; have HO_8 := n0_; have HO_119000 := n1_; have HO_119001 := n2_; have BK118 := n3_; have HL132_2 := n4_; have HL133_2 := n5_; have HB := n6_; have HO136 := n7_; clear n0_ n1_ n2_ n3_ n4_ n5_ n6_ n7_; clear ho hb hg hat))
                              go_roundg kj14
                              case measure => have := HK1.out; have := HJ14.out; omega
                              case rel => exact ⟨(y134), (x7_1), (wrap64 (x9_1 + 1)), (by first | rfl | (simp; done) | (simp [*]; done)), (by first | rfl | (simp; done) | (simp [*]; done)), H', ⟨by have := HK1.out; have := HJ14.out; omega⟩, ⟨by (with_reducible repeat (first | apply Kd.R_alloc | apply Kd.R_drewN | apply Kd.R_drew)); exact HO136.out⟩, ⟨by (with_reducible repeat (first | apply Kd.N_alloc | apply Kd.N_drewN | apply Kd.N_drew)); exact Kd.N_mono HO_8.out (fun _ hk => ⟨hk.1.1, ⟨hk.2, hk.1.2⟩⟩)⟩, ⟨by (with_reducible repeat (first | apply Kd.V_alloc | apply Kd.V_drewN | apply Kd.V_drew)); exact Kd.V_mono HO_119000.out (fun _ hk => ⟨hk.1.1, ⟨hk.2, ⟨hk.1.2.1, hk.1.2.2⟩⟩⟩)⟩, ⟨by (with_reducible repeat (first | apply Kd.V_alloc | apply Kd.V_drewN | apply Kd.V_drew)); exact Kd.V_mono HO_119001.out (fun _ hk => ⟨hk.1.1, ⟨hk.2, ⟨hk.1.2.1, hk.1.2.2⟩⟩⟩)⟩, ⟨by (with_reducible repeat (first | refine blk_drewN ?_ _ | refine blk_drew ?_ | refine blk_alloc ?_ _)); exact BK118.out⟩, ⟨by repeat (first | (with_reducible first | exact HB.out | apply below_alloc | apply pw_below_drewN | apply below_drew1 | refine below_set ?_ GE118.out) | exact HB.out)⟩⟩
                            · rw [if_neg c22] at H
                              exact absurd H (by simp)
                          · rw [if_neg c21] at H
                            have c21b0 : (((rd_T39 y125 x9_1).f1) == a1) = false := beq_eq_false_iff_ne.mpr c21
                            have c21b1 : (((rd_T39 y125 x9_1).f1) != a1) = true := bne_iff_ne.mpr c21
                            have H' := Aside0.mk H
                            clear H
                            have p132 : 0 ≤ (x9_1 : Int) := of_decide_eq_true (by first | (with_reducible assumption) | assumption)
                            have q132 : x9_1 < (y125.length : Int) := of_decide_eq_true (by first | (with_reducible assumption) | assumption)
                            obtain ⟨ad132, A132_2, c132_2, e132, hx132_0, hx132_1, hx132_2, hx132_3, hx132_4, hl132_2, hi132_2⟩ := at_T39 (Kd.N_reads' HO_8.out).2.2 x9_1 p132 q132
                            obtain rfl : ad128 = ad132 := (by injection e132)
                            obtain ⟨ce132, hce132, hMe132, hcc132⟩ := Kd.N_get HO_8.out z39 x9_1 p132 (by first | exact q132 | exact of_decide_eq_true (by first | (with_reducible assumption) | assumption) | (have e_ := (Kd.N_reads' HO_8.out).1; omega))
                            obtain ⟨ua132_2, uc132_2, rfl, ul132_2, ge132_2⟩ := k39_openF hMe132
                            have hv132_2 := hcc132 2 _ rfl
                            rw [add_field _ _ 2 (by omega)] at hv132_2
                            replace hv132_2 := Option.some.inj (hv132_2.symm.trans hx132_2)
                            injection hv132_2 with hva_ hvn_ hvc_
                            rw [hva_] at ge132_2
                            rw [hvc_] at ul132_2
                            have HL132_2 := Aside0.mk (show Kd.V (Kd.int .u8) 5 _ w.heap.size _ _ ((rd_T39 y125 x9_1).f2) from Kd.V_mk ul132_2 ge132_2)
                            clear hva_ hvn_ hvc_ ge132_2 ul132_2
                            clear hcc132 hce132
                            have HR132_2 := Aside0.mk hi132_2
                            have HC132_2 := Aside0.mk hl132_2
                            clear hi132_2 hl132_2
                            replace p132 := eq_true p132
                            replace q132 := eq_true q132
                            go_wp2
                            go_roundg kj14
                            case measure => have := HK1.out; have := HJ14.out; omega
                            case rel => exact ⟨(x6_1), (x7_1), (wrap64 (x9_1 + 1)), (by first | rfl | (simp; done) | (simp [*]; done)), (by first | rfl | (simp; done) | (simp [*]; done)), H', ⟨by have := HK1.out; have := HJ14.out; omega⟩, ⟨by (with_reducible repeat (first | apply Kd.R_alloc | apply Kd.R_drewN | apply Kd.R_drew)); exact HO_6.out⟩, ⟨by (with_reducible repeat (first | apply Kd.N_alloc | apply Kd.N_drewN | apply Kd.N_drew)); exact HO_8.out⟩, ⟨by (with_reducible repeat (first | apply Kd.V_alloc | apply Kd.V_drewN | apply Kd.V_drew)); exact HO_119000.out⟩, ⟨by (with_reducible repeat (first | apply Kd.V_alloc | apply Kd.V_drewN | apply Kd.V_drew)); exact HO_119001.out⟩, ⟨by (with_reducible repeat (first | refine blk_drewN ?_ _ | refine blk_drew ?_ | refine blk_alloc ?_ _)); exact BK118.out⟩, ⟨by repeat (first | (with_reducible first | exact HB.out | apply below_alloc | apply pw_below_drewN | apply below_drew1 | refine below_set ?_ GE118.out) | exact HB.out)⟩⟩
                        · rw [if_neg c20] at H
                          exact absurd H (by simp)
                      · rw [if_neg c19] at H
                        exact absurd H (by simp)
            · rw [if_neg c12] at H
              exact absurd H (by simp)
          · rw [if_neg c11] at H
            have c11b0 : decide (x9_1 < (y125.length : Int)) = false := decide_eq_false c11
            clear c11
            simp only [Option.some.injEq, Prod.mk.injEq] at H
            obtain ⟨rfl, rfl⟩ := H
            obtain ⟨Ao24, co24, eo24⟩ := Kd.N_slice HO_8.out
            subst eo24
            go_wp2
            go_ret2
            exact ⟨_, by first | rfl | (simp [errW_none, errW_some] <;> rfl) | (simp [*, errW_none, errW_some] <;> rfl), by (with_reducible repeat (first | apply Kd.R_alloc | apply Kd.R_drewN | apply Kd.R_drew)); exact HO_6.out, by repeat (first | (with_reducible first | exact HB.out | apply below_alloc | apply pw_below_drewN | apply below_drew1 | refine below_set ?_ GE118.out) | exact HB.out)⟩
    · rw [if_neg c4] at H
      exact absurd H (by simp)
  · rw [if_neg c3] at H
    exact absurd H (by simp)

-- NOT PRINTED: function 17 (lockgateref07_Shows)

-- NOT PRINTED: function 4 (lockgatelaw07_DiskActs)

/-! ### lockgateref03_Begins: function 22 -/
def lockgateref03_Begins.f (k : Nat) (l0 : List Int) (l1 : List Int) : Option (Bool) := if (l1.length : Int) ≤ (l0.length : Int) then (if 0 ≤ (l1.length : Int) then ((lockgateref03_Same.f k l1 (l0.take ((l1.length : Int) : Int).toNat)).bind fun t138 => (some t138)) else (none)) else (some false)
theorem lockgateref03_Begins.mono : ∀ a0 a1 k, LeO (lockgateref03_Begins.f k a0 a1) (lockgateref03_Begins.f (k + 1) a0 a1) := by
  intro a0 a1 k
  unfold lockgateref03_Begins.f
  repeat' first
      | (with_reducible exact lockgateref03_Same.mono _ _ _)
      | (with_reducible exact LeO.refl _)
      | (with_reducible exact LeO.none _)
      | (with_reducible refine LeO.ite ?_ ?_)
      | (with_reducible refine LeO.bind ?_ (fun _ => ?_))
      | exact lockgateref03_Same.mono _ _ _
      | exact LeO.none _
      | refine LeO.ite ?_ ?_
      | refine LeO.bind ?_ (fun _ => ?_)
-- NOT PRINTED: function 5 (lockgatelaw07_DiskKeeps)

-- NOT PRINTED: function 6 (lockgatelaw07_DiskClones)

-- NOT PRINTED: function 7 (lockgatelaw07_DiskSyncs)

end Go.Proofs.Ytpagajgpcmonkaa.PDisk
