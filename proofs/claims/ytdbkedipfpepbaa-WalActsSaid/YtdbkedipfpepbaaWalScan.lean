-- Taken over from the frame laws' texts by transframe.py.
import Derived.Test.YtdbkedipfpepbaaPWalx1
import Derived.Test.YtdbkedipfpepbaaDiskCop
import Derived.Test.YtdbkedipfpepbaaNumber
import Derived.Test.YtdbkedipfpepbaaScope2
import Derived.WalkSpells
import Derived.WalkLawsBesides
import Derived.IntWalk
import Derived.ScopeJumps
import Derived.WalkMore
import Derived.CallsIn
namespace Go.Proofs.Ytdbkedipfpepbaa.PWal
open Go.RowKit Go.Proofs.YtdbkedipfpepbaaW.PrintWords Go.Proofs.YtdbkedipfpepbaaW.PrintLast Go.Proofs.YtdbkedipfpepbaaW.PrintMore
attribute [local go_sem] max2_int min2_int max_two min_two max_three min_three max_four min_four
set_option linter.unusedVariables false
set_option linter.unusedSimpArgs false
def frame_number.f (l0 : List Int) : Option Int := if l0.length ≤ 140737488351232 then some (Number.numW (Number.bup l0 l0.length)) else none
theorem frame_number.calls (A0 : Option Addr) (c0 : Nat) (l0 : List Int) (r : Int) (w : World) (hr0 : Kd.C (Kd.int .u8) w A0 l0.length l0) (hc0 : l0.length ≤ c0) (h : frame_number.f l0 = some r) :
    Calls Try.prog 39 #[.slice A0 l0.length c0] w fun e w' => e = .returned (.int .u64 r) ∧ Below w.heap.size w w' := by
  unfold frame_number.f at h
  split at h
  · obtain rfl := Option.some.inj h
    exact callsIn_wide.1 (Number.number_in Fence.wide 3 trivial trivial trivial rfl (Nat.le_refl 3) A0 c0 l0 (by assumption) w (Number.held_of hr0))
  · cases h
mutual
def frame_Scan.l0 : Nat → List Int → List (List Int) → Int → Option ((List (List Int)) × Int)
  | 0, _, _, _ => none
  | k + 1, x0, x4, x5 => if (wrap64 ((x0.length : Int) - x5)) < 12 then (some (x4, x5)) else (if 0 ≤ x5 then (if x5 ≤ (wrap64 (x5 + 4)) then (if (wrap64 (x5 + 4)) ≤ (x0.length : Int) then ((frame_number.f ((x0.take ((wrap64 (x5 + 4)) : Int).toNat).drop (x5 : Int).toNat)).bind fun t119 => (if (wrap64 (t119)) > 16777216 then (frame_Scan.j1 k x0 x4 x5 (wrap64 (t119)) true) else (frame_Scan.j1 k x0 x4 x5 (wrap64 (t119)) (decide ((wrap64 (t119)) > (wrap64 ((wrap64 ((x0.length : Int) - x5)) - 12))))))) else (none)) else (none)) else (none))
def frame_Scan.j1 : Nat → List Int → List (List Int) → Int → Int → Bool → Option ((List (List Int)) × Int)
  | 0, _, _, _, _, _ => none
  | k + 1, x0, x4, x5, x6, x29 => if x29 = true then (some (x4, x5)) else (if 0 ≤ (wrap64 (x5 + 4)) then (if (wrap64 (x5 + 4)) ≤ (wrap64 (x5 + 12)) then (if (wrap64 (x5 + 12)) ≤ (x0.length : Int) then ((frame_number.f ((x0.take ((wrap64 (x5 + 12)) : Int).toNat).drop ((wrap64 (x5 + 4)) : Int).toNat)).bind fun t121 => (if 0 ≤ x5 then (if x5 ≤ (wrap64 (x5 + 4)) then (if (wrap64 (x5 + 4)) ≤ (x0.length : Int) then (if 0 ≤ (wrap64 (x5 + 12)) then (if (wrap64 (x5 + 12)) ≤ (wrap64 ((wrap64 (x5 + 12)) + x6)) then (if (wrap64 ((wrap64 (x5 + 12)) + x6)) ≤ (x0.length : Int) then ((frame_sum.f k ((x0.take ((wrap64 (x5 + 4)) : Int).toNat).drop (x5 : Int).toNat) ((x0.take ((wrap64 ((wrap64 (x5 + 12)) + x6)) : Int).toNat).drop ((wrap64 (x5 + 12)) : Int).toNat)).bind fun t124 => (if t121 = t124 then ((slices_Clone_bytes.f ((x0.take ((wrap64 ((wrap64 (x5 + 12)) + x6)) : Int).toNat).drop ((wrap64 (x5 + 12)) : Int).toNat)).bind fun t126 => (if x4.length < 5864062014805 then (frame_Scan.l0 k x0 (x4 ++ [t126]) (wrap64 (x5 + (wrap64 (12 + x6))))) else (none))) else (some (x4, x5)))) else (none)) else (none)) else (none)) else (none)) else (none)) else (none))) else (none)) else (none)) else (none))
end
def frame_Scan.f (k : Nat) (l0 : List Int) : Option ((List (List Int)) × Int) := frame_Scan.l0 k l0 ([] : List (List Int)) 0
theorem frame_Scan.mono_l : ∀ k, (∀ y0 y1 y2, LeO (frame_Scan.l0 k y0 y1 y2) (frame_Scan.l0 (k + 1) y0 y1 y2)) ∧ (∀ y0 y1 y2 y3 y4, LeO (frame_Scan.j1 k y0 y1 y2 y3 y4) (frame_Scan.j1 (k + 1) y0 y1 y2 y3 y4))
  | 0 => ⟨fun _ _ _ r h => by simp [frame_Scan.l0] at h, fun _ _ _ _ _ r h => by simp [frame_Scan.j1] at h⟩
  | k + 1 => by
    obtain ⟨ih0, ih1⟩ := frame_Scan.mono_l k
    refine ⟨?_, ?_⟩
    · intro y0 y1 y2
      unfold frame_Scan.l0
      repeat' first
      | (with_reducible exact ih0 _ _ _)
      | (with_reducible exact ih1 _ _ _ _ _)
      | (with_reducible exact frame_sum.mono _ _ _)
      | (with_reducible exact LeO.refl _)
      | (with_reducible exact LeO.none _)
      | (with_reducible refine LeO.ite ?_ ?_)
      | (with_reducible refine LeO.bind ?_ (fun _ => ?_))
      | exact ih0 _ _ _
      | exact ih1 _ _ _ _ _
      | exact frame_sum.mono _ _ _
      | exact LeO.none _
      | refine LeO.ite ?_ ?_
      | refine LeO.bind ?_ (fun _ => ?_)
    · intro y0 y1 y2 y3 y4
      unfold frame_Scan.j1
      repeat' first
      | (with_reducible exact ih0 _ _ _)
      | (with_reducible exact ih1 _ _ _ _ _)
      | (with_reducible exact frame_sum.mono _ _ _)
      | (with_reducible exact LeO.refl _)
      | (with_reducible exact LeO.none _)
      | (with_reducible refine LeO.ite ?_ ?_)
      | (with_reducible refine LeO.bind ?_ (fun _ => ?_))
      | exact ih0 _ _ _
      | exact ih1 _ _ _ _ _
      | exact frame_sum.mono _ _ _
      | exact LeO.none _
      | refine LeO.ite ?_ ?_
      | refine LeO.bind ?_ (fun _ => ?_)
theorem frame_Scan.mono : ∀ a0 k, LeO (frame_Scan.f k a0) (frame_Scan.f (k + 1) a0) := by
  intro a0 k
  obtain ⟨ih0, ih1⟩ := frame_Scan.mono_l k
  unfold frame_Scan.f
  repeat' first
      | (with_reducible exact ih0 _ _ _)
      | (with_reducible exact ih1 _ _ _ _ _)
      | (with_reducible exact frame_sum.mono _ _ _)
      | (with_reducible exact LeO.refl _)
      | (with_reducible exact LeO.none _)
      | (with_reducible refine LeO.ite ?_ ?_)
      | (with_reducible refine LeO.bind ?_ (fun _ => ?_))
      | exact ih0 _ _ _
      | exact ih1 _ _ _ _ _
      | exact frame_sum.mono _ _ _
      | exact LeO.none _
      | refine LeO.ite ?_ ?_
      | refine LeO.bind ?_ (fun _ => ?_)
def frame_Scan.T6 : Bool × List (List Nat × List Nat) := (true, [([], []), ([], []), ([1], [1]), ([], []), ([3], [3]), ([0, 2, 4], [0, 2, 4]), ([5], [5]), ([], []), ([], []), ([], []), ([9], [9]), ([7, 8, 10], [7, 8, 10]), ([], []), ([], []), ([13], [13]), ([], []), ([15], [15]), ([], []), ([16, 17], [16, 17]), ([12, 14, 18], [12, 14, 18]), ([11, 19, 6], [11, 19]), ([6, 20], [6, 20])])
def frame_Scan.B6 : List Nat := [0, 0, 2, 0, 8, 31, 63, 0, 0, 0, 512, 1920, 0, 0, 8192, 0, 32768, 0, 229376, 520192, 1048575, 2097151]
theorem frame_Scan.tab6 : rtab .any (opsOf Try.f26 6) = frame_Scan.T6 := by kernel_rfl
theorem frame_Scan.bits6 : waitsOk frame_Scan.T6.2 frame_Scan.B6 = true := by kernel_rfl
set_option maxHeartbeats 8000000 in
set_option maxRecDepth 100000 in
theorem frame_Scan.calls (k : Nat) (A0 : Option Addr) (c0 : Nat) (l0 : List Int) (r1 : List (List Int)) (r2 : Int) (w : World) (hr0 : Kd.C (Kd.int .u8) w A0 l0.length l0) (hc0 : l0.length ≤ c0) (h : frame_Scan.f k l0 = some (r1, r2)) :
    Calls Try.prog 26 #[.slice A0 l0.length c0] w fun e w' => ∃ v0_ : Value, e = .returned (.tuple #[v0_, .int .i64 r2]) ∧ Kd.S (Kd.slice 5 (Kd.int .u8)) 28 w' w.heap.size (fun _ => True) v0_ r1 ∧ Below w.heap.size w w' := by
  have HR0 := Aside0.mk hr0
  have HC0 := Aside0.mk hc0
  clear hr0 hc0
  have HB := Aside0.mk (Below.refl w.heap.size w)
  have H : (frame_Scan.l0 k l0 ([] : List (List Int)) 0) = some (r1, r2) := h
  clear h
  have H' := Aside0.mk H
  clear H
  go_enter Try.func26, Try.ntmps26
  go_wp2
  refine Scope2.wp_scope_pass 1 0 (fun n a' w' => ∃ (u1 u2 u3 u6 u7 u8 u9 u10 u11 u12 u13 u14 u15 u16 u17 u18 u19 u20 u21 u22 u23 u24 u25 u26 u27 u28 u29 u30 u31 u32 u33 u34 u35 u36 u37 u38 u39 u40 u41 u42 u43 u44 u45 u46 u47 u48 u49 u50 u51 u52 u53 u54 u55 u56 u57 u58 u59 u60 u61 u62 u63 u64 u65 u66 u67 u68 u69 : Value) (u4 u5 : Value), a' = { tmps := #[.slice A0 l0.length c0, u1, u2, u3, u4, u5, u6, u7, u8, u9, u10, u11, u12, u13, u14, u15, u16, u17, u18, u19, u20, u21, u22, u23, u24, u25, u26, u27, u28, u29, u30, u31, u32, u33, u34, u35, u36, u37, u38, u39, u40, u41, u42, u43, u44, u45, u46, u47, u48, u49, u50, u51, u52, u53, u54, u55, u56, u57, u58, u59, u60, u61, u62, u63, u64, u65, u66, u67, u68, u69], defers := [] } ∧ (fun kq v4 v5 w' => ∃ (x4_1 : List (List Int)) (x5_1 : Int), v5 = .int .i64 x5_1 ∧ Aside0 (frame_Scan.l0 kq l0 x4_1 x5_1 = some (r1, r2)) ∧ Aside0 (kq ≤ k) ∧ Aside0 (Kd.S (Kd.slice 5 (Kd.int .u8)) 28 w' w.heap.size (fun _ => True) v4 x4_1) ∧ Aside0 (Below w.heap.size w w')) n u4 u5 w') rfl rfl ?first ?pass
  case first =>
    intro R_ hR_
    go_wp2
    go_step3
    rename_i hK_
    refine hK_ _ _ (hR_ k _ _ ?_)
    refine ⟨_, _, _, _, _, _, _, _, _, _, _, _, _, _, _, _, _, _, _, _, _, _, _, _, _, _, _, _, _, _, _, _, _, _, _, _, _, _, _, _, _, _, _, _, _, _, _, _, _, _, _, _, _, _, _, _, _, _, _, _, _, _, _, _, _, _, _, _, _, rfl, ?_⟩
    exact ⟨(([] : List (List Int))), (0), (by first | rfl | (simp; done) | (simp [*]; done)), H', ⟨Nat.le_refl _⟩, ⟨by first | exact Kd.S_nil _ _ _ _ _ | exact Kd.N_nil _ _ _ _ _ | exact Kd.V_nil _ _ _ _ _ | exact Kd.Q_nil _ _ _ _ _ | exact Kd.R_nil _ _ _ _ _⟩, ⟨by repeat (first | (with_reducible first | exact HB.out | apply below_alloc | apply pw_below_drewN | apply below_drew1) | exact HB.out)⟩⟩
  case pass =>
    rintro gk a' wr ⟨u1, u2, u3, u6, u7, u8, u9, u10, u11, u12, u13, u14, u15, u16, u17, u18, u19, u20, u21, u22, u23, u24, u25, u26, u27, u28, u29, u30, u31, u32, u33, u34, u35, u36, u37, u38, u39, u40, u41, u42, u43, u44, u45, u46, u47, u48, u49, u50, u51, u52, u53, u54, u55, u56, u57, u58, u59, u60, u61, u62, u63, u64, u65, u66, u67, u68, u69, u4, u5, rfl, hrel⟩
    clear H'
    try clear c1
    obtain ⟨x4_1, x5_1, rfl, HA, HK1, HO_4, HB⟩ := hrel
    cases gk with
    | zero => exact absurd HA.out (by simp [frame_Scan.l0])
    | succ k1 =>
      have H := HA.out
      clear HA
      simp only [frame_Scan.l0] at H
      by_cases c2 : (wrap64 ((l0.length : Int) - x5_1)) < 12
      · rw [if_pos c2] at H
        have c2b0 : decide ((wrap64 ((l0.length : Int) - x5_1)) < 12) = true := decide_eq_true c2
        clear c2
        simp only [Option.some.injEq, Prod.mk.injEq] at H
        obtain ⟨rfl, rfl⟩ := H
        go_wp2
        go_step3
        refine Or.inr ⟨rfl, ?_⟩
        go_wp2
        try rw [Exit.noGoto_ret]
        go_ret2
        exact ⟨_, by first | rfl | (simp [errW_none, errW_some] <;> rfl) | (simp [*, errW_none, errW_some] <;> rfl), by (with_reducible repeat (first | apply Kd.S_alloc | apply Kd.S_drewN | apply Kd.S_drew)); exact HO_4.out, by repeat (first | (with_reducible first | exact HB.out | apply below_alloc | apply pw_below_drewN | apply below_drew1) | exact HB.out)⟩
      · rw [if_neg c2] at H
        have c2b0 : decide ((wrap64 ((l0.length : Int) - x5_1)) < 12) = false := decide_eq_false c2
        clear c2
        by_cases c3 : 0 ≤ x5_1
        · rw [if_pos c3] at H
          have c3b0 := eq_true c3
          have c3b1 : decide (0 ≤ x5_1) = true := decide_eq_true c3
          clear c3
          by_cases c4 : x5_1 ≤ (wrap64 (x5_1 + 4))
          · rw [if_pos c4] at H
            have c4b0 := eq_true c4
            have c4b1 : decide (x5_1 ≤ (wrap64 (x5_1 + 4))) = true := decide_eq_true c4
            by_cases c5 : (wrap64 (x5_1 + 4)) ≤ (l0.length : Int)
            · rw [if_pos c5] at H
              have c5b0 := eq_true c5
              have c5b1 : decide ((wrap64 (x5_1 + 4)) ≤ (l0.length : Int)) = true := decide_eq_true c5
              replace H := Option.bind_eq_some_iff.mp H
              obtain ⟨t119, A60, H⟩ := H
              replace H : (if (wrap64 (t119)) > 16777216 then (frame_Scan.j1 k1 l0 x4_1 x5_1 (wrap64 (t119)) true) else (frame_Scan.j1 k1 l0 x4_1 x5_1 (wrap64 (t119)) (decide ((wrap64 (t119)) > (wrap64 ((wrap64 ((l0.length : Int) - x5_1)) - 12)))))) = some (r1, r2) := H
              have A6 := Aside0.mk A60
              clear A60
              have HC7 := Aside0.mk H
              clear H
              obtain ⟨i08, hi08, _, hsz8, _⟩ := info_parts info5
              obtain ⟨A8, hcut8, hA8, hC8⟩ := print_mid_of (P := Try.prog) (Value.int .u8) 0 28 5 .i64 .i64 Try.underlying28 hi08 hsz8 A0 c0 l0 x5_1 (wrap64 (x5_1 + 4)) (of_decide_eq_true (by first | (with_reducible assumption) | assumption)) (by first | omega | exact of_decide_eq_true (by first | (with_reducible assumption) | assumption)) (of_decide_eq_true (by first | (with_reducible assumption) | assumption)) HC0.out
              have HR118 := Aside0.mk (Kd.C_of_reads (h1 := fun _ => rfl) (hA8 _ (Kd.reads_of_C HR0.out)))
              have HC118 := Aside0.mk hC8
              clear hA8 hC8 hi08 hsz8
              go_upto_region 5 with (first | ((with_reducible refine gate_callee (f := 39) rfl ?_); refine goesL_ (some 17) rfl rfl Try.func39 (by kernel_rfl) rfl #[.slice A8 ((l0.take ((wrap64 (x5_1 + 4)) : Int).toNat).drop (x5_1 : Int).toNat).length (c0 - x5_1.toNat)] rfl (by (try simp only [List.map_toArray, List.map_cons, List.map_nil]); first | done | (rw [show ((l0.take ((wrap64 (x5_1 + 4)) : Int).toNat).drop (x5_1 : Int).toNat).length = ((wrap64 (x5_1 + 4)).toNat - x5_1.toNat) from (by rw [List.length_drop, List.length_take]; have h_ : ((wrap64 (x5_1 + 4)) : Int) ≤ (l0.length : Int) := of_decide_eq_true (by first | (with_reducible assumption) | assumption); omega)] <;> rfl) | rfl | (simp only [List.length_drop, List.length_take]; rfl)) ?_; (with_reducible refine (frame_number.calls _ _ ((l0.take ((wrap64 (x5_1 + 4)) : Int).toNat).drop (x5_1 : Int).toNat) t119 _ ?side1 ?side2 A6.out).mono ?_); (case side1 => repeat (first | exact (Kd.C_below HR118.out HB.out) | (with_reducible refine Kd.C_alloc ?_ _) | (with_reducible refine Kd.C_drewN ?_ _) | (with_reducible refine Kd.C_drew ?_))); (case side2 => exact HC118.out); rintro e w9 ⟨rfl, hb⟩; refine ⟨_, rfl, ?_⟩; have n0_ := Aside0.mk (Kd.S_below (by (with_reducible repeat (first | apply Kd.S_alloc | apply Kd.S_drewN | apply Kd.S_drew)); exact HO_4.out) hb); have n1_ := Aside0.mk (below_step (by repeat (first | (with_reducible first | exact HB.out | apply below_alloc | apply pw_below_drewN | apply below_drew1) | exact HB.out)) hb); clear HO_4; clear HB; have HO_4 := n0_; have HB := n1_; clear n0_ n1_; (try clear hb); (try clear hb2); (try clear hk); (try clear hi)))
              (try simp only [Act.put, List.setIfInBounds_toArray, List.set_cons_zero, List.set_cons_succ])
              go_cut [29] (fun v29 wc => ∃ (kq : Nat) (x29_6 : Bool), v29 = .bool x29_6 ∧ Aside0 (frame_Scan.j1 kq l0 x4_1 x5_1 (wrap64 (t119)) x29_6 = some (r1, r2)) ∧ Aside0 (kq ≤ k1) ∧ Aside0 (Kd.S (Kd.slice 5 (Kd.int .u8)) 28 wc w.heap.size (fun _ => True) u4 x4_1) ∧ Aside0 (Below w.heap.size w wc))
              case first =>
                have H := HC7.out
                clear HC7
                by_cases c10 : (wrap64 (t119)) > 16777216
                · rw [if_pos c10] at H
                  have c10b0 : decide (16777216 < (wrap64 (t119))) = true := decide_eq_true c10
                  clear c10
                  (first | rw [c10b0] | (simp only [i64_w, i32_w]; rw [c10b0]) | skip)
                  have H' := Aside0.mk H
                  clear H
                  go_wp2
                  go_meet
                  case rel => exact ⟨_, (true), (by first | rfl | (simp; done) | (simp [*]; done)), H', ⟨by have := HK1.out; first | omega | exact Nat.le_refl _⟩, ⟨by (with_reducible repeat (first | apply Kd.S_alloc | apply Kd.S_drewN | apply Kd.S_drew)); exact HO_4.out⟩, ⟨by repeat (first | (with_reducible first | exact HB.out | apply below_alloc | apply pw_below_drewN | apply below_drew1) | exact HB.out)⟩⟩
                · rw [if_neg c10] at H
                  have c10b0 : decide (16777216 < (wrap64 (t119))) = false := decide_eq_false c10
                  clear c10
                  (first | rw [c10b0] | (simp only [i64_w, i32_w]; rw [c10b0]) | skip)
                  have H' := Aside0.mk H
                  clear H
                  go_wp2
                  go_meet
                  case rel => exact ⟨_, (decide ((wrap64 (t119)) > (wrap64 ((wrap64 ((l0.length : Int) - x5_1)) - 12)))), (by first | rfl | (simp; done) | (simp [*]; done)), H', ⟨by have := HK1.out; first | omega | exact Nat.le_refl _⟩, ⟨by (with_reducible repeat (first | apply Kd.S_alloc | apply Kd.S_drewN | apply Kd.S_drew)); exact HO_4.out⟩, ⟨by repeat (first | (with_reducible first | exact HB.out | apply below_alloc | apply pw_below_drewN | apply below_drew1) | exact HB.out)⟩⟩
              case rest =>
                clear HC7
                try clear c1
                try clear c2
                try clear c2b0
                try clear p2
                try clear c3
                try clear c3b0
                try clear c3b1
                try clear c4
                try clear c4b0
                try clear c4b1
                try clear c5
                try clear c5b0
                try clear c5b1
                try clear p6
                try clear c10
                try clear c10b0
                obtain ⟨kq, x29_6, rfl, HA, HJ6, HO_4, HB⟩ := hcut
                cases kq with
                | zero => exact absurd HA.out (by simp [frame_Scan.j1])
                | succ kj6 =>
                  have H := HA.out
                  clear HA
                  simp only [frame_Scan.j1] at H
                  by_cases c11 : x29_6 = true
                  · subst c11
                    have H1 : (some (x4_1, x5_1)) = some (r1, r2) := by rw [if_pos rfl] at H; exact H
                    clear H
                    have H := H1
                    clear H1
                    simp only [Option.some.injEq, Prod.mk.injEq] at H
                    obtain ⟨rfl, rfl⟩ := H
                    go_wp2
                    go_step3
                    refine Or.inr ⟨rfl, ?_⟩
                    go_wp2
                    try rw [Exit.noGoto_ret]
                    go_ret2
                    exact ⟨_, by first | rfl | (simp [errW_none, errW_some] <;> rfl) | (simp [*, errW_none, errW_some] <;> rfl), by (with_reducible repeat (first | apply Kd.S_alloc | apply Kd.S_drewN | apply Kd.S_drew)); exact HO_4.out, by repeat (first | (with_reducible first | exact HB.out | apply below_alloc | apply pw_below_drewN | apply below_drew1) | exact HB.out)⟩
                  · replace c11 := Bool.eq_false_iff.mpr c11
                    subst c11
                    have H1 : (if 0 ≤ (wrap64 (x5_1 + 4)) then (if (wrap64 (x5_1 + 4)) ≤ (wrap64 (x5_1 + 12)) then (if (wrap64 (x5_1 + 12)) ≤ (l0.length : Int) then ((frame_number.f ((l0.take ((wrap64 (x5_1 + 12)) : Int).toNat).drop ((wrap64 (x5_1 + 4)) : Int).toNat)).bind fun t121 => (if 0 ≤ x5_1 then (if x5_1 ≤ (wrap64 (x5_1 + 4)) then (if (wrap64 (x5_1 + 4)) ≤ (l0.length : Int) then (if 0 ≤ (wrap64 (x5_1 + 12)) then (if (wrap64 (x5_1 + 12)) ≤ (wrap64 ((wrap64 (x5_1 + 12)) + (wrap64 (t119)))) then (if (wrap64 ((wrap64 (x5_1 + 12)) + (wrap64 (t119)))) ≤ (l0.length : Int) then ((frame_sum.f kj6 ((l0.take ((wrap64 (x5_1 + 4)) : Int).toNat).drop (x5_1 : Int).toNat) ((l0.take ((wrap64 ((wrap64 (x5_1 + 12)) + (wrap64 (t119)))) : Int).toNat).drop ((wrap64 (x5_1 + 12)) : Int).toNat)).bind fun t124 => (if t121 = t124 then ((slices_Clone_bytes.f ((l0.take ((wrap64 ((wrap64 (x5_1 + 12)) + (wrap64 (t119)))) : Int).toNat).drop ((wrap64 (x5_1 + 12)) : Int).toNat)).bind fun t126 => (if x4_1.length < 5864062014805 then (frame_Scan.l0 kj6 l0 (x4_1 ++ [t126]) (wrap64 (x5_1 + (wrap64 (12 + (wrap64 (t119))))))) else (none))) else (some (x4_1, x5_1)))) else (none)) else (none)) else (none)) else (none)) else (none)) else (none))) else (none)) else (none)) else (none)) = some (r1, r2) := by rw [if_neg (show ¬ (false = true) by decide)] at H; exact H
                    clear H
                    have H := H1
                    clear H1
                    obtain ⟨ji12, hji12⟩ : ∃ j_ : Int, (wrap64 (x5_1 + 4)) = j_ := ⟨_, rfl⟩
                    replace H : (if 0 ≤ (ji12) then (if (ji12) ≤ (wrap64 (x5_1 + 12)) then (if (wrap64 (x5_1 + 12)) ≤ (l0.length : Int) then ((frame_number.f ((l0.take ((wrap64 (x5_1 + 12)) : Int).toNat).drop ((ji12) : Int).toNat)).bind fun t121 => (if 0 ≤ x5_1 then (if x5_1 ≤ (ji12) then (if (ji12) ≤ (l0.length : Int) then (if 0 ≤ (wrap64 (x5_1 + 12)) then (if (wrap64 (x5_1 + 12)) ≤ (wrap64 ((wrap64 (x5_1 + 12)) + (wrap64 (t119)))) then (if (wrap64 ((wrap64 (x5_1 + 12)) + (wrap64 (t119)))) ≤ (l0.length : Int) then ((frame_sum.f kj6 ((l0.take ((ji12) : Int).toNat).drop (x5_1 : Int).toNat) ((l0.take ((wrap64 ((wrap64 (x5_1 + 12)) + (wrap64 (t119)))) : Int).toNat).drop ((wrap64 (x5_1 + 12)) : Int).toNat)).bind fun t124 => (if t121 = t124 then ((slices_Clone_bytes.f ((l0.take ((wrap64 ((wrap64 (x5_1 + 12)) + (wrap64 (t119)))) : Int).toNat).drop ((wrap64 (x5_1 + 12)) : Int).toNat)).bind fun t126 => (if x4_1.length < 5864062014805 then (frame_Scan.l0 kj6 l0 (x4_1 ++ [t126]) (wrap64 (x5_1 + (wrap64 (12 + (wrap64 (t119))))))) else (none))) else (some (x4_1, x5_1)))) else (none)) else (none)) else (none)) else (none)) else (none)) else (none))) else (none)) else (none)) else (none)) = some (r1, r2) := by first | (rw [hji12] at H; exact H) | (simp only [hji12] at H ⊢; exact H)
                    (try rw [hji12] at c4b0)
                    (try rw [hji12] at c4b1)
                    (try rw [hji12] at c4)
                    (try rw [hji12] at c5b0)
                    (try rw [hji12] at c5b1)
                    (try rw [hji12] at c5)
                    have hji12w : (IntKind.i64.wrap (x5_1 + 4)) = ji12 := (i64_w _).trans hji12
                    by_cases c13 : 0 ≤ (ji12)
                    · rw [if_pos c13] at H
                      have c13b0 := eq_true c13
                      have c13b1 : decide (0 ≤ (ji12)) = true := decide_eq_true c13
                      clear c13
                      by_cases c14 : (ji12) ≤ (wrap64 (x5_1 + 12))
                      · rw [if_pos c14] at H
                        have c14b0 := eq_true c14
                        have c14b1 : decide ((ji12) ≤ (wrap64 (x5_1 + 12))) = true := decide_eq_true c14
                        by_cases c15 : (wrap64 (x5_1 + 12)) ≤ (l0.length : Int)
                        · rw [if_pos c15] at H
                          have c15b0 := eq_true c15
                          have c15b1 : decide ((wrap64 (x5_1 + 12)) ≤ (l0.length : Int)) = true := decide_eq_true c15
                          replace H := Option.bind_eq_some_iff.mp H
                          obtain ⟨t121, A160, H⟩ := H
                          replace H : (if 0 ≤ x5_1 then (if x5_1 ≤ (ji12) then (if (ji12) ≤ (l0.length : Int) then (if 0 ≤ (wrap64 (x5_1 + 12)) then (if (wrap64 (x5_1 + 12)) ≤ (wrap64 ((wrap64 (x5_1 + 12)) + (wrap64 (t119)))) then (if (wrap64 ((wrap64 (x5_1 + 12)) + (wrap64 (t119)))) ≤ (l0.length : Int) then ((frame_sum.f kj6 ((l0.take ((ji12) : Int).toNat).drop (x5_1 : Int).toNat) ((l0.take ((wrap64 ((wrap64 (x5_1 + 12)) + (wrap64 (t119)))) : Int).toNat).drop ((wrap64 (x5_1 + 12)) : Int).toNat)).bind fun t124 => (if t121 = t124 then ((slices_Clone_bytes.f ((l0.take ((wrap64 ((wrap64 (x5_1 + 12)) + (wrap64 (t119)))) : Int).toNat).drop ((wrap64 (x5_1 + 12)) : Int).toNat)).bind fun t126 => (if x4_1.length < 5864062014805 then (frame_Scan.l0 kj6 l0 (x4_1 ++ [t126]) (wrap64 (x5_1 + (wrap64 (12 + (wrap64 (t119))))))) else (none))) else (some (x4_1, x5_1)))) else (none)) else (none)) else (none)) else (none)) else (none)) else (none)) = some (r1, r2) := H
                          have A16 := Aside0.mk A160
                          clear A160
                          by_cases c17 : 0 ≤ x5_1
                          · rw [if_pos c17] at H
                            have c17b0 := eq_true c17
                            have c17b1 : decide (0 ≤ x5_1) = true := decide_eq_true c17
                            clear c17
                            by_cases c18 : x5_1 ≤ (ji12)
                            · rw [if_pos c18] at H
                              have c18b0 := eq_true c18
                              have c18b1 : decide (x5_1 ≤ (ji12)) = true := decide_eq_true c18
                              clear c18
                              by_cases c19 : (ji12) ≤ (l0.length : Int)
                              · rw [if_pos c19] at H
                                have c19b0 := eq_true c19
                                have c19b1 : decide ((ji12) ≤ (l0.length : Int)) = true := decide_eq_true c19
                                clear c19
                                obtain ⟨ji20, hji20⟩ : ∃ j_ : Int, (wrap64 (x5_1 + 12)) = j_ := ⟨_, rfl⟩
                                replace H : (if 0 ≤ (ji20) then (if (ji20) ≤ (wrap64 ((ji20) + (wrap64 (t119)))) then (if (wrap64 ((ji20) + (wrap64 (t119)))) ≤ (l0.length : Int) then ((frame_sum.f kj6 ((l0.take ((ji12) : Int).toNat).drop (x5_1 : Int).toNat) ((l0.take ((wrap64 ((ji20) + (wrap64 (t119)))) : Int).toNat).drop ((ji20) : Int).toNat)).bind fun t124 => (if t121 = t124 then ((slices_Clone_bytes.f ((l0.take ((wrap64 ((ji20) + (wrap64 (t119)))) : Int).toNat).drop ((ji20) : Int).toNat)).bind fun t126 => (if x4_1.length < 5864062014805 then (frame_Scan.l0 kj6 l0 (x4_1 ++ [t126]) (wrap64 (x5_1 + (wrap64 (12 + (wrap64 (t119))))))) else (none))) else (some (x4_1, x5_1)))) else (none)) else (none)) else (none)) = some (r1, r2) := by first | (rw [hji20] at H; exact H) | (simp only [hji20] at H ⊢; exact H)
                                (try rw [hji20] at c14b0)
                                (try rw [hji20] at c14b1)
                                (try rw [hji20] at c14)
                                (try rw [hji20] at c15b0)
                                (try rw [hji20] at c15b1)
                                (try rw [hji20] at c15)
                                (try rw [hji20] at A16)
                                have hji20w : (IntKind.i64.wrap (x5_1 + 12)) = ji20 := (i64_w _).trans hji20
                                by_cases c21 : 0 ≤ (ji20)
                                · rw [if_pos c21] at H
                                  have c21b0 := eq_true c21
                                  have c21b1 : decide (0 ≤ (ji20)) = true := decide_eq_true c21
                                  clear c21
                                  by_cases c22 : (ji20) ≤ (wrap64 ((ji20) + (wrap64 (t119))))
                                  · rw [if_pos c22] at H
                                    have c22b0 := eq_true c22
                                    have c22b1 : decide ((ji20) ≤ (wrap64 ((ji20) + (wrap64 (t119))))) = true := decide_eq_true c22
                                    by_cases c23 : (wrap64 ((ji20) + (wrap64 (t119)))) ≤ (l0.length : Int)
                                    · rw [if_pos c23] at H
                                      have c23b0 := eq_true c23
                                      have c23b1 : decide ((wrap64 ((ji20) + (wrap64 (t119)))) ≤ (l0.length : Int)) = true := decide_eq_true c23
                                      replace H := Option.bind_eq_some_iff.mp H
                                      obtain ⟨t124, A240, H⟩ := H
                                      replace H : (if t121 = t124 then ((slices_Clone_bytes.f ((l0.take ((wrap64 ((ji20) + (wrap64 (t119)))) : Int).toNat).drop ((ji20) : Int).toNat)).bind fun t126 => (if x4_1.length < 5864062014805 then (frame_Scan.l0 kj6 l0 (x4_1 ++ [t126]) (wrap64 (x5_1 + (wrap64 (12 + (wrap64 (t119))))))) else (none))) else (some (x4_1, x5_1))) = some (r1, r2) := H
                                      have A24 := Aside0.mk A240
                                      clear A240
                                      by_cases c25 : t121 = t124
                                      · rw [if_pos c25] at H
                                        have c25b0 : (t121 == t124) = true := beq_iff_eq.mpr c25
                                        have c25b1 : (t121 != t124) = false := bne_eq_false_iff_eq.mpr c25
                                        clear c25
                                        have c26b0 := eq_true (of_decide_eq_true (by first | (with_reducible assumption) | assumption) : 0 ≤ (ji20))
                                        have c27b0 := eq_true (of_decide_eq_true (by first | (with_reducible assumption) | assumption) : (ji20) ≤ (wrap64 ((ji20) + (wrap64 (t119)))))
                                        have c28b0 := eq_true (of_decide_eq_true (by first | (with_reducible assumption) | assumption) : (wrap64 ((ji20) + (wrap64 (t119)))) ≤ (l0.length : Int))
                                        replace H := Option.bind_eq_some_iff.mp H
                                        obtain ⟨t126, A290, H⟩ := H
                                        replace H : (if x4_1.length < 5864062014805 then (frame_Scan.l0 kj6 l0 (x4_1 ++ [t126]) (wrap64 (x5_1 + (wrap64 (12 + (wrap64 (t119))))))) else (none)) = some (r1, r2) := H
                                        have A29 := Aside0.mk A290
                                        clear A290
                                        by_cases c30 : x4_1.length < 5864062014805
                                        · rw [if_pos c30] at H
                                          have LMc30 := Aside0.mk c30
                                          clear c30
                                          obtain ⟨y129, hy129⟩ : ∃ y_ : List (List Int), y_ = (x4_1 ++ [t126]) := ⟨_, rfl⟩
                                          replace H : (frame_Scan.l0 kj6 l0 y129 (wrap64 (x5_1 + (wrap64 (12 + (wrap64 (t119))))))) = some (r1, r2) := by first | (rw [hy129]; with_reducible exact H) | (have H2_ := (Option.bind_some _ _).symm.trans H; rw [hy129]; with_reducible exact H2_) | (have H2_ := (Option.bind_some _ _).symm.trans H; with_reducible exact H2_) | with_reducible exact H | (rw [hy129]; exact H) | exact H
                                          have Ny129 := Aside0.mk hy129
                                          clear hy129
                                          have H' := Aside0.mk H
                                          clear H
                                          try go_wp2
                                          have n0_ := Aside0.mk (Kd.S_drew HO_4.out)
                                          have n1_ := Aside0.mk (below_drew1 HB.out)
                                          clear HO_4
                                          clear HB
                                          have HO_4 := n0_
                                          have HB := n1_
                                          clear n0_ n1_
                                          obtain ⟨i032, hi032, _, hsz32, _⟩ := info_parts info5
                                          obtain ⟨A32, hcut32, hA32, hC32⟩ := print_mid_of (P := Try.prog) (Value.int .u8) 0 28 5 .i64 .i64 Try.underlying28 hi032 hsz32 A0 c0 l0 (ji12) (ji20) (of_decide_eq_true (by first | (with_reducible assumption) | assumption)) (by first | omega | exact of_decide_eq_true (by first | (with_reducible assumption) | assumption)) (of_decide_eq_true (by first | (with_reducible assumption) | assumption)) HC0.out
                                          have HR120 := Aside0.mk (Kd.C_of_reads (h1 := fun _ => rfl) (hA32 _ (Kd.reads_of_C HR0.out)))
                                          have HC120 := Aside0.mk hC32
                                          clear hA32 hC32 hi032 hsz32
                                          obtain ⟨i033, hi033, _, hsz33, _⟩ := info_parts info5
                                          obtain ⟨A33, hcut33, hA33, hC33⟩ := print_mid_of (P := Try.prog) (Value.int .u8) 0 28 5 .i64 .i64 Try.underlying28 hi033 hsz33 A0 c0 l0 x5_1 (ji12) (of_decide_eq_true (by first | (with_reducible assumption) | assumption)) (by first | omega | exact of_decide_eq_true (by first | (with_reducible assumption) | assumption)) (of_decide_eq_true (by first | (with_reducible assumption) | assumption)) HC0.out
                                          have HR122 := Aside0.mk (Kd.C_of_reads (h1 := fun _ => rfl) (hA33 _ (Kd.reads_of_C HR0.out)))
                                          have HC122 := Aside0.mk hC33
                                          clear hA33 hC33 hi033 hsz33
                                          obtain ⟨i034, hi034, _, hsz34, _⟩ := info_parts info5
                                          obtain ⟨A34, hcut34, hA34, hC34⟩ := print_mid_of (P := Try.prog) (Value.int .u8) 0 28 5 .i64 .i64 Try.underlying28 hi034 hsz34 A0 c0 l0 (ji20) (wrap64 ((ji20) + (wrap64 (t119)))) (of_decide_eq_true (by first | (with_reducible assumption) | assumption)) (by first | omega | exact of_decide_eq_true (by first | (with_reducible assumption) | assumption)) (of_decide_eq_true (by first | (with_reducible assumption) | assumption)) HC0.out
                                          have HR123 := Aside0.mk (Kd.C_of_reads (h1 := fun _ => rfl) (hA34 _ (Kd.reads_of_C HR0.out)))
                                          have HC123 := Aside0.mk hC34
                                          clear hA34 hC34 hi034 hsz34
                                          refine start_ (n := 22) (S := fun w' => True) (ds := []) #[false, false, false, false, false, false, false, false, false, false, false, false, false, false, false, false, false, false, false, false, false, false] (by kernel_rfl) rfl rfl trivial (fun hHeld => ?_); refine with_tabW frame_Scan.tab6 frame_Scan.bits6 (fun HT_ HW_ => ?_)
                                          generalize wc.drew = w31 at HO_4 HB HR120 HR122 HR123 hHeld ⊢
                                          refine pure_ (i := 0) (N := some 30) (v := ?_) (a' := ?_) #[true, false, false, false, false, false, false, false, false, false, false, false, false, false, false, false, false, false, false, false, false, false] rfl rfl (any_of HT_.out (by kernel_rfl)) (fun _ _ _ h => h) (Or.inl ⟨by rfl, ?_⟩) ?_ ?_
                                          rotate_left
                                          · intro w'
                                            go_simp
                                            with_reducible rfl
                                          rotate_left
                                          · simp only [Act.put, List.setIfInBounds_toArray, List.set_cons_zero, List.set_cons_succ, i64_w, i32_w]
                                            rfl
                                          refine pure_ (i := 1) (N := some 31) (v := ?_) (a' := ?_) #[true, true, false, false, false, false, false, false, false, false, false, false, false, false, false, false, false, false, false, false, false, false] rfl rfl (any_of HT_.out (by kernel_rfl)) (fun _ _ _ h => h) (Or.inl ⟨by rfl, ?_⟩) ?_ ?_
                                          rotate_left
                                          · intro w'
                                            go_simp
                                            with_reducible rfl
                                          rotate_left
                                          · simp only [Act.put, List.setIfInBounds_toArray, List.set_cons_zero, List.set_cons_succ, i64_w, i32_w]
                                            rfl
                                          refine pure_ (i := 2) (N := some 32) (v := ?_) (a' := ?_) #[true, true, true, false, false, false, false, false, false, false, false, false, false, false, false, false, false, false, false, false, false, false] rfl rfl (any_of HT_.out (by kernel_rfl)) (fun _ _ _ h => h) (Or.inl ⟨by rfl, ?_⟩) ?_ ?_
                                          rotate_left
                                          · intro w'
                                            go_simp
                                            with_reducible rfl
                                          rotate_left
                                          · simp only [Act.put, List.setIfInBounds_toArray, List.set_cons_zero, List.set_cons_succ, i64_w, i32_w]
                                            rfl
                                          refine pure_ (i := 3) (N := some 33) (v := ?_) (a' := ?_) #[true, true, true, true, false, false, false, false, false, false, false, false, false, false, false, false, false, false, false, false, false, false] rfl rfl (any_of HT_.out (by kernel_rfl)) (fun _ _ _ h => h) (Or.inl ⟨by rfl, ?_⟩) ?_ ?_
                                          rotate_left
                                          · intro w'
                                            go_simp
                                            with_reducible rfl
                                          rotate_left
                                          · simp only [Act.put, List.setIfInBounds_toArray, List.set_cons_zero, List.set_cons_succ, i64_w, i32_w]
                                            rfl
                                          refine pure_ (i := 4) (N := some 34) (v := ?_) (a' := ?_) #[true, true, true, true, true, false, false, false, false, false, false, false, false, false, false, false, false, false, false, false, false, false] rfl rfl (any_of HT_.out (by kernel_rfl)) (fun _ _ _ h => h) (Or.inl ⟨by rfl, ?_⟩) ?_ ?_
                                          rotate_left
                                          · intro w'
                                            go_simp
                                            with_reducible rfl
                                          rotate_left
                                          · simp only [Act.put, List.setIfInBounds_toArray, List.set_cons_zero, List.set_cons_succ, i64_w, i32_w]
                                            rfl
                                          refine pure_ (i := 5) (N := some 35) (v := ?_) (a' := ?_) #[true, true, true, true, true, true, false, false, false, false, false, false, false, false, false, false, false, false, false, false, false, false] rfl rfl (any_of HT_.out (by kernel_rfl)) (fun _ _ _ h => h) (Or.inl ⟨by rfl, ?_⟩) ?_ ?_
                                          rotate_left
                                          · intro w'
                                            go_simp
                                            with_reducible rfl
                                          rotate_left
                                          · simp only [Act.put, List.setIfInBounds_toArray, List.set_cons_zero, List.set_cons_succ, i64_w, i32_w]
                                            rfl
                                          refine pure_ (i := 7) (N := some 37) (v := ?_) (a' := ?_) #[true, true, true, true, true, true, false, true, false, false, false, false, false, false, false, false, false, false, false, false, false, false] rfl rfl (any_of HT_.out (by kernel_rfl)) (fun _ _ _ h => h) (Or.inl ⟨by rfl, ?_⟩) ?_ ?_
                                          rotate_left
                                          · intro w'
                                            go_simp
                                            with_reducible rfl
                                          rotate_left
                                          · simp only [Act.put, List.setIfInBounds_toArray, List.set_cons_zero, List.set_cons_succ, i64_w, i32_w]
                                            rfl
                                          refine pure_ (i := 8) (N := some 38) (v := ?_) (a' := ?_) #[true, true, true, true, true, true, false, true, true, false, false, false, false, false, false, false, false, false, false, false, false, false] rfl rfl (any_of HT_.out (by kernel_rfl)) (fun _ _ _ h => h) (Or.inl ⟨by rfl, ?_⟩) ?_ ?_
                                          rotate_left
                                          · intro w'
                                            go_simp
                                            with_reducible rfl
                                          rotate_left
                                          · simp only [Act.put, List.setIfInBounds_toArray, List.set_cons_zero, List.set_cons_succ, i64_w, i32_w]
                                            rfl
                                          refine pure_ (i := 9) (N := some 39) (v := ?_) (a' := ?_) #[true, true, true, true, true, true, false, true, true, true, false, false, false, false, false, false, false, false, false, false, false, false] rfl rfl (any_of HT_.out (by kernel_rfl)) (fun _ _ _ h => h) (Or.inl ⟨by rfl, ?_⟩) ?_ ?_
                                          rotate_left
                                          · intro w'
                                            go_simp
                                            with_reducible rfl
                                          rotate_left
                                          · simp only [Act.put, List.setIfInBounds_toArray, List.set_cons_zero, List.set_cons_succ, i64_w, i32_w]
                                            rfl
                                          refine pure_ (i := 10) (N := some 40) (v := ?_) (a' := ?_) #[true, true, true, true, true, true, false, true, true, true, true, false, false, false, false, false, false, false, false, false, false, false] rfl rfl (any_of HT_.out (by kernel_rfl)) (fun _ _ _ h => h) (Or.inl ⟨by rfl, ?_⟩) ?_ ?_
                                          rotate_left
                                          · intro w'
                                            go_simp
                                            with_reducible rfl
                                          rotate_left
                                          · simp only [Act.put, List.setIfInBounds_toArray, List.set_cons_zero, List.set_cons_succ, i64_w, i32_w]
                                            rfl
                                          refine pure_ (i := 11) (N := some 41) (v := ?_) (a' := ?_) #[true, true, true, true, true, true, false, true, true, true, true, true, false, false, false, false, false, false, false, false, false, false] rfl rfl (any_of HT_.out (by kernel_rfl)) (fun _ _ _ h => h) (Or.inl ⟨by rfl, ?_⟩) ?_ ?_
                                          rotate_left
                                          · intro w'
                                            go_simp
                                            with_reducible rfl
                                          rotate_left
                                          · simp only [Act.put, List.setIfInBounds_toArray, List.set_cons_zero, List.set_cons_succ, i64_w, i32_w]
                                            rfl
                                          refine pure_ (i := 12) (N := some 42) (v := ?_) (a' := ?_) #[true, true, true, true, true, true, false, true, true, true, true, true, true, false, false, false, false, false, false, false, false, false] rfl rfl (any_of HT_.out (by kernel_rfl)) (fun _ _ _ h => h) (Or.inl ⟨by rfl, ?_⟩) ?_ ?_
                                          rotate_left
                                          · intro w'
                                            go_simp
                                            with_reducible rfl
                                          rotate_left
                                          · simp only [Act.put, List.setIfInBounds_toArray, List.set_cons_zero, List.set_cons_succ, i64_w, i32_w]
                                            rfl
                                          refine pure_ (i := 13) (N := some 43) (v := ?_) (a' := ?_) #[true, true, true, true, true, true, false, true, true, true, true, true, true, true, false, false, false, false, false, false, false, false] rfl rfl (any_of HT_.out (by kernel_rfl)) (fun _ _ _ h => h) (Or.inl ⟨by rfl, ?_⟩) ?_ ?_
                                          rotate_left
                                          · intro w'
                                            go_simp
                                            with_reducible rfl
                                          rotate_left
                                          · simp only [Act.put, List.setIfInBounds_toArray, List.set_cons_zero, List.set_cons_succ, i64_w, i32_w]
                                            rfl
                                          refine pure_ (i := 14) (N := some 44) (v := ?_) (a' := ?_) #[true, true, true, true, true, true, false, true, true, true, true, true, true, true, true, false, false, false, false, false, false, false] rfl rfl (any_of HT_.out (by kernel_rfl)) (fun _ _ _ h => h) (Or.inl ⟨by rfl, ?_⟩) ?_ ?_
                                          rotate_left
                                          · intro w'
                                            go_simp
                                            with_reducible rfl
                                          rotate_left
                                          · simp only [Act.put, List.setIfInBounds_toArray, List.set_cons_zero, List.set_cons_succ, i64_w, i32_w]
                                            rfl
                                          refine pure_ (i := 15) (N := some 45) (v := ?_) (a' := ?_) #[true, true, true, true, true, true, false, true, true, true, true, true, true, true, true, true, false, false, false, false, false, false] rfl rfl (any_of HT_.out (by kernel_rfl)) (fun _ _ _ h => h) (Or.inl ⟨by rfl, ?_⟩) ?_ ?_
                                          rotate_left
                                          · intro w'
                                            go_simp
                                            with_reducible rfl
                                          rotate_left
                                          · simp only [Act.put, List.setIfInBounds_toArray, List.set_cons_zero, List.set_cons_succ, i64_w, i32_w]
                                            rfl
                                          refine pure_ (i := 16) (N := some 46) (v := ?_) (a' := ?_) #[true, true, true, true, true, true, false, true, true, true, true, true, true, true, true, true, true, false, false, false, false, false] rfl rfl (any_of HT_.out (by kernel_rfl)) (fun _ _ _ h => h) (Or.inl ⟨by rfl, ?_⟩) ?_ ?_
                                          rotate_left
                                          · intro w'
                                            go_simp
                                            with_reducible rfl
                                          rotate_left
                                          · simp only [Act.put, List.setIfInBounds_toArray, List.set_cons_zero, List.set_cons_succ, i64_w, i32_w]
                                            rfl
                                          refine pure_ (i := 17) (N := some 47) (v := ?_) (a' := ?_) #[true, true, true, true, true, true, false, true, true, true, true, true, true, true, true, true, true, true, false, false, false, false] rfl rfl (any_of HT_.out (by kernel_rfl)) (fun _ _ _ h => h) (Or.inl ⟨by rfl, ?_⟩) ?_ ?_
                                          rotate_left
                                          · intro w'
                                            go_simp
                                            with_reducible rfl
                                          rotate_left
                                          · simp only [Act.put, List.setIfInBounds_toArray, List.set_cons_zero, List.set_cons_succ, i64_w, i32_w]
                                            rfl
                                          refine pure_ (i := 18) (N := some 48) (v := ?_) (a' := ?_) #[true, true, true, true, true, true, false, true, true, true, true, true, true, true, true, true, true, true, true, false, false, false] rfl rfl (any_of HT_.out (by kernel_rfl)) (fun _ _ _ h => h) (Or.inl ⟨by rfl, ?_⟩) ?_ ?_
                                          rotate_left
                                          · intro w'
                                            go_simp
                                            with_reducible rfl
                                          rotate_left
                                          · simp only [Act.put, List.setIfInBounds_toArray, List.set_cons_zero, List.set_cons_succ, i64_w, i32_w]
                                            rfl
                                          refine pure_ (i := 19) (N := some 49) (v := ?_) (a' := ?_) #[true, true, true, true, true, true, false, true, true, true, true, true, true, true, true, true, true, true, true, true, false, false] rfl rfl (any_of HT_.out (by kernel_rfl)) (fun _ _ _ h => h) (Or.inl ⟨by rfl, ?_⟩) ?_ ?_
                                          rotate_left
                                          · intro w'
                                            go_simp
                                            with_reducible rfl
                                          rotate_left
                                          · simp only [Act.put, List.setIfInBounds_toArray, List.set_cons_zero, List.set_cons_succ, i64_w, i32_w]
                                            rfl
                                          refine one_ (i := 6) (N := some 36) #[true, true, true, true, true, true, true, true, true, true, true, true, true, true, true, true, true, true, true, true, false, false] rfl rfl (one_of HT_.out (by kernel_rfl)) (by decide) (fun K hK => ?_)
                                          refine goes_ Try.func39 (by kernel_rfl) rfl #[.slice A32 ((l0.take ((ji20) : Int).toNat).drop ((ji12) : Int).toNat).length (c0 - (ji12).toNat)] (by rfl) rfl rfl (by (try simp only [List.map_toArray, List.map_cons, List.map_nil]); first | done | (rw [show ((l0.take ((ji20) : Int).toNat).drop ((ji12) : Int).toNat).length = ((ji20).toNat - (ji12).toNat) from (by rw [List.length_drop, List.length_take]; have h_ : ((ji20) : Int) ≤ (l0.length : Int) := of_decide_eq_true (by first | (with_reducible assumption) | assumption); omega)] <;> rfl) | (simp only [hji12, hji20]; rfl) | rfl | (simp only [List.length_drop, List.length_take]; rfl)) ?_
                                          with_reducible refine (frame_number.calls _ _ ((l0.take ((ji20) : Int).toNat).drop ((ji12) : Int).toNat) t121 _ ?side1 ?side2 A16.out).mono ?_
                                          (case side1 => repeat (first | exact (Kd.C_below HR120.out HB.out) | (with_reducible refine Kd.C_alloc ?_ _) | (with_reducible refine Kd.C_drewN ?_ _) | (with_reducible refine Kd.C_drew ?_)))
                                          (case side2 => exact HC120.out)
                                          rintro e w35 ⟨rfl, hb⟩
                                          refine ⟨_, rfl, ?_⟩
                                          have n0_ := Aside0.mk (Kd.S_below (by (with_reducible repeat (first | apply Kd.S_alloc | apply Kd.S_drewN | apply Kd.S_drew)); exact HO_4.out) hb)
                                          have n1_ := Aside0.mk (below_step (by repeat (first | (with_reducible first | exact HB.out | apply below_alloc | apply pw_below_drewN | apply below_drew1) | exact HB.out)) hb)
                                          clear HO_4
                                          clear HB
                                          have HO_4 := n0_
                                          have HB := n1_
                                          clear n0_ n1_
                                          (try clear hb)
                                          (try clear hb2)
                                          (try clear hk)
                                          (try clear hi)
                                          refine hK.out _ _ trivial (fun hHeld => ?_)
                                          clear hK K
                                          refine norm_ (a' := ?_) ?_ ?_
                                          rotate_left
                                          · show Act.put _ (some 36) _ = _
                                            simp only [Act.put, List.setIfInBounds_toArray, List.set_cons_zero, List.set_cons_succ, i64_w, i32_w]
                                            rfl
                                          refine one_ (i := 20) (N := some 50) #[true, true, true, true, true, true, true, true, true, true, true, true, true, true, true, true, true, true, true, true, true, false] rfl rfl (one_of HT_.out (by kernel_rfl)) (by decide) (fun K hK => ?_)
                                          refine goes_ Try.func37 (by kernel_rfl) rfl #[.slice A33 ((l0.take ((ji12) : Int).toNat).drop (x5_1 : Int).toNat).length (c0 - x5_1.toNat), .slice A34 ((l0.take ((wrap64 ((ji20) + (wrap64 (t119)))) : Int).toNat).drop ((ji20) : Int).toNat).length (c0 - (ji20).toNat)] (by rfl) rfl rfl (by (try simp only [List.map_toArray, List.map_cons, List.map_nil]); first | done | (rw [show ((l0.take ((ji12) : Int).toNat).drop (x5_1 : Int).toNat).length = ((ji12).toNat - x5_1.toNat) from (by rw [List.length_drop, List.length_take]; have h_ : ((ji12) : Int) ≤ (l0.length : Int) := of_decide_eq_true (by first | (with_reducible assumption) | assumption); omega), show ((l0.take ((wrap64 ((ji20) + (wrap64 (t119)))) : Int).toNat).drop ((ji20) : Int).toNat).length = ((wrap64 ((ji20) + (wrap64 (t119)))).toNat - (ji20).toNat) from (by rw [List.length_drop, List.length_take]; have h_ : ((wrap64 ((ji20) + (wrap64 (t119)))) : Int) ≤ (l0.length : Int) := of_decide_eq_true (by first | (with_reducible assumption) | assumption); omega)] <;> rfl) | (rw [show ((l0.take ((ji12) : Int).toNat).drop (x5_1 : Int).toNat).length = ((ji12).toNat - x5_1.toNat) from (by rw [List.length_drop, List.length_take]; have h_ : ((ji12) : Int) ≤ (l0.length : Int) := of_decide_eq_true (by first | (with_reducible assumption) | assumption); omega)] <;> rfl) | (rw [show ((l0.take ((wrap64 ((ji20) + (wrap64 (t119)))) : Int).toNat).drop ((ji20) : Int).toNat).length = ((wrap64 ((ji20) + (wrap64 (t119)))).toNat - (ji20).toNat) from (by rw [List.length_drop, List.length_take]; have h_ : ((wrap64 ((ji20) + (wrap64 (t119)))) : Int) ≤ (l0.length : Int) := of_decide_eq_true (by first | (with_reducible assumption) | assumption); omega)] <;> rfl) | (simp only [hji12, hji20]; rfl) | rfl | (simp only [List.length_drop, List.length_take]; rfl)) ?_
                                          with_reducible refine (frame_sum.calls kj6 _ _ ((l0.take ((ji12) : Int).toNat).drop (x5_1 : Int).toNat) _ _ ((l0.take ((wrap64 ((ji20) + (wrap64 (t119)))) : Int).toNat).drop ((ji20) : Int).toNat) t124 _ ?side1 ?side2 ?side3 ?side4 A24.out).mono ?_
                                          (case side1 => repeat (first | exact (Kd.C_below HR122.out HB.out) | (with_reducible refine Kd.C_alloc ?_ _) | (with_reducible refine Kd.C_drewN ?_ _) | (with_reducible refine Kd.C_drew ?_)))
                                          (case side2 => exact HC122.out)
                                          (case side3 => repeat (first | exact (Kd.C_below HR123.out HB.out) | (with_reducible refine Kd.C_alloc ?_ _) | (with_reducible refine Kd.C_drewN ?_ _) | (with_reducible refine Kd.C_drew ?_)))
                                          (case side4 => exact HC123.out)
                                          rintro e w' ⟨rfl, ⟨nd, rfl⟩⟩
                                          refine ⟨_, rfl, ?_⟩
                                          refine hK.out _ _ trivial (fun hHeld => ?_)
                                          clear hK K
                                          refine norm_ (a' := ?_) ?_ ?_
                                          rotate_left
                                          · show Act.put _ (some 50) _ = _
                                            simp only [Act.put, List.setIfInBounds_toArray, List.set_cons_zero, List.set_cons_succ, i64_w, i32_w]
                                            rfl
                                          refine pure_ (i := 21) (N := some 51) (v := ?_) (a' := ?_) #[true, true, true, true, true, true, true, true, true, true, true, true, true, true, true, true, true, true, true, true, true, true] rfl rfl (any_of HT_.out (by kernel_rfl)) (fun _ _ _ h => h) (Or.inl ⟨by rfl, ?_⟩) ?_ ?_
                                          rotate_left
                                          · intro w'
                                            go_simp
                                            with_reducible rfl
                                          rotate_left
                                          · simp only [Act.put, List.setIfInBounds_toArray, List.set_cons_zero, List.set_cons_succ, i64_w, i32_w]
                                            rfl
                                          refine done_ (done_of HT_.out (by kernel_rfl)) ?_
                                          obtain ⟨i036, hi036, _, hsz36, _⟩ := info_parts info5
                                          obtain ⟨A36, hcut36, hA36, hC36⟩ := print_mid_of (P := Try.prog) (Value.int .u8) 0 28 5 .i64 .i64 Try.underlying28 hi036 hsz36 A0 c0 l0 (ji20) (wrap64 ((ji20) + (wrap64 (t119)))) (of_decide_eq_true (by first | (with_reducible assumption) | assumption)) (by first | omega | exact of_decide_eq_true (by first | (with_reducible assumption) | assumption)) (of_decide_eq_true (by first | (with_reducible assumption) | assumption)) HC0.out
                                          have HR125 := Aside0.mk (Kd.C_of_reads (h1 := fun _ => rfl) (hA36 _ (Kd.reads_of_C HR0.out)))
                                          have HC125 := Aside0.mk hC36
                                          clear hA36 hC36 hi036 hsz36
                                          obtain rfl : A36 = A34 := by have e_ := (hcut36 w).symm.trans (hcut34 w); simpa using e_
                                          try go_wp2_with (first | ((with_reducible refine gate_callee (f := 30) rfl ?_); refine goesL_ (some 61) rfl rfl Try.func30 (by kernel_rfl) rfl #[.slice A36 ((l0.take ((wrap64 ((ji20) + (wrap64 (t119)))) : Int).toNat).drop ((ji20) : Int).toNat).length (c0 - (ji20).toNat)] rfl (by (try simp only [List.map_toArray, List.map_cons, List.map_nil]); first | done | (rw [show ((l0.take ((wrap64 ((ji20) + (wrap64 (t119)))) : Int).toNat).drop ((ji20) : Int).toNat).length = ((wrap64 ((ji20) + (wrap64 (t119)))).toNat - (ji20).toNat) from (by rw [List.length_drop, List.length_take]; have h_ : ((wrap64 ((ji20) + (wrap64 (t119)))) : Int) ≤ (l0.length : Int) := of_decide_eq_true (by first | (with_reducible assumption) | assumption); omega)] <;> rfl) | (simp only [hji20]; rfl) | rfl | (simp only [List.length_drop, List.length_take]; rfl)) ?_; (with_reducible refine (slices_Clone_bytes.calls _ _ ((l0.take ((wrap64 ((ji20) + (wrap64 (t119)))) : Int).toNat).drop ((ji20) : Int).toNat) t126 _ ?side1 ?side2 A29.out).mono ?_); (case side1 => repeat (first | exact (Kd.C_below HR125.out (by repeat (first | (with_reducible first | exact HB.out | apply below_alloc | apply pw_below_drewN | apply below_drew1) | exact HB.out))) | (with_reducible refine Kd.C_alloc ?_ _) | (with_reducible refine Kd.C_drewN ?_ _) | (with_reducible refine Kd.C_drew ?_))); (case side2 => exact HC125.out); rintro e w37 ⟨v127, rfl, ho0, hb⟩; refine ⟨_, rfl, ?_⟩; have n0_ := Aside0.mk (Kd.S_elder' (by (with_reducible repeat (first | apply Kd.S_alloc | apply Kd.S_drewN | apply Kd.S_drew)); exact HO_4.out) (Kd.R_base ho0) hb); have n1_ := Aside0.mk (Kd.R_lower ho0 (below_size (by repeat (first | (with_reducible first | exact HB.out | apply below_alloc | apply pw_below_drewN | apply below_drew1) | exact HB.out)))); have n2_ := Aside0.mk (below_step (by repeat (first | (with_reducible first | exact HB.out | apply below_alloc | apply pw_below_drewN | apply below_drew1) | exact HB.out)) hb); clear HO_4; clear HB; have HO_4 := n0_; have HO128 := n1_; have HB := n2_; clear n0_ n1_ n2_; (try clear hb); (try clear hb2); (try clear hk); (try clear hi); (try clear ho0); obtain ⟨Ao39, co39, eo39⟩ := Kd.R_slice HO128.out; subst eo39) | ((with_reducible refine gate_builtin (b := .append) (xs := #[.tmp 52, .tmp 62]) rfl ?_); (try (refine gate_guard (by rfl) ?_; dsimp only)); at_builtin; refine Kd.S_append (Kd.slice 5 (Kd.int .u8)) (w0 := w) w.heap.size rfl (.tmp 52) (.tmp 62) 29 28 (.slice none 0 0) 24 rfl Try.underlying29 info28 rfl (by decide) (by omega) u4 x4_1 t126 [.slice Ao39 t126.length co39] (fun _ => True) (fun k_ => some k_ = (.slice Ao39 t126.length co39 : Value).ownBlock) rfl rfl ?aP (fun k_ hk_ => ((Kd.R_mono (ok' := fun k_ => ((fun _ => True)) k_ ∧ some k_ ≠ (u4 : Value).ownBlock) (Kd.R_apart' (HO128.out) (Kd.S_typed HO_4.out) (by decide)) (fun k_ hk => ⟨trivial, hk.2⟩))).1 k_ hk_.symm) ?aF ?aO ?aB ?aS ?aL ?_; (case aP => exact Kd.M_row (Kd.R_mono (Kd.R_tight rfl (Kd.R_mono (ok' := fun k_ => ((fun _ => True)) k_ ∧ some k_ ≠ (u4 : Value).ownBlock) (Kd.R_apart' (HO128.out) (Kd.S_typed HO_4.out) (by decide)) (fun k_ hk => ⟨trivial, hk.2⟩))) (fun _ h_ => h_))); (case aB => exact (by repeat (first | (with_reducible first | exact HB.out | apply below_alloc | apply pw_below_drewN | apply below_drew1) | exact HB.out))); (case aF => exact (fun _ _ => trivial)); (case aO => exact (by (with_reducible repeat (first | apply Kd.S_alloc | apply Kd.S_drewN | apply Kd.S_drew)); exact Kd.S_mono HO_4.out (fun k_ hk => ⟨trivial, fun e_ => hk.2 e_⟩))); (case aS => exact (below_size (by repeat (first | (with_reducible first | exact HB.out | apply below_alloc | apply pw_below_drewN | apply below_drew1) | exact HB.out)))); (case aL => have := LMc30.out; omega); intro v130 w38 ho hb hg hat; rw [← Ny129.out] at ho; have n0_ := Aside0.mk (hb); have n1_ := Aside0.mk (ho); clear HB; clear HO_4; clear HO128; have HB := n0_; have HO131 := n1_; clear n0_ n1_; clear ho hb hg hat))
                                          go_step3
                                          refine Or.inl ⟨rfl, kj6, ?measure, _, _, _, _, _, _, _, _, _, _, _, _, _, _, _, _, _, _, _, _, _, _, _, _, _, _, _, _, _, _, _, _, _, _, _, _, _, _, _, _, _, _, _, _, _, _, _, _, _, _, _, _, _, _, _, _, _, _, _, _, _, _, _, _, _, _, _, _, _, rfl, ?rel⟩
                                          case measure => have := HK1.out; have := HJ6.out; omega
                                          case rel => exact ⟨(y129), (wrap64 (x5_1 + (wrap64 (12 + (wrap64 (t119)))))), (by first | rfl | (simp; done) | (simp [*]; done)), H', ⟨by have := HK1.out; have := HJ6.out; omega⟩, ⟨by (with_reducible repeat (first | apply Kd.S_alloc | apply Kd.S_drewN | apply Kd.S_drew)); exact HO131.out⟩, ⟨by repeat (first | (with_reducible first | exact HB.out | apply below_alloc | apply pw_below_drewN | apply below_drew1) | exact HB.out)⟩⟩
                                        · rw [if_neg c30] at H
                                          exact absurd H (by simp)
                                      · rw [if_neg c25] at H
                                        have c25b0 : (t121 == t124) = false := beq_eq_false_iff_ne.mpr c25
                                        have c25b1 : (t121 != t124) = true := bne_iff_ne.mpr c25
                                        simp only [Option.some.injEq, Prod.mk.injEq] at H
                                        obtain ⟨rfl, rfl⟩ := H
                                        try go_wp2
                                        have n0_ := Aside0.mk (Kd.S_drew HO_4.out)
                                        have n1_ := Aside0.mk (below_drew1 HB.out)
                                        clear HO_4
                                        clear HB
                                        have HO_4 := n0_
                                        have HB := n1_
                                        clear n0_ n1_
                                        obtain ⟨i041, hi041, _, hsz41, _⟩ := info_parts info5
                                        obtain ⟨A41, hcut41, hA41, hC41⟩ := print_mid_of (P := Try.prog) (Value.int .u8) 0 28 5 .i64 .i64 Try.underlying28 hi041 hsz41 A0 c0 l0 (ji12) (ji20) (of_decide_eq_true (by first | (with_reducible assumption) | assumption)) (by first | omega | exact of_decide_eq_true (by first | (with_reducible assumption) | assumption)) (of_decide_eq_true (by first | (with_reducible assumption) | assumption)) HC0.out
                                        have HR120 := Aside0.mk (Kd.C_of_reads (h1 := fun _ => rfl) (hA41 _ (Kd.reads_of_C HR0.out)))
                                        have HC120 := Aside0.mk hC41
                                        clear hA41 hC41 hi041 hsz41
                                        obtain ⟨i042, hi042, _, hsz42, _⟩ := info_parts info5
                                        obtain ⟨A42, hcut42, hA42, hC42⟩ := print_mid_of (P := Try.prog) (Value.int .u8) 0 28 5 .i64 .i64 Try.underlying28 hi042 hsz42 A0 c0 l0 x5_1 (ji12) (of_decide_eq_true (by first | (with_reducible assumption) | assumption)) (by first | omega | exact of_decide_eq_true (by first | (with_reducible assumption) | assumption)) (of_decide_eq_true (by first | (with_reducible assumption) | assumption)) HC0.out
                                        have HR122 := Aside0.mk (Kd.C_of_reads (h1 := fun _ => rfl) (hA42 _ (Kd.reads_of_C HR0.out)))
                                        have HC122 := Aside0.mk hC42
                                        clear hA42 hC42 hi042 hsz42
                                        obtain ⟨i043, hi043, _, hsz43, _⟩ := info_parts info5
                                        obtain ⟨A43, hcut43, hA43, hC43⟩ := print_mid_of (P := Try.prog) (Value.int .u8) 0 28 5 .i64 .i64 Try.underlying28 hi043 hsz43 A0 c0 l0 (ji20) (wrap64 ((ji20) + (wrap64 (t119)))) (of_decide_eq_true (by first | (with_reducible assumption) | assumption)) (by first | omega | exact of_decide_eq_true (by first | (with_reducible assumption) | assumption)) (of_decide_eq_true (by first | (with_reducible assumption) | assumption)) HC0.out
                                        have HR123 := Aside0.mk (Kd.C_of_reads (h1 := fun _ => rfl) (hA43 _ (Kd.reads_of_C HR0.out)))
                                        have HC123 := Aside0.mk hC43
                                        clear hA43 hC43 hi043 hsz43
                                        refine start_ (n := 22) (S := fun w' => True) (ds := []) #[false, false, false, false, false, false, false, false, false, false, false, false, false, false, false, false, false, false, false, false, false, false] (by kernel_rfl) rfl rfl trivial (fun hHeld => ?_); refine with_tabW frame_Scan.tab6 frame_Scan.bits6 (fun HT_ HW_ => ?_)
                                        generalize wc.drew = w40 at HO_4 HB HR120 HR122 HR123 hHeld ⊢
                                        refine pure_ (i := 0) (N := some 30) (v := ?_) (a' := ?_) #[true, false, false, false, false, false, false, false, false, false, false, false, false, false, false, false, false, false, false, false, false, false] rfl rfl (any_of HT_.out (by kernel_rfl)) (fun _ _ _ h => h) (Or.inl ⟨by rfl, ?_⟩) ?_ ?_
                                        rotate_left
                                        · intro w'
                                          go_simp
                                          with_reducible rfl
                                        rotate_left
                                        · simp only [Act.put, List.setIfInBounds_toArray, List.set_cons_zero, List.set_cons_succ, i64_w, i32_w]
                                          rfl
                                        refine pure_ (i := 1) (N := some 31) (v := ?_) (a' := ?_) #[true, true, false, false, false, false, false, false, false, false, false, false, false, false, false, false, false, false, false, false, false, false] rfl rfl (any_of HT_.out (by kernel_rfl)) (fun _ _ _ h => h) (Or.inl ⟨by rfl, ?_⟩) ?_ ?_
                                        rotate_left
                                        · intro w'
                                          go_simp
                                          with_reducible rfl
                                        rotate_left
                                        · simp only [Act.put, List.setIfInBounds_toArray, List.set_cons_zero, List.set_cons_succ, i64_w, i32_w]
                                          rfl
                                        refine pure_ (i := 2) (N := some 32) (v := ?_) (a' := ?_) #[true, true, true, false, false, false, false, false, false, false, false, false, false, false, false, false, false, false, false, false, false, false] rfl rfl (any_of HT_.out (by kernel_rfl)) (fun _ _ _ h => h) (Or.inl ⟨by rfl, ?_⟩) ?_ ?_
                                        rotate_left
                                        · intro w'
                                          go_simp
                                          with_reducible rfl
                                        rotate_left
                                        · simp only [Act.put, List.setIfInBounds_toArray, List.set_cons_zero, List.set_cons_succ, i64_w, i32_w]
                                          rfl
                                        refine pure_ (i := 3) (N := some 33) (v := ?_) (a' := ?_) #[true, true, true, true, false, false, false, false, false, false, false, false, false, false, false, false, false, false, false, false, false, false] rfl rfl (any_of HT_.out (by kernel_rfl)) (fun _ _ _ h => h) (Or.inl ⟨by rfl, ?_⟩) ?_ ?_
                                        rotate_left
                                        · intro w'
                                          go_simp
                                          with_reducible rfl
                                        rotate_left
                                        · simp only [Act.put, List.setIfInBounds_toArray, List.set_cons_zero, List.set_cons_succ, i64_w, i32_w]
                                          rfl
                                        refine pure_ (i := 4) (N := some 34) (v := ?_) (a' := ?_) #[true, true, true, true, true, false, false, false, false, false, false, false, false, false, false, false, false, false, false, false, false, false] rfl rfl (any_of HT_.out (by kernel_rfl)) (fun _ _ _ h => h) (Or.inl ⟨by rfl, ?_⟩) ?_ ?_
                                        rotate_left
                                        · intro w'
                                          go_simp
                                          with_reducible rfl
                                        rotate_left
                                        · simp only [Act.put, List.setIfInBounds_toArray, List.set_cons_zero, List.set_cons_succ, i64_w, i32_w]
                                          rfl
                                        refine pure_ (i := 5) (N := some 35) (v := ?_) (a' := ?_) #[true, true, true, true, true, true, false, false, false, false, false, false, false, false, false, false, false, false, false, false, false, false] rfl rfl (any_of HT_.out (by kernel_rfl)) (fun _ _ _ h => h) (Or.inl ⟨by rfl, ?_⟩) ?_ ?_
                                        rotate_left
                                        · intro w'
                                          go_simp
                                          with_reducible rfl
                                        rotate_left
                                        · simp only [Act.put, List.setIfInBounds_toArray, List.set_cons_zero, List.set_cons_succ, i64_w, i32_w]
                                          rfl
                                        refine pure_ (i := 7) (N := some 37) (v := ?_) (a' := ?_) #[true, true, true, true, true, true, false, true, false, false, false, false, false, false, false, false, false, false, false, false, false, false] rfl rfl (any_of HT_.out (by kernel_rfl)) (fun _ _ _ h => h) (Or.inl ⟨by rfl, ?_⟩) ?_ ?_
                                        rotate_left
                                        · intro w'
                                          go_simp
                                          with_reducible rfl
                                        rotate_left
                                        · simp only [Act.put, List.setIfInBounds_toArray, List.set_cons_zero, List.set_cons_succ, i64_w, i32_w]
                                          rfl
                                        refine pure_ (i := 8) (N := some 38) (v := ?_) (a' := ?_) #[true, true, true, true, true, true, false, true, true, false, false, false, false, false, false, false, false, false, false, false, false, false] rfl rfl (any_of HT_.out (by kernel_rfl)) (fun _ _ _ h => h) (Or.inl ⟨by rfl, ?_⟩) ?_ ?_
                                        rotate_left
                                        · intro w'
                                          go_simp
                                          with_reducible rfl
                                        rotate_left
                                        · simp only [Act.put, List.setIfInBounds_toArray, List.set_cons_zero, List.set_cons_succ, i64_w, i32_w]
                                          rfl
                                        refine pure_ (i := 9) (N := some 39) (v := ?_) (a' := ?_) #[true, true, true, true, true, true, false, true, true, true, false, false, false, false, false, false, false, false, false, false, false, false] rfl rfl (any_of HT_.out (by kernel_rfl)) (fun _ _ _ h => h) (Or.inl ⟨by rfl, ?_⟩) ?_ ?_
                                        rotate_left
                                        · intro w'
                                          go_simp
                                          with_reducible rfl
                                        rotate_left
                                        · simp only [Act.put, List.setIfInBounds_toArray, List.set_cons_zero, List.set_cons_succ, i64_w, i32_w]
                                          rfl
                                        refine pure_ (i := 10) (N := some 40) (v := ?_) (a' := ?_) #[true, true, true, true, true, true, false, true, true, true, true, false, false, false, false, false, false, false, false, false, false, false] rfl rfl (any_of HT_.out (by kernel_rfl)) (fun _ _ _ h => h) (Or.inl ⟨by rfl, ?_⟩) ?_ ?_
                                        rotate_left
                                        · intro w'
                                          go_simp
                                          with_reducible rfl
                                        rotate_left
                                        · simp only [Act.put, List.setIfInBounds_toArray, List.set_cons_zero, List.set_cons_succ, i64_w, i32_w]
                                          rfl
                                        refine pure_ (i := 11) (N := some 41) (v := ?_) (a' := ?_) #[true, true, true, true, true, true, false, true, true, true, true, true, false, false, false, false, false, false, false, false, false, false] rfl rfl (any_of HT_.out (by kernel_rfl)) (fun _ _ _ h => h) (Or.inl ⟨by rfl, ?_⟩) ?_ ?_
                                        rotate_left
                                        · intro w'
                                          go_simp
                                          with_reducible rfl
                                        rotate_left
                                        · simp only [Act.put, List.setIfInBounds_toArray, List.set_cons_zero, List.set_cons_succ, i64_w, i32_w]
                                          rfl
                                        refine pure_ (i := 12) (N := some 42) (v := ?_) (a' := ?_) #[true, true, true, true, true, true, false, true, true, true, true, true, true, false, false, false, false, false, false, false, false, false] rfl rfl (any_of HT_.out (by kernel_rfl)) (fun _ _ _ h => h) (Or.inl ⟨by rfl, ?_⟩) ?_ ?_
                                        rotate_left
                                        · intro w'
                                          go_simp
                                          with_reducible rfl
                                        rotate_left
                                        · simp only [Act.put, List.setIfInBounds_toArray, List.set_cons_zero, List.set_cons_succ, i64_w, i32_w]
                                          rfl
                                        refine pure_ (i := 13) (N := some 43) (v := ?_) (a' := ?_) #[true, true, true, true, true, true, false, true, true, true, true, true, true, true, false, false, false, false, false, false, false, false] rfl rfl (any_of HT_.out (by kernel_rfl)) (fun _ _ _ h => h) (Or.inl ⟨by rfl, ?_⟩) ?_ ?_
                                        rotate_left
                                        · intro w'
                                          go_simp
                                          with_reducible rfl
                                        rotate_left
                                        · simp only [Act.put, List.setIfInBounds_toArray, List.set_cons_zero, List.set_cons_succ, i64_w, i32_w]
                                          rfl
                                        refine pure_ (i := 14) (N := some 44) (v := ?_) (a' := ?_) #[true, true, true, true, true, true, false, true, true, true, true, true, true, true, true, false, false, false, false, false, false, false] rfl rfl (any_of HT_.out (by kernel_rfl)) (fun _ _ _ h => h) (Or.inl ⟨by rfl, ?_⟩) ?_ ?_
                                        rotate_left
                                        · intro w'
                                          go_simp
                                          with_reducible rfl
                                        rotate_left
                                        · simp only [Act.put, List.setIfInBounds_toArray, List.set_cons_zero, List.set_cons_succ, i64_w, i32_w]
                                          rfl
                                        refine pure_ (i := 15) (N := some 45) (v := ?_) (a' := ?_) #[true, true, true, true, true, true, false, true, true, true, true, true, true, true, true, true, false, false, false, false, false, false] rfl rfl (any_of HT_.out (by kernel_rfl)) (fun _ _ _ h => h) (Or.inl ⟨by rfl, ?_⟩) ?_ ?_
                                        rotate_left
                                        · intro w'
                                          go_simp
                                          with_reducible rfl
                                        rotate_left
                                        · simp only [Act.put, List.setIfInBounds_toArray, List.set_cons_zero, List.set_cons_succ, i64_w, i32_w]
                                          rfl
                                        refine pure_ (i := 16) (N := some 46) (v := ?_) (a' := ?_) #[true, true, true, true, true, true, false, true, true, true, true, true, true, true, true, true, true, false, false, false, false, false] rfl rfl (any_of HT_.out (by kernel_rfl)) (fun _ _ _ h => h) (Or.inl ⟨by rfl, ?_⟩) ?_ ?_
                                        rotate_left
                                        · intro w'
                                          go_simp
                                          with_reducible rfl
                                        rotate_left
                                        · simp only [Act.put, List.setIfInBounds_toArray, List.set_cons_zero, List.set_cons_succ, i64_w, i32_w]
                                          rfl
                                        refine pure_ (i := 17) (N := some 47) (v := ?_) (a' := ?_) #[true, true, true, true, true, true, false, true, true, true, true, true, true, true, true, true, true, true, false, false, false, false] rfl rfl (any_of HT_.out (by kernel_rfl)) (fun _ _ _ h => h) (Or.inl ⟨by rfl, ?_⟩) ?_ ?_
                                        rotate_left
                                        · intro w'
                                          go_simp
                                          with_reducible rfl
                                        rotate_left
                                        · simp only [Act.put, List.setIfInBounds_toArray, List.set_cons_zero, List.set_cons_succ, i64_w, i32_w]
                                          rfl
                                        refine pure_ (i := 18) (N := some 48) (v := ?_) (a' := ?_) #[true, true, true, true, true, true, false, true, true, true, true, true, true, true, true, true, true, true, true, false, false, false] rfl rfl (any_of HT_.out (by kernel_rfl)) (fun _ _ _ h => h) (Or.inl ⟨by rfl, ?_⟩) ?_ ?_
                                        rotate_left
                                        · intro w'
                                          go_simp
                                          with_reducible rfl
                                        rotate_left
                                        · simp only [Act.put, List.setIfInBounds_toArray, List.set_cons_zero, List.set_cons_succ, i64_w, i32_w]
                                          rfl
                                        refine pure_ (i := 19) (N := some 49) (v := ?_) (a' := ?_) #[true, true, true, true, true, true, false, true, true, true, true, true, true, true, true, true, true, true, true, true, false, false] rfl rfl (any_of HT_.out (by kernel_rfl)) (fun _ _ _ h => h) (Or.inl ⟨by rfl, ?_⟩) ?_ ?_
                                        rotate_left
                                        · intro w'
                                          go_simp
                                          with_reducible rfl
                                        rotate_left
                                        · simp only [Act.put, List.setIfInBounds_toArray, List.set_cons_zero, List.set_cons_succ, i64_w, i32_w]
                                          rfl
                                        refine one_ (i := 6) (N := some 36) #[true, true, true, true, true, true, true, true, true, true, true, true, true, true, true, true, true, true, true, true, false, false] rfl rfl (one_of HT_.out (by kernel_rfl)) (by decide) (fun K hK => ?_)
                                        refine goes_ Try.func39 (by kernel_rfl) rfl #[.slice A41 ((l0.take ((ji20) : Int).toNat).drop ((ji12) : Int).toNat).length (c0 - (ji12).toNat)] (by rfl) rfl rfl (by (try simp only [List.map_toArray, List.map_cons, List.map_nil]); first | done | (rw [show ((l0.take ((ji20) : Int).toNat).drop ((ji12) : Int).toNat).length = ((ji20).toNat - (ji12).toNat) from (by rw [List.length_drop, List.length_take]; have h_ : ((ji20) : Int) ≤ (l0.length : Int) := of_decide_eq_true (by first | (with_reducible assumption) | assumption); omega)] <;> rfl) | (simp only [hji12, hji20]; rfl) | rfl | (simp only [List.length_drop, List.length_take]; rfl)) ?_
                                        with_reducible refine (frame_number.calls _ _ ((l0.take ((ji20) : Int).toNat).drop ((ji12) : Int).toNat) t121 _ ?side1 ?side2 A16.out).mono ?_
                                        (case side1 => repeat (first | exact (Kd.C_below HR120.out HB.out) | (with_reducible refine Kd.C_alloc ?_ _) | (with_reducible refine Kd.C_drewN ?_ _) | (with_reducible refine Kd.C_drew ?_)))
                                        (case side2 => exact HC120.out)
                                        rintro e w44 ⟨rfl, hb⟩
                                        refine ⟨_, rfl, ?_⟩
                                        have n0_ := Aside0.mk (Kd.S_below (by (with_reducible repeat (first | apply Kd.S_alloc | apply Kd.S_drewN | apply Kd.S_drew)); exact HO_4.out) hb)
                                        have n1_ := Aside0.mk (below_step (by repeat (first | (with_reducible first | exact HB.out | apply below_alloc | apply pw_below_drewN | apply below_drew1) | exact HB.out)) hb)
                                        clear HO_4
                                        clear HB
                                        have HO_4 := n0_
                                        have HB := n1_
                                        clear n0_ n1_
                                        (try clear hb)
                                        (try clear hb2)
                                        (try clear hk)
                                        (try clear hi)
                                        refine hK.out _ _ trivial (fun hHeld => ?_)
                                        clear hK K
                                        refine norm_ (a' := ?_) ?_ ?_
                                        rotate_left
                                        · show Act.put _ (some 36) _ = _
                                          simp only [Act.put, List.setIfInBounds_toArray, List.set_cons_zero, List.set_cons_succ, i64_w, i32_w]
                                          rfl
                                        refine one_ (i := 20) (N := some 50) #[true, true, true, true, true, true, true, true, true, true, true, true, true, true, true, true, true, true, true, true, true, false] rfl rfl (one_of HT_.out (by kernel_rfl)) (by decide) (fun K hK => ?_)
                                        refine goes_ Try.func37 (by kernel_rfl) rfl #[.slice A42 ((l0.take ((ji12) : Int).toNat).drop (x5_1 : Int).toNat).length (c0 - x5_1.toNat), .slice A43 ((l0.take ((wrap64 ((ji20) + (wrap64 (t119)))) : Int).toNat).drop ((ji20) : Int).toNat).length (c0 - (ji20).toNat)] (by rfl) rfl rfl (by (try simp only [List.map_toArray, List.map_cons, List.map_nil]); first | done | (rw [show ((l0.take ((ji12) : Int).toNat).drop (x5_1 : Int).toNat).length = ((ji12).toNat - x5_1.toNat) from (by rw [List.length_drop, List.length_take]; have h_ : ((ji12) : Int) ≤ (l0.length : Int) := of_decide_eq_true (by first | (with_reducible assumption) | assumption); omega), show ((l0.take ((wrap64 ((ji20) + (wrap64 (t119)))) : Int).toNat).drop ((ji20) : Int).toNat).length = ((wrap64 ((ji20) + (wrap64 (t119)))).toNat - (ji20).toNat) from (by rw [List.length_drop, List.length_take]; have h_ : ((wrap64 ((ji20) + (wrap64 (t119)))) : Int) ≤ (l0.length : Int) := of_decide_eq_true (by first | (with_reducible assumption) | assumption); omega)] <;> rfl) | (rw [show ((l0.take ((ji12) : Int).toNat).drop (x5_1 : Int).toNat).length = ((ji12).toNat - x5_1.toNat) from (by rw [List.length_drop, List.length_take]; have h_ : ((ji12) : Int) ≤ (l0.length : Int) := of_decide_eq_true (by first | (with_reducible assumption) | assumption); omega)] <;> rfl) | (rw [show ((l0.take ((wrap64 ((ji20) + (wrap64 (t119)))) : Int).toNat).drop ((ji20) : Int).toNat).length = ((wrap64 ((ji20) + (wrap64 (t119)))).toNat - (ji20).toNat) from (by rw [List.length_drop, List.length_take]; have h_ : ((wrap64 ((ji20) + (wrap64 (t119)))) : Int) ≤ (l0.length : Int) := of_decide_eq_true (by first | (with_reducible assumption) | assumption); omega)] <;> rfl) | (simp only [hji12, hji20]; rfl) | rfl | (simp only [List.length_drop, List.length_take]; rfl)) ?_
                                        with_reducible refine (frame_sum.calls kj6 _ _ ((l0.take ((ji12) : Int).toNat).drop (x5_1 : Int).toNat) _ _ ((l0.take ((wrap64 ((ji20) + (wrap64 (t119)))) : Int).toNat).drop ((ji20) : Int).toNat) t124 _ ?side1 ?side2 ?side3 ?side4 A24.out).mono ?_
                                        (case side1 => repeat (first | exact (Kd.C_below HR122.out HB.out) | (with_reducible refine Kd.C_alloc ?_ _) | (with_reducible refine Kd.C_drewN ?_ _) | (with_reducible refine Kd.C_drew ?_)))
                                        (case side2 => exact HC122.out)
                                        (case side3 => repeat (first | exact (Kd.C_below HR123.out HB.out) | (with_reducible refine Kd.C_alloc ?_ _) | (with_reducible refine Kd.C_drewN ?_ _) | (with_reducible refine Kd.C_drew ?_)))
                                        (case side4 => exact HC123.out)
                                        rintro e w' ⟨rfl, ⟨nd, rfl⟩⟩
                                        refine ⟨_, rfl, ?_⟩
                                        refine hK.out _ _ trivial (fun hHeld => ?_)
                                        clear hK K
                                        refine norm_ (a' := ?_) ?_ ?_
                                        rotate_left
                                        · show Act.put _ (some 50) _ = _
                                          simp only [Act.put, List.setIfInBounds_toArray, List.set_cons_zero, List.set_cons_succ, i64_w, i32_w]
                                          rfl
                                        refine pure_ (i := 21) (N := some 51) (v := ?_) (a' := ?_) #[true, true, true, true, true, true, true, true, true, true, true, true, true, true, true, true, true, true, true, true, true, true] rfl rfl (any_of HT_.out (by kernel_rfl)) (fun _ _ _ h => h) (Or.inl ⟨by rfl, ?_⟩) ?_ ?_
                                        rotate_left
                                        · intro w'
                                          go_simp
                                          with_reducible rfl
                                        rotate_left
                                        · simp only [Act.put, List.setIfInBounds_toArray, List.set_cons_zero, List.set_cons_succ, i64_w, i32_w]
                                          rfl
                                        refine done_ (done_of HT_.out (by kernel_rfl)) ?_
                                        try go_wp2
                                        go_step3
                                        refine Or.inr ⟨rfl, ?_⟩
                                        go_wp2
                                        try rw [Exit.noGoto_ret]
                                        go_ret2
                                        exact ⟨_, by first | rfl | (simp [errW_none, errW_some] <;> rfl) | (simp only [← hji12, ← hji20]; first | rfl | (simp [errW_none, errW_some] <;> rfl)) | (simp [*, errW_none, errW_some] <;> rfl), by (with_reducible repeat (first | apply Kd.S_alloc | apply Kd.S_drewN | apply Kd.S_drew)); exact HO_4.out, by repeat (first | (with_reducible first | exact HB.out | apply below_alloc | apply pw_below_drewN | apply below_drew1) | exact HB.out)⟩
                                    · rw [if_neg c23] at H
                                      exact absurd H (by simp)
                                  · rw [if_neg c22] at H
                                    exact absurd H (by simp)
                                · rw [if_neg c21] at H
                                  exact absurd H (by simp)
                              · rw [if_neg c19] at H
                                exact absurd H (by simp)
                            · rw [if_neg c18] at H
                              exact absurd H (by simp)
                          · rw [if_neg c17] at H
                            exact absurd H (by simp)
                        · rw [if_neg c15] at H
                          exact absurd H (by simp)
                      · rw [if_neg c14] at H
                        exact absurd H (by simp)
                    · rw [if_neg c13] at H
                      exact absurd H (by simp)
            · rw [if_neg c5] at H
              exact absurd H (by simp)
          · rw [if_neg c4] at H
            exact absurd H (by simp)
        · rw [if_neg c3] at H
          exact absurd H (by simp)

end Go.Proofs.Ytdbkedipfpepbaa.PWal
