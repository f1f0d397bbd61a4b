/- What NetKeeps does, stepped through: the net and the bytes that came in are as they were when all that was answered has been written over. -/
import Derived.Test.YtaphejpphlcchaaPNetx1
import Derived.Test.YtaphejpphlcchaaPNetx2
import Derived.Test.YtaphejpphlcchaaPNetx3
import Derived.Test.YtaphejpphlcchaaPNetx4
namespace Go.Proofs.Ytaphejpphlcchaa.PNet
open Go.RowKit Go.Proofs.YtaphejpphlcchaaW.PrintWords Go.Proofs.YtaphejpphlcchaaW.PrintLast Go.Proofs.YtaphejpphlcchaaW.PrintMore
attribute [local go_sem] max2_int min2_int max_two min_two max_three min_three max_four min_four   -- for this text's walks alone
set_option linter.unusedVariables false
set_option linter.unusedSimpArgs false

/-- an element's bytes, for one store into them -/
theorem lend_bytes {W : World} {base n cp i g : Nat} {ok : Nat → Prop} {ms : List S29} (h : Kd.S k29 29 W base ok (.slice (some ⟨g, 0, none⟩) n cp) ms) (hi : i < n) (hl : i < ms.length) :
    ∃ A2 c2, W.cell? ⟨g, i * 3 + 2, none⟩ = some (.slice A2 (ms[i]).f2.length c2) ∧ ∃ oki : Nat → Prop, (∀ k, oki k → ok k) ∧ (Kd.int .u8).R 5 W base oki (.slice A2 (ms[i]).f2.length c2) (ms[i]).f2 ∧
      ∀ {w1 : World} {row : Option Nat} {bs : List Int}, W.grownBy w1 row → (∀ k, row = some k → oki k) → bs.length = (ms[i]).f2.length → (Kd.int .u8).R 5 w1 base oki (.slice A2 (ms[i]).f2.length c2) bs →
        ∃ ms', Kd.S k29 29 w1 base ok (.slice (some ⟨g, 0, none⟩) n cp) ms' ∧ ms'.length = ms.length ∧ ∀ h' : i < ms'.length, (ms'[i]).f2.length = (ms[i]).f2.length := by
  obtain ⟨oki, c, hcl, hM, hcc, hoki, hback⟩ := Kd.S_borrow h z29 (i : Int) (by omega) (by omega)
  rw [Int.toNat_natCast] at hM hcc hback
  rw [mem_getElem ms i hl] at hM
  obtain ⟨v2, rfl, hR2⟩ := k29_openM hM
  obtain ⟨A2, c2, rfl⟩ := Kd.R_slice hR2
  refine ⟨A2, c2, by have := hcc 2 _ rfl; rw [add_plain] at this; exact this, oki, fun k hk => (hoki k hk).1, hR2, fun {w1 row bs} hg hrow hlen hbs => ?_⟩
  refine ⟨ms.set i ⟨(ms[i]).f0, (ms[i]).f1, bs⟩, hback hg hrow (k29_mkM w1 base oki ⟨(ms[i]).f0, (ms[i]).f1, bs⟩ hbs), by rw [List.length_set], fun h' => ?_⟩
  rw [List.getElem_set_self]
  exact hlen
/-- a byte of a row of one's own, written -/
theorem put_byte {W : World} {base : Nat} {oki : Nat → Prop} {A : Option Addr} {n c j : Nat} {bs : List Int} (h : (Kd.int .u8).R 5 W base oki (.slice A n c) bs) (hj : j < n) :
    ∃ g, A = some ⟨g, 0, none⟩ ∧ base ≤ g ∧ oki g ∧ (∃ x, W.cell? ⟨g, j, none⟩ = some (.int .u8 x)) ∧ W.frozen? ⟨g, j, none⟩ = false ∧ ∀ y : Int, W.grownBy (W.setCell ⟨g, j, none⟩ (.int .u8 y)) (some g) ∧ ∃ bs', bs'.length = bs.length ∧ (Kd.int .u8).R 5 (W.setCell ⟨g, j, none⟩ (.int .u8 y)) base oki (.slice (some ⟨g, 0, none⟩) n c) bs' := by
  have hn := (Kd.R_reads' h).1
  obtain ⟨g, cap, hv, hb, _⟩ := Kd.R_form h (by omega)
  injection hv with hA _ hc
  subst hA; subst hc
  refine ⟨g, rfl, hb, h.1 g (by simp [Value.ownBlock]), ?_⟩
  obtain ⟨cs, hcl, hM, hcell, hfr⟩ := Kd.R_elem h (0 : Int) (j : Int) (by omega) (by omega)
  rw [Int.toNat_natCast] at hM hcell hfr
  have hcs : cs = [.int .u8 (bs.getD j 0)] := hM
  subst hcs
  have hz : (Kd.int .u8).sz = 1 := rfl
  have h0 := hcell 0 _ rfl
  have hf := hfr 0
  rw [hz, Nat.mul_one, Nat.add_zero] at h0 hf
  refine ⟨⟨_, h0⟩, hf, fun y => ?_⟩
  obtain ⟨hr, hg⟩ := Kd.R_seg h (j : Int) (by omega) (by omega) (c := [.int .u8 (bs.getD j 0)]) (seg := [.int .u8 y]) (j := 0) (x' := y) (okp := fun _ => False) rfl (by rw [Int.toNat_natCast]; exact hcell) (by show 0 + 1 ≤ 1; omega) rfl (fun _ hk => hk.elim)
  rw [Int.toNat_natCast, hz, Nat.mul_one, Nat.add_zero] at hr hg
  exact ⟨hg, _, by rw [List.length_set], hr⟩

/-! ### lockgatelaw11_NetKeeps: function 3 -/
mutual
def lockgatelaw11_NetKeeps.j0 : Nat → List Int → Int → Bool → Int → List (S29) → Option (Bool)
  | 0, _, _, _, _, _ => none
  | k + 1, x1, x2, x32, x155000, x155001 => if x32 = true then ((lockgatelaw11_awake.f).bind fun t157 => (some t157)) else (lockgatelaw11_NetKeeps.l0 k x1 x2 0 x155000 x155001 x155000 ([] : List (S29)))
def lockgatelaw11_NetKeeps.l0 : Nat → List Int → Int → Int → Int → List (S29) → Int → List (S29) → Option (Bool)
  | 0, _, _, _, _, _, _, _ => none
  | k + 1, x1, x2, x8, x155000, x155001, x159000, x159001 => if x8 < (x155001.length : Int) then (if 0 ≤ x8 then ((some (([] : List Int) : List Int)).bind fun y161 => (if y161.length + ((rd_T29 x155001 x8).f2).length < 140737488355328 then (if x159001.length < 3518437208883 then (lockgatelaw11_NetKeeps.l0 k x1 x2 (wrap64 (x8 + 1)) x155000 x155001 x159000 (x159001 ++ [(⟨(rd_T29 x155001 x8).f0, (rd_T29 x155001 x8).f1, (y161 ++ ((rd_T29 x155001 x8).f2))⟩ : S29)])) else (none)) else (none))) else (none)) else ((some (([] : List Int) : List Int)).bind fun y171 => (if y171.length + x1.length < 140737488355328 then ((some (y171 ++ x1 : List Int)).bind fun y174 => ((net_Send.f k x155000 x155001 3 y174).bind fun bt177 => ((net_Copy.f k bt177.1 bt177.2 x2).bind fun bt181 => ((net_Take.f k x155000 x155001 x2).bind fun bt186 => ((lockgateref11_Same.f k x155000 x155001 x159000 x159001).bind fun t198 => (if t198 = true then ((lockgateref03_Same.f k x1 y174).bind fun t199 => (some t199)) else (some false))))))) else (none)))
end
def lockgatelaw11_NetKeeps.f (k : Nat) (a0_0 : Int) (l0_1 : List (S29)) (l1 : List Int) (a2 : Int) : Option (Bool) := (lockgatelaw11_awake.f).bind fun t155 => (if t155 = true then ((lockgateref11_Right.f k a0_0 l0_1).bind fun t156 => (if t156 = true then (if (l1.length : Int) > 500 then (lockgatelaw11_NetKeeps.j0 k l1 a2 true a0_0 l0_1) else (lockgatelaw11_NetKeeps.j0 k l1 a2 (decide (a2 < 0)) a0_0 l0_1)) else (lockgatelaw11_NetKeeps.j0 k l1 a2 true a0_0 l0_1))) else (lockgatelaw11_NetKeeps.j0 k l1 a2 true a0_0 l0_1))
theorem lockgatelaw11_NetKeeps.mono_l : ∀ k, (∀ y0 y1 y2 y3 y4, LeO (lockgatelaw11_NetKeeps.j0 k y0 y1 y2 y3 y4) (lockgatelaw11_NetKeeps.j0 (k + 1) y0 y1 y2 y3 y4)) ∧ (∀ y0 y1 y2 y3 y4 y5 y6, LeO (lockgatelaw11_NetKeeps.l0 k y0 y1 y2 y3 y4 y5 y6) (lockgatelaw11_NetKeeps.l0 (k + 1) y0 y1 y2 y3 y4 y5 y6))
  | 0 => ⟨fun _ _ _ _ _ r h => by simp [lockgatelaw11_NetKeeps.j0] at h, fun _ _ _ _ _ _ _ r h => by simp [lockgatelaw11_NetKeeps.l0] at h⟩
  | k + 1 => by
    obtain ⟨ih0, ih1⟩ := lockgatelaw11_NetKeeps.mono_l k
    refine ⟨?_, ?_⟩
    · intro y0 y1 y2 y3 y4
      unfold lockgatelaw11_NetKeeps.j0
      repeat' first
      | (with_reducible exact ih0 _ _ _ _ _)
      | (with_reducible exact ih1 _ _ _ _ _ _ _)
      | (with_reducible exact lockgateref03_Same.mono _ _ _)
      | (with_reducible exact lockgateref11_Right.mono _ _ _)
      | (with_reducible exact lockgateref11_Same.mono _ _ _ _ _)
      | (with_reducible exact net_Copy.mono _ _ _ _)
      | (with_reducible exact net_Send.mono _ _ _ _ _)
      | (with_reducible exact net_Take.mono _ _ _ _)
      | (with_reducible exact LeO.refl _)
      | (with_reducible exact LeO.none _)
      | (with_reducible refine LeO.ite ?_ ?_)
      | (with_reducible refine LeO.bind ?_ (fun _ => ?_))
      | exact ih0 _ _ _ _ _
      | exact ih1 _ _ _ _ _ _ _
      | exact lockgateref03_Same.mono _ _ _
      | exact lockgateref11_Right.mono _ _ _
      | exact lockgateref11_Same.mono _ _ _ _ _
      | exact net_Copy.mono _ _ _ _
      | exact net_Send.mono _ _ _ _ _
      | exact net_Take.mono _ _ _ _
      | exact LeO.none _
      | refine LeO.ite ?_ ?_
      | refine LeO.bind ?_ (fun _ => ?_)
    · intro y0 y1 y2 y3 y4 y5 y6
      unfold lockgatelaw11_NetKeeps.l0
      repeat' first
      | (with_reducible exact ih0 _ _ _ _ _)
      | (with_reducible exact ih1 _ _ _ _ _ _ _)
      | (with_reducible exact lockgateref03_Same.mono _ _ _)
      | (with_reducible exact lockgateref11_Right.mono _ _ _)
      | (with_reducible exact lockgateref11_Same.mono _ _ _ _ _)
      | (with_reducible exact net_Copy.mono _ _ _ _)
      | (with_reducible exact net_Send.mono _ _ _ _ _)
      | (with_reducible exact net_Take.mono _ _ _ _)
      | (with_reducible exact LeO.refl _)
      | (with_reducible exact LeO.none _)
      | (with_reducible refine LeO.ite ?_ ?_)
      | (with_reducible refine LeO.bind ?_ (fun _ => ?_))
      | exact ih0 _ _ _ _ _
      | exact ih1 _ _ _ _ _ _ _
      | exact lockgateref03_Same.mono _ _ _
      | exact lockgateref11_Right.mono _ _ _
      | exact lockgateref11_Same.mono _ _ _ _ _
      | exact net_Copy.mono _ _ _ _
      | exact net_Send.mono _ _ _ _ _
      | exact net_Take.mono _ _ _ _
      | exact LeO.none _
      | refine LeO.ite ?_ ?_
      | refine LeO.bind ?_ (fun _ => ?_)
theorem lockgatelaw11_NetKeeps.mono : ∀ a0 a1 a2 a3 k, LeO (lockgatelaw11_NetKeeps.f k a0 a1 a2 a3) (lockgatelaw11_NetKeeps.f (k + 1) a0 a1 a2 a3) := by
  intro a0 a1 a2 a3 k
  obtain ⟨ih0, ih1⟩ := lockgatelaw11_NetKeeps.mono_l k
  unfold lockgatelaw11_NetKeeps.f
  repeat' first
      | (with_reducible exact ih0 _ _ _ _ _)
      | (with_reducible exact ih1 _ _ _ _ _ _ _)
      | (with_reducible exact lockgateref03_Same.mono _ _ _)
      | (with_reducible exact lockgateref11_Right.mono _ _ _)
      | (with_reducible exact lockgateref11_Same.mono _ _ _ _ _)
      | (with_reducible exact net_Copy.mono _ _ _ _)
      | (with_reducible exact net_Send.mono _ _ _ _ _)
      | (with_reducible exact net_Take.mono _ _ _ _)
      | (with_reducible exact LeO.refl _)
      | (with_reducible exact LeO.none _)
      | (with_reducible refine LeO.ite ?_ ?_)
      | (with_reducible refine LeO.bind ?_ (fun _ => ?_))
      | exact ih0 _ _ _ _ _
      | exact ih1 _ _ _ _ _ _ _
      | exact lockgateref03_Same.mono _ _ _
      | exact lockgateref11_Right.mono _ _ _
      | exact lockgateref11_Same.mono _ _ _ _ _
      | exact net_Copy.mono _ _ _ _
      | exact net_Send.mono _ _ _ _ _
      | exact net_Take.mono _ _ _ _
      | exact LeO.none _
      | refine LeO.ite ?_ ?_
      | refine LeO.bind ?_ (fun _ => ?_)
def lockgatelaw11_NetKeeps.T7 : Bool × List (List Nat × List Nat) := (true, [([], []), ([0], [0]), ([], []), ([2], [2]), ([], []), ([3, 4], [3, 4]), ([5], [5]), ([6], [6]), ([], []), ([8], [8]), ([], []), ([9, 10], [9, 10]), ([11], [11]), ([12], [12]), ([], []), ([], []), ([15], [15]), ([], []), ([16, 17], [16, 17]), ([18], [18]), ([19], [19]), ([14, 20], [14, 20]), ([7, 13, 21], [7, 13, 21]), ([22], [22]), ([1, 23, 21], [1, 23]), ([0, 1, 2, 3, 4, 5, 6, 7, 8, 9, 10, 11, 12, 13, 14, 15, 16, 17, 18, 19, 20, 21, 22, 23, 24], []), ([25, 24, 24, 0, 1, 2, 3, 4, 5, 6, 7, 8, 9, 10, 11, 12, 13, 14, 15, 16, 17, 18, 19, 20, 21, 22, 23, 24], [24, 25])])
def lockgatelaw11_NetKeeps.B7 : List Nat := [0, 1, 0, 4, 0, 28, 60, 124, 0, 256, 0, 1792, 3840, 7936, 0, 0, 32768, 0, 229376, 491520, 1015808, 2080768, 4194300, 8388604, 16777215, 33554431, 67108863]
theorem lockgatelaw11_NetKeeps.tab7 : rtab .any (opsOf Try.f3 7) = lockgatelaw11_NetKeeps.T7 := by kernel_rfl
theorem lockgatelaw11_NetKeeps.bits7 : waitsOk lockgatelaw11_NetKeeps.T7.2 lockgatelaw11_NetKeeps.B7 = true := by kernel_rfl
set_option maxHeartbeats 8000000 in
set_option maxRecDepth 100000 in
theorem lockgatelaw11_NetKeeps.calls (k : Nat) (a0_0 : Int) (A0_1 : Option Addr) (c0_1 : Nat) (l0_1 : List (S29)) (A1 : Option Addr) (c1 : Nat) (l1 : List Int) (a2 : Int) (r : Bool) (w : World) (hr0_1 : Kd.C k29 w A0_1 l0_1.length l0_1) (hc0_1 : l0_1.length ≤ c0_1) (hr1 : Kd.C (Kd.int .u8) w A1 l1.length l1) (hc1 : l1.length ≤ c1) (h : lockgatelaw11_NetKeeps.f k a0_0 l0_1 l1 a2 = some r) (HR_ : Aside0 (r = true)) :
    Calls Try.prog 3 #[.agg #[.int .i64 a0_0, .slice A0_1 l0_1.length c0_1], .slice A1 l1.length c1, .int .i64 a2] w fun e w' => e = .returned (.bool r) ∧ Below w.heap.size w w' := by
  have hu24 := Try.underlying24
  have hu29 := Try.underlying29
  have HR0_1 := Aside0.mk hr0_1
  have HC0_1 := Aside0.mk hc0_1
  clear hr0_1 hc0_1
  have HR1 := Aside0.mk hr1
  have HC1 := Aside0.mk hc1
  clear hr1 hc1
  have HB := Aside0.mk (Below.refl w.heap.size w)
  have H : ((lockgatelaw11_awake.f).bind fun t155 => (if t155 = true then ((lockgateref11_Right.f k a0_0 l0_1).bind fun t156 => (if t156 = true then (if (l1.length : Int) > 500 then (lockgatelaw11_NetKeeps.j0 k l1 a2 true a0_0 l0_1) else (lockgatelaw11_NetKeeps.j0 k l1 a2 (decide (a2 < 0)) a0_0 l0_1)) else (lockgatelaw11_NetKeeps.j0 k l1 a2 true a0_0 l0_1))) else (lockgatelaw11_NetKeeps.j0 k l1 a2 true a0_0 l0_1))) = some r := h
  clear h
  have HC4 := Aside0.mk H
  clear H
  go_enter Try.func3, Try.ntmps3
  go_upto_region 1 with (first | ((with_reducible refine gate_dst (N := 3) rfl ?_); (try (refine gate_guard (by rfl) ?_; dsimp only)); refine box_event ?hg (N := 3) ?hd (cs := #[.int .i64 a0_0, .slice A0_1 l0_1.length c0_1]) (t := 24) ?hr ?_; (case hd => rfl); (case hg => rfl); (case hr => first | (go_simp; done) | (go_simp; rfl)); intro gb154 hg w5 hbox hb; have n0_ := Aside0.mk (below_step (by repeat (first | (with_reducible first | exact HB.out | apply below_alloc | apply pw_below_drewN | apply below_drew1) | exact HB.out)) hb); have n1_ := Aside0.mk (hbox); have n2_ := Aside0.mk ((by rw [hg]; exact (below_size (by repeat (first | (with_reducible first | exact HB.out | apply below_alloc | apply pw_below_drewN | apply below_drew1) | exact HB.out))) : w.heap.size ≤ gb154)); have n3_ := Aside0.mk ((by rw [hg]; exact (below_size (by repeat (first | (with_reducible first | exact HB.out | apply below_alloc | apply pw_below_drewN | apply below_drew1) | exact HB.out))) : w.heap.size ≤ gb154)); clear HB; have HB := n0_; have BK154 := n1_; have GW154 := n2_; have GE154 := n3_; clear n0_ n1_ n2_ n3_; clear hb hbox hg))
  (try simp only [Act.put, List.setIfInBounds_toArray, List.set_cons_zero, List.set_cons_succ])
  go_cut [32] (fun v32 wc => ∃ (kq : Nat) (x32_3 : Bool), v32 = .bool x32_3 ∧ Aside0 (lockgatelaw11_NetKeeps.j0 kq l1 a2 x32_3 a0_0 l0_1 = some r) ∧ Aside0 (kq ≤ k) ∧ Aside0 (wc.heap[gb154]? = some (.cells #[.int .i64 a0_0, (.slice A0_1 l0_1.length c0_1)] 24 (0, 0))) ∧ Aside0 (Below w.heap.size w wc))
  case first =>
    have H := HC4.out
    clear HC4
    replace H := Option.bind_eq_some_iff.mp H
    obtain ⟨t155, A60, H⟩ := H
    replace H : (if t155 = true then ((lockgateref11_Right.f k a0_0 l0_1).bind fun t156 => (if t156 = true then (if (l1.length : Int) > 500 then (lockgatelaw11_NetKeeps.j0 k l1 a2 true a0_0 l0_1) else (lockgatelaw11_NetKeeps.j0 k l1 a2 (decide (a2 < 0)) a0_0 l0_1)) else (lockgatelaw11_NetKeeps.j0 k l1 a2 true a0_0 l0_1))) else (lockgatelaw11_NetKeeps.j0 k l1 a2 true a0_0 l0_1)) = some r := H
    have A6 := Aside0.mk A60
    clear A60
    by_cases c7 : t155 = true
    · subst c7
      have H1 : ((lockgateref11_Right.f k a0_0 l0_1).bind fun t156 => (if t156 = true then (if (l1.length : Int) > 500 then (lockgatelaw11_NetKeeps.j0 k l1 a2 true a0_0 l0_1) else (lockgatelaw11_NetKeeps.j0 k l1 a2 (decide (a2 < 0)) a0_0 l0_1)) else (lockgatelaw11_NetKeeps.j0 k l1 a2 true a0_0 l0_1))) = some r := by rw [if_pos rfl] at H; exact H
      clear H
      have H := H1
      clear H1
      replace H := Option.bind_eq_some_iff.mp H
      obtain ⟨t156, A80, H⟩ := H
      replace H : (if t156 = true then (if (l1.length : Int) > 500 then (lockgatelaw11_NetKeeps.j0 k l1 a2 true a0_0 l0_1) else (lockgatelaw11_NetKeeps.j0 k l1 a2 (decide (a2 < 0)) a0_0 l0_1)) else (lockgatelaw11_NetKeeps.j0 k l1 a2 true a0_0 l0_1)) = some r := H
      have A8 := Aside0.mk A80
      clear A80
      by_cases c9 : t156 = true
      · subst c9
        have H1 : (if (l1.length : Int) > 500 then (lockgatelaw11_NetKeeps.j0 k l1 a2 true a0_0 l0_1) else (lockgatelaw11_NetKeeps.j0 k l1 a2 (decide (a2 < 0)) a0_0 l0_1)) = some r := by rw [if_pos rfl] at H; exact H
        clear H
        have H := H1
        clear H1
        by_cases c10 : (l1.length : Int) > 500
        · rw [if_pos c10] at H
          have c10b0 : decide (500 < (l1.length : Int)) = true := decide_eq_true c10
          have c10b1 : decide (500 < l1.length) = true := decide_eq_true (by omega)
          clear c10
          (first | rw [c10b0] | (simp only [i64_w, i32_w]; rw [c10b0]) | skip)
          have H' := Aside0.mk H
          clear H
          go_wp2_with (first | ((with_reducible refine gate_callee (f := 7) rfl ?_); refine goesL_ (some 17) rfl rfl Try.func7 (by kernel_rfl) rfl #[] rfl (by (try simp only [List.map_toArray, List.map_cons, List.map_nil]); first | done | rfl | (simp only [List.length_drop, List.length_take]; rfl)) ?_; (with_reducible refine (lockgatelaw11_awake.calls  true _ A6.out).mono ?_); rintro e w11 ⟨rfl, hb⟩; refine ⟨_, rfl, ?_⟩; have n0_ := Aside0.mk (blk_below (g := gb154) (o := .cells #[.int .i64 a0_0, .slice A0_1 l0_1.length c0_1] 24 (0, 0)) (by (with_reducible repeat (first | refine blk_drewN ?_ _ | refine blk_drew ?_ | refine blk_alloc ?_ _)); exact BK154.out) hb); have n1_ := Aside0.mk (below_step (by repeat (first | (with_reducible first | exact HB.out | apply below_alloc | apply pw_below_drewN | apply below_drew1 | refine below_set ?_ GE154.out) | exact HB.out)) hb); clear BK154; clear HB; have BK154 := n0_; have HB := n1_; clear n0_ n1_; (try clear hb); (try clear hb2); (try clear hk); (try clear hi); have hcz12_0 : w11.cell? ⟨gb154, 0, none⟩ = some (.int .i64 a0_0) := (blk_cell BK154.out 0).trans rfl; have hcz12_1 : w11.cell? ⟨gb154, 1, none⟩ = some (.slice A0_1 l0_1.length c0_1) := (blk_cell BK154.out 1).trans rfl; have hfz12_0 := blk_frozen BK154.out 0; have hfz12_1 := blk_frozen BK154.out 1) | (go_at_call 8; (with_reducible refine (lockgateref11_Right.calls k a0_0 _ _ l0_1 true _ ?side1 ?side2 A8.out).mono ?_); (case side1 => repeat (first | exact (Kd.C_below HR0_1.out HB.out) | (with_reducible refine Kd.C_alloc ?_ _) | (with_reducible refine Kd.C_drewN ?_ _) | (with_reducible refine Kd.C_drew ?_))); (case side2 => exact HC0_1.out); rintro e w13 ⟨rfl, hb⟩; have n0_ := Aside0.mk (blk_below (g := gb154) (o := .cells #[.int .i64 a0_0, .slice A0_1 l0_1.length c0_1] 24 (0, 0)) (by (with_reducible repeat (first | refine blk_drewN ?_ _ | refine blk_drew ?_ | refine blk_alloc ?_ _)); exact BK154.out) hb); have n1_ := Aside0.mk (below_step (by repeat (first | (with_reducible first | exact HB.out | apply below_alloc | apply pw_below_drewN | apply below_drew1 | refine below_set ?_ GE154.out) | exact HB.out)) hb); clear BK154; clear HB; have BK154 := n0_; have HB := n1_; clear n0_ n1_; (try clear hb); (try clear hb2); (try clear hk); (try clear hi)))
          go_meet
          case rel => exact ⟨_, (true), (by first | rfl | (simp; done) | (simp [*]; done)), H', ⟨by first | omega | exact Nat.le_refl _⟩, ⟨by (with_reducible repeat (first | refine blk_drewN ?_ _ | refine blk_drew ?_ | refine blk_alloc ?_ _)); exact BK154.out⟩, ⟨by repeat (first | (with_reducible first | exact HB.out | apply below_alloc | apply pw_below_drewN | apply below_drew1 | refine below_set ?_ GE154.out) | exact HB.out)⟩⟩
        · rw [if_neg c10] at H
          have c10b0 : decide (500 < (l1.length : Int)) = false := decide_eq_false c10
          have c10b1 : decide (500 < l1.length) = false := decide_eq_false (by omega)
          clear c10
          (first | rw [c10b0] | (simp only [i64_w, i32_w]; rw [c10b0]) | skip)
          have H' := Aside0.mk H
          clear H
          go_wp2_with (first | ((with_reducible refine gate_callee (f := 7) rfl ?_); refine goesL_ (some 17) rfl rfl Try.func7 (by kernel_rfl) rfl #[] rfl (by (try simp only [List.map_toArray, List.map_cons, List.map_nil]); first | done | rfl | (simp only [List.length_drop, List.length_take]; rfl)) ?_; (with_reducible refine (lockgatelaw11_awake.calls  true _ A6.out).mono ?_); rintro e w14 ⟨rfl, hb⟩; refine ⟨_, rfl, ?_⟩; have n0_ := Aside0.mk (blk_below (g := gb154) (o := .cells #[.int .i64 a0_0, .slice A0_1 l0_1.length c0_1] 24 (0, 0)) (by (with_reducible repeat (first | refine blk_drewN ?_ _ | refine blk_drew ?_ | refine blk_alloc ?_ _)); exact BK154.out) hb); have n1_ := Aside0.mk (below_step (by repeat (first | (with_reducible first | exact HB.out | apply below_alloc | apply pw_below_drewN | apply below_drew1 | refine below_set ?_ GE154.out) | exact HB.out)) hb); clear BK154; clear HB; have BK154 := n0_; have HB := n1_; clear n0_ n1_; (try clear hb); (try clear hb2); (try clear hk); (try clear hi); have hcz15_0 : w14.cell? ⟨gb154, 0, none⟩ = some (.int .i64 a0_0) := (blk_cell BK154.out 0).trans rfl; have hcz15_1 : w14.cell? ⟨gb154, 1, none⟩ = some (.slice A0_1 l0_1.length c0_1) := (blk_cell BK154.out 1).trans rfl; have hfz15_0 := blk_frozen BK154.out 0; have hfz15_1 := blk_frozen BK154.out 1) | (go_at_call 8; (with_reducible refine (lockgateref11_Right.calls k a0_0 _ _ l0_1 true _ ?side1 ?side2 A8.out).mono ?_); (case side1 => repeat (first | exact (Kd.C_below HR0_1.out HB.out) | (with_reducible refine Kd.C_alloc ?_ _) | (with_reducible refine Kd.C_drewN ?_ _) | (with_reducible refine Kd.C_drew ?_))); (case side2 => exact HC0_1.out); rintro e w16 ⟨rfl, hb⟩; have n0_ := Aside0.mk (blk_below (g := gb154) (o := .cells #[.int .i64 a0_0, .slice A0_1 l0_1.length c0_1] 24 (0, 0)) (by (with_reducible repeat (first | refine blk_drewN ?_ _ | refine blk_drew ?_ | refine blk_alloc ?_ _)); exact BK154.out) hb); have n1_ := Aside0.mk (below_step (by repeat (first | (with_reducible first | exact HB.out | apply below_alloc | apply pw_below_drewN | apply below_drew1 | refine below_set ?_ GE154.out) | exact HB.out)) hb); clear BK154; clear HB; have BK154 := n0_; have HB := n1_; clear n0_ n1_; (try clear hb); (try clear hb2); (try clear hk); (try clear hi)))
          go_meet
          case rel => exact ⟨_, (decide (a2 < 0)), (by first | rfl | (simp; done) | (simp [*]; done)), H', ⟨by first | omega | exact Nat.le_refl _⟩, ⟨by (with_reducible repeat (first | refine blk_drewN ?_ _ | refine blk_drew ?_ | refine blk_alloc ?_ _)); exact BK154.out⟩, ⟨by repeat (first | (with_reducible first | exact HB.out | apply below_alloc | apply pw_below_drewN | apply below_drew1 | refine below_set ?_ GE154.out) | exact HB.out)⟩⟩
      · replace c9 := Bool.eq_false_iff.mpr c9
        subst c9
        have H1 : (lockgatelaw11_NetKeeps.j0 k l1 a2 true a0_0 l0_1) = some r := by rw [if_neg (show ¬ (false = true) by decide)] at H; exact H
        clear H
        have H := H1
        clear H1
        have H' := Aside0.mk H
        clear H
        go_wp2_with (first | ((with_reducible refine gate_callee (f := 7) rfl ?_); refine goesL_ (some 17) rfl rfl Try.func7 (by kernel_rfl) rfl #[] rfl (by (try simp only [List.map_toArray, List.map_cons, List.map_nil]); first | done | rfl | (simp only [List.length_drop, List.length_take]; rfl)) ?_; (with_reducible refine (lockgatelaw11_awake.calls  true _ A6.out).mono ?_); rintro e w17 ⟨rfl, hb⟩; refine ⟨_, rfl, ?_⟩; have n0_ := Aside0.mk (blk_below (g := gb154) (o := .cells #[.int .i64 a0_0, .slice A0_1 l0_1.length c0_1] 24 (0, 0)) (by (with_reducible repeat (first | refine blk_drewN ?_ _ | refine blk_drew ?_ | refine blk_alloc ?_ _)); exact BK154.out) hb); have n1_ := Aside0.mk (below_step (by repeat (first | (with_reducible first | exact HB.out | apply below_alloc | apply pw_below_drewN | apply below_drew1 | refine below_set ?_ GE154.out) | exact HB.out)) hb); clear BK154; clear HB; have BK154 := n0_; have HB := n1_; clear n0_ n1_; (try clear hb); (try clear hb2); (try clear hk); (try clear hi); have hcz18_0 : w17.cell? ⟨gb154, 0, none⟩ = some (.int .i64 a0_0) := (blk_cell BK154.out 0).trans rfl; have hcz18_1 : w17.cell? ⟨gb154, 1, none⟩ = some (.slice A0_1 l0_1.length c0_1) := (blk_cell BK154.out 1).trans rfl; have hfz18_0 := blk_frozen BK154.out 0; have hfz18_1 := blk_frozen BK154.out 1) | (go_at_call 8; (with_reducible refine (lockgateref11_Right.calls k a0_0 _ _ l0_1 false _ ?side1 ?side2 A8.out).mono ?_); (case side1 => repeat (first | exact (Kd.C_below HR0_1.out HB.out) | (with_reducible refine Kd.C_alloc ?_ _) | (with_reducible refine Kd.C_drewN ?_ _) | (with_reducible refine Kd.C_drew ?_))); (case side2 => exact HC0_1.out); rintro e w19 ⟨rfl, hb⟩; have n0_ := Aside0.mk (blk_below (g := gb154) (o := .cells #[.int .i64 a0_0, .slice A0_1 l0_1.length c0_1] 24 (0, 0)) (by (with_reducible repeat (first | refine blk_drewN ?_ _ | refine blk_drew ?_ | refine blk_alloc ?_ _)); exact BK154.out) hb); have n1_ := Aside0.mk (below_step (by repeat (first | (with_reducible first | exact HB.out | apply below_alloc | apply pw_below_drewN | apply below_drew1 | refine below_set ?_ GE154.out) | exact HB.out)) hb); clear BK154; clear HB; have BK154 := n0_; have HB := n1_; clear n0_ n1_; (try clear hb); (try clear hb2); (try clear hk); (try clear hi)))
        go_meet
        case rel => exact ⟨_, (true), (by first | rfl | (simp; done) | (simp [*]; done)), H', ⟨by first | omega | exact Nat.le_refl _⟩, ⟨by (with_reducible repeat (first | refine blk_drewN ?_ _ | refine blk_drew ?_ | refine blk_alloc ?_ _)); exact BK154.out⟩, ⟨by repeat (first | (with_reducible first | exact HB.out | apply below_alloc | apply pw_below_drewN | apply below_drew1 | refine below_set ?_ GE154.out) | exact HB.out)⟩⟩
    · replace c7 := Bool.eq_false_iff.mpr c7
      subst c7
      have H1 : (lockgatelaw11_NetKeeps.j0 k l1 a2 true a0_0 l0_1) = some r := by rw [if_neg (show ¬ (false = true) by decide)] at H; exact H
      clear H
      have H := H1
      clear H1
      have H' := Aside0.mk H
      clear H
      go_wp2_with (first | ((with_reducible refine gate_callee (f := 7) rfl ?_); refine goesL_ (some 17) rfl rfl Try.func7 (by kernel_rfl) rfl #[] rfl (by (try simp only [List.map_toArray, List.map_cons, List.map_nil]); first | done | rfl | (simp only [List.length_drop, List.length_take]; rfl)) ?_; (with_reducible refine (lockgatelaw11_awake.calls  false _ A6.out).mono ?_); rintro e w20 ⟨rfl, hb⟩; refine ⟨_, rfl, ?_⟩; have n0_ := Aside0.mk (blk_below (g := gb154) (o := .cells #[.int .i64 a0_0, .slice A0_1 l0_1.length c0_1] 24 (0, 0)) (by (with_reducible repeat (first | refine blk_drewN ?_ _ | refine blk_drew ?_ | refine blk_alloc ?_ _)); exact BK154.out) hb); have n1_ := Aside0.mk (below_step (by repeat (first | (with_reducible first | exact HB.out | apply below_alloc | apply pw_below_drewN | apply below_drew1 | refine below_set ?_ GE154.out) | exact HB.out)) hb); clear BK154; clear HB; have BK154 := n0_; have HB := n1_; clear n0_ n1_; (try clear hb); (try clear hb2); (try clear hk); (try clear hi)))
      go_meet
      case rel => exact ⟨_, (true), (by first | rfl | (simp; done) | (simp [*]; done)), H', ⟨by first | omega | exact Nat.le_refl _⟩, ⟨by (with_reducible repeat (first | refine blk_drewN ?_ _ | refine blk_drew ?_ | refine blk_alloc ?_ _)); exact BK154.out⟩, ⟨by repeat (first | (with_reducible first | exact HB.out | apply below_alloc | apply pw_below_drewN | apply below_drew1 | refine below_set ?_ GE154.out) | exact HB.out)⟩⟩
  case rest =>
    clear HC4
    try clear c1
    try clear p2
    try clear c3
    try clear c7
    try clear c9
    try clear c10
    try clear c10b0
    try clear c10b1
    try clear hcz12_0
    try clear hcz12_1
    try clear hcz15_0
    try clear hcz15_1
    try clear hcz18_0
    try clear hcz18_1
    try clear hfz12_0
    try clear hfz12_1
    try clear hfz15_0
    try clear hfz15_1
    try clear hfz18_0
    try clear hfz18_1
    obtain ⟨kq, x32_3, rfl, HA, HJ3, BK154, HB⟩ := hcut
    cases kq with
    | zero => exact absurd HA.out (by simp [lockgatelaw11_NetKeeps.j0])
    | succ kj3 =>
      have H := HA.out
      clear HA
      simp only [lockgatelaw11_NetKeeps.j0] at H
      by_cases c21 : x32_3 = true
      · subst c21
        have H1 : ((lockgatelaw11_awake.f).bind fun t157 => (some t157)) = some r := by rw [if_pos rfl] at H; exact H
        clear H
        have H := H1
        clear H1
        replace H := Option.bind_eq_some_iff.mp H
        obtain ⟨t157, A220, H⟩ := H
        replace H : (some t157) = some r := H
        have A22 := Aside0.mk A220
        clear A220
        obtain rfl := Option.some.inj H
        go_wp2_with (first | ((with_reducible refine gate_callee (f := 7) rfl ?_); refine goesL_ (some 33) rfl rfl Try.func7 (by kernel_rfl) rfl #[] rfl (by (try simp only [List.map_toArray, List.map_cons, List.map_nil]); first | done | rfl | (simp only [List.length_drop, List.length_take]; rfl)) ?_; (with_reducible refine (lockgatelaw11_awake.calls  t157 _ A22.out).mono ?_); rintro e w23 ⟨rfl, hb⟩; refine ⟨_, rfl, ?_⟩; have n0_ := Aside0.mk (blk_below (g := gb154) (o := .cells #[.int .i64 a0_0, .slice A0_1 l0_1.length c0_1] 24 (0, 0)) (by (with_reducible repeat (first | refine blk_drewN ?_ _ | refine blk_drew ?_ | refine blk_alloc ?_ _)); exact BK154.out) hb); have n1_ := Aside0.mk (below_step (by repeat (first | (with_reducible first | exact HB.out | apply below_alloc | apply pw_below_drewN | apply below_drew1 | refine below_set ?_ GE154.out) | exact HB.out)) hb); clear BK154; clear HB; have BK154 := n0_; have HB := n1_; clear n0_ n1_; (try clear hb); (try clear hb2); (try clear hk); (try clear hi)))
        go_ret
        exact ⟨by first | rfl | (simp [errW_none, errW_some] <;> rfl) | (simp [*, errW_none, errW_some] <;> rfl), by repeat (first | (with_reducible first | exact HB.out | apply below_alloc | apply pw_below_drewN | apply below_drew1 | refine below_set ?_ GE154.out) | exact HB.out)⟩
      · replace c21 := Bool.eq_false_iff.mpr c21
        subst c21
        have H1 : (lockgatelaw11_NetKeeps.l0 kj3 l1 a2 0 a0_0 l0_1 a0_0 ([] : List (S29))) = some r := by rw [if_neg (show ¬ (false = true) by decide)] at H; exact H
        clear H
        have H := H1
        clear H1
        have H' := Aside0.mk H
        clear H
        have hcz24_0 : wc.cell? ⟨gb154, 0, none⟩ = some (.int .i64 a0_0) := (blk_cell BK154.out 0).trans rfl
        have hcz24_1 : wc.cell? ⟨gb154, 1, none⟩ = some (.slice A0_1 l0_1.length c0_1) := (blk_cell BK154.out 1).trans rfl
        have hfz24_0 := blk_frozen BK154.out 0
        have hfz24_1 := blk_frozen BK154.out 1
        go_wp2_with (first | ((with_reducible refine gate_dst (N := 7) rfl ?_); (try (refine gate_guard (by rfl) ?_; dsimp only)); refine box_event ?hg (N := 7) ?hd (cs := #[.int .i64 0, .slice none 0 0]) (t := 24) ?hr ?_; (case hd => rfl); (case hg => rfl); (case hr => first | (go_simp; done) | (go_simp; rfl)); intro gb158 hg w25 hbox hb; have n0_ := Aside0.mk (blk_below (g := gb154) (o := .cells #[.int .i64 a0_0, .slice A0_1 l0_1.length c0_1] 24 (0, 0)) (by (with_reducible repeat (first | refine blk_drewN ?_ _ | refine blk_drew ?_ | refine blk_alloc ?_ _)); exact BK154.out) hb); have n1_ := Aside0.mk (below_step (by repeat (first | (with_reducible first | exact HB.out | apply below_alloc | apply pw_below_drewN | apply below_drew1 | refine below_set ?_ GE154.out) | exact HB.out)) hb); have n2_ := Aside0.mk (hbox); have n3_ := Aside0.mk ((by rw [hg]; exact (below_size (by repeat (first | (with_reducible first | exact HB.out | apply below_alloc | apply pw_below_drewN | apply below_drew1 | refine below_set ?_ GE154.out) | exact HB.out))) : w.heap.size ≤ gb158)); have n4_ := Aside0.mk ((by rw [hg]; exact (below_size (by repeat (first | (with_reducible first | exact HB.out | apply below_alloc | apply pw_below_drewN | apply below_drew1 | refine below_set ?_ GE154.out) | exact HB.out))) : w.heap.size ≤ gb158)); have n5_ := Aside0.mk ((by rw [hg]; exact Nat.ne_of_lt (blk_lt (g := gb154) (o := .cells #[.int .i64 a0_0, .slice A0_1 l0_1.length c0_1] 24 (0, 0)) (by (with_reducible repeat (first | refine blk_drewN ?_ _ | refine blk_drew ?_ | refine blk_alloc ?_ _)); exact BK154.out)) : gb154 ≠ gb158)); have n6_ := Aside0.mk ((by rw [hg]; exact Nat.ne_of_gt (blk_lt (g := gb154) (o := .cells #[.int .i64 a0_0, .slice A0_1 l0_1.length c0_1] 24 (0, 0)) (by (with_reducible repeat (first | refine blk_drewN ?_ _ | refine blk_drew ?_ | refine blk_alloc ?_ _)); exact BK154.out)) : gb158 ≠ gb154)); clear BK154; clear HB; have BK154 := n0_; have HB := n1_; have BK158 := n2_; have GW158 := n3_; have GE158 := n4_; have NB154_158 := n5_; have NB158_154 := n6_; clear n0_ n1_ n2_ n3_ n4_ n5_ n6_; clear hb hbox hg; have hnb26 := NB158_154.out; have hnc26 := NB154_158.out; have hcz27_0 : w25.cell? ⟨gb158, 0, none⟩ = some (.int .i64 0) := (blk_cell BK158.out 0).trans rfl; have hcz27_1 : w25.cell? ⟨gb158, 1, none⟩ = some (.slice none 0 0) := (blk_cell BK158.out 1).trans rfl; have hfz27_0 := blk_frozen BK158.out 0; have hfz27_1 := blk_frozen BK158.out 1))
        go_loopg [8] kj3 (fun kq v8 w' => ∃ (x8_2 : Int) (x159001_2 : List (S29)) (u159001 : Value), v8 = .int .i64 x8_2 ∧ Aside0 (lockgatelaw11_NetKeeps.l0 kq l1 a2 x8_2 a0_0 l0_1 a0_0 x159001_2 = some r) ∧ Aside0 (kq ≤ kj3) ∧ Aside0 (Kd.S k29 29 w' w.heap.size (fun _ => True) u159001 x159001_2) ∧ Aside0 (w'.heap[gb154]? = some (.cells #[.int .i64 a0_0, (.slice A0_1 l0_1.length c0_1)] 24 (0, 0))) ∧ Aside0 (w'.heap[gb158]? = some (.cells #[.int .i64 a0_0, u159001] 24 (0, 0))) ∧ Aside0 (Below w.heap.size w w'))
        case atStart => exact ⟨(0), (([] : List (S29))), (.slice none 0 0), (by first | rfl | (simp; done) | (simp [*]; done)), H', ⟨Nat.le_refl _⟩, ⟨by first | exact Kd.S_nil _ _ _ _ _ | exact Kd.N_nil _ _ _ _ _ | exact Kd.V_nil _ _ _ _ _ | exact Kd.Q_nil _ _ _ _ _ | exact Kd.R_nil _ _ _ _ _⟩, ⟨by (with_reducible repeat (first | refine blk_drewN ?_ _ | refine blk_drew ?_ | refine blk_alloc ?_ _)); refine blk_far ?_ NB154_158.out _; (with_reducible repeat (first | refine blk_drewN ?_ _ | refine blk_drew ?_ | refine blk_alloc ?_ _)); refine blk_far ?_ NB154_158.out _; (with_reducible repeat (first | refine blk_drewN ?_ _ | refine blk_drew ?_ | refine blk_alloc ?_ _)); exact BK154.out⟩, ⟨by (with_reducible repeat (first | refine blk_drewN ?_ _ | refine blk_drew ?_ | refine blk_alloc ?_ _)); refine blk_put (cs := #[.int .i64 a0_0, .slice none 0 0]) ?_ 1 _ rfl; (with_reducible repeat (first | refine blk_drewN ?_ _ | refine blk_drew ?_ | refine blk_alloc ?_ _)); refine blk_put (cs := #[.int .i64 0, .slice none 0 0]) ?_ 0 _ rfl; (with_reducible repeat (first | refine blk_drewN ?_ _ | refine blk_drew ?_ | refine blk_alloc ?_ _)); exact BK158.out⟩, ⟨by repeat (first | (with_reducible first | exact HB.out | apply below_alloc | apply pw_below_drewN | apply below_drew1 | refine below_set ?_ GE154.out | refine below_set ?_ GE158.out) | exact HB.out)⟩⟩
        case round =>
          clear H'
          try clear c1
          try clear c2
          try clear p2
          try clear c3
          try clear c7
          try clear c9
          try clear c10
          try clear c10b0
          try clear c10b1
          try clear c21
          try clear c26
          try clear hcz12_0
          try clear hcz12_1
          try clear hcz15_0
          try clear hcz15_1
          try clear hcz18_0
          try clear hcz18_1
          try clear hcz24_0
          try clear hcz24_1
          try clear hcz27_0
          try clear hcz27_1
          try clear hfz12_0
          try clear hfz12_1
          try clear hfz15_0
          try clear hfz15_1
          try clear hfz18_0
          try clear hfz18_1
          try clear hfz24_0
          try clear hfz24_1
          try clear hfz27_0
          try clear hfz27_1
          try clear p2
          obtain ⟨x8_2, x159001_2, u159001, rfl, HA, HK2, HO_159001, BK154, BK158, HB⟩ := hrel
          cases gk with
          | zero => exact absurd HA.out (by simp [lockgatelaw11_NetKeeps.l0])
          | succ k2 =>
            have H := HA.out
            clear HA
            simp only [lockgatelaw11_NetKeeps.l0] at H
            by_cases c28 : x8_2 < (l0_1.length : Int)
            · rw [if_pos c28] at H
              have c28b0 : decide (x8_2 < (l0_1.length : Int)) = true := decide_eq_true c28
              clear c28
              by_cases c29 : 0 ≤ x8_2
              · rw [if_pos c29] at H
                have c29b0 : decide (0 ≤ x8_2) = true := decide_eq_true c29
                clear c29
                obtain ⟨y161, hy161⟩ : ∃ y_ : List Int, y_ = (([] : List Int)) := ⟨_, rfl⟩
                replace H : (if y161.length + ((rd_T29 l0_1 x8_2).f2).length < 140737488355328 then (if x159001_2.length < 3518437208883 then (lockgatelaw11_NetKeeps.l0 k2 l1 a2 (wrap64 (x8_2 + 1)) a0_0 l0_1 a0_0 (x159001_2 ++ [(⟨(rd_T29 l0_1 x8_2).f0, (rd_T29 l0_1 x8_2).f1, (y161 ++ ((rd_T29 l0_1 x8_2).f2))⟩ : S29)])) else (none)) else (none)) = some r := by first | (rw [hy161]; with_reducible exact H) | (have H2_ := (Option.bind_some _ _).symm.trans H; rw [hy161]; with_reducible exact H2_) | (have H2_ := (Option.bind_some _ _).symm.trans H; with_reducible exact H2_) | with_reducible exact H | (rw [hy161]; exact H) | exact H
                have Ny161 := Aside0.mk hy161
                clear hy161
                by_cases c30 : y161.length + ((rd_T29 l0_1 x8_2).f2).length < 140737488355328
                · rw [if_pos c30] at H
                  have LMc30 := Aside0.mk c30
                  clear c30
                  obtain ⟨y165, hy165⟩ : ∃ y_ : List Int, y_ = (y161 ++ ((rd_T29 l0_1 x8_2).f2)) := ⟨_, rfl⟩
                  replace H : (if x159001_2.length < 3518437208883 then (lockgatelaw11_NetKeeps.l0 k2 l1 a2 (wrap64 (x8_2 + 1)) a0_0 l0_1 a0_0 (x159001_2 ++ [(⟨(rd_T29 l0_1 x8_2).f0, (rd_T29 l0_1 x8_2).f1, y165⟩ : S29)])) else (none)) = some r := by first | (rw [hy165]; with_reducible exact H) | (have H2_ := (Option.bind_some _ _).symm.trans H; rw [hy165]; with_reducible exact H2_) | (have H2_ := (Option.bind_some _ _).symm.trans H; with_reducible exact H2_) | with_reducible exact H | (rw [hy165]; exact H) | exact H
                  have Ny165 := Aside0.mk hy165
                  clear hy165
                  by_cases c31 : x159001_2.length < 3518437208883
                  · rw [if_pos c31] at H
                    have LMc31 := Aside0.mk c31
                    clear c31
                    obtain ⟨y168, hy168⟩ : ∃ y_ : List (S29), y_ = (x159001_2 ++ [(⟨(rd_T29 l0_1 x8_2).f0, (rd_T29 l0_1 x8_2).f1, y165⟩ : S29)]) := ⟨_, rfl⟩
                    replace H : (lockgatelaw11_NetKeeps.l0 k2 l1 a2 (wrap64 (x8_2 + 1)) a0_0 l0_1 a0_0 y168) = some r := by first | (rw [hy168]; with_reducible exact H) | (have H2_ := (Option.bind_some _ _).symm.trans H; rw [hy168]; with_reducible exact H2_) | (have H2_ := (Option.bind_some _ _).symm.trans H; with_reducible exact H2_) | with_reducible exact H | (rw [hy168]; exact H) | exact H
                    have Ny168 := Aside0.mk hy168
                    clear hy168
                    have H' := Aside0.mk H
                    clear H
                    have hnb32 := NB154_158.out
                    have hnc32 := NB158_154.out
                    have hcz33_0 : wr.cell? ⟨gb154, 0, none⟩ = some (.int .i64 a0_0) := (blk_cell BK154.out 0).trans rfl
                    have hcz33_1 : wr.cell? ⟨gb154, 1, none⟩ = some (.slice A0_1 l0_1.length c0_1) := (blk_cell BK154.out 1).trans rfl
                    have hfz33_0 := blk_frozen BK154.out 0
                    have hfz33_1 := blk_frozen BK154.out 1
                    try go_wp2
                    have n0_ := Aside0.mk (Kd.S_drew HO_159001.out)
                    have n1_ := Aside0.mk (blk_drew BK154.out)
                    have n2_ := Aside0.mk (blk_drew BK158.out)
                    have n3_ := Aside0.mk (below_drew1 HB.out)
                    clear HO_159001
                    clear BK154
                    clear BK158
                    clear HB
                    have HO_159001 := n0_
                    have BK154 := n1_
                    have BK158 := n2_
                    have HB := n3_
                    clear n0_ n1_ n2_ n3_
                    have p159 : 0 ≤ (x8_2 : Int) := of_decide_eq_true (by first | (with_reducible assumption) | assumption)
                    have q159 : x8_2 < (l0_1.length : Int) := of_decide_eq_true (by first | (with_reducible assumption) | assumption)
                    obtain ⟨ad159, A159_2, c159_2, e159, hx159_0, hx159_1, hx159_2, hl159_2, hi159_2⟩ := at_T29 HR0_1.out x8_2 p159 q159
                    have hw159_2 := hx159_2
                    have hw159_1 := hx159_1
                    have hw159_0 := hx159_0
                    cases e159
                    replace hx159_0 := (HB.out.cell (World.block_lt_of_cell? w _ hx159_0)).trans hx159_0
                    replace hx159_1 := (HB.out.cell (World.block_lt_of_cell? w _ hx159_1)).trans hx159_1
                    replace hx159_2 := (HB.out.cell (World.block_lt_of_cell? w _ hx159_2)).trans hx159_2
                    have HR159_2 := Aside0.mk hi159_2
                    have HC159_2 := Aside0.mk hl159_2
                    clear hi159_2 hl159_2
                    replace p159 := eq_true p159
                    replace q159 := eq_true q159
                    have p160 : 0 ≤ (x8_2 : Int) := of_decide_eq_true (by first | (with_reducible assumption) | assumption)
                    have q160 : x8_2 < (l0_1.length : Int) := of_decide_eq_true (by first | (with_reducible assumption) | assumption)
                    obtain ⟨ad160, A160_2, c160_2, e160, hx160_0, hx160_1, hx160_2, hl160_2, hi160_2⟩ := at_T29 HR0_1.out x8_2 p160 q160
                    have hw160_2 := hx160_2
                    have hw160_1 := hx160_1
                    have hw160_0 := hx160_0
                    obtain rfl : ad159 = ad160 := (by injection e160)
                    replace hx160_0 := (HB.out.cell (World.block_lt_of_cell? w _ hx160_0)).trans hx160_0
                    replace hx160_1 := (HB.out.cell (World.block_lt_of_cell? w _ hx160_1)).trans hx160_1
                    replace hx160_2 := (HB.out.cell (World.block_lt_of_cell? w _ hx160_2)).trans hx160_2
                    have HR160_2 := Aside0.mk hi160_2
                    have HC160_2 := Aside0.mk hl160_2
                    clear hi160_2 hl160_2
                    replace p160 := eq_true p160
                    replace q160 := eq_true q160
                    have ea_ := Option.some.inj (hx159_2.symm.trans hx160_2)
                    injection ea_ with ea_ en_ ec_
                    subst ea_
                    subst ec_
                    clear en_
                    have p164 : 0 ≤ (x8_2 : Int) := of_decide_eq_true (by first | (with_reducible assumption) | assumption)
                    have q164 : x8_2 < (l0_1.length : Int) := of_decide_eq_true (by first | (with_reducible assumption) | assumption)
                    obtain ⟨ad164, A164_2, c164_2, e164, hx164_0, hx164_1, hx164_2, hl164_2, hi164_2⟩ := at_T29 HR0_1.out x8_2 p164 q164
                    have hw164_2 := hx164_2
                    have hw164_1 := hx164_1
                    have hw164_0 := hx164_0
                    obtain rfl : ad159 = ad164 := (by injection e164)
                    replace hx164_0 := (HB.out.cell (World.block_lt_of_cell? w _ hx164_0)).trans hx164_0
                    replace hx164_1 := (HB.out.cell (World.block_lt_of_cell? w _ hx164_1)).trans hx164_1
                    replace hx164_2 := (HB.out.cell (World.block_lt_of_cell? w _ hx164_2)).trans hx164_2
                    have HR164_2 := Aside0.mk hi164_2
                    have HC164_2 := Aside0.mk hl164_2
                    clear hi164_2 hl164_2
                    replace p164 := eq_true p164
                    replace q164 := eq_true q164
                    have ea_ := Option.some.inj (hx159_2.symm.trans hx164_2)
                    injection ea_ with ea_ en_ ec_
                    subst ea_
                    subst ec_
                    clear en_
                    refine start_ (n := 27) (S := fun w' => w'.cell? ⟨gb158, 0, none⟩ = some (.int .i64 a0_0) ∧ w'.cell? ⟨gb158, 1, none⟩ = some (u159001) ∧ w'.cell? ⟨gb154, 0, none⟩ = some (.int .i64 a0_0) ∧ w'.cell? ⟨gb154, 1, none⟩ = some (.slice (some ad159) l0_1.length c0_1) ∧ w'.cell? (ad159.add ((x8_2).toNat * 3)) = some (.int .i64 ((rd_T29 l0_1 x8_2).f0)) ∧ w'.cell? ⟨(ad159.add ((x8_2).toNat * 3)).block, (ad159.add ((x8_2).toNat * 3)).off + 1, none⟩ = some (.int .i64 ((rd_T29 l0_1 x8_2).f1)) ∧ w'.cell? ⟨(ad159.add ((x8_2).toNat * 3)).block, (ad159.add ((x8_2).toNat * 3)).off + 2, none⟩ = some (.slice A159_2 ((rd_T29 l0_1 x8_2).f2).length c159_2) ∧ w'.cell? (ad159.add ((x8_2).toNat * 3)) = some (.int .i64 ((rd_T29 l0_1 x8_2).f0)) ∧ w'.cell? ⟨(ad159.add ((x8_2).toNat * 3)).block, (ad159.add ((x8_2).toNat * 3)).off + 1, none⟩ = some (.int .i64 ((rd_T29 l0_1 x8_2).f1)) ∧ w'.cell? ⟨(ad159.add ((x8_2).toNat * 3)).block, (ad159.add ((x8_2).toNat * 3)).off + 2, none⟩ = some (.slice A159_2 ((rd_T29 l0_1 x8_2).f2).length c159_2) ∧ w'.cell? (ad159.add ((x8_2).toNat * 3)) = some (.int .i64 ((rd_T29 l0_1 x8_2).f0)) ∧ w'.cell? ⟨(ad159.add ((x8_2).toNat * 3)).block, (ad159.add ((x8_2).toNat * 3)).off + 1, none⟩ = some (.int .i64 ((rd_T29 l0_1 x8_2).f1)) ∧ w'.cell? ⟨(ad159.add ((x8_2).toNat * 3)).block, (ad159.add ((x8_2).toNat * 3)).off + 2, none⟩ = some (.slice A159_2 ((rd_T29 l0_1 x8_2).f2).length c159_2)) (ds := [26]) #[false, false, false, false, false, false, false, false, false, false, false, false, false, false, false, false, false, false, false, false, false, false, false, false, false, false, false] (by kernel_rfl) rfl rfl ⟨(blk_cell BK158.out 0).trans rfl, (blk_cell BK158.out 1).trans rfl, (blk_cell BK154.out 0).trans rfl, (blk_cell BK154.out 1).trans rfl, ((HB.out.cell (World.block_lt_of_cell? w _ hw159_0)).trans hw159_0), ((HB.out.cell (World.block_lt_of_cell? w _ hw159_1)).trans hw159_1), ((HB.out.cell (World.block_lt_of_cell? w _ hw159_2)).trans hw159_2), ((HB.out.cell (World.block_lt_of_cell? w _ hw160_0)).trans hw160_0), ((HB.out.cell (World.block_lt_of_cell? w _ hw160_1)).trans hw160_1), ((HB.out.cell (World.block_lt_of_cell? w _ hw160_2)).trans hw160_2), ((HB.out.cell (World.block_lt_of_cell? w _ hw164_0)).trans hw164_0), ((HB.out.cell (World.block_lt_of_cell? w _ hw164_1)).trans hw164_1), ((HB.out.cell (World.block_lt_of_cell? w _ hw164_2)).trans hw164_2)⟩ (fun hHeld => ?_); refine with_tabW lockgatelaw11_NetKeeps.tab7 lockgatelaw11_NetKeeps.bits7 (fun HT_ HW_ => ?_)
                    generalize wr.drew = w34 at HO_159001 BK154 BK158 HB HR159_2 HR160_2 HR164_2 hx159_0 hx159_1 hx159_2 hx160_0 hx160_1 hx160_2 hx164_0 hx164_1 hx164_2 hHeld ⊢
                    refine pure_ (i := 0) (N := some 44) (v := ?_) (a' := ?_) #[true, false, false, false, false, false, false, false, false, false, false, false, false, false, false, false, false, false, false, false, false, false, false, false, false, false, false] rfl rfl (any_of HT_.out (by kernel_rfl)) (fun _ _ _ h => h) (Or.inl ⟨by rfl, ?_⟩) ?_ ?_
                    rotate_left
                    · intro w'
                      go_simp
                      with_reducible rfl
                    rotate_left
                    · simp only [Act.put, List.setIfInBounds_toArray, List.set_cons_zero, List.set_cons_succ, i64_w, i32_w]
                      rfl
                    refine pure_ (i := 2) (N := some 46) (v := ?_) (a' := ?_) #[true, false, true, false, false, false, false, false, false, false, false, false, false, false, false, false, false, false, false, false, false, false, false, false, false, false, false] rfl rfl (any_of HT_.out (by kernel_rfl)) (fun _ _ _ h => h) (Or.inl ⟨by rfl, ?_⟩) ?_ ?_
                    rotate_left
                    · intro w'
                      go_simp
                      with_reducible rfl
                    rotate_left
                    · simp only [Act.put, List.setIfInBounds_toArray, List.set_cons_zero, List.set_cons_succ, i64_w, i32_w]
                      rfl
                    refine pure_ (i := 4) (N := some 48) (v := ?_) (a' := ?_) #[true, false, true, false, true, false, false, false, false, false, false, false, false, false, false, false, false, false, false, false, false, false, false, false, false, false, false] rfl rfl (any_of HT_.out (by kernel_rfl)) (fun _ _ _ h => h) (Or.inl ⟨by rfl, ?_⟩) ?_ ?_
                    rotate_left
                    · intro w'
                      go_simp
                      with_reducible rfl
                    rotate_left
                    · simp only [Act.put, List.setIfInBounds_toArray, List.set_cons_zero, List.set_cons_succ, i64_w, i32_w]
                      rfl
                    refine pure_ (i := 8) (N := some 52) (v := ?_) (a' := ?_) #[true, false, true, false, true, false, false, false, true, false, false, false, false, false, false, false, false, false, false, false, false, false, false, false, false, false, false] rfl rfl (any_of HT_.out (by kernel_rfl)) (fun _ _ _ h => h) (Or.inl ⟨by rfl, ?_⟩) ?_ ?_
                    rotate_left
                    · intro w'
                      go_simp
                      with_reducible rfl
                    rotate_left
                    · simp only [Act.put, List.setIfInBounds_toArray, List.set_cons_zero, List.set_cons_succ, i64_w, i32_w]
                      rfl
                    refine pure_ (i := 10) (N := some 54) (v := ?_) (a' := ?_) #[true, false, true, false, true, false, false, false, true, false, true, false, false, false, false, false, false, false, false, false, false, false, false, false, false, false, false] rfl rfl (any_of HT_.out (by kernel_rfl)) (fun _ _ _ h => h) (Or.inl ⟨by rfl, ?_⟩) ?_ ?_
                    rotate_left
                    · intro w'
                      go_simp
                      with_reducible rfl
                    rotate_left
                    · simp only [Act.put, List.setIfInBounds_toArray, List.set_cons_zero, List.set_cons_succ, i64_w, i32_w]
                      rfl
                    refine pure_ (i := 15) (N := some 59) (v := ?_) (a' := ?_) #[true, false, true, false, true, false, false, false, true, false, true, false, false, false, false, true, false, false, false, false, false, false, false, false, false, false, false] rfl rfl (any_of HT_.out (by kernel_rfl)) (fun _ _ _ h => h) (Or.inl ⟨by rfl, ?_⟩) ?_ ?_
                    rotate_left
                    · intro w'
                      go_simp
                      with_reducible rfl
                    rotate_left
                    · simp only [Act.put, List.setIfInBounds_toArray, List.set_cons_zero, List.set_cons_succ, i64_w, i32_w]
                      rfl
                    refine pure_ (i := 17) (N := some 61) (v := ?_) (a' := ?_) #[true, false, true, false, true, false, false, false, true, false, true, false, false, false, false, true, false, true, false, false, false, false, false, false, false, false, false] rfl rfl (any_of HT_.out (by kernel_rfl)) (fun _ _ _ h => h) (Or.inl ⟨by rfl, ?_⟩) ?_ ?_
                    rotate_left
                    · intro w'
                      go_simp
                      with_reducible rfl
                    rotate_left
                    · simp only [Act.put, List.setIfInBounds_toArray, List.set_cons_zero, List.set_cons_succ, i64_w, i32_w]
                      rfl
                    refine take_ (i := 1) (N := some 45) (v := ?_) (a' := ?_) #[true, true, true, false, true, false, false, false, true, false, true, false, false, false, false, true, false, true, false, false, false, false, false, false, false, false, false] rfl rfl (take_ofW HT_.out HW_.out (by kernel_rfl)) (fun _ _ _ h => h) (Or.inl ⟨by rfl, ?_⟩) hHeld ?_ ?_
                    rotate_left
                    · rintro w' ⟨s0, s1, s2, s3, s4, s5, s6, s7, s8, s9, s10, s11, s12⟩
                      go_simp
                      with_reducible rfl
                    rotate_left
                    · simp only [Act.put, List.setIfInBounds_toArray, List.set_cons_zero, List.set_cons_succ, i64_w, i32_w]
                      rfl
                    refine take_ (i := 3) (N := some 47) (v := ?_) (a' := ?_) #[true, true, true, true, true, false, false, false, true, false, true, false, false, false, false, true, false, true, false, false, false, false, false, false, false, false, false] rfl rfl (take_ofW HT_.out HW_.out (by kernel_rfl)) (fun _ _ _ h => h) (Or.inl ⟨by rfl, ?_⟩) hHeld ?_ ?_
                    rotate_left
                    · rintro w' ⟨s0, s1, s2, s3, s4, s5, s6, s7, s8, s9, s10, s11, s12⟩
                      go_simp
                      with_reducible rfl
                    rotate_left
                    · simp only [Act.put, List.setIfInBounds_toArray, List.set_cons_zero, List.set_cons_succ, i64_w, i32_w]
                      rfl
                    refine pure_ (i := 5) (N := some 49) (v := ?_) (a' := ?_) #[true, true, true, true, true, true, false, false, true, false, true, false, false, false, false, true, false, true, false, false, false, false, false, false, false, false, false] rfl rfl (any_of HT_.out (by kernel_rfl)) (fun _ _ _ h => h) (Or.inl ⟨by rfl, ?_⟩) ?_ ?_
                    rotate_left
                    · intro w'
                      go_simp
                      with_reducible rfl
                    rotate_left
                    · simp only [Act.put, List.setIfInBounds_toArray, List.set_cons_zero, List.set_cons_succ, i64_w, i32_w]
                      rfl
                    refine pure_ (i := 6) (N := some 50) (v := ?_) (a' := ?_) #[true, true, true, true, true, true, true, false, true, false, true, false, false, false, false, true, false, true, false, false, false, false, false, false, false, false, false] rfl rfl (any_of HT_.out (by kernel_rfl)) (fun _ _ _ h => h) (Or.inl ⟨by rfl, ?_⟩) ?_ ?_
                    rotate_left
                    · intro w'
                      go_simp
                      with_reducible rfl
                    rotate_left
                    · simp only [Act.put, List.setIfInBounds_toArray, List.set_cons_zero, List.set_cons_succ, i64_w, i32_w]
                      rfl
                    refine take_ (i := 7) (N := some 51) (v := ?_) (a' := ?_) #[true, true, true, true, true, true, true, true, true, false, true, false, false, false, false, true, false, true, false, false, false, false, false, false, false, false, false] rfl rfl (take_ofW HT_.out HW_.out (by kernel_rfl)) (fun _ _ _ h => h) (Or.inl ⟨by rfl, ?_⟩) hHeld ?_ ?_
                    rotate_left
                    · rintro w' ⟨s0, s1, s2, s3, s4, s5, s6, s7, s8, s9, s10, s11, s12⟩
                      go_simp
                      with_reducible rfl
                    rotate_left
                    · simp only [Act.put, List.setIfInBounds_toArray, List.set_cons_zero, List.set_cons_succ, i64_w, i32_w]
                      rfl
                    refine take_ (i := 9) (N := some 53) (v := ?_) (a' := ?_) #[true, true, true, true, true, true, true, true, true, true, true, false, false, false, false, true, false, true, false, false, false, false, false, false, false, false, false] rfl rfl (take_ofW HT_.out HW_.out (by kernel_rfl)) (fun _ _ _ h => h) (Or.inl ⟨by rfl, ?_⟩) hHeld ?_ ?_
                    rotate_left
                    · rintro w' ⟨s0, s1, s2, s3, s4, s5, s6, s7, s8, s9, s10, s11, s12⟩
                      go_simp
                      with_reducible rfl
                    rotate_left
                    · simp only [Act.put, List.setIfInBounds_toArray, List.set_cons_zero, List.set_cons_succ, i64_w, i32_w]
                      rfl
                    refine pure_ (i := 11) (N := some 55) (v := ?_) (a' := ?_) #[true, true, true, true, true, true, true, true, true, true, true, true, false, false, false, true, false, true, false, false, false, false, false, false, false, false, false] rfl rfl (any_of HT_.out (by kernel_rfl)) (fun _ _ _ h => h) (Or.inl ⟨by rfl, ?_⟩) ?_ ?_
                    rotate_left
                    · intro w'
                      go_simp
                      with_reducible rfl
                    rotate_left
                    · simp only [Act.put, List.setIfInBounds_toArray, List.set_cons_zero, List.set_cons_succ, i64_w, i32_w]
                      rfl
                    refine pure_ (i := 12) (N := some 56) (v := ?_) (a' := ?_) #[true, true, true, true, true, true, true, true, true, true, true, true, true, false, false, true, false, true, false, false, false, false, false, false, false, false, false] rfl rfl (any_of HT_.out (by kernel_rfl)) (fun _ _ _ h => h) (Or.inl ⟨by rfl, ?_⟩) ?_ ?_
                    rotate_left
                    · intro w'
                      go_simp
                      with_reducible rfl
                    rotate_left
                    · simp only [Act.put, List.setIfInBounds_toArray, List.set_cons_zero, List.set_cons_succ, i64_w, i32_w]
                      rfl
                    refine take_ (i := 13) (N := some 57) (v := ?_) (a' := ?_) #[true, true, true, true, true, true, true, true, true, true, true, true, true, true, false, true, false, true, false, false, false, false, false, false, false, false, false] rfl rfl (take_ofW HT_.out HW_.out (by kernel_rfl)) (fun _ _ _ h => h) (Or.inl ⟨by rfl, ?_⟩) hHeld ?_ ?_
                    rotate_left
                    · rintro w' ⟨s0, s1, s2, s3, s4, s5, s6, s7, s8, s9, s10, s11, s12⟩
                      go_simp
                      with_reducible rfl
                    rotate_left
                    · simp only [Act.put, List.setIfInBounds_toArray, List.set_cons_zero, List.set_cons_succ, i64_w, i32_w]
                      rfl
                    refine take_ (i := 16) (N := some 60) (v := ?_) (a' := ?_) #[true, true, true, true, true, true, true, true, true, true, true, true, true, true, false, true, true, true, false, false, false, false, false, false, false, false, false] rfl rfl (take_ofW HT_.out HW_.out (by kernel_rfl)) (fun _ _ _ h => h) (Or.inl ⟨by rfl, ?_⟩) hHeld ?_ ?_
                    rotate_left
                    · rintro w' ⟨s0, s1, s2, s3, s4, s5, s6, s7, s8, s9, s10, s11, s12⟩
                      go_simp
                      with_reducible rfl
                    rotate_left
                    · simp only [Act.put, List.setIfInBounds_toArray, List.set_cons_zero, List.set_cons_succ, i64_w, i32_w]
                      rfl
                    refine pure_ (i := 18) (N := some 62) (v := ?_) (a' := ?_) #[true, true, true, true, true, true, true, true, true, true, true, true, true, true, false, true, true, true, true, false, false, false, false, false, false, false, false] rfl rfl (any_of HT_.out (by kernel_rfl)) (fun _ _ _ h => h) (Or.inl ⟨by rfl, ?_⟩) ?_ ?_
                    rotate_left
                    · intro w'
                      go_simp
                      with_reducible rfl
                    rotate_left
                    · simp only [Act.put, List.setIfInBounds_toArray, List.set_cons_zero, List.set_cons_succ, i64_w, i32_w]
                      rfl
                    refine pure_ (i := 19) (N := some 63) (v := ?_) (a' := ?_) #[true, true, true, true, true, true, true, true, true, true, true, true, true, true, false, true, true, true, true, true, false, false, false, false, false, false, false] rfl rfl (any_of HT_.out (by kernel_rfl)) (fun _ _ _ h => h) (Or.inl ⟨by rfl, ?_⟩) ?_ ?_
                    rotate_left
                    · intro w'
                      go_simp
                      with_reducible rfl
                    rotate_left
                    · simp only [Act.put, List.setIfInBounds_toArray, List.set_cons_zero, List.set_cons_succ, i64_w, i32_w]
                      rfl
                    refine take_ (i := 20) (N := some 64) (v := ?_) (a' := ?_) #[true, true, true, true, true, true, true, true, true, true, true, true, true, true, false, true, true, true, true, true, true, false, false, false, false, false, false] rfl rfl (take_ofW HT_.out HW_.out (by kernel_rfl)) (fun _ _ _ h => h) (Or.inl ⟨by rfl, ?_⟩) hHeld ?_ ?_
                    rotate_left
                    · rintro w' ⟨s0, s1, s2, s3, s4, s5, s6, s7, s8, s9, s10, s11, s12⟩
                      go_simp
                      with_reducible rfl
                    rotate_left
                    · simp only [Act.put, List.setIfInBounds_toArray, List.set_cons_zero, List.set_cons_succ, i64_w, i32_w]
                      rfl
                    refine one_ (i := 14) (N := some 58) #[true, true, true, true, true, true, true, true, true, true, true, true, true, true, true, true, true, true, true, true, true, false, false, false, false, false, false] rfl rfl (one_of HT_.out (by kernel_rfl)) (by decide) (fun K hK => ?_)
                    refine Kd.R_lit_step (Kd.int .u8) _ 5 ?hg (N := 58) ?hd (xs := ([] : List Int)) (inner := []) (ok := fun _ => True) (okp := fun _ => True) ?hr ?hp (fun _ hk => hk) trivial (Below.refl _ _) (Nat.le_refl _) (by simp) ?_; (case hd => rfl); (case hg => rfl); (case hr => first | (go_simp; done) | (go_simp; rfl)); (case hp => exact (Reps.none _ _))
                    intro v162 w35 ho36 hb hg_ hnew_
                    clear hg_ hnew_
                    (first | rw [← Ny161.out] at ho36 | (simp only [Int.reduceToNat] at ho36; rw [← Ny161.out] at ho36))
                    have n0_ := Aside0.mk (Kd.S_elder' (by (with_reducible repeat (first | apply Kd.S_alloc | apply Kd.S_drewN | apply Kd.S_drew)); exact HO_159001.out) (Kd.R_base ho36) hb)
                    have n1_ := Aside0.mk (Kd.R_lower ho36 (below_size (by repeat (first | (with_reducible first | exact HB.out | apply below_alloc | apply pw_below_drewN | apply below_drew1 | refine below_set ?_ GE154.out | refine below_set ?_ GE158.out) | exact HB.out))))
                    have n2_ := Aside0.mk (blk_below (g := gb154) (o := .cells #[.int .i64 a0_0, .slice (some ad159) l0_1.length c0_1] 24 (0, 0)) (by (with_reducible repeat (first | refine blk_drewN ?_ _ | refine blk_drew ?_ | refine blk_alloc ?_ _)); exact BK154.out) hb)
                    have n3_ := Aside0.mk (blk_below (g := gb158) (o := .cells #[.int .i64 a0_0, u159001] 24 (0, 0)) (by (with_reducible repeat (first | refine blk_drewN ?_ _ | refine blk_drew ?_ | refine blk_alloc ?_ _)); exact BK158.out) hb)
                    have n4_ := Aside0.mk (below_step (by repeat (first | (with_reducible first | exact HB.out | apply below_alloc | apply pw_below_drewN | apply below_drew1 | refine below_set ?_ GE154.out | refine below_set ?_ GE158.out) | exact HB.out)) hb)
                    clear HO_159001
                    clear BK154
                    clear BK158
                    clear HB
                    have HO_159001 := n0_
                    have HO163 := n1_
                    have BK154 := n2_
                    have BK158 := n3_
                    have HB := n4_
                    clear n0_ n1_ n2_ n3_ n4_
                    clear hb ho36
                    refine hK.out _ _ ⟨(blk_cell BK158.out 0).trans rfl, (blk_cell BK158.out 1).trans rfl, (blk_cell BK154.out 0).trans rfl, (blk_cell BK154.out 1).trans rfl, ((HB.out.cell (World.block_lt_of_cell? w _ hw159_0)).trans hw159_0), ((HB.out.cell (World.block_lt_of_cell? w _ hw159_1)).trans hw159_1), ((HB.out.cell (World.block_lt_of_cell? w _ hw159_2)).trans hw159_2), ((HB.out.cell (World.block_lt_of_cell? w _ hw160_0)).trans hw160_0), ((HB.out.cell (World.block_lt_of_cell? w _ hw160_1)).trans hw160_1), ((HB.out.cell (World.block_lt_of_cell? w _ hw160_2)).trans hw160_2), ((HB.out.cell (World.block_lt_of_cell? w _ hw164_0)).trans hw164_0), ((HB.out.cell (World.block_lt_of_cell? w _ hw164_1)).trans hw164_1), ((HB.out.cell (World.block_lt_of_cell? w _ hw164_2)).trans hw164_2)⟩ (fun hHeld => ?_)
                    clear hK K
                    refine norm_ (a' := ?_) ?_ ?_
                    rotate_left
                    · show Act.put _ (some 58) _ = _
                      simp only [Act.put, List.setIfInBounds_toArray, List.set_cons_zero, List.set_cons_succ, i64_w, i32_w]
                      rfl
                    refine one_ (i := 21) (N := some 65) #[true, true, true, true, true, true, true, true, true, true, true, true, true, true, true, true, true, true, true, true, true, true, false, false, false, false, false] rfl rfl (one_of HT_.out (by kernel_rfl)) (by decide) (fun K hK => ?_)
                    refine Kd.R_append_rows_step (Kd.int .u8) (w0 := w) w.heap.size (by rfl) (.tmp 58) (.tmp 64) 25 5 (.int .u8 0) 1 rfl Try.underlying25 info5 rfl (by decide) (by omega) v162 y161 ((rd_T29 l0_1 x8_2).f2) _ _ _ (fun _ => True) (fun _ => False) rfl rfl ?aO ?aR (fun _ _ h => h) (fun _ h => h.elim) ?aF ?aB ?aS ?aL ?_
                    (case aR => repeat (first | exact (Kd.C_below HR164_2.out HB.out) | (with_reducible refine Kd.C_alloc ?_ _) | (with_reducible refine Kd.C_drewN ?_ _) | (with_reducible refine Kd.C_drew ?_)))
                    (case aB => exact (by repeat (first | (with_reducible first | exact HB.out | apply below_alloc | apply pw_below_drewN | apply below_drew1 | refine below_set ?_ GE154.out | refine below_set ?_ GE158.out) | exact HB.out)))
                    (case aF => exact (fun _ _ => trivial))
                    (case aO => exact (by (with_reducible repeat (first | apply Kd.R_alloc | apply Kd.R_drewN | apply Kd.R_drew)); exact HO163.out))
                    (case aS => exact (below_size (by repeat (first | (with_reducible first | exact HB.out | apply below_alloc | apply pw_below_drewN | apply below_drew1 | refine below_set ?_ GE154.out | refine below_set ?_ GE158.out) | exact HB.out))))
                    (case aL => have := LMc30.out; omega)
                    intro v166 w37 ho hb hg hat
                    rw [← Ny165.out] at ho
                    have n0_ := Aside0.mk (Kd.S_after (ok := (fun _ => True)) (by (with_reducible repeat (first | apply Kd.S_alloc | apply Kd.S_drewN | apply Kd.S_drew)); exact HO_159001.out) hg hat)
                    have n1_ := Aside0.mk (blk_grown (g := gb154) (o := .cells #[.int .i64 a0_0, .slice (some ad159) l0_1.length c0_1] 24 (0, 0)) (by (with_reducible repeat (first | refine blk_drewN ?_ _ | refine blk_drew ?_ | refine blk_alloc ?_ _)); exact BK154.out) hg (Kd.R_ne HO163.out BK154.out (by decide)))
                    have n2_ := Aside0.mk (blk_grown (g := gb158) (o := .cells #[.int .i64 a0_0, u159001] 24 (0, 0)) (by (with_reducible repeat (first | refine blk_drewN ?_ _ | refine blk_drew ?_ | refine blk_alloc ?_ _)); exact BK158.out) hg (Kd.R_ne HO163.out BK158.out (by decide)))
                    have n3_ := Aside0.mk (hb)
                    have n4_ := Aside0.mk (ho)
                    clear HO_159001
                    clear BK154
                    clear BK158
                    clear HB
                    clear HO163
                    have HO_159001 := n0_
                    have BK154 := n1_
                    have BK158 := n2_
                    have HB := n3_
                    have HO167 := n4_
                    clear n0_ n1_ n2_ n3_ n4_
                    clear ho hb hg hat
                    obtain ⟨Ao38, co38, eo38⟩ := Kd.R_slice HO167.out
                    (first | subst eo38 | (injection eo38 with f1_ f2_ f3_; have f4_ := f1_.symm; have f5_ := f3_.symm; clear f1_ f2_ f3_; subst f4_; subst f5_))
                    refine hK.out _ _ ⟨(blk_cell BK158.out 0).trans rfl, (blk_cell BK158.out 1).trans rfl, (blk_cell BK154.out 0).trans rfl, (blk_cell BK154.out 1).trans rfl, ((HB.out.cell (World.block_lt_of_cell? w _ hw159_0)).trans hw159_0), ((HB.out.cell (World.block_lt_of_cell? w _ hw159_1)).trans hw159_1), ((HB.out.cell (World.block_lt_of_cell? w _ hw159_2)).trans hw159_2), ((HB.out.cell (World.block_lt_of_cell? w _ hw160_0)).trans hw160_0), ((HB.out.cell (World.block_lt_of_cell? w _ hw160_1)).trans hw160_1), ((HB.out.cell (World.block_lt_of_cell? w _ hw160_2)).trans hw160_2), ((HB.out.cell (World.block_lt_of_cell? w _ hw164_0)).trans hw164_0), ((HB.out.cell (World.block_lt_of_cell? w _ hw164_1)).trans hw164_1), ((HB.out.cell (World.block_lt_of_cell? w _ hw164_2)).trans hw164_2)⟩ (fun hHeld => ?_)
                    clear hK K
                    refine norm_ (a' := ?_) ?_ ?_
                    rotate_left
                    · show Act.put _ (some 65) _ = _
                      simp only [Act.put, List.setIfInBounds_toArray, List.set_cons_zero, List.set_cons_succ, i64_w, i32_w]
                      rfl
                    refine pure_ (i := 22) (N := some 66) (v := ?_) (a' := ?_) #[true, true, true, true, true, true, true, true, true, true, true, true, true, true, true, true, true, true, true, true, true, true, true, false, false, false, false] rfl rfl (any_of HT_.out (by kernel_rfl)) (fun _ _ _ h => h) (Or.inl ⟨by rfl, ?_⟩) ?_ ?_
                    rotate_left
                    · intro w'
                      go_simp
                      with_reducible rfl
                    rotate_left
                    · simp only [Act.put, List.setIfInBounds_toArray, List.set_cons_zero, List.set_cons_succ, i64_w, i32_w]
                      rfl
                    refine one_ (i := 23) (N := some 67) #[true, true, true, true, true, true, true, true, true, true, true, true, true, true, true, true, true, true, true, true, true, true, true, true, false, false, false] rfl rfl (one_of HT_.out (by kernel_rfl)) (by decide) (fun K hK => ?_)
                    refine value_ (w1 := ?_) (v := ?_) (by rfl) rfl ?_ ?_
                    rotate_left 2
                    · go_simp
                      constructor
                      · rfl
                      · rfl
                    refine hK.out _ _ ⟨(blk_cell (blk_alloc BK158.out _) 0).trans rfl, (blk_cell (blk_alloc BK158.out _) 1).trans rfl, (blk_cell (blk_alloc BK154.out _) 0).trans rfl, (blk_cell (blk_alloc BK154.out _) 1).trans rfl, (World.cell?_alloc_lt _ _ _ (World.block_lt_of_cell? _ _ (((HB.out.cell (World.block_lt_of_cell? w _ hw159_0)).trans hw159_0)))).trans (((HB.out.cell (World.block_lt_of_cell? w _ hw159_0)).trans hw159_0)), (World.cell?_alloc_lt _ _ _ (World.block_lt_of_cell? _ _ (((HB.out.cell (World.block_lt_of_cell? w _ hw159_1)).trans hw159_1)))).trans (((HB.out.cell (World.block_lt_of_cell? w _ hw159_1)).trans hw159_1)), (World.cell?_alloc_lt _ _ _ (World.block_lt_of_cell? _ _ (((HB.out.cell (World.block_lt_of_cell? w _ hw159_2)).trans hw159_2)))).trans (((HB.out.cell (World.block_lt_of_cell? w _ hw159_2)).trans hw159_2)), (World.cell?_alloc_lt _ _ _ (World.block_lt_of_cell? _ _ (((HB.out.cell (World.block_lt_of_cell? w _ hw160_0)).trans hw160_0)))).trans (((HB.out.cell (World.block_lt_of_cell? w _ hw160_0)).trans hw160_0)), (World.cell?_alloc_lt _ _ _ (World.block_lt_of_cell? _ _ (((HB.out.cell (World.block_lt_of_cell? w _ hw160_1)).trans hw160_1)))).trans (((HB.out.cell (World.block_lt_of_cell? w _ hw160_1)).trans hw160_1)), (World.cell?_alloc_lt _ _ _ (World.block_lt_of_cell? _ _ (((HB.out.cell (World.block_lt_of_cell? w _ hw160_2)).trans hw160_2)))).trans (((HB.out.cell (World.block_lt_of_cell? w _ hw160_2)).trans hw160_2)), (World.cell?_alloc_lt _ _ _ (World.block_lt_of_cell? _ _ (((HB.out.cell (World.block_lt_of_cell? w _ hw164_0)).trans hw164_0)))).trans (((HB.out.cell (World.block_lt_of_cell? w _ hw164_0)).trans hw164_0)), (World.cell?_alloc_lt _ _ _ (World.block_lt_of_cell? _ _ (((HB.out.cell (World.block_lt_of_cell? w _ hw164_1)).trans hw164_1)))).trans (((HB.out.cell (World.block_lt_of_cell? w _ hw164_1)).trans hw164_1)), (World.cell?_alloc_lt _ _ _ (World.block_lt_of_cell? _ _ (((HB.out.cell (World.block_lt_of_cell? w _ hw164_2)).trans hw164_2)))).trans (((HB.out.cell (World.block_lt_of_cell? w _ hw164_2)).trans hw164_2))⟩ (fun hHeld => ?_)
                    clear hK K
                    refine norm_ (a' := ?_) ?_ ?_
                    rotate_left
                    · show Act.put _ (some 67) _ = _
                      simp only [Act.put, List.setIfInBounds_toArray, List.set_cons_zero, List.set_cons_succ, i64_w, i32_w]
                      rfl
                    refine one_ (i := 24) (N := some 68) #[true, true, true, true, true, true, true, true, true, true, true, true, true, true, true, true, true, true, true, true, true, true, true, true, true, false, false] rfl rfl (one_of HT_.out (by kernel_rfl)) (by decide) (fun K hK => ?_)
                    refine Kd.S_append_step k29 (w0 := w) w.heap.size (by rfl) (.tmp 45) (.tmp 67) 22 29 (.agg #[(.int .i64 0), (.int .i64 0), (.slice none 0 0)]) 40 rfl Try.underlying22 info29 rfl (by decide) (by omega) u159001 x159001_2 (⟨(rd_T29 l0_1 x8_2).f0, (rd_T29 l0_1 x8_2).f1, y165⟩ : S29) [.int .i64 ((rd_T29 l0_1 x8_2).f0), .int .i64 ((rd_T29 l0_1 x8_2).f1), .slice Ao38 y165.length co38] (fun _ => True) (fun k_ => some k_ = (.slice Ao38 y165.length co38 : Value).ownBlock) rfl rfl ?aP (fun k_ hk_ => ((Kd.R_mono (ok' := fun k_ => ((fun _ => True)) k_ ∧ some k_ ≠ (u159001 : Value).ownBlock) (Kd.R_apart' (HO167.out) (Kd.S_typed HO_159001.out) (by decide)) (fun k_ hk => ⟨trivial, hk.2⟩))).1 k_ hk_.symm) ?aF ?aO ?aB ?aS ?aL ?_
                    (case aP => exact k29_mkM _ _ _ (⟨(rd_T29 l0_1 x8_2).f0, (rd_T29 l0_1 x8_2).f1, y165⟩ : S29) (Kd.R_mono (Kd.R_tight rfl (Kd.R_mono (ok' := fun k_ => ((fun _ => True)) k_ ∧ some k_ ≠ (u159001 : Value).ownBlock) (Kd.R_apart' (HO167.out) (Kd.S_typed HO_159001.out) (by decide)) (fun k_ hk => ⟨trivial, hk.2⟩))) (fun _ h_ => h_)))
                    (case aB => exact (by repeat (first | (with_reducible first | exact HB.out | apply below_alloc | apply pw_below_drewN | apply below_drew1 | refine below_set ?_ GE154.out | refine below_set ?_ GE158.out) | exact HB.out)))
                    (case aF => exact (fun _ _ => trivial))
                    (case aO => exact (by (with_reducible repeat (first | apply Kd.S_alloc | apply Kd.S_drewN | apply Kd.S_drew)); exact Kd.S_mono HO_159001.out (fun k_ hk => ⟨trivial, fun e_ => hk.2 e_⟩)))
                    (case aS => exact (below_size (by repeat (first | (with_reducible first | exact HB.out | apply below_alloc | apply pw_below_drewN | apply below_drew1 | refine below_set ?_ GE154.out | refine below_set ?_ GE158.out) | exact HB.out))))
                    (case aL => have := LMc31.out; omega)
                    intro v169 w39 ho hb hg hat
                    rw [← Ny168.out] at ho
                    have n0_ := Aside0.mk (blk_grown (g := gb154) (o := .cells #[.int .i64 a0_0, .slice (some ad159) l0_1.length c0_1] 24 (0, 0)) (by (with_reducible repeat (first | refine blk_drewN ?_ _ | refine blk_drew ?_ | refine blk_alloc ?_ _)); exact BK154.out) hg (Kd.S_ne HO_159001.out BK154.out (by decide)))
                    have n1_ := Aside0.mk (blk_grown (g := gb158) (o := .cells #[.int .i64 a0_0, u159001] 24 (0, 0)) (by (with_reducible repeat (first | refine blk_drewN ?_ _ | refine blk_drew ?_ | refine blk_alloc ?_ _)); exact BK158.out) hg (Kd.S_ne HO_159001.out BK158.out (by decide)))
                    have n2_ := Aside0.mk (hb)
                    have n3_ := Aside0.mk (ho)
                    clear BK154
                    clear BK158
                    clear HB
                    clear HO_159001
                    clear HO167
                    have BK154 := n0_
                    have BK158 := n1_
                    have HB := n2_
                    have HO170 := n3_
                    clear n0_ n1_ n2_ n3_
                    clear ho hb hg hat
                    obtain ⟨Ao40, co40, eo40⟩ := Kd.S_slice HO170.out
                    (first | subst eo40 | (injection eo40 with f1_ f2_ f3_; have f4_ := f1_.symm; have f5_ := f3_.symm; clear f1_ f2_ f3_; subst f4_; subst f5_))
                    refine hK.out _ _ ⟨(blk_cell BK158.out 0).trans rfl, (blk_cell BK158.out 1).trans rfl, (blk_cell BK154.out 0).trans rfl, (blk_cell BK154.out 1).trans rfl, ((HB.out.cell (World.block_lt_of_cell? w _ hw159_0)).trans hw159_0), ((HB.out.cell (World.block_lt_of_cell? w _ hw159_1)).trans hw159_1), ((HB.out.cell (World.block_lt_of_cell? w _ hw159_2)).trans hw159_2), ((HB.out.cell (World.block_lt_of_cell? w _ hw160_0)).trans hw160_0), ((HB.out.cell (World.block_lt_of_cell? w _ hw160_1)).trans hw160_1), ((HB.out.cell (World.block_lt_of_cell? w _ hw160_2)).trans hw160_2), ((HB.out.cell (World.block_lt_of_cell? w _ hw164_0)).trans hw164_0), ((HB.out.cell (World.block_lt_of_cell? w _ hw164_1)).trans hw164_1), ((HB.out.cell (World.block_lt_of_cell? w _ hw164_2)).trans hw164_2)⟩ (fun hHeld => ?_)
                    clear hK K
                    refine norm_ (a' := ?_) ?_ ?_
                    rotate_left
                    · show Act.put _ (some 68) _ = _
                      simp only [Act.put, List.setIfInBounds_toArray, List.set_cons_zero, List.set_cons_succ, i64_w, i32_w]
                      rfl
                    refine pure_ (i := 25) (N := some 69) (v := ?_) (a' := ?_) #[true, true, true, true, true, true, true, true, true, true, true, true, true, true, true, true, true, true, true, true, true, true, true, true, true, true, false] rfl rfl (any_of HT_.out (by kernel_rfl)) (fun _ _ _ h => h) (Or.inl ⟨by rfl, ?_⟩) ?_ ?_
                    rotate_left
                    · intro w'
                      go_simp
                      with_reducible rfl
                    rotate_left
                    · simp only [Act.put, List.setIfInBounds_toArray, List.set_cons_zero, List.set_cons_succ, i64_w, i32_w]
                      rfl
                    refine last_ (i := 26) (N := none) #[true, true, true, true, true, true, true, true, true, true, true, true, true, true, true, true, true, true, true, true, true, true, true, true, true, true, true] rfl rfl (one_of HT_.out (by kernel_rfl)) (by decide) (fun K hK => ?_)
                    have hs41 : w39.cell? ⟨gb158, 1, none⟩ = some (u159001) := (blk_cell BK158.out 1).trans rfl
                    have hfs41 := blk_frozen BK158.out 1
                    have hns41_0 := NB154_158.out
                    have hms41_0 := NB158_154.out
                    refine skip_ (w1 := ?_) (by rfl) rfl ?_ ?_
                    rotate_left
                    · go_simp
                      rfl
                    refine hK.out _ _ ?_
                    clear hK K
                    refine done_ (done_of HT_.out (by kernel_rfl)) ?_
                    try go_wp2
                    go_roundg k2
                    case measure => have := HJ3.out; have := HK2.out; omega
                    case rel => exact ⟨(wrap64 (x8_2 + 1)), (y168), (.slice Ao40 y168.length co40), (by first | rfl | (simp; done) | (simp [*]; done)), H', ⟨by have := HJ3.out; have := HK2.out; omega⟩, ⟨by (with_reducible repeat (first | apply Kd.S_alloc | apply Kd.S_drewN | apply Kd.S_drew)); exact Kd.S_mono (Kd.S_far (p := ⟨gb158, 1, none⟩) (Kd.S_types HO170.out BK158.out (by decide)) (fun _ hk => hk.2) (.slice Ao40 y168.length co40)) (fun _ hk => trivial)⟩, ⟨by (with_reducible repeat (first | refine blk_drewN ?_ _ | refine blk_drew ?_ | refine blk_alloc ?_ _)); refine blk_far ?_ NB154_158.out _; (with_reducible repeat (first | refine blk_drewN ?_ _ | refine blk_drew ?_ | refine blk_alloc ?_ _)); exact BK154.out⟩, ⟨by (with_reducible repeat (first | refine blk_drewN ?_ _ | refine blk_drew ?_ | refine blk_alloc ?_ _)); refine blk_put (cs := #[.int .i64 a0_0, u159001]) ?_ 1 _ rfl; (with_reducible repeat (first | refine blk_drewN ?_ _ | refine blk_drew ?_ | refine blk_alloc ?_ _)); exact BK158.out⟩, ⟨by repeat (first | (with_reducible first | exact HB.out | apply below_alloc | apply pw_below_drewN | apply below_drew1 | refine below_set ?_ GE154.out | refine below_set ?_ GE158.out) | exact HB.out)⟩⟩
                  · rw [if_neg c31] at H
                    exact absurd H (by simp)
                · rw [if_neg c30] at H
                  exact absurd H (by simp)
              · rw [if_neg c29] at H
                exact absurd H (by simp)
            · rw [if_neg c28] at H
              have c28b0 : decide (x8_2 < (l0_1.length : Int)) = false := decide_eq_false c28
              clear c28
              obtain ⟨y171, hy171⟩ : ∃ y_ : List Int, y_ = (([] : List Int)) := ⟨_, rfl⟩
              replace H : (if y171.length + l1.length < 140737488355328 then ((some (y171 ++ l1 : List Int)).bind fun y174 => ((net_Send.f k2 a0_0 l0_1 3 y174).bind fun bt177 => ((net_Copy.f k2 bt177.1 bt177.2 a2).bind fun bt181 => ((net_Take.f k2 a0_0 l0_1 a2).bind fun bt186 => ((lockgateref11_Same.f k2 a0_0 l0_1 a0_0 x159001_2).bind fun t198 => (if t198 = true then ((lockgateref03_Same.f k2 l1 y174).bind fun t199 => (some t199)) else (some false))))))) else (none)) = some r := by first | (rw [hy171]; with_reducible exact H) | (have H2_ := (Option.bind_some _ _).symm.trans H; rw [hy171]; with_reducible exact H2_) | (have H2_ := (Option.bind_some _ _).symm.trans H; with_reducible exact H2_) | with_reducible exact H | (rw [hy171]; exact H) | exact H
              have Ny171 := Aside0.mk hy171
              clear hy171
              by_cases c42 : y171.length + l1.length < 140737488355328
              · rw [if_pos c42] at H
                have LMc42 := Aside0.mk c42
                clear c42
                obtain ⟨y174, hy174⟩ : ∃ y_ : List Int, y_ = (y171 ++ l1) := ⟨_, rfl⟩
                replace H : ((net_Send.f k2 a0_0 l0_1 3 y174).bind fun bt177 => ((net_Copy.f k2 bt177.1 bt177.2 a2).bind fun bt181 => ((net_Take.f k2 a0_0 l0_1 a2).bind fun bt186 => ((lockgateref11_Same.f k2 a0_0 l0_1 a0_0 x159001_2).bind fun t198 => (if t198 = true then ((lockgateref03_Same.f k2 l1 y174).bind fun t199 => (some t199)) else (some false)))))) = some r := by first | (rw [hy174]; with_reducible exact H) | (have H2_ := (Option.bind_some _ _).symm.trans H; rw [hy174]; with_reducible exact H2_) | (have H2_ := (Option.bind_some _ _).symm.trans H; with_reducible exact H2_) | with_reducible exact H | (rw [hy174]; exact H) | exact H
                have Ny174 := Aside0.mk hy174
                clear hy174
                replace H := Option.bind_eq_some_iff.mp H
                obtain ⟨⟨t177, t178⟩, A430, H⟩ := H
                replace H : ((net_Copy.f k2 t177 t178 a2).bind fun bt181 => ((net_Take.f k2 a0_0 l0_1 a2).bind fun bt186 => ((lockgateref11_Same.f k2 a0_0 l0_1 a0_0 x159001_2).bind fun t198 => (if t198 = true then ((lockgateref03_Same.f k2 l1 y174).bind fun t199 => (some t199)) else (some false))))) = some r := H
                have A43 := Aside0.mk A430
                clear A430
                replace H := Option.bind_eq_some_iff.mp H
                obtain ⟨⟨t181, t182⟩, A440, H⟩ := H
                replace H : ((net_Take.f k2 a0_0 l0_1 a2).bind fun bt186 => ((lockgateref11_Same.f k2 a0_0 l0_1 a0_0 x159001_2).bind fun t198 => (if t198 = true then ((lockgateref03_Same.f k2 l1 y174).bind fun t199 => (some t199)) else (some false)))) = some r := H
                have A44 := Aside0.mk A440
                clear A440
                replace H := Option.bind_eq_some_iff.mp H
                obtain ⟨⟨t186, t187, t188, t191, t192, t195⟩, A450, H⟩ := H
                replace H : ((lockgateref11_Same.f k2 a0_0 l0_1 a0_0 x159001_2).bind fun t198 => (if t198 = true then ((lockgateref03_Same.f k2 l1 y174).bind fun t199 => (some t199)) else (some false))) = some r := H
                have A45 := Aside0.mk A450
                clear A450
                replace H := Option.bind_eq_some_iff.mp H
                obtain ⟨t198, A460, H⟩ := H
                replace H : (if t198 = true then ((lockgateref03_Same.f k2 l1 y174).bind fun t199 => (some t199)) else (some false)) = some r := H
                have A46 := Aside0.mk A460
                clear A460
                by_cases c47 : t198 = true
                · subst c47
                  have H1 : ((lockgateref03_Same.f k2 l1 y174).bind fun t199 => (some t199)) = some r := by rw [if_pos rfl] at H; exact H
                  clear H
                  have H := H1
                  clear H1
                  replace H := Option.bind_eq_some_iff.mp H
                  obtain ⟨t199, A480, H⟩ := H
                  replace H : (some t199) = some r := H
                  have A48 := Aside0.mk A480
                  clear A480
                  obtain rfl := Option.some.inj H
                  have hnb49 := NB154_158.out
                  have hnc49 := NB158_154.out
                  have hcz50_0 : wr.cell? ⟨gb154, 0, none⟩ = some (.int .i64 a0_0) := (blk_cell BK154.out 0).trans rfl
                  have hcz50_1 : wr.cell? ⟨gb154, 1, none⟩ = some (.slice A0_1 l0_1.length c0_1) := (blk_cell BK154.out 1).trans rfl
                  have hfz50_0 := blk_frozen BK154.out 0
                  have hfz50_1 := blk_frozen BK154.out 1
                  go_wp2_with (first | ((with_reducible refine gate_dst (N := 70) rfl ?_); (try (refine gate_guard (by rfl) ?_; dsimp only)); refine Kd.R_lit (Kd.int .u8) _ 5 ?hg (N := 70) ?hd (xs := ([] : List Int)) (inner := []) (ok := fun _ => True) (okp := fun _ => True) ?hr ?hp (fun _ hk => hk) trivial (Below.refl _ _) (Nat.le_refl _) (by simp) ?_; (case hd => rfl); (case hg => rfl); (case hr => first | (go_simp; done) | (go_simp; rfl)); (case hp => exact (Reps.none _ _)); intro v172 w51 ho52 hb hg_ hnew_; clear hg_ hnew_; (first | rw [← Ny171.out] at ho52 | (simp only [Int.reduceToNat] at ho52; rw [← Ny171.out] at ho52)); have n0_ := Aside0.mk (Kd.S_elder' (by (with_reducible repeat (first | apply Kd.S_alloc | apply Kd.S_drewN | apply Kd.S_drew)); exact HO_159001.out) (Kd.R_base ho52) hb); have n1_ := Aside0.mk (Kd.R_lower ho52 (below_size (by repeat (first | (with_reducible first | exact HB.out | apply below_alloc | apply pw_below_drewN | apply below_drew1 | refine below_set ?_ GE154.out | refine below_set ?_ GE158.out) | exact HB.out)))); have n2_ := Aside0.mk (blk_below (g := gb154) (o := .cells #[.int .i64 a0_0, .slice A0_1 l0_1.length c0_1] 24 (0, 0)) (by (with_reducible repeat (first | refine blk_drewN ?_ _ | refine blk_drew ?_ | refine blk_alloc ?_ _)); exact BK154.out) hb); have n3_ := Aside0.mk (blk_below (g := gb158) (o := .cells #[.int .i64 a0_0, u159001] 24 (0, 0)) (by (with_reducible repeat (first | refine blk_drewN ?_ _ | refine blk_drew ?_ | refine blk_alloc ?_ _)); exact BK158.out) hb); have n4_ := Aside0.mk (below_step (by repeat (first | (with_reducible first | exact HB.out | apply below_alloc | apply pw_below_drewN | apply below_drew1 | refine below_set ?_ GE154.out | refine below_set ?_ GE158.out) | exact HB.out)) hb); clear HO_159001; clear BK154; clear BK158; clear HB; have HO_159001 := n0_; have HO173 := n1_; have BK154 := n2_; have BK158 := n3_; have HB := n4_; clear n0_ n1_ n2_ n3_ n4_; clear hb ho52) | ((with_reducible refine gate_builtin (b := .append) (xs := #[.tmp 70, .tmp 71]) rfl ?_); (try (refine gate_guard (by rfl) ?_; dsimp only)); at_builtin; refine Kd.R_append_rows (Kd.int .u8) (w0 := w) w.heap.size rfl (.tmp 70) (.tmp 71) 25 5 (.int .u8 0) 1 rfl Try.underlying25 info5 rfl (by decide) (by omega) v172 y171 l1 _ _ _ (fun _ => True) (fun _ => False) rfl rfl ?aO ?aR (fun _ _ h => h) (fun _ h => h.elim) ?aF ?aB ?aS ?aL ?_; (case aR => repeat (first | exact (Kd.C_below HR1.out HB.out) | (with_reducible refine Kd.C_alloc ?_ _) | (with_reducible refine Kd.C_drewN ?_ _) | (with_reducible refine Kd.C_drew ?_))); (case aB => exact (by repeat (first | (with_reducible first | exact HB.out | apply below_alloc | apply pw_below_drewN | apply below_drew1 | refine below_set ?_ GE154.out | refine below_set ?_ GE158.out) | exact HB.out))); (case aF => exact (fun _ _ => trivial)); (case aO => exact (by (with_reducible repeat (first | apply Kd.R_alloc | apply Kd.R_drewN | apply Kd.R_drew)); exact HO173.out)); (case aS => exact (below_size (by repeat (first | (with_reducible first | exact HB.out | apply below_alloc | apply pw_below_drewN | apply below_drew1 | refine below_set ?_ GE154.out | refine below_set ?_ GE158.out) | exact HB.out)))); (case aL => have := LMc42.out; omega); intro v175 w53 ho hb hg hat; rw [← Ny174.out] at ho; have n0_ := Aside0.mk (Kd.S_after (ok := (fun _ => True)) (by (with_reducible repeat (first | apply Kd.S_alloc | apply Kd.S_drewN | apply Kd.S_drew)); exact HO_159001.out) hg hat); have n1_ := Aside0.mk (blk_grown (g := gb154) (o := .cells #[.int .i64 a0_0, .slice A0_1 l0_1.length c0_1] 24 (0, 0)) (by (with_reducible repeat (first | refine blk_drewN ?_ _ | refine blk_drew ?_ | refine blk_alloc ?_ _)); exact BK154.out) hg (Kd.R_ne HO173.out BK154.out (by decide))); have n2_ := Aside0.mk (blk_grown (g := gb158) (o := .cells #[.int .i64 a0_0, u159001] 24 (0, 0)) (by (with_reducible repeat (first | refine blk_drewN ?_ _ | refine blk_drew ?_ | refine blk_alloc ?_ _)); exact BK158.out) hg (Kd.R_ne HO173.out BK158.out (by decide))); have n3_ := Aside0.mk (hb); have n4_ := Aside0.mk (ho); clear HO_159001; clear BK154; clear BK158; clear HB; clear HO173; have HO_159001 := n0_; have BK154 := n1_; have BK158 := n2_; have HB := n3_; have HO176 := n4_; clear n0_ n1_ n2_ n3_ n4_; clear ho hb hg hat; have hcz54_0 : w53.cell? ⟨gb154, 0, none⟩ = some (.int .i64 a0_0) := (blk_cell BK154.out 0).trans rfl; have hcz54_1 : w53.cell? ⟨gb154, 1, none⟩ = some (.slice A0_1 l0_1.length c0_1) := (blk_cell BK154.out 1).trans rfl; have hfz54_0 := blk_frozen BK154.out 0; have hfz54_1 := blk_frozen BK154.out 1; obtain ⟨Ao55, co55, eo55⟩ := Kd.R_slice HO176.out; subst eo55) | fail)
                  have HSW := Aside0.mk HO_159001.out
                  refine (net_Send.calls k2 a0_0 A0_1 c0_1 l0_1 3 Ao55 co55 y174 t177 t178 w53 (Kd.C_below HR0_1.out HB.out) HC0_1.out (Kd.R_reads' HO176.out).2.2 (Kd.R_reads' HO176.out).2.1 A43.out).mono ?_
                  rintro e w56 ⟨v179, rfl, hs1, hb1⟩
                  have BW := Aside0.mk hb1
                  obtain ⟨A10, c10, rfl, hl10, hC10⟩ := Kd.S_reads hs1
                  have HC10 := Aside0.mk hC10
                  have HL10 := Aside0.mk hl10
                  clear hs1 hb1 hC10 hl10 hcz54_0 hcz54_1
                  go_wp2_with fail
                  refine (net_Copy.calls k2 t177 A10 c10 t178 a2 t181 t182 w56 HC10.out HL10.out A44.out).mono ?_
                  rintro e w58 ⟨v183, rfl, hs2, hb2⟩
                  obtain ⟨A11, c11, hv11⟩ := Kd.S_slice hs2
                  have n1 := Aside0.mk (Kd.S_mono (Kd.S_bound hs2) (ok' := fun k => w56.heap.size ≤ k ∧ k < w58.heap.size) (fun k hk => ⟨hk.2.1, hk.2.2.1⟩))
                  have n2 := Aside0.mk (below_step BW.out hb2)
                  have LW := Aside0.mk (show w53.heap.size ≤ w56.heap.size from BW.out.size)
                  have LX := Aside0.mk (show w56.heap.size ≤ w58.heap.size from hb2.size)
                  subst hv11
                  clear BW hs2 hb2 HC10 HL10
                  have BW := n2
                  have HM := n1
                  clear n1 n2
                  have HN := Aside0.mk (show t182.length ≤ 9223372036854775807 from (Kd.S_reads' HM.out).2.2.2.1)
                  have T0 := Aside0.mk (show ∃ ms : List S29, ms.length = t182.length ∧ Kd.S k29 29 w58 w56.heap.size (fun k => w56.heap.size ≤ k ∧ k < w58.heap.size) (.slice A11 t182.length c11) ms from ⟨t182, rfl, HM.out⟩)
                  clear HM
                  generalize t182.length = n at *
                  obtain ⟨ms0, hms0, hM0⟩ := T0.out
                  have HM := Aside0.mk hM0
                  have HMS := Aside0.mk hms0
                  have hnle : n ≤ 9223372036854775807 := HN.out
                  clear hM0 hms0 T0
                  go_wp2_with (first
                    | ((with_reducible refine gate_dst (N := 10) rfl ?_); refine box_event ?hg (N := 10) ?hd (cs := #[.int .i64 0, .slice none 0 0]) (t := 24) ?hr ?_; (case hd => rfl); (case hg => rfl); (case hr => first | (go_simp; done) | (go_simp; rfl)); intro g10 e10 w59 b10 hb1; have B10 := Aside0.mk b10; have L10 := Aside0.mk (Nat.le_of_eq e10.symm); have n1 := Aside0.mk (below_step BW.out hb1); have n2 := Aside0.mk (Kd.S_below HM.out hb1); clear BW HM b10 hb1 e10; have BW := n1; have HM := n2; clear n1 n2)
                    | ((with_reducible refine gate_ (.store 24 (.tmp 10) (.tmp 77)) rfl ?_); refine put_event (g := g10) (e := 24) rfl rfl 24 (.tmp 10) (.tmp 77) rfl rfl (.agg #[.int .i64 t181, .slice A11 n c11]) rfl (cs' := #[.int .i64 t181, .slice A11 n c11]) rfl (by kernel_rfl) (by simp [Value.oneCell']) B10.out rfl ?_; intro w60 b10 hg1; have n1 := Aside0.mk (below_g BW.out hg1 BW.out.size (by have := LW.out; have := LX.out; have := L10.out; omega)); have n2 := Aside0.mk (Kd.S_grown HM.out hg1 (fun k hk he => by have := Option.some.inj he; have := L10.out; omega)); clear BW HM B10 hg1; have BW := n1; have HM := n2; have B10 := Aside0.mk b10; clear n1 n2 b10)
                    | fail)
                  go_loopw [11] (fun v11 w' => ∃ (i : Nat) (ms : List S29), v11 = .int .i64 i ∧ i ≤ n ∧ Aside0 (ms.length = n) ∧ Aside0 (Kd.S k29 29 w' w56.heap.size (fun k => w56.heap.size ≤ k ∧ k < w58.heap.size) (.slice A11 n c11) ms) ∧ Aside0 (w'.heap[g10]? = some (.cells #[.int .i64 t181, .slice A11 n c11] 24 (0, 0))) ∧ Aside0 (Below w53.heap.size w53 w')) (fun v11 _ => n - (intOf v11).toNat)
                  case atStart => exact ⟨0, ms0, rfl, Nat.zero_le _, HMS, HM, B10, BW⟩
                  case round =>
                    clear HMS HM B10 BW
                    obtain ⟨i, ms, rfl, hi, HMS, HM, B10, BW⟩ := hrel
                    have hz0 : wr.cell? ⟨g10, 0, none⟩ = some (.int .i64 t181) := (blk_cell B10.out 0).trans rfl
                    have hz1 : wr.cell? ⟨g10, 1, none⟩ = some (.slice A11 n c11) := (blk_cell B10.out 1).trans rfl
                    by_cases hlt : i < n
                    · obtain ⟨g, cap, hv, _⟩ := Kd.S_form HM.out (by rw [HMS.out]; omega)
                      rw [HMS.out] at hv
                      injection hv with hA _ hcc
                      subst hA; subst hcc
                      go_wp2
                      obtain ⟨L, hL⟩ : ∃ L, L = (ms[i]'(by rw [HMS.out]; exact hlt)).f2.length := ⟨_, rfl⟩
                      have T1 := Aside0.mk (show ms.length = n ∧ ∀ h : i < ms.length, (ms[i]).f2.length = L from ⟨HMS.out, fun h => hL.symm⟩)
                      clear hL hz0 hz1
                      go_loopw [12] (fun v12 w' => ∃ (j : Nat) (ms : List S29), v12 = .int .i64 j ∧ j ≤ L ∧ Aside0 (ms.length = n ∧ ∀ h : i < ms.length, (ms[i]).f2.length = L) ∧ Aside0 (Kd.S k29 29 w' w56.heap.size (fun k => w56.heap.size ≤ k ∧ k < w58.heap.size) (.slice (some ⟨g, 0, none⟩) n c11) ms) ∧ Aside0 (w'.heap[g10]? = some (.cells #[.int .i64 t181, .slice (some ⟨g, 0, none⟩) n c11] 24 (0, 0))) ∧ Aside0 (Below w53.heap.size w53 w')) (fun v12 _ => L - (intOf v12).toNat)
                      case atStart => exact ⟨0, ms, rfl, Nat.zero_le _, T1, HM, B10, BW⟩
                      case round =>
                        clear HMS HM B10 BW T1
                        obtain ⟨j, ms, rfl, hj, T1, HM, B10, BW⟩ := hrel
                        have hil : i < ms.length := by rw [T1.out.1]; exact hlt
                        obtain ⟨A2, c2, hcell, oki, hoki, hR2, hback⟩ := lend_bytes HM.out hlt hil
                        rw [T1.out.2 hil] at hcell hR2 hback
                        have hLm : L ≤ 9223372036854775807 := by have := (Kd.R_reads' hR2).2.2.2.1; rw [T1.out.2 hil] at this; exact this
                        have hz1 : wr.cell? ⟨g10, 1, none⟩ = some (.slice (some ⟨g, 0, none⟩) n c11) := (blk_cell B10.out 1).trans rfl
                        have hms := T1.out
                        by_cases hjl : j < L
                        · obtain ⟨g2, rfl, hg2b, hok2, ⟨x, hx⟩, hfx, hput⟩ := put_byte hR2 hjl
                          have HBK := Aside0.mk (fun y => (hput y))
                          have HBC := Aside0.mk (fun {w1 : World} {row : Option Nat} {bs : List Int} h1 h2 h3 h4 => @hback w1 row bs h1 h2 h3 h4)
                          have LG := Aside0.mk (hoki g2 hok2)
                          have OK2 := Aside0.mk hok2
                          clear hput hback hR2 hoki hok2 hg2b
                          go_wp2
                          obtain ⟨hg, bs', hbl, hbR⟩ := HBK.out (bits BinOp.xor IntKind.u8 x 255)
                          obtain ⟨ms', hS, hl1, hl2⟩ := HBC.out hg (fun k hk => by cases hk; exact OK2.out) (hbl.trans (T1.out.2 hil)) hbR
                          have n1 := Aside0.mk hS
                          have n2 := Aside0.mk (show ms'.length = n ∧ ∀ h : i < ms'.length, (ms'[i]).f2.length = L from ⟨hl1.trans T1.out.1, hl2⟩)
                          have n3 := Aside0.mk (blk_far (p := ⟨g2, j, none⟩) B10.out (by show g10 ≠ g2; have := LG.out; have := L10.out; omega) (.int .u8 (bits BinOp.xor IntKind.u8 x 255)))
                          have n4 := Aside0.mk (below_set (g := g2) (j := j) (v := .int .u8 (bits BinOp.xor IntKind.u8 x 255)) BW.out (by have := LG.out; have := LW.out; omega))
                          clear hg hbl hbR hS hl1 hl2 HBK HBC
                          go_roundw
                          case rel => exact ⟨j + 1, ms', by go_num, by omega, n2, n1, n3, n4⟩
                          case measure => simp [intOf]; omega
                        · go_wp2
                          go_roundw
                          case rel => exact ⟨i + 1, ms, by go_num, by omega, ⟨T1.out.1⟩, HM, B10, BW⟩
                          case measure => simp [intOf]; omega
                    · have hin : i = n := by omega
                      have hy0 : wr.cell? ⟨gb154, 0, none⟩ = some (.int .i64 a0_0) := (blk_cell (blk_b BK154.out BW.out) 0).trans rfl
                      have hy1 : wr.cell? ⟨gb154, 1, none⟩ = some (.slice A0_1 l0_1.length c0_1) := (blk_cell (blk_b BK154.out BW.out) 1).trans rfl
                      go_wp2_with fail
                      refine (net_Take.calls k2 a0_0 A0_1 c0_1 l0_1 a2 t186 t187 t188 t191 t192 t195 wr (Kd.C_below HR0_1.out (below_step HB.out BW.out)) HC0_1.out A45.out).mono ?_
                      rintro e w61 ⟨v2, v4, rfl, hr2, hs4, hb⟩
                      obtain ⟨A5, c5, hv5⟩ := Kd.R_slice hr2
                      obtain ⟨A6, c6, hv6⟩ := Kd.S_slice hs4
                      subst hv5
                      subst hv6
                      have R5 := Aside0.mk (Kd.R_mono (Kd.R_bound hr2) (ok' := fun k => wr.heap.size ≤ k ∧ k < w61.heap.size) (fun k hk => ⟨hk.2.1, hk.2.2.1⟩))
                      have LW5 := Aside0.mk (show w53.heap.size ≤ wr.heap.size from BW.out.size)
                      have LW6 := Aside0.mk (show wr.heap.size ≤ w61.heap.size from hb.size)
                      have n1 := Aside0.mk (below_step BW.out hb)
                      clear BW B10 HM HMS hr2 hs4 hb hz0 hz1 hy0 hy1
                      have BW := n1
                      clear n1
                      have T5 := Aside0.mk (show ∃ bs : List Int, bs.length = t188.length ∧ (Kd.int .u8).R 5 w61 wr.heap.size (fun k => wr.heap.size ≤ k ∧ k < w61.heap.size) (.slice A5 t188.length c5) bs from ⟨t188, rfl, R5.out⟩)
                      clear R5
                      generalize t188.length = L at *
                      generalize t192.length = n6 at *
                      obtain ⟨bs0, hbs0, hR0⟩ := T5.out
                      have R5 := Aside0.mk hR0
                      have HBS := Aside0.mk hbs0
                      have hLm : L ≤ 9223372036854775807 := by have := (Kd.R_reads' hR0).2.2.2.1; omega
                      clear hR0 hbs0 T5
                      go_wp2_with (first
                        | ((with_reducible refine gate_dst (N := 13) rfl ?_); refine box_event ?hg (N := 13) ?hd (cs := #[.int .i64 0, .int .i64 0, .slice none 0 0]) (t := 29) ?hr ?_; (case hd => rfl); (case hg => rfl); (case hr => first | (go_simp; done) | (go_simp; rfl)); intro g13 e13 w62 b13 hb1; have B13 := Aside0.mk b13; have L13 := Aside0.mk (Nat.le_of_eq e13.symm); have n1 := Aside0.mk (below_step BW.out hb1); have n4 := Aside0.mk (Kd.R_below R5.out hb1); clear BW R5 b13 hb1 e13; have BW := n1; have R5 := n4; clear n1 n4)
                        | ((with_reducible refine gate_dst (N := 14) rfl ?_); refine box_event ?hg (N := 14) ?hd (cs := #[.int .i64 0, .slice none 0 0]) (t := 24) ?hr ?_; (case hd => rfl); (case hg => rfl); (case hr => first | (go_simp; done) | (go_simp; rfl)); intro g14 e14 w63 b14 hb1; have B14 := Aside0.mk b14; have L14 := Aside0.mk (show g13 < g14 by rw [e14]; exact blk_lt B13.out); have n1 := Aside0.mk (below_step BW.out hb1); have n4 := Aside0.mk (Kd.R_below R5.out hb1); have n6 := Aside0.mk (blk_b B13.out hb1); clear BW R5 B13 b14 hb1 e14; have BW := n1; have R5 := n4; have B13 := n6; clear n1 n4 n6)
                        | ((with_reducible refine gate_ (.store 29 (.tmp 13) (.tmp 111)) rfl ?_); refine put_event (g := g13) (e := 29) rfl rfl 29 (.tmp 13) (.tmp 111) rfl rfl (.agg #[.int .i64 t186, .int .i64 t187, .slice A5 L c5]) rfl (cs' := #[.int .i64 t186, .int .i64 t187, .slice A5 L c5]) rfl (by kernel_rfl) (by simp [Value.oneCell']) B13.out rfl ?_; intro w64 b13 hg1; have n1 := Aside0.mk (below_g BW.out hg1 BW.out.size (by have := LW5.out; have := LW6.out; have := L13.out; omega)); have n4 := Aside0.mk (Kd.R_grown R5.out hg1 (fun k hk he => by have := Option.some.inj he; have := L13.out; omega)); have n6 := Aside0.mk (blk_g B14.out hg1 (by have := L14.out; omega)); clear BW R5 B13 B14 hg1; have BW := n1; have R5 := n4; have B14 := n6; have B13 := Aside0.mk b13; clear n1 n4 n6 b13)
                        | ((with_reducible refine gate_ (.store 24 (.tmp 14) (.tmp 112)) rfl ?_); refine put_event (g := g14) (e := 24) rfl rfl 24 (.tmp 14) (.tmp 112) rfl rfl (.agg #[.int .i64 t191, .slice A6 n6 c6]) rfl (cs' := #[.int .i64 t191, .slice A6 n6 c6]) rfl (by kernel_rfl) (by simp [Value.oneCell']) B14.out rfl ?_; intro w65 b14 hg1; have n1 := Aside0.mk (below_g BW.out hg1 BW.out.size (by have := LW5.out; have := LW6.out; have := L13.out; have := L14.out; omega)); have n4 := Aside0.mk (Kd.R_grown R5.out hg1 (fun k hk he => by have := Option.some.inj he; have := L13.out; have := L14.out; omega)); have n6 := Aside0.mk (blk_g B13.out hg1 (by have := L14.out; omega)); clear BW R5 B13 B14 b14 hg1; have BW := n1; have R5 := n4; have B13 := n6; clear n1 n4 n6)
                        | fail)
                      go_loopw [16] (fun v16 w' => ∃ (j : Nat) (bs : List Int), v16 = .int .i64 j ∧ j ≤ L ∧ Aside0 (bs.length = L) ∧ Aside0 ((Kd.int .u8).R 5 w' wr.heap.size (fun k => wr.heap.size ≤ k ∧ k < w61.heap.size) (.slice A5 L c5) bs) ∧ Aside0 (w'.heap[g13]? = some (.cells #[.int .i64 t186, .int .i64 t187, .slice A5 L c5] 29 (0, 0))) ∧ Aside0 (Below w53.heap.size w53 w')) (fun v16 _ => L - (intOf v16).toNat)
                      case atStart => exact ⟨0, bs0, rfl, Nat.zero_le _, HBS, R5, B13, BW⟩
                      case round =>
                        clear HBS R5 B13 BW
                        obtain ⟨j, bs, rfl, hj, HBS, R5, B13, BW⟩ := hrel
                        by_cases hjl : j < L
                        · obtain ⟨g2, hA5, hg2b, hok2, ⟨x, hx⟩, hfx, hput⟩ := put_byte R5.out hjl
                          subst hA5
                          have hz2 : wr.cell? ⟨g13, 2, none⟩ = some (.slice (some ⟨g2, 0, none⟩) L c5) := (blk_cell B13.out 2).trans rfl
                          have HBK := Aside0.mk (fun y => (hput y))
                          have OK2 := Aside0.mk hok2
                          clear hput hg2b hok2
                          go_wp2
                          obtain ⟨hg, bs', hbl, hbR⟩ := HBK.out (bits BinOp.xor IntKind.u8 x 255)
                          have n1 := Aside0.mk hbR
                          have n2 := Aside0.mk (hbl.trans HBS.out)
                          have n3 := Aside0.mk (blk_far (p := ⟨g2, j, none⟩) B13.out (by show g13 ≠ g2; have := OK2.out; have := L13.out; omega) (.int .u8 (bits BinOp.xor IntKind.u8 x 255)))
                          have n4 := Aside0.mk (below_set (g := g2) (j := j) (v := .int .u8 (bits BinOp.xor IntKind.u8 x 255)) BW.out (by have := OK2.out; have := LW5.out; omega))
                          clear hg hbl hbR HBK
                          go_roundw
                          case rel => exact ⟨j + 1, bs', by go_num, by omega, n2, n1, n3, n4⟩
                          case measure => simp [intOf]; omega
                        · have hz2 : wr.cell? ⟨g13, 2, none⟩ = some (.slice A5 L c5) := (blk_cell B13.out 2).trans rfl
                          obtain ⟨Aw, cw, hvw, hlw, _⟩ := Kd.S_reads HSW.out
                          subst hvw
                          have hy0 : wr.cell? ⟨gb154, 0, none⟩ = some (.int .i64 a0_0) := (blk_cell (blk_b BK154.out BW.out) 0).trans rfl
                          have hy1 : wr.cell? ⟨gb154, 1, none⟩ = some (.slice A0_1 l0_1.length c0_1) := (blk_cell (blk_b BK154.out BW.out) 1).trans rfl
                          have hw0 : wr.cell? ⟨gb158, 0, none⟩ = some (.int .i64 a0_0) := (blk_cell (blk_b BK158.out BW.out) 0).trans rfl
                          have hw1 : wr.cell? ⟨gb158, 1, none⟩ = some (.slice Aw x159001_2.length cw) := (blk_cell (blk_b BK158.out BW.out) 1).trans rfl
                          go_wp2_with fail
                          refine (lockgateref11_Same.calls k2 a0_0 A0_1 c0_1 l0_1 a0_0 Aw cw x159001_2 true wr (Kd.C_below HR0_1.out (below_step HB.out BW.out)) HC0_1.out (Kd.C_below (Kd.S_reads' HSW.out).2.2 BW.out) hlw A46.out).mono ?_
                          rintro e w70 ⟨rfl, hb⟩
                          have n1 := Aside0.mk (below_step BW.out hb)
                          clear BW R5 B13 hz2 hy0 hy1 hw0 hw1 hb
                          go_wp2_with fail
                          refine (lockgateref03_Same.calls k2 A1 c1 l1 Ao55 co55 y174 t199 w70 (Kd.C_below HR1.out (below_step HB.out n1.out)) HC1.out (Kd.C_below (Kd.R_reads' HO176.out).2.2 n1.out) (Kd.R_reads' HO176.out).2.1 A48.out).mono ?_
                          rintro e w71 ⟨rfl, hd⟩
                          have n2 := Aside0.mk (below_step n1.out hd.below)
                          clear hd n1
                          go_wp2
                          go_ret
                          exact ⟨rfl, below_step HB.out n2.out⟩
                · replace c47 := Bool.eq_false_iff.mpr c47
                  subst c47
                  have H1 : (some false) = some r := by rw [if_neg (show ¬ (false = true) by decide)] at H; exact H
                  cases (Option.some.inj H1).trans HR_.out
              · rw [if_neg c42] at H
                exact absurd H (by simp)

end Go.Proofs.Ytaphejpphlcchaa.PNet
