-- PRINTED BY print.sh 35421559b90ae4d0a3588c463048766b98c2df88dd9212a6774a882060cdf62d: not written by this session
import Derived.Test.YtoknpdcjofdpkaaPHashMorex0
namespace Go.Proofs.Ytoknpdcjofdpkaa.PHashMore
open Go.RowKit Go.Proofs.YtoknpdcjofdpkaaW.PrintWords Go.Proofs.YtoknpdcjofdpkaaW.PrintLast Go.Proofs.YtoknpdcjofdpkaaW.PrintMore
attribute [local go_sem] max2_int min2_int max_two min_two max_three min_three max_four min_four   -- for this text's walks alone
set_option linter.unusedVariables false
set_option linter.unusedSimpArgs false

/-! ### hash_Sum: function 8 -/
def hash_Sum.l0 : Nat → ByteArray → Int → Int → Int → Option (Int)
  | 0, _, _, _, _ => none
  | k + 1, x0, x3, x6, x7 => if x7 < x6 then (if 0 ≤ x7 then (if x7 < (x0.size : Int) then (hash_Sum.l0 k x0 (IntKind.u64.wrap ((Go.bits .xor .u64 x3 (IntKind.u64.wrap (bt x0 x7))) * 1099511628211)) x6 (wrap64 (x7 + 1))) else (none)) else (none)) else (some x3)
def hash_Sum.f (k : Nat) (a0 : ByteArray) : Option (Int) := hash_Sum.l0 k a0 14695981039346656037 (a0.size : Int) 0
theorem hash_Sum.mono_l : ∀ k, (∀ y0 y1 y2 y3, LeO (hash_Sum.l0 k y0 y1 y2 y3) (hash_Sum.l0 (k + 1) y0 y1 y2 y3))
  | 0 => fun _ _ _ _ r h => by simp [hash_Sum.l0] at h
  | k + 1 => by
    have ih0 := hash_Sum.mono_l k
    · intro y0 y1 y2 y3
      unfold hash_Sum.l0
      repeat' first
      | (with_reducible exact ih0 _ _ _ _)
      | (with_reducible exact LeO.refl _)
      | (with_reducible exact LeO.none _)
      | (with_reducible refine LeO.ite ?_ ?_)
      | (with_reducible refine LeO.bind ?_ (fun _ => ?_))
      | exact ih0 _ _ _ _
      | exact LeO.none _
      | refine LeO.ite ?_ ?_
      | refine LeO.bind ?_ (fun _ => ?_)
theorem hash_Sum.mono : ∀ a0 k, LeO (hash_Sum.f k a0) (hash_Sum.f (k + 1) a0) := by
  intro a0 k
  have ih0 := hash_Sum.mono_l k
  unfold hash_Sum.f
  repeat' first
      | (with_reducible exact ih0 _ _ _ _)
      | (with_reducible exact LeO.refl _)
      | (with_reducible exact LeO.none _)
      | (with_reducible refine LeO.ite ?_ ?_)
      | (with_reducible refine LeO.bind ?_ (fun _ => ?_))
      | exact ih0 _ _ _ _
      | exact LeO.none _
      | refine LeO.ite ?_ ?_
      | refine LeO.bind ?_ (fun _ => ?_)
set_option maxHeartbeats 8000000 in
set_option maxRecDepth 100000 in
theorem hash_Sum.calls (k : Nat) (a0 : ByteArray) (r : Int) (w : World) (h : hash_Sum.f k a0 = some r) :
    Calls Try.prog 8 #[.string a0] w fun e w' => e = .returned (.int .u64 r) ∧ Drawn0 w w' := by
  have H : (hash_Sum.l0 k a0 14695981039346656037 (a0.size : Int) 0) = some r := h
  clear h
  have H' := Aside0.mk H
  clear H
  go_enter Try.func8, Try.ntmps8
  go_wp2
  go_loopg [3, 7] k (fun kq v3 v7 w' => ∃ (x3_1 : Int) (x7_1 : Int), v3 = .int .u64 x3_1 ∧ v7 = .int .i64 x7_1 ∧ Aside0 (hash_Sum.l0 kq a0 x3_1 (a0.size : Int) x7_1 = some r) ∧ Aside0 (kq ≤ k) ∧ Drawn0 w w')
  case atStart => exact ⟨(14695981039346656037), (0), (by first | rfl | (simp; done) | (simp [*]; done)), (by first | rfl | (simp; done) | (simp [*]; done)), H', ⟨Nat.le_refl _⟩, by repeat (first | exact Drawn0.refl _ | apply Drawn0.step)⟩
  case round =>
    clear H'
    obtain ⟨x3_1, x7_1, rfl, rfl, HA, HK1, ⟨m1, rfl⟩⟩ := hrel
    cases gk with
    | zero => exact absurd HA.out (by simp [hash_Sum.l0])
    | succ k1 =>
      have H := HA.out
      clear HA
      simp only [hash_Sum.l0] at H
      by_cases c2 : x7_1 < (a0.size : Int)
      · rw [if_pos c2] at H
        have c2b0 : decide (x7_1 < (a0.size : Int)) = true := decide_eq_true c2
        clear c2
        by_cases c3 : 0 ≤ x7_1
        · rw [if_pos c3] at H
          have c3b0 : decide (0 ≤ x7_1) = true := decide_eq_true c3
          clear c3
          by_cases c4 : x7_1 < (a0.size : Int)
          · rw [if_pos c4] at H
            have c4b0 : decide (x7_1 < (a0.size : Int)) = true := decide_eq_true c4
            clear c4
            have H' := Aside0.mk H
            clear H
            have p5 : 0 ≤ (x7_1 : Int) := of_decide_eq_true (by first | (with_reducible assumption) | assumption)
            have q5 : x7_1 < (a0.size : Int) := of_decide_eq_true (by first | (with_reducible assumption) | assumption)
            have hx5 := bt_at a0 x7_1
            replace p5 := eq_true p5
            replace q5 := eq_true q5
            go_wp2
            go_roundg k1
            case measure => have := HK1.out; omega
            case rel => exact ⟨(IntKind.u64.wrap ((Go.bits .xor .u64 x3_1 (IntKind.u64.wrap (bt a0 x7_1))) * 1099511628211)), (wrap64 (x7_1 + 1)), (by first | rfl | (simp; done) | (simp [*]; done)), (by first | rfl | (simp; done) | (simp [*]; done)), H', ⟨by have := HK1.out; omega⟩, by repeat (first | exact Drawn0.refl _ | apply Drawn0.step)⟩
          · rw [if_neg c4] at H
            exact absurd H (by simp)
        · rw [if_neg c3] at H
          exact absurd H (by simp)
      · rw [if_neg c2] at H
        have c2b0 : decide (x7_1 < (a0.size : Int)) = false := decide_eq_false c2
        clear c2
        obtain rfl := Option.some.inj H
        go_wp2
        go_ret
        exact ⟨by first | rfl | (simp; done) | (simp [*]; done), by repeat (first | exact Drawn0.refl _ | apply Drawn0.step)⟩

/-! ### lockgatelaw02_awake: function 7 -/
def lockgatelaw02_awake.f (k : Nat)  : Option (Bool) := (hash_Sum.f k (⟨#[]⟩ : ByteArray)).bind fun t101 => (if t101 = 14695981039346656037 then ((hash_Sum.f k (⟨#[97]⟩ : ByteArray)).bind fun t102 => (some (t102 == 12638187200555641996))) else (some false))
theorem lockgatelaw02_awake.mono : ∀ k, LeO (lockgatelaw02_awake.f k ) (lockgatelaw02_awake.f (k + 1) ) := by
  intro  k
  unfold lockgatelaw02_awake.f
  repeat' first
      | (with_reducible exact hash_Sum.mono _ _)
      | (with_reducible exact LeO.refl _)
      | (with_reducible exact LeO.none _)
      | (with_reducible refine LeO.ite ?_ ?_)
      | (with_reducible refine LeO.bind ?_ (fun _ => ?_))
      | exact hash_Sum.mono _ _
      | exact LeO.none _
      | refine LeO.ite ?_ ?_
      | refine LeO.bind ?_ (fun _ => ?_)
set_option maxHeartbeats 8000000 in
set_option maxRecDepth 100000 in
theorem lockgatelaw02_awake.calls (k : Nat)  (r : Bool) (w : World) (h : lockgatelaw02_awake.f k  = some r) :
    Calls Try.prog 7 #[] w fun e w' => e = .returned (.bool r) ∧ Drawn0 w w' := by
  have H : ((hash_Sum.f k (⟨#[]⟩ : ByteArray)).bind fun t101 => (if t101 = 14695981039346656037 then ((hash_Sum.f k (⟨#[97]⟩ : ByteArray)).bind fun t102 => (some (t102 == 12638187200555641996))) else (some false))) = some r := h
  clear h
  replace H := Option.bind_eq_some_iff.mp H
  obtain ⟨t101, A10, H⟩ := H
  replace H : (if t101 = 14695981039346656037 then ((hash_Sum.f k (⟨#[97]⟩ : ByteArray)).bind fun t102 => (some (t102 == 12638187200555641996))) else (some false)) = some r := H
  have A1 := Aside0.mk A10
  clear A10
  by_cases c2 : t101 = 14695981039346656037
  · rw [if_pos c2] at H
    have c2b0 : (t101 == 14695981039346656037) = true := beq_iff_eq.mpr c2
    have c2b1 : (t101 != 14695981039346656037) = false := bne_eq_false_iff_eq.mpr c2
    clear c2
    replace H := Option.bind_eq_some_iff.mp H
    obtain ⟨t102, A30, H⟩ := H
    replace H : (some (t102 == 12638187200555641996)) = some r := H
    have A3 := Aside0.mk A30
    clear A30
    obtain rfl := Option.some.inj H
    go_enter Try.func7, Try.ntmps7
    go_wp2_with (first | ((with_reducible refine gate_callee (f := 8) rfl ?_); refine goesL_ (some 1) rfl rfl Try.func8 (by kernel_rfl) rfl #[.string (⟨#[]⟩ : ByteArray)] rfl (by (try simp only [List.map_toArray, List.map_cons, List.map_nil]); first | done | rfl | (simp only [List.length_drop, List.length_take]; rfl)) ?_; (with_reducible refine (hash_Sum.calls k (⟨#[]⟩ : ByteArray) t101 _ A1.out).mono ?_); rintro e w' ⟨rfl, ⟨nd, rfl⟩⟩; refine ⟨_, rfl, ?_⟩) | (go_at_call 8; (with_reducible refine (hash_Sum.calls k (⟨#[97]⟩ : ByteArray) t102 _ A3.out).mono ?_); rintro e w' ⟨rfl, ⟨nd, rfl⟩⟩))
    go_ret
    exact ⟨by first | rfl | (simp; done) | (simp [*]; done), by repeat (first | exact Drawn0.refl _ | apply Drawn0.step)⟩
  · rw [if_neg c2] at H
    have c2b0 : (t101 == 14695981039346656037) = false := beq_eq_false_iff_ne.mpr c2
    have c2b1 : (t101 != 14695981039346656037) = true := bne_iff_ne.mpr c2
    obtain rfl := Option.some.inj H
    go_enter Try.func7, Try.ntmps7
    go_wp2_with (first | ((with_reducible refine gate_callee (f := 8) rfl ?_); refine goesL_ (some 1) rfl rfl Try.func8 (by kernel_rfl) rfl #[.string (⟨#[]⟩ : ByteArray)] rfl (by (try simp only [List.map_toArray, List.map_cons, List.map_nil]); first | done | rfl | (simp only [List.length_drop, List.length_take]; rfl)) ?_; (with_reducible refine (hash_Sum.calls k (⟨#[]⟩ : ByteArray) t101 _ A1.out).mono ?_); rintro e w' ⟨rfl, ⟨nd, rfl⟩⟩; refine ⟨_, rfl, ?_⟩))
    go_ret
    exact ⟨by first | rfl | (simp; done) | (simp [*]; done), by repeat (first | exact Drawn0.refl _ | apply Drawn0.step)⟩

/-! ### lockgatelaw02_HashMore: function 5 -/
def lockgatelaw02_HashMore.j0 : Nat → ByteArray → ByteArray → Int → Bool → Option (Bool)
  | 0, _, _, _, _ => none
  | k + 1, x0, x1, x2, x18 => if x18 = true then ((lockgatelaw02_awake.f k).bind fun t103 => (some t103)) else ((hash_Sum.f k x0).bind fun t104 => ((hash_Sum.f k x1).bind fun t105 => ((some (([x2] : List Int) : List Int)).bind fun y106 => (if x0.size + (strOfNums y106).size ≤ 9223372036854775807 then ((hash_Sum.f k (x0 ++ (strOfNums y106))).bind fun t109 => ((some (([x2] : List Int) : List Int)).bind fun y110 => (if x1.size + (strOfNums y110).size ≤ 9223372036854775807 then ((hash_Sum.f k (x1 ++ (strOfNums y110))).bind fun t113 => ((lockgatelaw02_awake.f k).bind fun t114 => (if t114 = true then (some ((t104 == t105) == (t109 == t113))) else (some false)))) else (none)))) else (none)))))
def lockgatelaw02_HashMore.f (k : Nat) (a0 : ByteArray) (a1 : ByteArray) (a2 : Int) : Option (Bool) := if (a0.size : Int) > 5000 then (lockgatelaw02_HashMore.j0 k a0 a1 a2 true) else (lockgatelaw02_HashMore.j0 k a0 a1 a2 (decide ((a1.size : Int) > 5000)))
theorem lockgatelaw02_HashMore.mono_l : ∀ k, (∀ y0 y1 y2 y3, LeO (lockgatelaw02_HashMore.j0 k y0 y1 y2 y3) (lockgatelaw02_HashMore.j0 (k + 1) y0 y1 y2 y3))
  | 0 => fun _ _ _ _ r h => by simp [lockgatelaw02_HashMore.j0] at h
  | k + 1 => by
    have ih0 := lockgatelaw02_HashMore.mono_l k
    · intro y0 y1 y2 y3
      unfold lockgatelaw02_HashMore.j0
      repeat' first
      | (with_reducible exact ih0 _ _ _ _)
      | (with_reducible exact hash_Sum.mono _ _)
      | (with_reducible exact lockgatelaw02_awake.mono _)
      | (with_reducible exact LeO.refl _)
      | (with_reducible exact LeO.none _)
      | (with_reducible refine LeO.ite ?_ ?_)
      | (with_reducible refine LeO.bind ?_ (fun _ => ?_))
      | exact ih0 _ _ _ _
      | exact hash_Sum.mono _ _
      | exact lockgatelaw02_awake.mono _
      | exact LeO.none _
      | refine LeO.ite ?_ ?_
      | refine LeO.bind ?_ (fun _ => ?_)
theorem lockgatelaw02_HashMore.mono : ∀ a0 a1 a2 k, LeO (lockgatelaw02_HashMore.f k a0 a1 a2) (lockgatelaw02_HashMore.f (k + 1) a0 a1 a2) := by
  intro a0 a1 a2 k
  have ih0 := lockgatelaw02_HashMore.mono_l k
  unfold lockgatelaw02_HashMore.f
  repeat' first
      | (with_reducible exact ih0 _ _ _ _)
      | (with_reducible exact hash_Sum.mono _ _)
      | (with_reducible exact lockgatelaw02_awake.mono _)
      | (with_reducible exact LeO.refl _)
      | (with_reducible exact LeO.none _)
      | (with_reducible refine LeO.ite ?_ ?_)
      | (with_reducible refine LeO.bind ?_ (fun _ => ?_))
      | exact ih0 _ _ _ _
      | exact hash_Sum.mono _ _
      | exact lockgatelaw02_awake.mono _
      | exact LeO.none _
      | refine LeO.ite ?_ ?_
      | refine LeO.bind ?_ (fun _ => ?_)
set_option maxHeartbeats 8000000 in
set_option maxRecDepth 100000 in
theorem lockgatelaw02_HashMore.calls (k : Nat) (a0 : ByteArray) (a1 : ByteArray) (a2 : Int) (r : Bool) (w : World) (h : lockgatelaw02_HashMore.f k a0 a1 a2 = some r) :
    Calls Try.prog 5 #[.string a0, .string a1, .int .u8 a2] w fun e w' => e = .returned (.bool r) ∧ Below w.heap.size w w' := by
  have HB := Aside0.mk (Below.refl w.heap.size w)
  have H : (if (a0.size : Int) > 5000 then (lockgatelaw02_HashMore.j0 k a0 a1 a2 true) else (lockgatelaw02_HashMore.j0 k a0 a1 a2 (decide ((a1.size : Int) > 5000)))) = some r := h
  clear h
  have HC4 := Aside0.mk H
  clear H
  go_enter Try.func5, Try.ntmps5
  go_upto_region 1 with (fail)
  go_cut [18] (fun v18 wc => ∃ (kq : Nat) (x18_3 : Bool), v18 = .bool x18_3 ∧ Aside0 (lockgatelaw02_HashMore.j0 kq a0 a1 a2 x18_3 = some r) ∧ Aside0 (kq ≤ k) ∧ Aside0 (Below w.heap.size w wc))
  case first =>
    have H := HC4.out
    clear HC4
    by_cases c5 : (a0.size : Int) > 5000
    · rw [if_pos c5] at H
      have c5b0 : decide (5000 < (a0.size : Int)) = true := decide_eq_true c5
      have c5b1 : decide (5000 < a0.size) = true := decide_eq_true (by omega)
      clear c5
      (first | rw [c5b0] | (simp only [i64_w, i32_w]; rw [c5b0]) | skip)
      have H' := Aside0.mk H
      clear H
      go_wp2
      go_meet
      case rel => exact ⟨_, (true), (by first | rfl | (simp; done) | (simp [*]; done)), H', ⟨by first | omega | exact Nat.le_refl _⟩, ⟨by repeat (first | (with_reducible first | exact HB.out | apply below_alloc | apply pw_below_drewN | apply below_drew1) | exact HB.out)⟩⟩
    · rw [if_neg c5] at H
      have c5b0 : decide (5000 < (a0.size : Int)) = false := decide_eq_false c5
      have c5b1 : decide (5000 < a0.size) = false := decide_eq_false (by omega)
      clear c5
      (first | rw [c5b0] | (simp only [i64_w, i32_w]; rw [c5b0]) | skip)
      have H' := Aside0.mk H
      clear H
      go_wp2
      go_meet
      case rel => exact ⟨_, (decide ((a1.size : Int) > 5000)), (by first | rfl | (simp; done) | (simp [*]; done)), H', ⟨by first | omega | exact Nat.le_refl _⟩, ⟨by repeat (first | (with_reducible first | exact HB.out | apply below_alloc | apply pw_below_drewN | apply below_drew1) | exact HB.out)⟩⟩
  case rest =>
    clear HC4
    try clear p2
    try clear c5
    try clear c5b0
    try clear c5b1
    obtain ⟨kq, x18_3, rfl, HA, HJ3, HB⟩ := hcut
    cases kq with
    | zero => exact absurd HA.out (by simp [lockgatelaw02_HashMore.j0])
    | succ kj3 =>
      have H := HA.out
      clear HA
      simp only [lockgatelaw02_HashMore.j0] at H
      by_cases c6 : x18_3 = true
      · subst c6
        have H1 : ((lockgatelaw02_awake.f kj3).bind fun t103 => (some t103)) = some r := by rw [if_pos rfl] at H; exact H
        clear H
        have H := H1
        clear H1
        replace H := Option.bind_eq_some_iff.mp H
        obtain ⟨t103, A70, H⟩ := H
        replace H : (some t103) = some r := H
        have A7 := Aside0.mk A70
        clear A70
        obtain rfl := Option.some.inj H
        go_wp2_with (first | ((with_reducible refine gate_callee (f := 7) rfl ?_); refine goesL_ (some 19) rfl rfl Try.func7 (by kernel_rfl) rfl #[] rfl (by (try simp only [List.map_toArray, List.map_cons, List.map_nil]); first | done | rfl | (simp only [List.length_drop, List.length_take]; rfl)) ?_; (with_reducible refine (lockgatelaw02_awake.calls kj3  t103 _ A7.out).mono ?_); rintro e w' ⟨rfl, ⟨nd, rfl⟩⟩; refine ⟨_, rfl, ?_⟩))
        go_ret
        exact ⟨by first | rfl | (simp [errW_none, errW_some] <;> rfl) | (simp [*, errW_none, errW_some] <;> rfl), by repeat (first | (with_reducible first | exact HB.out | apply below_alloc | apply pw_below_drewN | apply below_drew1) | exact HB.out)⟩
      · replace c6 := Bool.eq_false_iff.mpr c6
        subst c6
        have H1 : ((hash_Sum.f kj3 a0).bind fun t104 => ((hash_Sum.f kj3 a1).bind fun t105 => ((some (([a2] : List Int) : List Int)).bind fun y106 => (if a0.size + (strOfNums y106).size ≤ 9223372036854775807 then ((hash_Sum.f kj3 (a0 ++ (strOfNums y106))).bind fun t109 => ((some (([a2] : List Int) : List Int)).bind fun y110 => (if a1.size + (strOfNums y110).size ≤ 9223372036854775807 then ((hash_Sum.f kj3 (a1 ++ (strOfNums y110))).bind fun t113 => ((lockgatelaw02_awake.f kj3).bind fun t114 => (if t114 = true then (some ((t104 == t105) == (t109 == t113))) else (some false)))) else (none)))) else (none))))) = some r := by rw [if_neg (show ¬ (false = true) by decide)] at H; exact H
        clear H
        have H := H1
        clear H1
        replace H := Option.bind_eq_some_iff.mp H
        obtain ⟨t104, A80, H⟩ := H
        replace H : ((hash_Sum.f kj3 a1).bind fun t105 => ((some (([a2] : List Int) : List Int)).bind fun y106 => (if a0.size + (strOfNums y106).size ≤ 9223372036854775807 then ((hash_Sum.f kj3 (a0 ++ (strOfNums y106))).bind fun t109 => ((some (([a2] : List Int) : List Int)).bind fun y110 => (if a1.size + (strOfNums y110).size ≤ 9223372036854775807 then ((hash_Sum.f kj3 (a1 ++ (strOfNums y110))).bind fun t113 => ((lockgatelaw02_awake.f kj3).bind fun t114 => (if t114 = true then (some ((t104 == t105) == (t109 == t113))) else (some false)))) else (none)))) else (none)))) = some r := H
        have A8 := Aside0.mk A80
        clear A80
        replace H := Option.bind_eq_some_iff.mp H
        obtain ⟨t105, A90, H⟩ := H
        replace H : ((some (([a2] : List Int) : List Int)).bind fun y106 => (if a0.size + (strOfNums y106).size ≤ 9223372036854775807 then ((hash_Sum.f kj3 (a0 ++ (strOfNums y106))).bind fun t109 => ((some (([a2] : List Int) : List Int)).bind fun y110 => (if a1.size + (strOfNums y110).size ≤ 9223372036854775807 then ((hash_Sum.f kj3 (a1 ++ (strOfNums y110))).bind fun t113 => ((lockgatelaw02_awake.f kj3).bind fun t114 => (if t114 = true then (some ((t104 == t105) == (t109 == t113))) else (some false)))) else (none)))) else (none))) = some r := H
        have A9 := Aside0.mk A90
        clear A90
        obtain ⟨y106, hy106⟩ : ∃ y_ : List Int, y_ = (([a2] : List Int)) := ⟨_, rfl⟩
        replace H : (if a0.size + (strOfNums y106).size ≤ 9223372036854775807 then ((hash_Sum.f kj3 (a0 ++ (strOfNums y106))).bind fun t109 => ((some (([a2] : List Int) : List Int)).bind fun y110 => (if a1.size + (strOfNums y110).size ≤ 9223372036854775807 then ((hash_Sum.f kj3 (a1 ++ (strOfNums y110))).bind fun t113 => ((lockgatelaw02_awake.f kj3).bind fun t114 => (if t114 = true then (some ((t104 == t105) == (t109 == t113))) else (some false)))) else (none)))) else (none)) = some r := by first | (rw [hy106]; with_reducible exact H) | (have H2_ := (Option.bind_some _ _).symm.trans H; rw [hy106]; with_reducible exact H2_) | (have H2_ := (Option.bind_some _ _).symm.trans H; with_reducible exact H2_) | with_reducible exact H | (rw [hy106]; exact H) | exact H
        have Ny106 := Aside0.mk hy106
        clear hy106
        by_cases c10 : a0.size + (strOfNums y106).size ≤ 9223372036854775807
        · rw [if_pos c10] at H
          have c10b0 := eq_true c10
          have c10b1 : decide (a0.size + (strOfNums y106).size ≤ 9223372036854775807) = true := decide_eq_true c10
          try have c10b2 : (9223372036854775807 < a0.size + (strOfNums y106).size) = False := eq_false (Nat.not_lt.2 c10)
          replace H := Option.bind_eq_some_iff.mp H
          obtain ⟨t109, A110, H⟩ := H
          replace H : ((some (([a2] : List Int) : List Int)).bind fun y110 => (if a1.size + (strOfNums y110).size ≤ 9223372036854775807 then ((hash_Sum.f kj3 (a1 ++ (strOfNums y110))).bind fun t113 => ((lockgatelaw02_awake.f kj3).bind fun t114 => (if t114 = true then (some ((t104 == t105) == (t109 == t113))) else (some false)))) else (none))) = some r := H
          have A11 := Aside0.mk A110
          clear A110
          obtain ⟨y110, hy110⟩ : ∃ y_ : List Int, y_ = (([a2] : List Int)) := ⟨_, rfl⟩
          replace H : (if a1.size + (strOfNums y110).size ≤ 9223372036854775807 then ((hash_Sum.f kj3 (a1 ++ (strOfNums y110))).bind fun t113 => ((lockgatelaw02_awake.f kj3).bind fun t114 => (if t114 = true then (some ((t104 == t105) == (t109 == t113))) else (some false)))) else (none)) = some r := by first | (rw [hy110]; with_reducible exact H) | (have H2_ := (Option.bind_some _ _).symm.trans H; rw [hy110]; with_reducible exact H2_) | (have H2_ := (Option.bind_some _ _).symm.trans H; with_reducible exact H2_) | with_reducible exact H | (rw [hy110]; exact H) | exact H
          have Ny110 := Aside0.mk hy110
          clear hy110
          by_cases c12 : a1.size + (strOfNums y110).size ≤ 9223372036854775807
          · rw [if_pos c12] at H
            have c12b0 := eq_true c12
            have c12b1 : decide (a1.size + (strOfNums y110).size ≤ 9223372036854775807) = true := decide_eq_true c12
            try have c12b2 : (9223372036854775807 < a1.size + (strOfNums y110).size) = False := eq_false (Nat.not_lt.2 c12)
            replace H := Option.bind_eq_some_iff.mp H
            obtain ⟨t113, A130, H⟩ := H
            replace H : ((lockgatelaw02_awake.f kj3).bind fun t114 => (if t114 = true then (some ((t104 == t105) == (t109 == t113))) else (some false))) = some r := H
            have A13 := Aside0.mk A130
            clear A130
            replace H := Option.bind_eq_some_iff.mp H
            obtain ⟨t114, A140, H⟩ := H
            replace H : (if t114 = true then (some ((t104 == t105) == (t109 == t113))) else (some false)) = some r := H
            have A14 := Aside0.mk A140
            clear A140
            by_cases c15 : t114 = true
            · subst c15
              have H1 : (some ((t104 == t105) == (t109 == t113))) = some r := by rw [if_pos rfl] at H; exact H
              clear H
              have H := H1
              clear H1
              obtain rfl := Option.some.inj H
              go_wp2_with (first | ((with_reducible refine gate_callee (f := 8) rfl ?_); refine goesL_ (some 21) rfl rfl Try.func8 (by kernel_rfl) rfl #[.string a0] rfl (by (try simp only [List.map_toArray, List.map_cons, List.map_nil]); first | done | rfl | (simp only [List.length_drop, List.length_take]; rfl)) ?_; (with_reducible refine (hash_Sum.calls kj3 a0 t104 _ A8.out).mono ?_); rintro e w' ⟨rfl, ⟨nd, rfl⟩⟩; refine ⟨_, rfl, ?_⟩) | ((with_reducible refine gate_callee (f := 8) rfl ?_); refine goesL_ (some 23) rfl rfl Try.func8 (by kernel_rfl) rfl #[.string a1] rfl (by (try simp only [List.map_toArray, List.map_cons, List.map_nil]); first | done | rfl | (simp only [List.length_drop, List.length_take]; rfl)) ?_; (with_reducible refine (hash_Sum.calls kj3 a1 t105 _ A9.out).mono ?_); rintro e w' ⟨rfl, ⟨nd, rfl⟩⟩; refine ⟨_, rfl, ?_⟩) | ((with_reducible refine gate_dst (N := 26) rfl ?_); (try (refine gate_guard (by rfl) ?_; dsimp only)); refine Kd.R_lit (Kd.int .u8) _ 5 ?hg (N := 26) ?hd (xs := ([a2] : List Int)) (inner := [.int .u8 a2]) (ok := fun _ => True) (okp := fun _ => True) ?hr ?hp (fun _ hk => hk) trivial (Below.refl _ _) (Nat.le_refl _) (by simp) ?_; (case hd => rfl); (case hg => rfl); (case hr => first | (go_simp; done) | (go_simp; rfl)); (case hp => exact (Reps.one (show Kd.M (Kd.int .u8) _ _ _ a2 [.int .u8 a2] from rfl) (Reps.none _ _))); intro v107 w16 ho17 hb hg_ hnew_; clear hg_ hnew_; (first | rw [← Ny106.out] at ho17 | (simp only [Int.reduceToNat] at ho17; rw [← Ny106.out] at ho17)); have n0_ := Aside0.mk (Kd.R_lower ho17 (below_size (by repeat (first | (with_reducible first | exact HB.out | apply below_alloc | apply pw_below_drewN | apply below_drew1) | exact HB.out)))); have n1_ := Aside0.mk (below_step (by repeat (first | (with_reducible first | exact HB.out | apply below_alloc | apply pw_below_drewN | apply below_drew1) | exact HB.out)) hb); clear HB; have HO108 := n0_; have HB := n1_; clear n0_ n1_; clear hb ho17; have hcv18 := own_string (P := Try.prog) Try.underlying27 Try.underlying5 Try.underlying9 (Kd.own_of_R HO108.out)) | ((with_reducible refine gate_callee (f := 8) rfl ?_); refine goesL_ (some 29) rfl rfl Try.func8 (by kernel_rfl) rfl #[.string (a0 ++ (strOfNums y106))] rfl (by (try simp only [List.map_toArray, List.map_cons, List.map_nil]); first | done | rfl | (simp only [List.length_drop, List.length_take]; rfl)) ?_; (with_reducible refine (hash_Sum.calls kj3 (a0 ++ (strOfNums y106)) t109 _ A11.out).mono ?_); rintro e w' ⟨rfl, ⟨nd, rfl⟩⟩; refine ⟨_, rfl, ?_⟩) | ((with_reducible refine gate_dst (N := 32) rfl ?_); (try (refine gate_guard (by rfl) ?_; dsimp only)); refine Kd.R_lit (Kd.int .u8) _ 5 ?hg (N := 32) ?hd (xs := ([a2] : List Int)) (inner := [.int .u8 a2]) (ok := fun _ => True) (okp := fun _ => True) ?hr ?hp (fun _ hk => hk) trivial (Below.refl _ _) (Nat.le_refl _) (by simp) ?_; (case hd => rfl); (case hg => rfl); (case hr => first | (go_simp; done) | (go_simp; rfl)); (case hp => exact (Reps.one (show Kd.M (Kd.int .u8) _ _ _ a2 [.int .u8 a2] from rfl) (Reps.none _ _))); intro v111 w19 ho20 hb hg_ hnew_; clear hg_ hnew_; (first | rw [← Ny110.out] at ho20 | (simp only [Int.reduceToNat] at ho20; rw [← Ny110.out] at ho20)); have n0_ := Aside0.mk (Kd.R_elder' (by (with_reducible repeat (first | apply Kd.R_alloc | apply Kd.R_drewN | apply Kd.R_drew)); exact HO108.out) (Kd.R_base ho20) hb); have n1_ := Aside0.mk (Kd.R_lower (Kd.R_new' ho20 (Kd.R_lt (by (with_reducible repeat (first | apply Kd.R_alloc | apply Kd.R_drewN | apply Kd.R_drew)); exact HO108.out))) (below_size (by repeat (first | (with_reducible first | exact HB.out | apply below_alloc | apply pw_below_drewN | apply below_drew1) | exact HB.out)))); have n2_ := Aside0.mk (below_step (by repeat (first | (with_reducible first | exact HB.out | apply below_alloc | apply pw_below_drewN | apply below_drew1) | exact HB.out)) hb); clear HO108; clear HB; have HO108 := n0_; have HO112 := n1_; have HB := n2_; clear n0_ n1_ n2_; clear hb ho20; have hcv21 := own_string (P := Try.prog) Try.underlying27 Try.underlying5 Try.underlying9 (Kd.own_of_R HO112.out)) | ((with_reducible refine gate_callee (f := 8) rfl ?_); refine goesL_ (some 35) rfl rfl Try.func8 (by kernel_rfl) rfl #[.string (a1 ++ (strOfNums y110))] rfl (by (try simp only [List.map_toArray, List.map_cons, List.map_nil]); first | done | rfl | (simp only [List.length_drop, List.length_take]; rfl)) ?_; (with_reducible refine (hash_Sum.calls kj3 (a1 ++ (strOfNums y110)) t113 _ A13.out).mono ?_); rintro e w' ⟨rfl, ⟨nd, rfl⟩⟩; refine ⟨_, rfl, ?_⟩) | ((with_reducible refine gate_callee (f := 7) rfl ?_); refine goesL_ (some 36) rfl rfl Try.func7 (by kernel_rfl) rfl #[] rfl (by (try simp only [List.map_toArray, List.map_cons, List.map_nil]); first | done | rfl | (simp only [List.length_drop, List.length_take]; rfl)) ?_; (with_reducible refine (lockgatelaw02_awake.calls kj3  true _ A14.out).mono ?_); rintro e w' ⟨rfl, ⟨nd, rfl⟩⟩; refine ⟨_, rfl, ?_⟩))
              go_ret
              exact ⟨by first | rfl | (simp [errW_none, errW_some] <;> rfl) | (simp [*, errW_none, errW_some] <;> rfl), by repeat (first | (with_reducible first | exact HB.out | apply below_alloc | apply pw_below_drewN | apply below_drew1) | exact HB.out)⟩
            · replace c15 := Bool.eq_false_iff.mpr c15
              subst c15
              have H1 : (some false) = some r := by rw [if_neg (show ¬ (false = true) by decide)] at H; exact H
              clear H
              have H := H1
              clear H1
              obtain rfl := Option.some.inj H
              go_wp2_with (first | ((with_reducible refine gate_callee (f := 8) rfl ?_); refine goesL_ (some 21) rfl rfl Try.func8 (by kernel_rfl) rfl #[.string a0] rfl (by (try simp only [List.map_toArray, List.map_cons, List.map_nil]); first | done | rfl | (simp only [List.length_drop, List.length_take]; rfl)) ?_; (with_reducible refine (hash_Sum.calls kj3 a0 t104 _ A8.out).mono ?_); rintro e w' ⟨rfl, ⟨nd, rfl⟩⟩; refine ⟨_, rfl, ?_⟩) | ((with_reducible refine gate_callee (f := 8) rfl ?_); refine goesL_ (some 23) rfl rfl Try.func8 (by kernel_rfl) rfl #[.string a1] rfl (by (try simp only [List.map_toArray, List.map_cons, List.map_nil]); first | done | rfl | (simp only [List.length_drop, List.length_take]; rfl)) ?_; (with_reducible refine (hash_Sum.calls kj3 a1 t105 _ A9.out).mono ?_); rintro e w' ⟨rfl, ⟨nd, rfl⟩⟩; refine ⟨_, rfl, ?_⟩) | ((with_reducible refine gate_dst (N := 26) rfl ?_); (try (refine gate_guard (by rfl) ?_; dsimp only)); refine Kd.R_lit (Kd.int .u8) _ 5 ?hg (N := 26) ?hd (xs := ([a2] : List Int)) (inner := [.int .u8 a2]) (ok := fun _ => True) (okp := fun _ => True) ?hr ?hp (fun _ hk => hk) trivial (Below.refl _ _) (Nat.le_refl _) (by simp) ?_; (case hd => rfl); (case hg => rfl); (case hr => first | (go_simp; done) | (go_simp; rfl)); (case hp => exact (Reps.one (show Kd.M (Kd.int .u8) _ _ _ a2 [.int .u8 a2] from rfl) (Reps.none _ _))); intro v107 w22 ho23 hb hg_ hnew_; clear hg_ hnew_; (first | rw [← Ny106.out] at ho23 | (simp only [Int.reduceToNat] at ho23; rw [← Ny106.out] at ho23)); have n0_ := Aside0.mk (Kd.R_lower ho23 (below_size (by repeat (first | (with_reducible first | exact HB.out | apply below_alloc | apply pw_below_drewN | apply below_drew1) | exact HB.out)))); have n1_ := Aside0.mk (below_step (by repeat (first | (with_reducible first | exact HB.out | apply below_alloc | apply pw_below_drewN | apply below_drew1) | exact HB.out)) hb); clear HB; have HO108 := n0_; have HB := n1_; clear n0_ n1_; clear hb ho23; have hcv24 := own_string (P := Try.prog) Try.underlying27 Try.underlying5 Try.underlying9 (Kd.own_of_R HO108.out)) | ((with_reducible refine gate_callee (f := 8) rfl ?_); refine goesL_ (some 29) rfl rfl Try.func8 (by kernel_rfl) rfl #[.string (a0 ++ (strOfNums y106))] rfl (by (try simp only [List.map_toArray, List.map_cons, List.map_nil]); first | done | rfl | (simp only [List.length_drop, List.length_take]; rfl)) ?_; (with_reducible refine (hash_Sum.calls kj3 (a0 ++ (strOfNums y106)) t109 _ A11.out).mono ?_); rintro e w' ⟨rfl, ⟨nd, rfl⟩⟩; refine ⟨_, rfl, ?_⟩) | ((with_reducible refine gate_dst (N := 32) rfl ?_); (try (refine gate_guard (by rfl) ?_; dsimp only)); refine Kd.R_lit (Kd.int .u8) _ 5 ?hg (N := 32) ?hd (xs := ([a2] : List Int)) (inner := [.int .u8 a2]) (ok := fun _ => True) (okp := fun _ => True) ?hr ?hp (fun _ hk => hk) trivial (Below.refl _ _) (Nat.le_refl _) (by simp) ?_; (case hd => rfl); (case hg => rfl); (case hr => first | (go_simp; done) | (go_simp; rfl)); (case hp => exact (Reps.one (show Kd.M (Kd.int .u8) _ _ _ a2 [.int .u8 a2] from rfl) (Reps.none _ _))); intro v111 w25 ho26 hb hg_ hnew_; clear hg_ hnew_; (first | rw [← Ny110.out] at ho26 | (simp only [Int.reduceToNat] at ho26; rw [← Ny110.out] at ho26)); have n0_ := Aside0.mk (Kd.R_elder' (by (with_reducible repeat (first | apply Kd.R_alloc | apply Kd.R_drewN | apply Kd.R_drew)); exact HO108.out) (Kd.R_base ho26) hb); have n1_ := Aside0.mk (Kd.R_lower (Kd.R_new' ho26 (Kd.R_lt (by (with_reducible repeat (first | apply Kd.R_alloc | apply Kd.R_drewN | apply Kd.R_drew)); exact HO108.out))) (below_size (by repeat (first | (with_reducible first | exact HB.out | apply below_alloc | apply pw_below_drewN | apply below_drew1) | exact HB.out)))); have n2_ := Aside0.mk (below_step (by repeat (first | (with_reducible first | exact HB.out | apply below_alloc | apply pw_below_drewN | apply below_drew1) | exact HB.out)) hb); clear HO108; clear HB; have HO108 := n0_; have HO112 := n1_; have HB := n2_; clear n0_ n1_ n2_; clear hb ho26; have hcv27 := own_string (P := Try.prog) Try.underlying27 Try.underlying5 Try.underlying9 (Kd.own_of_R HO112.out)) | ((with_reducible refine gate_callee (f := 8) rfl ?_); refine goesL_ (some 35) rfl rfl Try.func8 (by kernel_rfl) rfl #[.string (a1 ++ (strOfNums y110))] rfl (by (try simp only [List.map_toArray, List.map_cons, List.map_nil]); first | done | rfl | (simp only [List.length_drop, List.length_take]; rfl)) ?_; (with_reducible refine (hash_Sum.calls kj3 (a1 ++ (strOfNums y110)) t113 _ A13.out).mono ?_); rintro e w' ⟨rfl, ⟨nd, rfl⟩⟩; refine ⟨_, rfl, ?_⟩) | ((with_reducible refine gate_callee (f := 7) rfl ?_); refine goesL_ (some 36) rfl rfl Try.func7 (by kernel_rfl) rfl #[] rfl (by (try simp only [List.map_toArray, List.map_cons, List.map_nil]); first | done | rfl | (simp only [List.length_drop, List.length_take]; rfl)) ?_; (with_reducible refine (lockgatelaw02_awake.calls kj3  false _ A14.out).mono ?_); rintro e w' ⟨rfl, ⟨nd, rfl⟩⟩; refine ⟨_, rfl, ?_⟩))
              go_ret
              exact ⟨by first | rfl | (simp [errW_none, errW_some] <;> rfl) | (simp [*, errW_none, errW_some] <;> rfl), by repeat (first | (with_reducible first | exact HB.out | apply below_alloc | apply pw_below_drewN | apply below_drew1) | exact HB.out)⟩
          · rw [if_neg c12] at H
            exact absurd H (by simp)
        · rw [if_neg c10] at H
          exact absurd H (by simp)

/-- THE ONE PURE STATEMENT of lockgatelaw02_HashMore: yours. -/
def lockgatelaw02_HashMore.Pure : Prop := ∀ (a0 : ByteArray) (a1 : ByteArray) (a2 : Int), a0.size ≤ 140737488351232 → a1.size ≤ 140737488351232 → (Lit.int .u8 a2).wf = true → ∃ k, lockgatelaw02_HashMore.f k a0 a1 a2 = some true
theorem lockgatelaw02_HashMore.walk (P : lockgatelaw02_HashMore.Pure) (a0 : ByteArray) (a1 : ByteArray) (a2 : Int) (w : World) (w0 : a0.size ≤ 140737488351232) (w1 : a1.size ≤ 140737488351232) (w2 : (Lit.int .u8 a2).wf = true) :
    Calls Try.prog 5 #[.string a0, .string a1, .int .u8 a2] w fun e w' => e = .returned (.bool true) ∧ Below w.heap.size w w' := by
  obtain ⟨k, h⟩ := P a0 a1 a2 w0 w1 w2
  refine (lockgatelaw02_HashMore.calls k a0 a1 a2 true w h).mono ?_
  rintro e w' ⟨rfl, hd⟩
  exact ⟨rfl, hd⟩

end Go.Proofs.Ytoknpdcjofdpkaa.PHashMore
