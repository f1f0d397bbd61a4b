/- What the functions of ver and of its document's answer compute, stepped through once each; the world stays as it is. -/
import Derived.Test.YtcoiiakjmollbaaPVerPartsx0
import Derived.Test.YtcoiiakjmollbaaVerMath
import Derived.Laws.ComplexArith
import Derived.KernelRfl
namespace Go.Proofs.Ytcoiiakjmollbaa.VerWalk
open Go.RowKit Go.Proofs.Ytcoiiakjmollbaa.VerMath
set_option linter.unusedVariables false
set_option linter.unusedSimpArgs false

abbrev cx (a b : Nat) : Value := .complex .f64 a b
abbrev FI (n : Int) : Nat := floatOfInt .f64 n

theorem make_calls (a b : Int) (w : World) : Calls Try.prog 10 #[.int .i64 a, .int .i64 b] w fun e w' => e = .returned (cx (FI a) (FI b)) ∧ w' = w := by
  go_enter Try.func10, Try.ntmps10
  go_wp2
  go_ret
  exact ⟨rfl, rfl⟩
theorem refMake_calls (a b : Int) (w : World) : Calls Try.prog 11 #[.int .i64 a, .int .i64 b] w fun e w' => e = .returned (cx (FI a) (FI b)) ∧ w' = w := by
  go_enter Try.func11, Try.ntmps11
  go_wp2
  go_ret
  exact ⟨rfl, rfl⟩
theorem conv (x : Nat) (n : Int) (h : floatToIntVal .f64 x .i64 = some n) (W : World) : (convert 30 3 (.float .f64 x)).run Try.prog W = .ok (.int .i64 n) W :=
  run_convert_float_int W 30 3 .f64 .i64 x n (by kernel_rfl) Try.underlying3 h
theorem epoch_calls (a b : Nat) (n : Int) (h : floatToIntVal .f64 a .i64 = some n) (w : World) : Calls Try.prog 12 #[cx a b] w fun e w' => e = .returned (.int .i64 n) ∧ w' = w := by
  have hc := conv a n h
  go_enter Try.func12, Try.ntmps12
  go_wp2
  go_ret
  exact ⟨rfl, rfl⟩
theorem num_calls (a b : Nat) (n : Int) (h : floatToIntVal .f64 b .i64 = some n) (w : World) : Calls Try.prog 13 #[cx a b] w fun e w' => e = .returned (.int .i64 n) ∧ w' = w := by
  have hc := conv b n h
  go_enter Try.func13, Try.ntmps13
  go_wp2
  go_ret
  exact ⟨rfl, rfl⟩
theorem refEpoch_calls (a b : Nat) (n : Int) (h : floatToIntVal .f64 a .i64 = some n) (w : World) : Calls Try.prog 22 #[cx a b] w fun e w' => e = .returned (.int .i64 n) ∧ w' = w := by
  have hc := conv a n h
  go_enter Try.func22, Try.ntmps22
  go_wp2
  go_ret
  exact ⟨rfl, rfl⟩
theorem refNum_calls (a b : Nat) (n : Int) (h : floatToIntVal .f64 b .i64 = some n) (w : World) : Calls Try.prog 23 #[cx a b] w fun e w' => e = .returned (.int .i64 n) ∧ w' = w := by
  have hc := conv b n h
  go_enter Try.func23, Try.ntmps23
  go_wp2
  go_ret
  exact ⟨rfl, rfl⟩
theorem fits_calls (a : Int) (w : World) : Calls Try.prog 8 #[.int .i64 a] w fun e w' => e = .returned (.bool (decide (0 ≤ a) && decide (a ≤ 1099511627776))) ∧ w' = w := by
  by_cases h : 0 ≤ a
  · have h1 : decide (0 ≤ a) = true := decide_eq_true h
    go_enter Try.func8, Try.ntmps8
    go_wp2
    go_ret
    exact ⟨by simp [h1], rfl⟩
  · have h1 : decide (0 ≤ a) = false := decide_eq_false h
    go_enter Try.func8, Try.ntmps8
    go_wp2
    go_ret
    exact ⟨by simp [h1], rfl⟩

/-- the bound of a part, as a word -/
abbrev top : Nat := 4787326403894837248
def ge0 (x : Nat) : Bool := FloatKind.f64.format.order x 0 == some .gt || FloatKind.f64.format.order x 0 == some .eq
def le40 (x : Nat) : Bool := FloatKind.f64.format.order x top == some .lt || FloatKind.f64.format.order x top == some .eq

theorem whole_no0 (x : Nat) (h : ge0 x = false) (w : World) : Calls Try.prog 21 #[.float .f64 x] w fun e w' => e = .returned (.bool false) ∧ w' = w := by
  unfold ge0 at h
  go_enter Try.func21, Try.ntmps21
  go_wp2
  go_ret
  exact ⟨rfl, rfl⟩
theorem whole_no1 (x : Nat) (h : ge0 x = true) (h1 : le40 x = false) (w : World) : Calls Try.prog 21 #[.float .f64 x] w fun e w' => e = .returned (.bool false) ∧ w' = w := by
  unfold ge0 at h
  unfold le40 at h1
  go_enter Try.func21, Try.ntmps21
  go_wp2
  go_ret
  exact ⟨rfl, rfl⟩
theorem whole_yes (x : Nat) (n : Int) (h : ge0 x = true) (h1 : le40 x = true) (hn : floatToIntVal .f64 x .i64 = some n) (w : World) : Calls Try.prog 21 #[.float .f64 x] w fun e w' => e = .returned (.bool (FloatKind.f64.format.order x (FI n) == some .eq)) ∧ w' = w := by
  have hc := conv x n hn
  unfold ge0 at h
  unfold le40 at h1
  go_enter Try.func21, Try.ntmps21
  go_wp2
  go_ret
  exact ⟨rfl, rfl⟩
theorem ahead_calls (a b c d : Nat) (w : World) : Calls Try.prog 16 #[cx a b, cx c d] w fun e w' => e = .returned (.bool (if FloatKind.f64.format.order a c == some .eq then FloatKind.f64.format.order b d == some .lt else FloatKind.f64.format.order a c == some .lt)) ∧ w' = w := by
  by_cases h : (FloatKind.f64.format.order a c == some .eq) = true
  · have h1 : (FloatKind.f64.format.order a c != some .eq) = false := by simp [bne, h]
    rw [if_pos h]
    go_enter Try.func16, Try.ntmps16
    go_wp2
    go_ret
    exact ⟨rfl, rfl⟩
  · have h1 : (FloatKind.f64.format.order a c != some .eq) = true := by simpa [bne] using h
    rw [if_neg h]
    go_enter Try.func16, Try.ntmps16
    go_wp2
    go_ret
    exact ⟨rfl, rfl⟩

theorem right_calls (a b : Nat) (ra rb : Bool) (ha : ∀ w, Calls Try.prog 21 #[.float .f64 a] w fun e w' => e = .returned (.bool ra) ∧ w' = w) (hb : ∀ w, Calls Try.prog 21 #[.float .f64 b] w fun e w' => e = .returned (.bool rb) ∧ w' = w) (w : World) :
    Calls Try.prog 14 #[cx a b] w fun e w' => e = .returned (.bool (ra && rb)) ∧ w' = w := by
  cases ra with
  | false =>
    go_enter Try.func14, Try.ntmps14
    go_wp2_with fail
    refine (ha _).mono ?_
    rintro e w1 ⟨rfl, rfl⟩
    go_wp2
    go_ret
    exact ⟨rfl, rfl⟩
  | true =>
    go_enter Try.func14, Try.ntmps14
    go_wp2_with fail
    refine (ha _).mono ?_
    rintro e w1 ⟨rfl, rfl⟩
    go_wp2_with fail
    refine (hb _).mono ?_
    rintro e w1 ⟨rfl, rfl⟩
    go_wp2
    go_ret
    exact ⟨rfl, rfl⟩
theorem refRight_no0 (a b : Nat) (h : ge0 a = false) (w : World) : Calls Try.prog 15 #[cx a b] w fun e w' => e = .returned (.bool false) ∧ w' = w := by
  unfold ge0 at h
  go_enter Try.func15, Try.ntmps15
  go_wp2
  go_ret
  exact ⟨rfl, rfl⟩
theorem refRight_no1 (a b : Nat) (h : ge0 a = true) (h1 : le40 a = false) (w : World) : Calls Try.prog 15 #[cx a b] w fun e w' => e = .returned (.bool false) ∧ w' = w := by
  unfold ge0 at h
  unfold le40 at h1
  go_enter Try.func15, Try.ntmps15
  go_wp2
  go_ret
  exact ⟨rfl, rfl⟩
theorem refRight_no2 (a b : Nat) (h : ge0 a = true) (h1 : le40 a = true) (h2 : ge0 b = false) (w : World) : Calls Try.prog 15 #[cx a b] w fun e w' => e = .returned (.bool false) ∧ w' = w := by
  unfold ge0 at h h2
  unfold le40 at h1
  go_enter Try.func15, Try.ntmps15
  go_wp2
  go_ret
  exact ⟨rfl, rfl⟩
theorem refRight_no3 (a b : Nat) (h : ge0 a = true) (h1 : le40 a = true) (h2 : ge0 b = true) (h3 : le40 b = false) (w : World) : Calls Try.prog 15 #[cx a b] w fun e w' => e = .returned (.bool false) ∧ w' = w := by
  unfold ge0 at h h2
  unfold le40 at h1 h3
  go_enter Try.func15, Try.ntmps15
  go_wp2
  go_ret
  exact ⟨rfl, rfl⟩
theorem refRight_yes (a b : Nat) (n m : Int) (h : ge0 a = true) (h1 : le40 a = true) (h2 : ge0 b = true) (h3 : le40 b = true) (hn : floatToIntVal .f64 a .i64 = some n) (hm : floatToIntVal .f64 b .i64 = some m) (w : World) :
    Calls Try.prog 15 #[cx a b] w fun e w' => e = .returned (.bool ((FloatKind.f64.format.order (FI n) a == some .eq) && (FloatKind.f64.format.order (FI m) b == some .eq))) ∧ w' = w := by
  unfold ge0 at h h2
  unfold le40 at h1 h3
  go_enter Try.func15, Try.ntmps15
  go_wp2_with fail
  refine (refEpoch_calls a b n hn _).mono ?_
  rintro e w1 ⟨rfl, rfl⟩
  go_wp2_with fail
  refine (refNum_calls a b m hm _).mono ?_
  rintro e w1 ⟨rfl, rfl⟩
  go_wp2_with fail
  refine (refMake_calls n m _).mono ?_
  rintro e w1 ⟨rfl, rfl⟩
  go_wp2
  go_ret
  exact ⟨rfl, rfl⟩
theorem refAhead_calls (a b c d : Nat) (i j k l : Int) (hi : floatToIntVal .f64 a .i64 = some i) (hj : floatToIntVal .f64 b .i64 = some j) (hk : floatToIntVal .f64 c .i64 = some k) (hl : floatToIntVal .f64 d .i64 = some l) (w : World) :
    Calls Try.prog 17 #[cx a b, cx c d] w fun e w' => e = .returned (.bool (if i = k then decide (j < l) else decide (i < k))) ∧ w' = w := by
  by_cases h : i = k
  · rw [if_pos h]
    have h1 : (i == k) = true := beq_iff_eq.2 h
    clear h
    go_enter Try.func17, Try.ntmps17
    go_wp2_with fail
    refine (refEpoch_calls a b i hi _).mono ?_
    rintro e w1 ⟨rfl, rfl⟩
    go_wp2_with fail
    refine (refEpoch_calls c d k hk _).mono ?_
    rintro e w1 ⟨rfl, rfl⟩
    go_wp2_with fail
    refine (refNum_calls a b j hj _).mono ?_
    rintro e w1 ⟨rfl, rfl⟩
    go_wp2_with fail
    refine (refNum_calls c d l hl _).mono ?_
    rintro e w1 ⟨rfl, rfl⟩
    go_wp2
    go_ret
    exact ⟨rfl, rfl⟩
  · rw [if_neg h]
    have h1 : (i == k) = false := beq_eq_false_iff_ne.2 h
    clear h
    go_enter Try.func17, Try.ntmps17
    go_wp2_with fail
    refine (refEpoch_calls a b i hi _).mono ?_
    rintro e w1 ⟨rfl, rfl⟩
    go_wp2_with fail
    refine (refEpoch_calls c d k hk _).mono ?_
    rintro e w1 ⟨rfl, rfl⟩
    go_wp2_with fail
    refine (refEpoch_calls a b i hi _).mono ?_
    rintro e w1 ⟨rfl, rfl⟩
    go_wp2_with fail
    refine (refEpoch_calls c d k hk _).mono ?_
    rintro e w1 ⟨rfl, rfl⟩
    go_wp2
    go_ret
    exact ⟨rfl, rfl⟩

/-! ### of versions of whole numbers -/
theorem FI_nat (n : Nat) : FI (n : Int) = F n := by
  show FloatKind.nearest .f64 (n : Int) = _
  unfold FloatKind.nearest FloatKind.encode
  rw [show decide ((n : Int) < 0) = false from decide_eq_false (by omega)]
  rfl
theorem val_F (n : Nat) (h : n < 2 ^ 53) : floatToIntVal .f64 (F n) .i64 = some (n : Int) := by
  unfold floatToIntVal FloatKind.decode
  rw [show FloatKind.f64.format = Ieee.double from rfl, toInt_F n h]
  exact if_pos ⟨by show (-9223372036854775808 : Int) ≤ _; omega, by show _ ≤ (9223372036854775807 : Int); omega⟩
/-- a version -/
abbrev V (a b : Nat) : Value := cx (F a) (F b)
theorem make_nat (a b : Nat) (w : World) : Calls Try.prog 10 #[.int .i64 a, .int .i64 b] w fun e w' => e = .returned (V a b) ∧ w' = w := by
  have := make_calls a b w
  rw [FI_nat, FI_nat] at this
  exact this
theorem refMake_nat (a b : Nat) (w : World) : Calls Try.prog 11 #[.int .i64 a, .int .i64 b] w fun e w' => e = .returned (V a b) ∧ w' = w := by
  have := refMake_calls a b w
  rw [FI_nat, FI_nat] at this
  exact this
theorem epoch_nat (a b : Nat) (ha : a < 2 ^ 53) (w : World) : Calls Try.prog 12 #[V a b] w fun e w' => e = .returned (.int .i64 a) ∧ w' = w := epoch_calls _ _ _ (val_F a ha) w
theorem num_nat (a b : Nat) (hb : b < 2 ^ 53) (w : World) : Calls Try.prog 13 #[V a b] w fun e w' => e = .returned (.int .i64 b) ∧ w' = w := num_calls _ _ _ (val_F b hb) w
theorem ord (a b : Nat) (ha : a < 2 ^ 53) (hb : b < 2 ^ 53) : FloatKind.f64.format.order (F a) (F b) = some (compare a b) := order_F a b ha hb
theorem ord_eq (a b : Nat) (ha : a < 2 ^ 53) (hb : b < 2 ^ 53) : (FloatKind.f64.format.order (F a) (F b) == some .eq) = decide (a = b) := by
  rw [ord a b ha hb]
  rcases Nat.lt_trichotomy a b with h | h | h
  · rw [ncmp_lt h, decide_eq_false (by omega)]; rfl
  · subst h; rw [ncmp_eq, decide_eq_true rfl]; rfl
  · rw [ncmp_gt h, decide_eq_false (by omega)]; rfl
theorem ord_lt (a b : Nat) (ha : a < 2 ^ 53) (hb : b < 2 ^ 53) : (FloatKind.f64.format.order (F a) (F b) == some .lt) = decide (a < b) := by
  rw [ord a b ha hb]
  rcases Nat.lt_trichotomy a b with h | h | h
  · rw [ncmp_lt h, decide_eq_true h]; rfl
  · subst h; rw [ncmp_eq, decide_eq_false (by omega)]; rfl
  · rw [ncmp_gt h, decide_eq_false (by omega)]; rfl
/-- is (a, b) aheadV of (c, d)? -/
def aheadV (a b c d : Nat) : Bool := if a = c then decide (b < d) else decide (a < c)
theorem ahead_nat (a b c d : Nat) (ha : a < 2 ^ 53) (hb : b < 2 ^ 53) (hc : c < 2 ^ 53) (hd : d < 2 ^ 53) (w : World) : Calls Try.prog 16 #[V a b, V c d] w fun e w' => e = .returned (.bool (aheadV a b c d)) ∧ w' = w := by
  have := ahead_calls (F a) (F b) (F c) (F d) w
  rw [ord_eq a c ha hc, ord_lt b d hb hd, ord_lt a c ha hc] at this
  simpa only [aheadV, decide_eq_true_eq] using this
theorem refAhead_nat (a b c d : Nat) (ha : a < 2 ^ 53) (hb : b < 2 ^ 53) (hc : c < 2 ^ 53) (hd : d < 2 ^ 53) (w : World) : Calls Try.prog 17 #[V a b, V c d] w fun e w' => e = .returned (.bool (aheadV a b c d)) ∧ w' = w := by
  have := refAhead_calls (F a) (F b) (F c) (F d) a b c d (val_F a ha) (val_F b hb) (val_F c hc) (val_F d hd) w
  simpa only [aheadV, Int.natCast_inj, Int.ofNat_lt] using this
theorem later_nat (a b c d : Nat) (ha : a < 2 ^ 53) (hb : b < 2 ^ 53) (hc : c < 2 ^ 53) (hd : d < 2 ^ 53) (w : World) : Calls Try.prog 18 #[V a b, V c d] w fun e w' => e = .returned (if aheadV c d a b = true then V a b else V c d) ∧ w' = w := by
  have H := fun w => ahead_nat c d a b hc hd ha hb w
  by_cases h : aheadV c d a b = true
  · rw [if_pos h]
    rw [h] at H
    go_enter Try.func18, Try.ntmps18
    go_wp2_with fail
    refine (H _).mono ?_
    rintro e w1 ⟨rfl, rfl⟩
    go_wp2
    go_ret
    exact ⟨rfl, rfl⟩
  · rw [if_neg h]
    rw [show aheadV c d a b = false by simpa using h] at H
    go_enter Try.func18, Try.ntmps18
    go_wp2_with fail
    refine (H _).mono ?_
    rintro e w1 ⟨rfl, rfl⟩
    go_wp2
    go_ret
    exact ⟨rfl, rfl⟩
theorem refLater_nat (a b c d : Nat) (ha : a < 2 ^ 53) (hb : b < 2 ^ 53) (hc : c < 2 ^ 53) (hd : d < 2 ^ 53) (w : World) : Calls Try.prog 19 #[V a b, V c d] w fun e w' => e = .returned (if aheadV a b c d = true then V c d else V a b) ∧ w' = w := by
  have H := fun w => refAhead_nat a b c d ha hb hc hd w
  by_cases h : aheadV a b c d = true
  · rw [if_pos h]
    rw [h] at H
    go_enter Try.func19, Try.ntmps19
    go_wp2_with fail
    refine (H _).mono ?_
    rintro e w1 ⟨rfl, rfl⟩
    go_wp2
    go_ret
    exact ⟨rfl, rfl⟩
  · rw [if_neg h]
    rw [show aheadV a b c d = false by simpa using h] at H
    go_enter Try.func19, Try.ntmps19
    go_wp2_with fail
    refine (H _).mono ?_
    rintro e w1 ⟨rfl, rfl⟩
    go_wp2
    go_ret
    exact ⟨rfl, rfl⟩
theorem F_one : F 1 = 4607182418800017408 := by decide
theorem F_zero : F 0 = 0 := by decide
theorem F_top : F 1099511627776 = top := by decide
theorem next_nat (a b e : Nat) (h : a ≤ e) (he : e < 2 ^ 53) (hb : b + 1 < 2 ^ 53) (w : World) : Calls Try.prog 20 #[V a b, .int .i64 e] w fun x w' => x = .returned (V e (b + 1)) ∧ w' = w := by
  have h1 : floatBits .sub .f64 (FI e) (F a) = some (F (e - a)) := by rw [FI_nat]; exact sub_F e a he h
  have h2 : floatBits .add .f64 (F a) (F (e - a)) = some (F e) := by
    have := add_F a (e - a) (by omega)
    rw [show a + (e - a) = e by omega] at this
    exact this
  have h3 : floatBits .add .f64 (F b) 4607182418800017408 = some (F (b + 1)) := by rw [← F_one]; exact add_F b 1 hb
  have h4 : cSumBits .add .f64 (F a) (F b) (F (e - a)) 4607182418800017408 = some (F e, F (b + 1)) := by simp [cSumBits, h2, h3]
  have h5 := fun W => run_float_arith (P := Try.prog) W .sub 30 .f64 _ _ _ h1
  have h6 := fun W => run_complex_sum (P := Try.prog) W .add (.inl rfl) 25 .f64 _ _ _ _ _ _ h4
  go_enter Try.func20, Try.ntmps20
  go_wp2
  go_ret
  exact ⟨rfl, rfl⟩
theorem ge0_nat (a : Nat) (ha : a < 2 ^ 53) : ge0 (F a) = true := by
  unfold ge0
  rw [← F_zero, ord a 0 ha (by decide)]
  rcases Nat.eq_zero_or_pos a with h | h
  · subst h; rw [ncmp_eq]; rfl
  · rw [ncmp_gt h]; rfl
theorem le40_nat (a : Nat) (ha : a ≤ 1099511627776) : le40 (F a) = true := by
  unfold le40
  rw [← F_top, ord a _ (by omega) (by decide)]
  rcases Nat.lt_or_ge a 1099511627776 with h | h
  · rw [ncmp_lt h]; rfl
  · rw [show a = 1099511627776 by omega, ncmp_eq]; rfl
theorem whole_nat (a : Nat) (ha : a ≤ 1099511627776) (w : World) : Calls Try.prog 21 #[.float .f64 (F a)] w fun e w' => e = .returned (.bool true) ∧ w' = w := by
  have := whole_yes (F a) a (ge0_nat a (by omega)) (le40_nat a ha) (val_F a (by omega)) w
  rw [FI_nat, ord_eq a a (by omega) (by omega), decide_eq_true rfl] at this
  exact this
theorem right_nat (a b : Nat) (ha : a ≤ 1099511627776) (hb : b ≤ 1099511627776) (w : World) : Calls Try.prog 14 #[V a b] w fun e w' => e = .returned (.bool true) ∧ w' = w :=
  right_calls (F a) (F b) true true (fun w => whole_nat a ha w) (fun w => whole_nat b hb w) w
/-- whatever the word: a part's test, the program's and (turned about) the document's -/
theorem whole_any (x : Nat) : ∃ r : Bool, (∀ w, Calls Try.prog 21 #[.float .f64 x] w fun e w' => e = .returned (.bool r) ∧ w' = w) ∧
    ((ge0 x = false ∧ r = false) ∨ (ge0 x = true ∧ le40 x = false ∧ r = false) ∨ (ge0 x = true ∧ le40 x = true ∧ ∃ n : Int, floatToIntVal .f64 x .i64 = some n ∧ r = (FloatKind.f64.format.order (FI n) x == some .eq))) := by
  cases h : ge0 x with
  | false => exact ⟨false, fun w => whole_no0 x h w, .inl ⟨rfl, rfl⟩⟩
  | true =>
    cases h1 : le40 x with
    | false => exact ⟨false, fun w => whole_no1 x h h1 w, .inr (.inl ⟨rfl, rfl, rfl⟩)⟩
    | true =>
      have h0' := h
      have h1' := h1
      unfold ge0 at h0'
      unfold le40 at h1'
      rw [← F_zero] at h0'
      rw [← F_top] at h1'
      obtain ⟨n, hn, he⟩ := inside x 1099511627776 (by decide) h0' h1'
      have hv : floatToIntVal .f64 x .i64 = some (n : Int) := by
        unfold floatToIntVal FloatKind.decode
        rw [show FloatKind.f64.format = Ieee.double from rfl, he]
        exact if_pos ⟨by show (-9223372036854775808 : Int) ≤ _; omega, by show _ ≤ (9223372036854775807 : Int); omega⟩
      exact ⟨_, fun w => whole_yes x n h h1 hv w, .inr (.inr ⟨rfl, rfl, n, hv, order_eq_symm _ _⟩)⟩
/-- whatever complex number: both say the same of it -/
theorem rights_any (a b : Nat) : ∃ r : Bool, (∀ w, Calls Try.prog 14 #[cx a b] w fun e w' => e = .returned (.bool r) ∧ w' = w) ∧ (∀ w, Calls Try.prog 15 #[cx a b] w fun e w' => e = .returned (.bool r) ∧ w' = w) := by
  obtain ⟨ra, hA, hA'⟩ := whole_any a
  obtain ⟨rb, hB, hB'⟩ := whole_any b
  refine ⟨ra && rb, fun w => right_calls a b ra rb hA hB w, fun w => ?_⟩
  rcases hA' with ⟨h1, rfl⟩ | ⟨h1, h2, rfl⟩ | ⟨h1, h2, n, hn, rfl⟩
  · exact refRight_no0 a b h1 w
  · exact refRight_no1 a b h1 h2 w
  · rcases hB' with ⟨h3, rfl⟩ | ⟨h3, h4, rfl⟩ | ⟨h3, h4, m, hm, rfl⟩
    · rw [Bool.and_false]; exact refRight_no2 a b h1 h2 h3 w
    · rw [Bool.and_false]; exact refRight_no3 a b h1 h2 h3 h4 w
    · exact refRight_yes a b n m h1 h2 h3 h4 hn hm w

set_option maxRecDepth 100000 in
theorem awake_calls (w : World) : Calls Try.prog 9 #[] w fun e w' => e = .returned (.bool true) ∧ w' = w := by
  have m25 := fun w => (make_nat 2 5 w)
  have m30 := fun w => (make_nat 3 0 w)
  have m36 := fun w => (make_nat 3 6 w)
  have m24 := fun w => (make_nat 2 4 w)
  have e25 := fun w => epoch_nat 2 5 (by decide) w
  have n25 := fun w => num_nat 2 5 (by decide) w
  have a1 := fun w => ahead_nat 2 5 3 0 (by decide) (by decide) (by decide) (by decide) w
  have a2 := fun w => ahead_nat 2 5 2 5 (by decide) (by decide) (by decide) (by decide) w
  have x1 := fun w => next_nat 2 5 3 (by decide) (by decide) (by decide) w
  have r1 := fun w => right_nat 2 5 (by decide) (by decide) w
  have l1 := fun w => later_nat 2 5 2 4 (by decide) (by decide) (by decide) (by decide) w
  have o1 : FloatKind.f64.format.order (F 3) (F 3) = some .eq := ord 3 3 (by decide) (by decide)
  have o2 : FloatKind.f64.format.order (F 6) (F 6) = some .eq := ord 6 6 (by decide) (by decide)
  have o3 : FloatKind.f64.format.order (F 2) (F 2) = some .eq := ord 2 2 (by decide) (by decide)
  have o4 : FloatKind.f64.format.order (F 5) (F 5) = some .eq := ord 5 5 (by decide) (by decide)
  rw [show aheadV 2 5 3 0 = true by decide] at a1
  rw [show aheadV 2 5 2 5 = false by decide] at a2
  rw [show aheadV 2 4 2 5 = true by decide, if_pos rfl] at l1
  go_enter Try.func9, Try.ntmps9
  go_wp2_with fail
  refine (m25 _).mono ?_
  rintro e w1 ⟨rfl, rfl⟩
  go_wp2_with fail
  refine (e25 _).mono ?_
  rintro e w1 ⟨rfl, rfl⟩
  go_wp2_with fail
  refine (n25 _).mono ?_
  rintro e w1 ⟨rfl, rfl⟩
  go_wp2_with fail
  refine (m30 _).mono ?_
  rintro e w1 ⟨rfl, rfl⟩
  go_wp2_with fail
  refine (a1 _).mono ?_
  rintro e w1 ⟨rfl, rfl⟩
  go_wp2_with fail
  refine (a2 _).mono ?_
  rintro e w1 ⟨rfl, rfl⟩
  go_wp2_with fail
  refine (x1 _).mono ?_
  rintro e w1 ⟨rfl, rfl⟩
  go_wp2_with fail
  refine (m36 _).mono ?_
  rintro e w1 ⟨rfl, rfl⟩
  go_wp2_with fail
  refine (r1 _).mono ?_
  rintro e w1 ⟨rfl, rfl⟩
  go_wp2_with fail
  refine (m24 _).mono ?_
  rintro e w1 ⟨rfl, rfl⟩
  go_wp2_with fail
  refine (l1 _).mono ?_
  rintro e w1 ⟨rfl, rfl⟩
  go_wp2
  go_ret
  exact ⟨rfl, rfl⟩
end Go.Proofs.Ytcoiiakjmollbaa.VerWalk
