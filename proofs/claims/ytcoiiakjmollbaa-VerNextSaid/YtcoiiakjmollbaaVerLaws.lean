/- What the five laws of ver answer: true, whatever they are called with. Conditions: none. -/
import Derived.Test.YtcoiiakjmollbaaVerWalk
namespace Go.Proofs.Ytcoiiakjmollbaa.VerLaws
open Go.RowKit Go.Proofs.Ytcoiiakjmollbaa.VerMath Go.Proofs.Ytcoiiakjmollbaa.VerWalk
set_option linter.unusedVariables false
set_option linter.unusedSimpArgs false
/-- may a number be a part of a version? -/
def fits (a : Int) : Bool := decide (0 ≤ a) && decide (a ≤ 1099511627776)
theorem fits_yes (a : Int) (h : fits a = true) (w : World) : Calls Try.prog 8 #[.int .i64 a] w fun e w' => e = .returned (.bool true) ∧ w' = w := by
  have := fits_calls a w
  unfold fits at h
  rw [h] at this
  exact this
theorem fits_no (a : Int) (h : fits a = false) (w : World) : Calls Try.prog 8 #[.int .i64 a] w fun e w' => e = .returned (.bool false) ∧ w' = w := by
  have := fits_calls a w
  unfold fits at h
  rw [h] at this
  exact this
theorem fits_nat (a : Int) (h : fits a = true) : ∃ n : Nat, a = (n : Int) ∧ n ≤ 1099511627776 := by
  unfold fits at h
  simp only [Bool.and_eq_true, decide_eq_true_eq] at h
  exact ⟨a.toNat, by omega, by omega⟩
theorem bool_no {b : Bool} (h : ¬ b = true) : b = false := by simpa using h

set_option maxRecDepth 100000 in
set_option maxHeartbeats 4000000 in
theorem verParts_calls (a b : Int) (w : World) : Calls Try.prog 3 #[.int .i64 a, .int .i64 b] w fun e w' => e = .returned (.bool true) ∧ w' = w := by
  by_cases ha : fits a = true
  rotate_left
  · have ga := bool_no ha
    go_enter Try.func3, Try.ntmps3
    go_wp2_with fail
    refine (fits_no _ ga _).mono ?_
    rintro e w1 ⟨rfl, rfl⟩
    go_wp2_with fail
    refine (awake_calls _).mono ?_
    rintro e w1 ⟨rfl, rfl⟩
    go_wp2
    go_ret
    exact ⟨rfl, rfl⟩
  by_cases hb : fits b = true
  rotate_left
  · have gb := bool_no hb
    go_enter Try.func3, Try.ntmps3
    go_wp2_with fail
    refine (fits_yes _ ha _).mono ?_
    rintro e w1 ⟨rfl, rfl⟩
    go_wp2_with fail
    refine (fits_no _ gb _).mono ?_
    rintro e w1 ⟨rfl, rfl⟩
    go_wp2_with fail
    refine (awake_calls _).mono ?_
    rintro e w1 ⟨rfl, rfl⟩
    go_wp2
    go_ret
    exact ⟨rfl, rfl⟩
  obtain ⟨na, ea, ba⟩ := fits_nat a ha
  obtain ⟨nb, eb, bb⟩ := fits_nat b hb
  subst ea
  subst eb
  have o1 : FloatKind.f64.format.order (F na) (F na) = some .eq := by rw [ord na na (by omega) (by omega), ncmp_eq]
  have o2 : FloatKind.f64.format.order (F nb) (F nb) = some .eq := by rw [ord nb nb (by omega) (by omega), ncmp_eq]
  have c1 := fun w => epoch_nat na nb (by omega) w
  have c2 := fun w => num_nat na nb (by omega) w
  have c3 := fun w => right_nat na nb ba bb w
  clear ba bb
  have ha' := ha
  have hb' := hb
  clear ha hb
  go_enter Try.func3, Try.ntmps3
  go_wp2_with fail
  refine (fits_yes _ ha' _).mono ?_
  rintro e w1 ⟨rfl, rfl⟩
  go_wp2_with fail
  refine (fits_yes _ hb' _).mono ?_
  rintro e w1 ⟨rfl, rfl⟩
  go_wp2_with fail
  refine (make_nat na nb _).mono ?_
  rintro e w1 ⟨rfl, rfl⟩
  go_wp2_with fail
  refine (awake_calls _).mono ?_
  rintro e w1 ⟨rfl, rfl⟩
  go_wp2_with fail
  refine (refMake_nat na nb _).mono ?_
  rintro e w1 ⟨rfl, rfl⟩
  go_wp2_with fail
  refine (c1 _).mono ?_
  rintro e w1 ⟨rfl, rfl⟩
  go_wp2_with fail
  refine (c2 _).mono ?_
  rintro e w1 ⟨rfl, rfl⟩
  go_wp2_with fail
  refine (c3 _).mono ?_
  rintro e w1 ⟨rfl, rfl⟩
  go_wp2
  go_ret
  exact ⟨rfl, rfl⟩

theorem verRights_calls (a b : Nat) (w : World) : Calls Try.prog 4 #[.float .f64 a, .float .f64 b] w fun e w' => e = .returned (.bool true) ∧ w' = w := by
  obtain ⟨r, h1, h2⟩ := rights_any a b
  have hr : (r == r) = true := beq_self_eq_true r
  go_enter Try.func4, Try.ntmps4
  go_wp2_with fail
  refine (awake_calls _).mono ?_
  rintro e w1 ⟨rfl, rfl⟩
  go_wp2_with fail
  refine (h1 _).mono ?_
  rintro e w1 ⟨rfl, rfl⟩
  go_wp2_with fail
  refine (h2 _).mono ?_
  rintro e w1 ⟨rfl, rfl⟩
  go_wp2
  go_ret
  exact ⟨rfl, rfl⟩

theorem ahead_no (a b c d : Nat) (h : aheadV a b c d = true) : aheadV c d a b = false := by
  unfold aheadV at *
  by_cases h1 : a = c
  · rw [if_pos h1] at h; rw [if_pos h1.symm]; simp at h; exact decide_eq_false (by omega)
  · rw [if_neg h1] at h; rw [if_neg (fun e => h1 e.symm)]; simp at h; exact decide_eq_false (by omega)
theorem ahead_none (a b c d : Nat) (h : aheadV a b c d = false) (h' : aheadV c d a b = false) : a = c ∧ b = d := by
  unfold aheadV at *
  by_cases h1 : a = c
  · rw [if_pos h1] at h; rw [if_pos h1.symm] at h'; simp at h h'; exact ⟨h1, by omega⟩
  · rw [if_neg h1] at h; rw [if_neg (fun e => h1 e.symm)] at h'; simp at h h'; omega
theorem ahead_self (a b : Nat) : aheadV a b a b = false := by unfold aheadV; rw [if_pos rfl]; exact decide_eq_false (by omega)
theorem ahead_trans (a b c d e f : Nat) (h : aheadV a b c d = true) (h' : aheadV c d e f = true) : aheadV a b e f = true := by
  unfold aheadV at *
  by_cases h1 : a = c
  · subst h1
    rw [if_pos rfl] at h
    by_cases h2 : a = e
    · subst h2; rw [if_pos rfl] at h'; rw [if_pos rfl]; simp at h h'; exact decide_eq_true (by omega)
    · rw [if_neg h2] at h'; rw [if_neg h2]; exact h'
  · rw [if_neg h1] at h
    by_cases h2 : c = e
    · subst h2; rw [if_neg h1]; exact h
    · rw [if_neg h2] at h'; simp at h h'; rw [if_neg (by omega)]; exact decide_eq_true (by omega)
theorem later_same (a b c d : Nat) : ∃ p q : Nat, ((p = a ∧ q = b) ∨ (p = c ∧ q = d)) ∧ (if aheadV c d a b = true then V a b else V c d) = V p q ∧ (if aheadV a b c d = true then V c d else V a b) = V p q := by
  by_cases h : aheadV a b c d = true
  · exact ⟨c, d, .inr ⟨rfl, rfl⟩, by rw [ahead_no a b c d h]; rfl, by rw [if_pos h]⟩
  · have h' := bool_no h
    refine ⟨a, b, .inl ⟨rfl, rfl⟩, ?_, by rw [if_neg h]⟩
    by_cases g : aheadV c d a b = true
    · rw [if_pos g]
    · obtain ⟨rfl, rfl⟩ := ahead_none a b c d h' (bool_no g)
      rw [if_neg g]

set_option maxRecDepth 100000 in
set_option maxHeartbeats 4000000 in
theorem verPairs_calls (a b c d : Int) (w : World) : Calls Try.prog 5 #[.int .i64 a, .int .i64 b, .int .i64 c, .int .i64 d] w fun e w' => e = .returned (.bool true) ∧ w' = w := by
  by_cases ha : fits a = true
  rotate_left
  · have ga := bool_no ha
    go_enter Try.func5, Try.ntmps5
    go_wp2_with fail
    refine (fits_no _ ga _).mono ?_
    rintro e w1 ⟨rfl, rfl⟩
    go_wp2_with fail
    refine (awake_calls _).mono ?_
    rintro e w1 ⟨rfl, rfl⟩
    go_wp2
    go_ret
    exact ⟨rfl, rfl⟩
  by_cases hb : fits b = true
  rotate_left
  · have gb := bool_no hb
    go_enter Try.func5, Try.ntmps5
    go_wp2_with fail
    refine (fits_yes _ ha _).mono ?_
    rintro e w1 ⟨rfl, rfl⟩
    go_wp2_with fail
    refine (fits_no _ gb _).mono ?_
    rintro e w1 ⟨rfl, rfl⟩
    go_wp2_with fail
    refine (awake_calls _).mono ?_
    rintro e w1 ⟨rfl, rfl⟩
    go_wp2
    go_ret
    exact ⟨rfl, rfl⟩
  by_cases hc : fits c = true
  rotate_left
  · have gc := bool_no hc
    go_enter Try.func5, Try.ntmps5
    go_wp2_with fail
    refine (fits_yes _ ha _).mono ?_
    rintro e w1 ⟨rfl, rfl⟩
    go_wp2_with fail
    refine (fits_yes _ hb _).mono ?_
    rintro e w1 ⟨rfl, rfl⟩
    go_wp2_with fail
    refine (fits_no _ gc _).mono ?_
    rintro e w1 ⟨rfl, rfl⟩
    go_wp2_with fail
    refine (awake_calls _).mono ?_
    rintro e w1 ⟨rfl, rfl⟩
    go_wp2
    go_ret
    exact ⟨rfl, rfl⟩
  by_cases hd : fits d = true
  rotate_left
  · have gd := bool_no hd
    go_enter Try.func5, Try.ntmps5
    go_wp2_with fail
    refine (fits_yes _ ha _).mono ?_
    rintro e w1 ⟨rfl, rfl⟩
    go_wp2_with fail
    refine (fits_yes _ hb _).mono ?_
    rintro e w1 ⟨rfl, rfl⟩
    go_wp2_with fail
    refine (fits_yes _ hc _).mono ?_
    rintro e w1 ⟨rfl, rfl⟩
    go_wp2_with fail
    refine (fits_no _ gd _).mono ?_
    rintro e w1 ⟨rfl, rfl⟩
    go_wp2_with fail
    refine (awake_calls _).mono ?_
    rintro e w1 ⟨rfl, rfl⟩
    go_wp2
    go_ret
    exact ⟨rfl, rfl⟩
  obtain ⟨na, ea, ba⟩ := fits_nat a ha
  obtain ⟨nb, eb, bb⟩ := fits_nat b hb
  obtain ⟨nc, ec, bc⟩ := fits_nat c hc
  obtain ⟨nd, ed, bd⟩ := fits_nat d hd
  subst ea
  subst eb
  subst ec
  subst ed
  obtain ⟨p, q, hpq, hl1, hl2⟩ := later_same na nb nc nd
  have bp : p ≤ 1099511627776 := by omega
  have bq : q ≤ 1099511627776 := by omega
  clear hpq
  have o1 : FloatKind.f64.format.order (F p) (F p) = some .eq := by rw [ord p p (by omega) (by omega), ncmp_eq]
  have o2 : FloatKind.f64.format.order (F q) (F q) = some .eq := by rw [ord q q (by omega) (by omega), ncmp_eq]
  have c1 := fun w => ahead_nat na nb nc nd (by omega) (by omega) (by omega) (by omega) w
  have c2 := fun w => refAhead_nat na nb nc nd (by omega) (by omega) (by omega) (by omega) w
  have c3 := fun w => later_nat na nb nc nd (by omega) (by omega) (by omega) (by omega) w
  have c4 := fun w => refLater_nat na nb nc nd (by omega) (by omega) (by omega) (by omega) w
  rw [hl1] at c3
  rw [hl2] at c4
  generalize aheadV na nb nc nd = r at *
  clear ba bb bc bd bp bq hl1 hl2
  have ha' := ha
  have hb' := hb
  have hc' := hc
  have hd' := hd
  clear ha hb hc hd
  have hr : (r == r) = true := beq_self_eq_true r
  go_enter Try.func5, Try.ntmps5
  go_wp2_with fail
  refine (fits_yes _ ha' _).mono ?_
  rintro e w1 ⟨rfl, rfl⟩
  go_wp2_with fail
  refine (fits_yes _ hb' _).mono ?_
  rintro e w1 ⟨rfl, rfl⟩
  go_wp2_with fail
  refine (fits_yes _ hc' _).mono ?_
  rintro e w1 ⟨rfl, rfl⟩
  go_wp2_with fail
  refine (fits_yes _ hd' _).mono ?_
  rintro e w1 ⟨rfl, rfl⟩
  go_wp2_with fail
  refine (refMake_nat na nb _).mono ?_
  rintro e w1 ⟨rfl, rfl⟩
  go_wp2_with fail
  refine (refMake_nat nc nd _).mono ?_
  rintro e w1 ⟨rfl, rfl⟩
  go_wp2_with fail
  refine (awake_calls _).mono ?_
  rintro e w1 ⟨rfl, rfl⟩
  go_wp2_with fail
  refine (c1 _).mono ?_
  rintro e w1 ⟨rfl, rfl⟩
  go_wp2_with fail
  refine (c2 _).mono ?_
  rintro e w1 ⟨rfl, rfl⟩
  go_wp2_with fail
  refine (c3 _).mono ?_
  rintro e w1 ⟨rfl, rfl⟩
  go_wp2_with fail
  refine (c4 _).mono ?_
  rintro e w1 ⟨rfl, rfl⟩
  go_wp2
  go_ret
  exact ⟨rfl, rfl⟩

set_option maxRecDepth 100000 in
set_option maxHeartbeats 4000000 in
theorem order_lt0 (a b c d e f : Int) (ha : fits a = true) (hb : fits b = true) (hc : fits c = true) (hd : fits d = true) (he : fits e = true) (hf : fits f = true) (x1 x2 y1 y2 : Nat) (Z L : Value) (cx_ : ∀ w, Calls Try.prog 10 #[.int .i64 a, .int .i64 b] w fun e w' => e = .returned (cx x1 x2) ∧ w' = w) (cy_ : ∀ w, Calls Try.prog 10 #[.int .i64 c, .int .i64 d] w fun e w' => e = .returned (cx y1 y2) ∧ w' = w) (cz_ : ∀ w, Calls Try.prog 10 #[.int .i64 e, .int .i64 f] w fun e w' => e = .returned (Z) ∧ w' = w) (cl : ∀ w, Calls Try.prog 18 #[cx x1 x2, cx y1 y2] w fun e w' => e = .returned (L) ∧ w' = w) (cLX : ∀ w, Calls Try.prog 16 #[L, cx x1 x2] w fun e w' => e = .returned (.bool false) ∧ w' = w) (cLY : ∀ w, Calls Try.prog 16 #[L, cx y1 y2] w fun e w' => e = .returned (.bool false) ∧ w' = w) (cxy : ∀ w, Calls Try.prog 16 #[cx x1 x2, cx y1 y2] w fun e w' => e = .returned (.bool true) ∧ w' = w) (cyx : ∀ w, Calls Try.prog 16 #[cx y1 y2, cx x1 x2] w fun e w' => e = .returned (.bool false) ∧ w' = w) (cyz : ∀ w, Calls Try.prog 16 #[cx y1 y2, Z] w fun e w' => e = .returned (.bool false) ∧ w' = w) (hE : ∀ W, (binOp .eql 25 (cx x1 x2) (cx y1 y2)).run Try.prog W = .ok (.bool false) W) (w : World) :
    Calls Try.prog 6 #[.int .i64 a, .int .i64 b, .int .i64 c, .int .i64 d, .int .i64 e, .int .i64 f] w fun e w' => e = .returned (.bool true) ∧ w' = w := by
  go_enter Try.func6, Try.ntmps6
  go_wp2_with fail
  refine (fits_yes _ ha _).mono ?_
  rintro e w1 ⟨rfl, rfl⟩
  go_wp2_with fail
  refine (fits_yes _ hb _).mono ?_
  rintro e w1 ⟨rfl, rfl⟩
  go_wp2_with fail
  refine (fits_yes _ hc _).mono ?_
  rintro e w1 ⟨rfl, rfl⟩
  go_wp2_with fail
  refine (fits_yes _ hd _).mono ?_
  rintro e w1 ⟨rfl, rfl⟩
  go_wp2_with fail
  refine (fits_yes _ he _).mono ?_
  rintro e w1 ⟨rfl, rfl⟩
  go_wp2_with fail
  refine (fits_yes _ hf _).mono ?_
  rintro e w1 ⟨rfl, rfl⟩
  go_wp2_with fail
  refine (cx_ _).mono ?_
  rintro e w1 ⟨rfl, rfl⟩
  go_wp2_with fail
  refine (cy_ _).mono ?_
  rintro e w1 ⟨rfl, rfl⟩
  go_wp2_with fail
  refine (cz_ _).mono ?_
  rintro e w1 ⟨rfl, rfl⟩
  go_wp2_with fail
  refine (cxy _).mono ?_
  rintro e w1 ⟨rfl, rfl⟩
  go_wp2_with fail
  refine (cyx _).mono ?_
  rintro e w1 ⟨rfl, rfl⟩
  go_wp2_with fail
  refine (cxy _).mono ?_
  rintro e w1 ⟨rfl, rfl⟩
  go_wp2_with fail
  refine (cyz _).mono ?_
  rintro e w1 ⟨rfl, rfl⟩
  go_wp2_with fail
  refine (awake_calls _).mono ?_
  rintro e w1 ⟨rfl, rfl⟩
  go_wp2_with fail
  refine (cl _).mono ?_
  rintro e w1 ⟨rfl, rfl⟩
  go_wp2_with fail
  refine (cLX _).mono ?_
  rintro e w1 ⟨rfl, rfl⟩
  go_wp2_with fail
  refine (cl _).mono ?_
  rintro e w1 ⟨rfl, rfl⟩
  go_wp2_with fail
  refine (cLY _).mono ?_
  rintro e w1 ⟨rfl, rfl⟩
  go_wp2
  go_ret
  exact ⟨rfl, rfl⟩
set_option maxRecDepth 100000 in
set_option maxHeartbeats 4000000 in
theorem order_lt1 (a b c d e f : Int) (ha : fits a = true) (hb : fits b = true) (hc : fits c = true) (hd : fits d = true) (he : fits e = true) (hf : fits f = true) (x1 x2 y1 y2 : Nat) (Z L : Value) (cx_ : ∀ w, Calls Try.prog 10 #[.int .i64 a, .int .i64 b] w fun e w' => e = .returned (cx x1 x2) ∧ w' = w) (cy_ : ∀ w, Calls Try.prog 10 #[.int .i64 c, .int .i64 d] w fun e w' => e = .returned (cx y1 y2) ∧ w' = w) (cz_ : ∀ w, Calls Try.prog 10 #[.int .i64 e, .int .i64 f] w fun e w' => e = .returned (Z) ∧ w' = w) (cl : ∀ w, Calls Try.prog 18 #[cx x1 x2, cx y1 y2] w fun e w' => e = .returned (L) ∧ w' = w) (cLX : ∀ w, Calls Try.prog 16 #[L, cx x1 x2] w fun e w' => e = .returned (.bool false) ∧ w' = w) (cLY : ∀ w, Calls Try.prog 16 #[L, cx y1 y2] w fun e w' => e = .returned (.bool false) ∧ w' = w) (cxy : ∀ w, Calls Try.prog 16 #[cx x1 x2, cx y1 y2] w fun e w' => e = .returned (.bool true) ∧ w' = w) (cyx : ∀ w, Calls Try.prog 16 #[cx y1 y2, cx x1 x2] w fun e w' => e = .returned (.bool false) ∧ w' = w) (cyz : ∀ w, Calls Try.prog 16 #[cx y1 y2, Z] w fun e w' => e = .returned (.bool true) ∧ w' = w) (cxz : ∀ w, Calls Try.prog 16 #[cx x1 x2, Z] w fun e w' => e = .returned (.bool true) ∧ w' = w) (hE : ∀ W, (binOp .eql 25 (cx x1 x2) (cx y1 y2)).run Try.prog W = .ok (.bool false) W) (w : World) :
    Calls Try.prog 6 #[.int .i64 a, .int .i64 b, .int .i64 c, .int .i64 d, .int .i64 e, .int .i64 f] w fun e w' => e = .returned (.bool true) ∧ w' = w := by
  go_enter Try.func6, Try.ntmps6
  go_wp2_with fail
  refine (fits_yes _ ha _).mono ?_
  rintro e w1 ⟨rfl, rfl⟩
  go_wp2_with fail
  refine (fits_yes _ hb _).mono ?_
  rintro e w1 ⟨rfl, rfl⟩
  go_wp2_with fail
  refine (fits_yes _ hc _).mono ?_
  rintro e w1 ⟨rfl, rfl⟩
  go_wp2_with fail
  refine (fits_yes _ hd _).mono ?_
  rintro e w1 ⟨rfl, rfl⟩
  go_wp2_with fail
  refine (fits_yes _ he _).mono ?_
  rintro e w1 ⟨rfl, rfl⟩
  go_wp2_with fail
  refine (fits_yes _ hf _).mono ?_
  rintro e w1 ⟨rfl, rfl⟩
  go_wp2_with fail
  refine (cx_ _).mono ?_
  rintro e w1 ⟨rfl, rfl⟩
  go_wp2_with fail
  refine (cy_ _).mono ?_
  rintro e w1 ⟨rfl, rfl⟩
  go_wp2_with fail
  refine (cz_ _).mono ?_
  rintro e w1 ⟨rfl, rfl⟩
  go_wp2_with fail
  refine (cxy _).mono ?_
  rintro e w1 ⟨rfl, rfl⟩
  go_wp2_with fail
  refine (cyx _).mono ?_
  rintro e w1 ⟨rfl, rfl⟩
  go_wp2_with fail
  refine (cxy _).mono ?_
  rintro e w1 ⟨rfl, rfl⟩
  go_wp2_with fail
  refine (cyz _).mono ?_
  rintro e w1 ⟨rfl, rfl⟩
  go_wp2_with fail
  refine (cxz _).mono ?_
  rintro e w1 ⟨rfl, rfl⟩
  go_wp2_with fail
  refine (awake_calls _).mono ?_
  rintro e w1 ⟨rfl, rfl⟩
  go_wp2_with fail
  refine (cl _).mono ?_
  rintro e w1 ⟨rfl, rfl⟩
  go_wp2_with fail
  refine (cLX _).mono ?_
  rintro e w1 ⟨rfl, rfl⟩
  go_wp2_with fail
  refine (cl _).mono ?_
  rintro e w1 ⟨rfl, rfl⟩
  go_wp2_with fail
  refine (cLY _).mono ?_
  rintro e w1 ⟨rfl, rfl⟩
  go_wp2
  go_ret
  exact ⟨rfl, rfl⟩
set_option maxRecDepth 100000 in
set_option maxHeartbeats 4000000 in
theorem order_gt (a b c d e f : Int) (ha : fits a = true) (hb : fits b = true) (hc : fits c = true) (hd : fits d = true) (he : fits e = true) (hf : fits f = true) (x1 x2 y1 y2 : Nat) (Z L : Value) (cx_ : ∀ w, Calls Try.prog 10 #[.int .i64 a, .int .i64 b] w fun e w' => e = .returned (cx x1 x2) ∧ w' = w) (cy_ : ∀ w, Calls Try.prog 10 #[.int .i64 c, .int .i64 d] w fun e w' => e = .returned (cx y1 y2) ∧ w' = w) (cz_ : ∀ w, Calls Try.prog 10 #[.int .i64 e, .int .i64 f] w fun e w' => e = .returned (Z) ∧ w' = w) (cl : ∀ w, Calls Try.prog 18 #[cx x1 x2, cx y1 y2] w fun e w' => e = .returned (L) ∧ w' = w) (cLX : ∀ w, Calls Try.prog 16 #[L, cx x1 x2] w fun e w' => e = .returned (.bool false) ∧ w' = w) (cLY : ∀ w, Calls Try.prog 16 #[L, cx y1 y2] w fun e w' => e = .returned (.bool false) ∧ w' = w) (cxy : ∀ w, Calls Try.prog 16 #[cx x1 x2, cx y1 y2] w fun e w' => e = .returned (.bool false) ∧ w' = w) (cyx : ∀ w, Calls Try.prog 16 #[cx y1 y2, cx x1 x2] w fun e w' => e = .returned (.bool true) ∧ w' = w) (hE : ∀ W, (binOp .eql 25 (cx x1 x2) (cx y1 y2)).run Try.prog W = .ok (.bool false) W) (w : World) :
    Calls Try.prog 6 #[.int .i64 a, .int .i64 b, .int .i64 c, .int .i64 d, .int .i64 e, .int .i64 f] w fun e w' => e = .returned (.bool true) ∧ w' = w := by
  go_enter Try.func6, Try.ntmps6
  go_wp2_with fail
  refine (fits_yes _ ha _).mono ?_
  rintro e w1 ⟨rfl, rfl⟩
  go_wp2_with fail
  refine (fits_yes _ hb _).mono ?_
  rintro e w1 ⟨rfl, rfl⟩
  go_wp2_with fail
  refine (fits_yes _ hc _).mono ?_
  rintro e w1 ⟨rfl, rfl⟩
  go_wp2_with fail
  refine (fits_yes _ hd _).mono ?_
  rintro e w1 ⟨rfl, rfl⟩
  go_wp2_with fail
  refine (fits_yes _ he _).mono ?_
  rintro e w1 ⟨rfl, rfl⟩
  go_wp2_with fail
  refine (fits_yes _ hf _).mono ?_
  rintro e w1 ⟨rfl, rfl⟩
  go_wp2_with fail
  refine (cx_ _).mono ?_
  rintro e w1 ⟨rfl, rfl⟩
  go_wp2_with fail
  refine (cy_ _).mono ?_
  rintro e w1 ⟨rfl, rfl⟩
  go_wp2_with fail
  refine (cz_ _).mono ?_
  rintro e w1 ⟨rfl, rfl⟩
  go_wp2_with fail
  refine (cxy _).mono ?_
  rintro e w1 ⟨rfl, rfl⟩
  go_wp2_with fail
  refine (cyx _).mono ?_
  rintro e w1 ⟨rfl, rfl⟩
  go_wp2_with fail
  refine (cxy _).mono ?_
  rintro e w1 ⟨rfl, rfl⟩
  go_wp2_with fail
  refine (awake_calls _).mono ?_
  rintro e w1 ⟨rfl, rfl⟩
  go_wp2_with fail
  refine (cl _).mono ?_
  rintro e w1 ⟨rfl, rfl⟩
  go_wp2_with fail
  refine (cLX _).mono ?_
  rintro e w1 ⟨rfl, rfl⟩
  go_wp2_with fail
  refine (cl _).mono ?_
  rintro e w1 ⟨rfl, rfl⟩
  go_wp2_with fail
  refine (cLY _).mono ?_
  rintro e w1 ⟨rfl, rfl⟩
  go_wp2
  go_ret
  exact ⟨rfl, rfl⟩
set_option maxRecDepth 100000 in
set_option maxHeartbeats 4000000 in
theorem order_eq (a b c d e f : Int) (ha : fits a = true) (hb : fits b = true) (hc : fits c = true) (hd : fits d = true) (he : fits e = true) (hf : fits f = true) (x1 x2 y1 y2 : Nat) (Z L : Value) (cx_ : ∀ w, Calls Try.prog 10 #[.int .i64 a, .int .i64 b] w fun e w' => e = .returned (cx x1 x2) ∧ w' = w) (cy_ : ∀ w, Calls Try.prog 10 #[.int .i64 c, .int .i64 d] w fun e w' => e = .returned (cx y1 y2) ∧ w' = w) (cz_ : ∀ w, Calls Try.prog 10 #[.int .i64 e, .int .i64 f] w fun e w' => e = .returned (Z) ∧ w' = w) (cl : ∀ w, Calls Try.prog 18 #[cx x1 x2, cx y1 y2] w fun e w' => e = .returned (L) ∧ w' = w) (cLX : ∀ w, Calls Try.prog 16 #[L, cx x1 x2] w fun e w' => e = .returned (.bool false) ∧ w' = w) (cLY : ∀ w, Calls Try.prog 16 #[L, cx y1 y2] w fun e w' => e = .returned (.bool false) ∧ w' = w) (cxy : ∀ w, Calls Try.prog 16 #[cx x1 x2, cx y1 y2] w fun e w' => e = .returned (.bool false) ∧ w' = w) (cyx : ∀ w, Calls Try.prog 16 #[cx y1 y2, cx x1 x2] w fun e w' => e = .returned (.bool false) ∧ w' = w) (hE : ∀ W, (binOp .eql 25 (cx x1 x2) (cx y1 y2)).run Try.prog W = .ok (.bool true) W) (w : World) :
    Calls Try.prog 6 #[.int .i64 a, .int .i64 b, .int .i64 c, .int .i64 d, .int .i64 e, .int .i64 f] w fun e w' => e = .returned (.bool true) ∧ w' = w := by
  go_enter Try.func6, Try.ntmps6
  go_wp2_with fail
  refine (fits_yes _ ha _).mono ?_
  rintro e w1 ⟨rfl, rfl⟩
  go_wp2_with fail
  refine (fits_yes _ hb _).mono ?_
  rintro e w1 ⟨rfl, rfl⟩
  go_wp2_with fail
  refine (fits_yes _ hc _).mono ?_
  rintro e w1 ⟨rfl, rfl⟩
  go_wp2_with fail
  refine (fits_yes _ hd _).mono ?_
  rintro e w1 ⟨rfl, rfl⟩
  go_wp2_with fail
  refine (fits_yes _ he _).mono ?_
  rintro e w1 ⟨rfl, rfl⟩
  go_wp2_with fail
  refine (fits_yes _ hf _).mono ?_
  rintro e w1 ⟨rfl, rfl⟩
  go_wp2_with fail
  refine (cx_ _).mono ?_
  rintro e w1 ⟨rfl, rfl⟩
  go_wp2_with fail
  refine (cy_ _).mono ?_
  rintro e w1 ⟨rfl, rfl⟩
  go_wp2_with fail
  refine (cz_ _).mono ?_
  rintro e w1 ⟨rfl, rfl⟩
  go_wp2_with fail
  refine (cxy _).mono ?_
  rintro e w1 ⟨rfl, rfl⟩
  go_wp2_with fail
  refine (cyx _).mono ?_
  rintro e w1 ⟨rfl, rfl⟩
  go_wp2_with fail
  refine (cxy _).mono ?_
  rintro e w1 ⟨rfl, rfl⟩
  go_wp2_with fail
  refine (awake_calls _).mono ?_
  rintro e w1 ⟨rfl, rfl⟩
  go_wp2_with fail
  refine (cl _).mono ?_
  rintro e w1 ⟨rfl, rfl⟩
  go_wp2_with fail
  refine (cLX _).mono ?_
  rintro e w1 ⟨rfl, rfl⟩
  go_wp2_with fail
  refine (cl _).mono ?_
  rintro e w1 ⟨rfl, rfl⟩
  go_wp2_with fail
  refine (cLY _).mono ?_
  rintro e w1 ⟨rfl, rfl⟩
  go_wp2
  go_ret
  exact ⟨rfl, rfl⟩
theorem V_eq (a b c d : Nat) (ha : a < 2 ^ 53) (hb : b < 2 ^ 53) (hc : c < 2 ^ 53) (hd : d < 2 ^ 53) (W : World) : (binOp .eql 25 (V a b) (V c d)).run Try.prog W = .ok (.bool (decide (a = c) && decide (b = d))) W := by
  rw [run_eql_complex, ord_eq a c ha hc, ord_eq b d hb hd]

set_option maxRecDepth 100000 in
set_option maxHeartbeats 4000000 in
theorem verOrder_calls (a b c d e f : Int) (w : World) : Calls Try.prog 6 #[.int .i64 a, .int .i64 b, .int .i64 c, .int .i64 d, .int .i64 e, .int .i64 f] w fun e w' => e = .returned (.bool true) ∧ w' = w := by
  by_cases ha : fits a = true
  rotate_left
  · have ga := bool_no ha
    go_enter Try.func6, Try.ntmps6
    go_wp2_with fail
    refine (fits_no _ ga _).mono ?_
    rintro e w1 ⟨rfl, rfl⟩
    go_wp2_with fail
    refine (awake_calls _).mono ?_
    rintro e w1 ⟨rfl, rfl⟩
    go_wp2
    go_ret
    exact ⟨rfl, rfl⟩
  by_cases hb : fits b = true
  rotate_left
  · have gb := bool_no hb
    go_enter Try.func6, Try.ntmps6
    go_wp2_with fail
    refine (fits_yes _ ha _).mono ?_
    rintro e w1 ⟨rfl, rfl⟩
    go_wp2_with fail
    refine (fits_no _ gb _).mono ?_
    rintro e w1 ⟨rfl, rfl⟩
    go_wp2_with fail
    refine (awake_calls _).mono ?_
    rintro e w1 ⟨rfl, rfl⟩
    go_wp2
    go_ret
    exact ⟨rfl, rfl⟩
  by_cases hc : fits c = true
  rotate_left
  · have gc := bool_no hc
    go_enter Try.func6, Try.ntmps6
    go_wp2_with fail
    refine (fits_yes _ ha _).mono ?_
    rintro e w1 ⟨rfl, rfl⟩
    go_wp2_with fail
    refine (fits_yes _ hb _).mono ?_
    rintro e w1 ⟨rfl, rfl⟩
    go_wp2_with fail
    refine (fits_no _ gc _).mono ?_
    rintro e w1 ⟨rfl, rfl⟩
    go_wp2_with fail
    refine (awake_calls _).mono ?_
    rintro e w1 ⟨rfl, rfl⟩
    go_wp2
    go_ret
    exact ⟨rfl, rfl⟩
  by_cases hd : fits d = true
  rotate_left
  · have gd := bool_no hd
    go_enter Try.func6, Try.ntmps6
    go_wp2_with fail
    refine (fits_yes _ ha _).mono ?_
    rintro e w1 ⟨rfl, rfl⟩
    go_wp2_with fail
    refine (fits_yes _ hb _).mono ?_
    rintro e w1 ⟨rfl, rfl⟩
    go_wp2_with fail
    refine (fits_yes _ hc _).mono ?_
    rintro e w1 ⟨rfl, rfl⟩
    go_wp2_with fail
    refine (fits_no _ gd _).mono ?_
    rintro e w1 ⟨rfl, rfl⟩
    go_wp2_with fail
    refine (awake_calls _).mono ?_
    rintro e w1 ⟨rfl, rfl⟩
    go_wp2
    go_ret
    exact ⟨rfl, rfl⟩
  by_cases he : fits e = true
  rotate_left
  · have ge := bool_no he
    go_enter Try.func6, Try.ntmps6
    go_wp2_with fail
    refine (fits_yes _ ha _).mono ?_
    rintro e w1 ⟨rfl, rfl⟩
    go_wp2_with fail
    refine (fits_yes _ hb _).mono ?_
    rintro e w1 ⟨rfl, rfl⟩
    go_wp2_with fail
    refine (fits_yes _ hc _).mono ?_
    rintro e w1 ⟨rfl, rfl⟩
    go_wp2_with fail
    refine (fits_yes _ hd _).mono ?_
    rintro e w1 ⟨rfl, rfl⟩
    go_wp2_with fail
    refine (fits_no _ ge _).mono ?_
    rintro e w1 ⟨rfl, rfl⟩
    go_wp2_with fail
    refine (awake_calls _).mono ?_
    rintro e w1 ⟨rfl, rfl⟩
    go_wp2
    go_ret
    exact ⟨rfl, rfl⟩
  by_cases hf : fits f = true
  rotate_left
  · have gf := bool_no hf
    go_enter Try.func6, Try.ntmps6
    go_wp2_with fail
    refine (fits_yes _ ha _).mono ?_
    rintro e w1 ⟨rfl, rfl⟩
    go_wp2_with fail
    refine (fits_yes _ hb _).mono ?_
    rintro e w1 ⟨rfl, rfl⟩
    go_wp2_with fail
    refine (fits_yes _ hc _).mono ?_
    rintro e w1 ⟨rfl, rfl⟩
    go_wp2_with fail
    refine (fits_yes _ hd _).mono ?_
    rintro e w1 ⟨rfl, rfl⟩
    go_wp2_with fail
    refine (fits_yes _ he _).mono ?_
    rintro e w1 ⟨rfl, rfl⟩
    go_wp2_with fail
    refine (fits_no _ gf _).mono ?_
    rintro e w1 ⟨rfl, rfl⟩
    go_wp2_with fail
    refine (awake_calls _).mono ?_
    rintro e w1 ⟨rfl, rfl⟩
    go_wp2
    go_ret
    exact ⟨rfl, rfl⟩
  obtain ⟨na, ea, ba⟩ := fits_nat a ha
  obtain ⟨nb, eb, bb⟩ := fits_nat b hb
  obtain ⟨nc, ec, bc⟩ := fits_nat c hc
  obtain ⟨nd, ed, bd⟩ := fits_nat d hd
  obtain ⟨ne, ee, be⟩ := fits_nat e he
  obtain ⟨nf, ef, bf⟩ := fits_nat f hf
  subst ea
  subst eb
  subst ec
  subst ed
  subst ee
  subst ef
  have cxy := fun w => ahead_nat na nb nc nd (by omega) (by omega) (by omega) (by omega) w
  have cyx := fun w => ahead_nat nc nd na nb (by omega) (by omega) (by omega) (by omega) w
  have cyz := fun w => ahead_nat nc nd ne nf (by omega) (by omega) (by omega) (by omega) w
  have cxz := fun w => ahead_nat na nb ne nf (by omega) (by omega) (by omega) (by omega) w
  have cxx := fun w => ahead_nat na nb na nb (by omega) (by omega) (by omega) (by omega) w
  have cyy := fun w => ahead_nat nc nd nc nd (by omega) (by omega) (by omega) (by omega) w
  rw [ahead_self] at cxx cyy
  have cl := fun w => later_nat na nb nc nd (by omega) (by omega) (by omega) (by omega) w
  have hE := fun W => V_eq na nb nc nd (by omega) (by omega) (by omega) (by omega) W
  have mk := fun a b w => make_nat a b w
  by_cases p : aheadV na nb nc nd = true
  · have q := ahead_no _ _ _ _ p
    have hne : (decide (na = nc) && decide (nb = nd)) = false := by
      rcases hv : (decide (na = nc) && decide (nb = nd)) with _ | _
      · rfl
      · simp only [Bool.and_eq_true, decide_eq_true_eq] at hv; obtain ⟨h1, h2⟩ := hv; subst h1; subst h2; rw [ahead_self] at p; cases p
    rw [p] at cxy
    rw [q] at cyx cl
    rw [hne] at hE
    by_cases r : aheadV nc nd ne nf = true
    · rw [r] at cyz
      rw [ahead_trans _ _ _ _ _ _ p r] at cxz
      exact order_lt1 _ _ _ _ _ _ ha hb hc hd he hf _ _ _ _ _ _ (fun w => make_nat na nb w) (fun w => make_nat nc nd w) (fun w => make_nat ne nf w) cl cyx cyy cxy cyx cyz cxz hE w
    · rw [bool_no r] at cyz
      exact order_lt0 _ _ _ _ _ _ ha hb hc hd he hf _ _ _ _ _ _ (fun w => make_nat na nb w) (fun w => make_nat nc nd w) (fun w => make_nat ne nf w) cl cyx cyy cxy cyx cyz hE w
  · have p' := bool_no p
    rw [p'] at cxy
    by_cases q : aheadV nc nd na nb = true
    · have hne : (decide (na = nc) && decide (nb = nd)) = false := by
        rcases hv : (decide (na = nc) && decide (nb = nd)) with _ | _
        · rfl
        · simp only [Bool.and_eq_true, decide_eq_true_eq] at hv; obtain ⟨h1, h2⟩ := hv; subst h1; subst h2; rw [ahead_self] at q; cases q
      rw [q] at cyx cl
      rw [hne] at hE
      exact order_gt _ _ _ _ _ _ ha hb hc hd he hf _ _ _ _ _ _ (fun w => make_nat na nb w) (fun w => make_nat nc nd w) (fun w => make_nat ne nf w) cl cxx cxy cxy cyx hE w
    · have q' := bool_no q
      rw [q'] at cyx cl
      obtain ⟨h1, h2⟩ := ahead_none _ _ _ _ p' q'
      rw [show (decide (na = nc) && decide (nb = nd)) = true by rw [decide_eq_true h1, decide_eq_true h2]; rfl] at hE
      exact order_eq _ _ _ _ _ _ ha hb hc hd he hf _ _ _ _ _ _ (fun w => make_nat na nb w) (fun w => make_nat nc nd w) (fun w => make_nat ne nf w) cl cyx cyy cxy cyx hE w

set_option maxRecDepth 100000 in
set_option maxHeartbeats 4000000 in
theorem next_main (a b c : Int) (ha : fits a = true) (hb : fits b = true) (hc : fits c = true) (h1 : decide (c < a) = false) (h2 : (b == 1099511627776) = false) (X : Value) (y1 y2 : Nat) (o1 : FloatKind.f64.format.order y1 y1 = some .eq) (o2 : FloatKind.f64.format.order y2 y2 = some .eq) (c0 : ∀ w, Calls Try.prog 10 #[.int .i64 a, .int .i64 b] w fun e w' => e = .returned (X) ∧ w' = w) (c1 : ∀ w, Calls Try.prog 20 #[X, .int .i64 c] w fun e w' => e = .returned (cx y1 y2) ∧ w' = w) (c4 : ∀ w, Calls Try.prog 11 #[.int .i64 c, .int .i64 (wrap64 (b + 1))] w fun e w' => e = .returned (cx y1 y2) ∧ w' = w) (c2 : ∀ w, Calls Try.prog 16 #[X, cx y1 y2] w fun e w' => e = .returned (.bool true) ∧ w' = w) (c3 : ∀ w, Calls Try.prog 16 #[cx y1 y2, X] w fun e w' => e = .returned (.bool false) ∧ w' = w) (w : World) :
    Calls Try.prog 7 #[.int .i64 a, .int .i64 b, .int .i64 c] w fun e w' => e = .returned (.bool true) ∧ w' = w := by
  go_enter Try.func7, Try.ntmps7
  go_wp2_with fail
  refine (fits_yes _ ha _).mono ?_
  rintro e w1 ⟨rfl, rfl⟩
  go_wp2_with fail
  refine (fits_yes _ hb _).mono ?_
  rintro e w1 ⟨rfl, rfl⟩
  go_wp2_with fail
  refine (fits_yes _ hc _).mono ?_
  rintro e w1 ⟨rfl, rfl⟩
  go_wp2_with fail
  refine (c0 _).mono ?_
  rintro e w1 ⟨rfl, rfl⟩
  go_wp2_with fail
  refine (c1 _).mono ?_
  rintro e w1 ⟨rfl, rfl⟩
  go_wp2_with fail
  refine (awake_calls _).mono ?_
  rintro e w1 ⟨rfl, rfl⟩
  go_wp2_with fail
  refine (c4 _).mono ?_
  rintro e w1 ⟨rfl, rfl⟩
  go_wp2_with fail
  refine (c2 _).mono ?_
  rintro e w1 ⟨rfl, rfl⟩
  go_wp2_with fail
  refine (c3 _).mono ?_
  rintro e w1 ⟨rfl, rfl⟩
  go_wp2
  go_ret
  exact ⟨rfl, rfl⟩
set_option maxRecDepth 100000 in
set_option maxHeartbeats 4000000 in
theorem verNext_calls (a b c : Int) (w : World) : Calls Try.prog 7 #[.int .i64 a, .int .i64 b, .int .i64 c] w fun e w' => e = .returned (.bool true) ∧ w' = w := by
  by_cases ha : fits a = true
  rotate_left
  · have ga := bool_no ha
    go_enter Try.func7, Try.ntmps7
    go_wp2_with fail
    refine (fits_no _ ga _).mono ?_
    rintro e w1 ⟨rfl, rfl⟩
    go_wp2_with fail
    refine (awake_calls _).mono ?_
    rintro e w1 ⟨rfl, rfl⟩
    go_wp2
    go_ret
    exact ⟨rfl, rfl⟩
  by_cases hb : fits b = true
  rotate_left
  · have gb := bool_no hb
    go_enter Try.func7, Try.ntmps7
    go_wp2_with fail
    refine (fits_yes _ ha _).mono ?_
    rintro e w1 ⟨rfl, rfl⟩
    go_wp2_with fail
    refine (fits_no _ gb _).mono ?_
    rintro e w1 ⟨rfl, rfl⟩
    go_wp2_with fail
    refine (awake_calls _).mono ?_
    rintro e w1 ⟨rfl, rfl⟩
    go_wp2
    go_ret
    exact ⟨rfl, rfl⟩
  by_cases hc : fits c = true
  rotate_left
  · have gc := bool_no hc
    go_enter Try.func7, Try.ntmps7
    go_wp2_with fail
    refine (fits_yes _ ha _).mono ?_
    rintro e w1 ⟨rfl, rfl⟩
    go_wp2_with fail
    refine (fits_yes _ hb _).mono ?_
    rintro e w1 ⟨rfl, rfl⟩
    go_wp2_with fail
    refine (fits_no _ gc _).mono ?_
    rintro e w1 ⟨rfl, rfl⟩
    go_wp2_with fail
    refine (awake_calls _).mono ?_
    rintro e w1 ⟨rfl, rfl⟩
    go_wp2
    go_ret
    exact ⟨rfl, rfl⟩
  by_cases h1 : decide (c < a) = true
  · go_enter Try.func7, Try.ntmps7
    go_wp2_with fail
    refine (fits_yes _ ha _).mono ?_
    rintro e w1 ⟨rfl, rfl⟩
    go_wp2_with fail
    refine (fits_yes _ hb _).mono ?_
    rintro e w1 ⟨rfl, rfl⟩
    go_wp2_with fail
    refine (fits_yes _ hc _).mono ?_
    rintro e w1 ⟨rfl, rfl⟩
    go_wp2_with fail
    refine (awake_calls _).mono ?_
    rintro e w1 ⟨rfl, rfl⟩
    go_wp2
    go_ret
    exact ⟨rfl, rfl⟩
  replace h1 := bool_no h1
  by_cases h2 : (b == 1099511627776) = true
  · go_enter Try.func7, Try.ntmps7
    go_wp2_with fail
    refine (fits_yes _ ha _).mono ?_
    rintro e w1 ⟨rfl, rfl⟩
    go_wp2_with fail
    refine (fits_yes _ hb _).mono ?_
    rintro e w1 ⟨rfl, rfl⟩
    go_wp2_with fail
    refine (fits_yes _ hc _).mono ?_
    rintro e w1 ⟨rfl, rfl⟩
    go_wp2_with fail
    refine (awake_calls _).mono ?_
    rintro e w1 ⟨rfl, rfl⟩
    go_wp2
    go_ret
    exact ⟨rfl, rfl⟩
  replace h2 := bool_no h2
  obtain ⟨na, ea, ba⟩ := fits_nat a ha
  obtain ⟨nb, eb, bb⟩ := fits_nat b hb
  obtain ⟨nc, ec, bc⟩ := fits_nat c hc
  subst ea
  subst eb
  subst ec
  have g1 : na ≤ nc := by have := of_decide_eq_false h1; omega
  have g2 : nb ≠ 1099511627776 := by have := beq_eq_false_iff_ne.1 h2; omega
  have hw : wrap64 ((nb : Int) + 1) = ((nb + 1 : Nat) : Int) := by unfold wrap64; omega
  have o1 : FloatKind.f64.format.order (F nc) (F nc) = some .eq := by rw [ord nc nc (by omega) (by omega), ncmp_eq]
  have o2 : FloatKind.f64.format.order (F (nb + 1)) (F (nb + 1)) = some .eq := by rw [ord (nb + 1) (nb + 1) (by omega) (by omega), ncmp_eq]
  have p : aheadV na nb nc (nb + 1) = true := by
    unfold aheadV
    by_cases e : na = nc
    · rw [if_pos e]; exact decide_eq_true (by omega)
    · rw [if_neg e]; exact decide_eq_true (by omega)
  have q := ahead_no _ _ _ _ p
  have c1 := fun w => next_nat na nb nc g1 (by omega) (by omega) w
  have c2 := fun w => ahead_nat na nb nc (nb + 1) (by omega) (by omega) (by omega) (by omega) w
  have c3 := fun w => ahead_nat nc (nb + 1) na nb (by omega) (by omega) (by omega) (by omega) w
  have c4 := fun w => refMake_nat nc (nb + 1) w
  rw [← hw] at c4
  rw [p] at c2
  rw [q] at c3
  exact next_main _ _ _ ha hb hc h1 h2 _ _ _ o1 o2 (fun w => make_nat na nb w) c1 c4 c2 c3 w
end Go.Proofs.Ytcoiiakjmollbaa.VerLaws
