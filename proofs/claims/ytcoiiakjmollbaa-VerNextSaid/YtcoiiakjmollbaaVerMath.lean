import Ieee.Arith
/-
What whole numbers become as double words, in plain arithmetic: their words are read as what was written, they are held against one another as whole numbers are, and sums and differences are those of the whole numbers. No conditions besides the bounds in each statement.
-/
namespace Go.Proofs.Ytcoiiakjmollbaa.VerMath
open Ieee

/-- the word of a whole number -/
def F (n : Nat) : Nat := double.write (.number false n 0)

/-- the word of a whole number, told by its first digit's place -/
def G (n : Nat) : Nat := if n = 0 then 0 else (n.log2 + 1022) * 2 ^ 52 + n * 2 ^ (52 - n.log2)

theorem log2_mul_pow (n M : Nat) (h : n ≠ 0) : (n * 2 ^ M).log2 = n.log2 + M := by
  rw [Nat.log2_eq_iff (by have := Nat.two_pow_pos M; have : 0 < n * 2 ^ M := Nat.mul_pos (Nat.pos_of_ne_zero h) this; omega)]
  constructor
  · rw [Nat.pow_add]; exact Nat.mul_le_mul_right _ (Nat.log2_self_le h)
  · rw [show n.log2 + M + 1 = (n.log2 + 1) + M by omega, Nat.pow_add]
    exact Nat.mul_lt_mul_of_pos_right Nat.lt_log2_self (Nat.two_pow_pos M)

theorem log2_le (n : Nat) (h : n < 2 ^ 53) (h0 : n ≠ 0) : n.log2 ≤ 52 := by
  have := (Nat.log2_lt h0).2 h
  omega

theorem cut_even (n k : Nat) (j : Nat) (hj : j ≤ k) (hn : n ≠ 0) : Toward.even.cut false (n * 2 ^ k) j = n * 2 ^ (k - j) := by
  have hl := log2_mul_pow n k hn
  unfold Toward.cut
  simp only [hl]
  rw [Nat.min_eq_left (by omega), Nat.shiftLeft_eq, Nat.one_mul]
  have he : n * 2 ^ k = n * 2 ^ (k - j) * 2 ^ j := by rw [Nat.mul_assoc, ← Nat.pow_add, Nat.sub_add_cancel hj]
  rw [he, Nat.mul_div_cancel _ (Nat.two_pow_pos j), Nat.mul_mod_left]
  have h2 := Nat.two_pow_pos j
  have h3 : (2 ^ j == 2 * 0) = false := by rw [beq_eq_false_iff_ne]; omega
  simp [h3]

theorem near (n M : Nat) (h : n < 2 ^ 53) : double.nearest false (n * 2 ^ M) (-(M : Int)) = G n := by
  unfold G
  by_cases h0 : n = 0
  · subst h0
    rw [if_pos rfl, Nat.zero_mul]; rfl
  rw [if_neg h0]
  have hL := log2_le n h h0
  have hl := log2_mul_pow n M h0
  have hm : n * 2 ^ M ≠ 0 := by have := Nat.mul_pos (Nat.pos_of_ne_zero h0) (Nat.two_pow_pos M); omega
  unfold Format.nearest
  rw [if_neg hm]
  simp only [hl]
  have hlast : max (-(M : Int) + ((n.log2 + M : Nat) : Int) - (double.fractionBits : Nat)) double.leastPlace = (n.log2 : Int) - 52 := by
    have h1 : double.leastPlace = -1074 := by decide
    have h2 : double.fractionBits = 52 := rfl
    rw [h1, h2]; omega
  rw [hlast]
  have hkept : Toward.even.cut false ((n * 2 ^ M) <<< (-(M : Int) - ((n.log2 : Int) - 52)).toNat) ((n.log2 : Int) - 52 - -(M : Int)).toNat = n * 2 ^ (52 - n.log2) := by
    rw [Nat.shiftLeft_eq, Nat.mul_assoc, ← Nat.pow_add]
    rw [cut_even n _ _ (by omega) h0]
    congr 2
    omega
  rw [hkept]
  have h1 : ((n.log2 : Int) - 52 - double.leastPlace).toNat = n.log2 + 1022 := by
    have h1 : double.leastPlace = -1074 := by decide
    rw [h1]; omega
  have h2 : double.binade = 2 ^ 52 := by decide
  have h3 : double.infRung = 2047 * 2 ^ 52 := by decide
  rw [h1, h2, h3]
  have hk1 : n * 2 ^ (52 - n.log2) < 2 ^ 53 := by
    have := @Nat.lt_log2_self n
    have h4 : n * 2 ^ (52 - n.log2) < 2 ^ (n.log2 + 1) * 2 ^ (52 - n.log2) := Nat.mul_lt_mul_of_pos_right this (Nat.two_pow_pos _)
    rw [← Nat.pow_add, show n.log2 + 1 + (52 - n.log2) = 53 by omega] at h4
    exact h4
  unfold Format.word
  rw [if_neg (by simp)]
  generalize n * 2 ^ (52 - n.log2) = q at *
  rw [Nat.min_eq_left (by omega)]

theorem F_eq (n : Nat) (h : n < 2 ^ 53) : F n = G n := by
  have := near n 0 h
  rw [Nat.pow_zero, Nat.mul_one] at this
  exact this

theorem read_F (n : Nat) (h : n < 2 ^ 53) : ∃ k : Nat, double.read (F n) = .number false (n * 2 ^ k) (-(k : Int)) := by
  rw [F_eq n h]
  by_cases h0 : n = 0
  · subst h0
    obtain ⟨k, hk⟩ : ∃ k : Nat, (k : Int) = 1074 := ⟨1074, rfl⟩
    exact ⟨k, by rw [Nat.zero_mul, hk]; decide⟩
  refine ⟨52 - n.log2, ?_⟩
  unfold G
  rw [if_neg h0]
  have hL := log2_le n h h0
  have hk1 : n * 2 ^ (52 - n.log2) < 2 ^ 53 := by
    have := @Nat.lt_log2_self n
    have h4 : n * 2 ^ (52 - n.log2) < 2 ^ (n.log2 + 1) * 2 ^ (52 - n.log2) := Nat.mul_lt_mul_of_pos_right this (Nat.two_pow_pos _)
    rw [← Nat.pow_add, show n.log2 + 1 + (52 - n.log2) = 53 by omega] at h4
    exact h4
  have hk2 : 2 ^ 52 ≤ n * 2 ^ (52 - n.log2) := by
    have := Nat.log2_self_le h0
    have h4 : 2 ^ n.log2 * 2 ^ (52 - n.log2) ≤ n * 2 ^ (52 - n.log2) := Nat.mul_le_mul_right _ this
    rw [← Nat.pow_add, show n.log2 + (52 - n.log2) = 52 by omega] at h4
    exact h4
  generalize n * 2 ^ (52 - n.log2) = q at *
  generalize n.log2 = L at *
  have h1 : double.leastPlace = -1074 := by decide
  have h2 : double.binade = 2 ^ 52 := by decide
  have h3 : double.infRung = 2047 * 2 ^ 52 := by decide
  have h4 : double.signWeight = 2 ^ 63 := by decide
  unfold Format.read
  simp only [h1, h2, h3, h4]
  have e1 : ((L + 1022) * 2 ^ 52 + q) / 2 ^ 63 % 2 = 0 := by omega
  have e2 : ((L + 1022) * 2 ^ 52 + q) % 2 ^ 63 = (L + 1022) * 2 ^ 52 + q := by omega
  have e3 : ((L + 1022) * 2 ^ 52 + q) / 2 ^ 52 = L + 1023 := by omega
  have e4 : 2 ^ 52 + ((L + 1022) * 2 ^ 52 + q) % 2 ^ 52 = q := by omega
  rw [e1, e2, if_neg (by omega), if_pos (by omega), e3, e4]
  have e5 : (-1074 + ((L + 1023 - 1 : Nat) : Int)) = -((52 - L : Nat) : Int) := by omega
  rw [e5]
  rfl

theorem icmp_lt {a b : Int} (h : a < b) : compare a b = .lt := by show compareOfLessAndEq a b = _; unfold compareOfLessAndEq; rw [if_pos h]
theorem icmp_eq (a : Int) : compare a a = .eq := by show compareOfLessAndEq a a = _; unfold compareOfLessAndEq; rw [if_neg (Int.lt_irrefl a), if_pos rfl]
theorem icmp_gt {a b : Int} (h : b < a) : compare a b = .gt := by show compareOfLessAndEq a b = _; unfold compareOfLessAndEq; rw [if_neg (by omega), if_neg (by omega)]
theorem ncmp_lt {a b : Nat} (h : a < b) : compare a b = .lt := by show compareOfLessAndEq a b = _; unfold compareOfLessAndEq; rw [if_pos h]
theorem ncmp_eq (a : Nat) : compare a a = .eq := by show compareOfLessAndEq a a = _; unfold compareOfLessAndEq; rw [if_neg (Nat.lt_irrefl a), if_pos rfl]
theorem ncmp_gt {a b : Nat} (h : b < a) : compare a b = .gt := by show compareOfLessAndEq a b = _; unfold compareOfLessAndEq; rw [if_neg (by omega), if_neg (by omega)]

theorem signed_false (m u : Nat) : signed false m u = ((m * 2 ^ u : Nat) : Int) := by simp [signed, Nat.shiftLeft_eq]
theorem signed_true (m u : Nat) : signed true m u = -((m * 2 ^ u : Nat) : Int) := by simp [signed, Nat.shiftLeft_eq]

theorem compare_scale (a b M : Nat) : compare ((a * 2 ^ M : Nat) : Int) ((b * 2 ^ M : Nat) : Int) = compare a b := by
  have hp := Nat.two_pow_pos M
  rcases Nat.lt_trichotomy a b with h | h | h
  · have : a * 2 ^ M < b * 2 ^ M := Nat.mul_lt_mul_of_pos_right h hp
    rw [ncmp_lt h, icmp_lt (by exact_mod_cast this)]
  · subst h
    rw [ncmp_eq, icmp_eq]
  · have : b * 2 ^ M < a * 2 ^ M := Nat.mul_lt_mul_of_pos_right h hp
    rw [ncmp_gt h, icmp_gt (by exact_mod_cast this)]

/-- words are held against one another as numbers are -/
theorem order_F (a b : Nat) (ha : a < 2 ^ 53) (hb : b < 2 ^ 53) : double.order (F a) (F b) = some (compare a b) := by
  obtain ⟨j, hj⟩ := read_F a ha
  obtain ⟨k, hk⟩ := read_F b hb
  unfold Format.order
  rw [hj, hk]
  simp only [Datum.order, signed_false]
  rw [Nat.mul_assoc, ← Nat.pow_add, Nat.mul_assoc, ← Nat.pow_add]
  rw [show j + (-(j : Int) - min (-(j : Int)) (-(k : Int))).toNat = max j k by omega, show k + (-(k : Int) - min (-(j : Int)) (-(k : Int))).toNat = max j k by omega, compare_scale]

theorem cut_zero (s : Bool) (m k : Nat) (n : Nat) (h : m = n * 2 ^ k) : Toward.zero.cut s m k = n := by
  unfold Toward.cut
  simp only [Bool.toNat_false, Nat.add_zero]
  rw [Nat.shiftLeft_eq, Nat.one_mul]
  by_cases h0 : n = 0
  · subst h0; rw [h, Nat.zero_mul, Nat.zero_div]
  · rw [h, log2_mul_pow n k h0, Nat.min_eq_left (by omega), Nat.mul_div_cancel _ (Nat.two_pow_pos k)]

/-- a word's whole number -/
theorem toInt_F (n : Nat) (h : n < 2 ^ 53) : (double.read (F n)).toInt .zero = some (n : Int) := by
  obtain ⟨k, hk⟩ := read_F n h
  rw [hk]
  simp only [Datum.toInt, Datum.integral, signed_false]
  rw [show (-(k : Int)).toNat = 0 by omega, show (- -(k : Int)).toNat = k by omega, Nat.shiftLeft_zero, cut_zero false _ k n rfl]
  simp

theorem add_F (x y : Nat) (h : x + y < 2 ^ 53) : double.add (F x) (F y) = some (F (x + y)) := by
  obtain ⟨j, hj⟩ := read_F x (by omega)
  obtain ⟨k, hk⟩ := read_F y (by omega)
  unfold Format.add
  rw [hj, hk]
  simp only [Datum.sum, signed_false]
  rw [Nat.mul_assoc, ← Nat.pow_add, Nat.mul_assoc, ← Nat.pow_add]
  rw [show j + (-(j : Int) - min (-(j : Int)) (-(k : Int))).toNat = max j k by omega, show k + (-(k : Int) - min (-(j : Int)) (-(k : Int))).toNat = max j k by omega]
  rw [show min (-(j : Int)) (-(k : Int)) = -((max j k : Nat) : Int) by omega]
  generalize max j k = M
  have e : ((x * 2 ^ M : Nat) : Int) + ((y * 2 ^ M : Nat) : Int) = (((x + y) * 2 ^ M : Nat) : Int) := by rw [Nat.add_mul]; simp
  rw [e, Int.natAbs_natCast]
  have s : (if ((((x + y) * 2 ^ M : Nat) : Int)) = 0 then false && false else decide ((((x + y) * 2 ^ M : Nat) : Int) < 0)) = false := by
    split
    · rfl
    · exact decide_eq_false (by omega)
  rw [s]
  simp only [Option.map_some, Format.write, near _ _ h, F_eq _ h]

theorem sub_F (x y : Nat) (hx : x < 2 ^ 53) (h : y ≤ x) : double.sub (F x) (F y) = some (F (x - y)) := by
  obtain ⟨j, hj⟩ := read_F x (by omega)
  obtain ⟨k, hk⟩ := read_F y (by omega)
  unfold Format.sub
  rw [hj, hk]
  simp only [Datum.opposite, Datum.sum, signed_false, Bool.not_false, signed_true]
  rw [Nat.mul_assoc, ← Nat.pow_add, Nat.mul_assoc, ← Nat.pow_add]
  rw [show j + (-(j : Int) - min (-(j : Int)) (-(k : Int))).toNat = max j k by omega, show k + (-(k : Int) - min (-(j : Int)) (-(k : Int))).toNat = max j k by omega]
  rw [show min (-(j : Int)) (-(k : Int)) = -((max j k : Nat) : Int) by omega]
  generalize max j k = M
  have e : ((x * 2 ^ M : Nat) : Int) + -((y * 2 ^ M : Nat) : Int) = (((x - y) * 2 ^ M : Nat) : Int) := by
    have : x * 2 ^ M = (x - y) * 2 ^ M + y * 2 ^ M := by rw [← Nat.add_mul, Nat.sub_add_cancel h]
    rw [this]; simp; omega
  rw [e, Int.natAbs_natCast]
  have s : (if ((((x - y) * 2 ^ M : Nat) : Int)) = 0 then false && true else decide ((((x - y) * 2 ^ M : Nat) : Int) < 0)) = false := by
    split
    · rfl
    · exact decide_eq_false (by omega)
  rw [s]
  simp only [Option.map_some, Format.write, near _ _ (show x - y < 2 ^ 53 by omega), F_eq _ (show x - y < 2 ^ 53 by omega)]

theorem order_eq_symm (x y : Nat) : (double.order x y == some .eq) = (double.order y x == some .eq) := by
  unfold Format.order
  generalize double.read x = a
  generalize double.read y = b
  cases a <;> cases b <;> simp only [Datum.order] <;> try rfl
  · rename_i s m i t n j
    rw [Int.min_comm]
    generalize signed s m _ = u
    generalize signed t n _ = v
    rcases Int.lt_trichotomy u v with h | h | h
    · rw [icmp_lt h, icmp_gt h]; rfl
    · subst h; rfl
    · rw [icmp_lt h, icmp_gt h]; rfl
  · rename_i s m i t; cases t <;> rfl
  · rename_i s t n j; cases s <;> rfl
  · rename_i s t; cases s <;> cases t <;> rfl

theorem cut_le (s : Bool) (m k b : Nat) (h : m ≤ b * 2 ^ k) : Toward.zero.cut s m k ≤ b := by
  unfold Toward.cut
  simp only [Bool.toNat_false, Nat.add_zero]
  rw [Nat.shiftLeft_eq, Nat.one_mul]
  by_cases h0 : k ≤ m.log2 + 2
  · rw [Nat.min_eq_left h0]
    exact Nat.div_le_of_le_mul (by rw [Nat.mul_comm]; exact h)
  · rw [Nat.min_eq_right (by omega)]
    have := @Nat.lt_log2_self m
    have h5 : 2 ^ (m.log2 + 1) ≤ 2 ^ (m.log2 + 2) := Nat.pow_le_pow_right (by decide) (by omega)
    rw [Nat.div_eq_of_lt (by omega)]
    exact Nat.zero_le _

/-- a word between two words of numbers has a whole number there -/
theorem inside (x : Nat) (b : Nat) (hb : b < 2 ^ 53) (h0 : (double.order x (F 0) == some .gt || double.order x (F 0) == some .eq) = true) (h1 : (double.order x (F b) == some .lt || double.order x (F b) == some .eq) = true) :
    ∃ n : Nat, n ≤ b ∧ (double.read x).toInt .zero = some (n : Int) := by
  obtain ⟨j, hj⟩ := read_F 0 (by decide)
  obtain ⟨k, hk⟩ := read_F b hb
  unfold Format.order at h0 h1
  rw [hj] at h0
  rw [hk] at h1
  cases hx : double.read x with
  | nan s f => rw [hx] at h0; simp [Datum.order] at h0
  | infinity s =>
    rw [hx] at h0 h1
    cases s <;> simp [Datum.order] at h0 h1
  | number s m e =>
    rw [hx] at h0 h1
    simp only [Datum.order, signed_false, Nat.zero_mul] at h0 h1
    have g0 : (0 : Int) ≤ signed s m (e - min e (-(j : Int))).toNat := by
      rcases Int.lt_or_le (signed s m (e - min e (-(j : Int))).toNat) 0 with h | h
      · have h' : compare (signed s m (e - min e (-(j : Int))).toNat) ((0 : Nat) : Int) = .lt := icmp_lt h
        rw [h'] at h0; simp at h0
      · exact h
    have g1 : signed s m (e - min e (-(k : Int))).toNat ≤ ((b * 2 ^ k * 2 ^ (-(k : Int) - min e (-(k : Int))).toNat : Nat) : Int) := by
      rcases Int.lt_or_le ((b * 2 ^ k * 2 ^ (-(k : Int) - min e (-(k : Int))).toNat : Nat) : Int) (signed s m (e - min e (-(k : Int))).toNat) with h | h
      · have h' : compare (signed s m (e - min e (-(k : Int))).toNat) ((b * 2 ^ k * 2 ^ (-(k : Int) - min e (-(k : Int))).toNat : Nat) : Int) = .gt := icmp_gt h
        rw [h'] at h1; simp at h1
      · exact h
    cases s with
    | true =>
      rw [signed_true] at g0
      have hm : m = 0 := by
        have := Nat.two_pow_pos (e - min e (-(j : Int))).toNat
        rcases Nat.eq_zero_or_pos m with h | h
        · exact h
        · have := Nat.mul_pos h this; omega
      subst hm
      refine ⟨0, Nat.zero_le _, ?_⟩
      simp only [Datum.toInt, Datum.integral, signed_true]
      rw [Nat.shiftLeft_eq, Nat.zero_mul, cut_zero true 0 _ 0 (by simp)]
      rfl
    | false =>
      rw [signed_false] at g1
      simp only [Datum.toInt, Datum.integral, signed_false]
      refine ⟨_, ?_, rfl⟩
      rw [Nat.pow_zero, Nat.mul_one, Nat.shiftLeft_eq]
      apply cut_le
      have g2 : m * 2 ^ (e - min e (-(k : Int))).toNat ≤ b * 2 ^ k * 2 ^ (-(k : Int) - min e (-(k : Int))).toNat := by exact_mod_cast g1
      rw [Nat.mul_assoc, ← Nat.pow_add] at g2
      by_cases he : 0 ≤ e
      · rw [show (-e).toNat = 0 by omega, Nat.pow_zero, Nat.mul_one]
        rw [show (e - min e (-(k : Int))).toNat = e.toNat + k by omega, show k + (-(k : Int) - min e (-(k : Int))).toNat = k by omega, Nat.pow_add, ← Nat.mul_assoc] at g2
        exact Nat.le_of_mul_le_mul_right g2 (Nat.two_pow_pos k)
      · rw [show e.toNat = 0 by omega, Nat.pow_zero, Nat.mul_one]
        rw [show k + (-(k : Int) - min e (-(k : Int))).toNat = (-e).toNat + (e - min e (-(k : Int))).toNat by omega, Nat.pow_add, ← Nat.mul_assoc] at g2
        exact Nat.le_of_mul_le_mul_right g2 (Nat.two_pow_pos _)
end Go.Proofs.Ytcoiiakjmollbaa.VerMath
