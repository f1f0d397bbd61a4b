/- Plain facts on what the printed functions of the frame laws come to. Conditions: lists of fewer than a million bytes. -/
import Derived.Test.YtdbkedipfpepbaaPWalx3
import Derived.Test.YtdbkedipfpepbaaWalScan
import Derived.Test.YtdbkedipfpepbaaFrameMath
namespace Go.Proofs.Ytdbkedipfpepbaa.FramePure
open Go.RowKit Go.Proofs.Ytdbkedipfpepbaa.PWal Go.Proofs.YtdbkedipfpepbaaW.PrintWords Go.Proofs.YtdbkedipfpepbaaW.PrintLast Go.HashMath Go.FrameMath
set_option linter.unusedVariables false
theorem bt_nat (s : ByteArray) (i : Nat) (h : i < s.size) : bt s (i : Int) = ((s.data.toList[i]'(by simpa using h)).toNat : Int) := by
  have h' : ((i : Int).toNat) < s.size := by omega
  unfold bt
  rw [dif_pos h']
  simp only [Int.toNat_natCast]
  rfl
theorem drop_cons (s : ByteArray) (i : Nat) (h : i < s.size) : s.data.toList.drop i = (s.data.toList[i]'(by simpa using h)) :: s.data.toList.drop (i + 1) :=
  List.drop_eq_getElem_cons (by simpa using h)
theorem sum_loop (s : ByteArray) (hs : s.size ≤ 140737488351232) : ∀ (d k i h : Nat), d = s.size - i → i ≤ s.size → d < k → h < 18446744073709551616 →
    hash_Sum.l0 k s (h : Int) (s.size : Int) (i : Int) = some ((sums h (s.data.toList.drop i) : Nat) : Int) := by
  intro d
  induction d with
  | zero =>
    intro k i h hd hi hk _
    obtain ⟨k, rfl⟩ : ∃ m, k = m + 1 := ⟨k - 1, by omega⟩
    have e : s.data.toList.drop i = [] := List.drop_eq_nil_of_le (by simp; show s.size ≤ i; omega)
    simp only [hash_Sum.l0]
    rw [if_neg (by omega), e]
    rfl
  | succ d ih =>
    intro k i h hd hi hk hh
    obtain ⟨k, rfl⟩ : ∃ m, k = m + 1 := ⟨k - 1, by omega⟩
    have hlt : i < s.size := by omega
    have hw : wrap64 ((i : Int) + 1) = ((i + 1 : Nat) : Int) := by unfold wrap64; omega
    simp only [hash_Sum.l0]
    rw [if_pos (by omega), if_pos (by omega), if_pos (by omega), hw, bt_nat s i hlt, step_eq h _ hh (UInt8.toNat_lt _),
      ih k (i + 1) _ (by omega) (by omega) (by omega) (step_lt _ _), drop_cons s i hlt]
    rfl
theorem sum_f (s : ByteArray) (hs : s.size ≤ 140737488351232) (k : Nat) (hk : s.size < k) :
    hash_Sum.f k s = some ((sums 14695981039346656037 s.data.toList : Nat) : Int) := by
  unfold hash_Sum.f
  have := sum_loop s hs s.size k 0 14695981039346656037 (by omega) (by omega) hk (by decide)
  exact this
theorem mm (x c m : Nat) : (x % m * c) % m = x * c % m := by rw [Nat.mul_mod, Nat.mod_mod, ← Nat.mul_mod]
theorem times_l (j : Nat) : ∀ (k a b o : Nat), b < 2 ^ j → j < k → a < 18446744073709551616 → o < 18446744073709551616 → b < 18446744073709551616 →
    lockgateref02_times.l0 k (a : Int) (b : Int) (o : Int) = some (((o + a * b) % 18446744073709551616 : Nat) : Int) := by
  induction j with
  | zero =>
    intro k a b o hb hk ha ho _
    obtain ⟨k, rfl⟩ : ∃ m, k = m + 1 := ⟨k - 1, by omega⟩
    obtain rfl : b = 0 := by simpa using hb
    simp only [lockgateref02_times.l0]
    rw [if_neg (by omega), Nat.mul_zero, Nat.add_zero, Nat.mod_eq_of_lt ho]
  | succ j ih =>
    intro k a b o hb hk ha ho hbb
    obtain ⟨k, rfl⟩ : ∃ m, k = m + 1 := ⟨k - 1, by omega⟩
    simp only [lockgateref02_times.l0]
    by_cases h0 : b = 0
    · subst h0
      rw [if_neg (by omega), Nat.mul_zero, Nat.add_zero, Nat.mod_eq_of_lt ho]
    · have ea : IntKind.u64.wrap ((a : Int) + a) = (((a + a) % 18446744073709551616 : Nat) : Int) := by rw [u64_wrap]; omega
      have eo : IntKind.u64.wrap ((o : Int) + a) = (((o + a) % 18446744073709551616 : Nat) : Int) := by rw [u64_wrap]; omega
      have eb : IntKind.u64.wrap (Int.tdiv (b : Int) 2) = ((b / 2 : Nat) : Int) := by
        rw [Int.tdiv_eq_ediv_of_nonneg (by omega), u64_wrap]; omega
      have em : Int.tmod (b : Int) 2 = ((b % 2 : Nat) : Int) := by
        rw [Int.tmod_eq_emod_of_nonneg (by omega)]; omega
      have hb2 : b / 2 < 2 ^ j := by rw [Nat.pow_succ] at hb; omega
      have split : a * b = (a + a) * (b / 2) + a * (b % 2) := by
        have : b = 2 * (b / 2) + b % 2 := by omega
        conv => lhs; rw [this]
        rw [Nat.mul_add, ← Nat.mul_assoc, Nat.mul_two]
      rw [if_pos (by omega), em, ea, eo, eb]
      by_cases h1 : b % 2 = 1
      · rw [if_pos (by omega), ih k _ _ _ hb2 (by omega) (Nat.mod_lt _ (by decide)) (Nat.mod_lt _ (by decide)) (by omega)]
        congr 2
        rw [split, h1, Nat.mul_one, Nat.add_mod, Nat.mod_mod, mm, ← Nat.add_mod]
        congr 1
        omega
      · have h2 : b % 2 = 0 := by omega
        rw [if_neg (by omega), ih k _ _ _ hb2 (by omega) (Nat.mod_lt _ (by decide)) ho (by omega)]
        congr 2
        rw [split, h2, Nat.mul_zero, Nat.add_zero, Nat.add_mod, mm, ← Nat.add_mod]
theorem times_f (k a : Nat) (hk : 64 < k) (ha : a < 18446744073709551616) :
    lockgateref02_times.f k (a : Int) 1099511628211 = some (((a * 1099511628211) % 18446744073709551616 : Nat) : Int) := by
  unfold lockgateref02_times.f
  have := times_l 64 k a 1099511628211 0 (by decide) hk ha (by decide) (by decide)
  rw [Nat.zero_add] at this
  exact this
theorem ref_loop (s : ByteArray) (hs : s.size ≤ 140737488351232) : ∀ (d k i h : Nat), d = s.size - i → i ≤ s.size → d + 66 < k → h < 18446744073709551616 →
    lockgateref02_Sum.l0 k s (h : Int) (i : Int) = some ((sums h (s.data.toList.drop i) : Nat) : Int) := by
  intro d
  induction d with
  | zero =>
    intro k i h hd hi hk _
    obtain ⟨k, rfl⟩ : ∃ m, k = m + 1 := ⟨k - 1, by omega⟩
    have e : s.data.toList.drop i = [] := List.drop_eq_nil_of_le (by simp; show s.size ≤ i; omega)
    simp only [lockgateref02_Sum.l0]
    rw [if_neg (by omega), e]
    rfl
  | succ d ih =>
    intro k i h hd hi hk hh
    obtain ⟨k, rfl⟩ : ∃ m, k = m + 1 := ⟨k - 1, by omega⟩
    have hlt : i < s.size := by omega
    have hw : wrap64 ((i : Int) + 1) = ((i + 1 : Nat) : Int) := by unfold wrap64; omega
    have hc : (s.data.toList[i]'(by simpa using hlt)).toNat < 256 := UInt8.toNat_lt _
    simp only [lockgateref02_Sum.l0]
    rw [if_pos (by omega), if_pos (by omega), hw, bt_nat s i hlt, drop_cons s i hlt]
    generalize hg : (s.data.toList[i]'(by simpa using hlt)) = c at hc
    have em : Int.tmod (h : Int) 256 = ((h % 256 : Nat) : Int) := by rw [Int.tmod_eq_emod_of_nonneg (by omega)]; omega
    have es : IntKind.u64.wrap ((h : Int) - ((h % 256 : Nat) : Int)) = ((h - h % 256 : Nat) : Int) := by rw [u64_wrap]; omega
    have ex : IntKind.u64.wrap (((h - h % 256 : Nat) : Int) + ((h % 256 ^^^ c.toNat : Nat) : Int)) = ((h ^^^ c.toNat : Nat) : Int) := by
      have e1 := low_xor h c.toNat hc
      have e2 := xor_lt h c.toNat hh (by omega)
      rw [u64_wrap]; omega
    rw [em, es, u64_wrap_nat c.toNat (by omega), bits_xor _ _ (by omega) (by omega), ex, times_f k _ (by omega) (xor_lt _ _ hh (by omega))]
    simp only [Option.bind_some]
    rw [ih k (i + 1) _ (by omega) (by omega) (by omega) (Nat.mod_lt _ (by decide))]
    rfl
theorem ref_f (s : ByteArray) (hs : s.size ≤ 140737488351232) (k : Nat) (hk : s.size + 66 < k) :
    lockgateref02_Sum.f k s = some ((sums 14695981039346656037 s.data.toList : Nat) : Int) := by
  unfold lockgateref02_Sum.f
  have := ref_loop s hs s.size k 0 14695981039346656037 (by omega) (by omega) hk (by decide)
  exact this

theorem w64 (x : Int) (h0 : -9223372036854775808 ≤ x) (h1 : x ≤ 9223372036854775807) : wrap64 x = x := by unfold wrap64; omega
theorem w1 (i : Nat) (h : i < 9000000000000000000) : wrap64 ((i : Int) + 1) = ((i + 1 : Nat) : Int) := by unfold wrap64; omega
theorem shr_nat (x i : Nat) (hi : i < 8) : shr .u64 (x : Int) (wrap64 (8 * (i : Int))) = ((x / 256 ^ i : Nat) : Int) := by
  show (x : Int) / 2 ^ min (wrap64 (8 * (i : Int))).toNat 64 = _
  rw [w64 _ (by omega) (by omega), show (8 * (i : Int)).toNat = 8 * i by omega, Nat.min_eq_left (by omega)]
  have e : (2 : Int) ^ (8 * i) = ((256 ^ i : Nat) : Int) := by
    rw [show (256 : Nat) = 2 ^ 8 from rfl, ← Nat.pow_mul]; simp
  rw [e]
  rfl
theorem low_l (x n : Nat) (hn : n ≤ 8) : ∀ (d k i : Nat) (l : List Int), d = n - i → i ≤ n → d < k → l.length + d < 100000000 →
    frame_low.l0 k l (x : Int) (n : Int) (i : Int) = some (l ++ lowB (x / 256 ^ i) (n - i)) := by
  intro d
  induction d with
  | zero =>
    intro k i l hd hi hk hl
    obtain ⟨k, rfl⟩ : ∃ m, k = m + 1 := ⟨k - 1, by omega⟩
    simp only [frame_low.l0]
    rw [if_neg (by omega), show n - i = 0 by omega]
    simp [lowB]
  | succ d ih =>
    intro k i l hd hi hk hl
    obtain ⟨k, rfl⟩ : ∃ m, k = m + 1 := ⟨k - 1, by omega⟩
    simp only [frame_low.l0]
    rw [if_pos (by omega), if_pos (by rw [w64 _ (by omega) (by omega)]; omega), if_pos (by omega), shr_nat x i (by omega), w1 i (by omega)]
    have e : ∃ m, n - i = m + 1 ∧ m = n - (i + 1) := ⟨n - i - 1, by omega, by omega⟩
    obtain ⟨m, e1, e2⟩ := e
    rw [ih k (i + 1) _ (by omega) (by omega) (by omega) (by rw [List.length_append, List.length_singleton]; omega), e1, ← e2]
    simp only [lowB, List.append_assoc, List.singleton_append]
    rw [Nat.div_div_eq_div_mul, ← Nat.pow_succ]
    rfl
theorem low_f (x n : Nat) (hn : n ≤ 8) (l : List Int) (hl : l.length < 99999990) (k : Nat) (hk : 8 < k) : frame_low.f k l (x : Int) (n : Int) = some (l ++ lowB x n) := by
  have := low_l x n hn n k 0 l (by omega) (by omega) (by omega) (by omega)
  rw [Nat.pow_zero, Nat.div_one] at this
  exact this
theorem refLow_l (n : Nat) (hn : n ≤ 8) : ∀ (d k i x : Nat) (l : List Int), d = n - i → i ≤ n → d < k → l.length + d < 100000000 → x < 18446744073709551616 →
    lockgateref04_low.l0 k (x : Int) (n : Int) l (i : Int) = some (l ++ lowB x (n - i)) := by
  intro d
  induction d with
  | zero =>
    intro k i x l hd hi hk hl hx
    obtain ⟨k, rfl⟩ : ∃ m, k = m + 1 := ⟨k - 1, by omega⟩
    simp only [lockgateref04_low.l0]
    rw [if_neg (by omega), show n - i = 0 by omega]
    simp [lowB]
  | succ d ih =>
    intro k i x l hd hi hk hl hx
    obtain ⟨k, rfl⟩ : ∃ m, k = m + 1 := ⟨k - 1, by omega⟩
    have e : ∃ m, n - i = m + 1 ∧ m = n - (i + 1) := ⟨n - i - 1, by omega, by omega⟩
    obtain ⟨m, e1, e2⟩ := e
    have ed : IntKind.u64.wrap (Int.tdiv (x : Int) 256) = ((x / 256 : Nat) : Int) := by
      rw [Int.tdiv_eq_ediv_of_nonneg (by omega), u64_wrap]; omega
    have em : Int.tmod (x : Int) 256 % 256 = ((x % 256 : Nat) : Int) := by
      rw [Int.tmod_eq_emod_of_nonneg (by omega)]; omega
    simp only [lockgateref04_low.l0]
    rw [if_pos (by omega), if_pos (by omega), ed, em, w1 i (by omega), ih k (i + 1) _ _ (by omega) (by omega) (by omega) (by rw [List.length_append, List.length_singleton]; omega) (by omega), e1, ← e2]
    simp only [lowB, List.append_assoc, List.singleton_append]
theorem refLow_f (x n : Nat) (hn : n ≤ 8) (hx : x < 18446744073709551616) (k : Nat) (hk : 8 < k) : lockgateref04_low.f k (x : Int) (n : Int) = some (lowB x n) := by
  have := refLow_l n hn n k 0 x [] (by omega) (by omega) (by omega) (by simp; omega) hx
  exact this
theorem str2 (a b : List Int) : (strOfNums a ++ strOfNums b).data.toList = (a ++ b).map fun n => UInt8.ofNat n.toNat := by
  simp [strOfNums, ByteArray.data_append]
theorem str2_size (a b : List Int) : (strOfNums a ++ strOfNums b).size = a.length + b.length := by
  rw [ByteArray.size_append, strOfNums_size, strOfNums_size]
theorem fsum_f (a b : List Int) (h : a.length + b.length < 100000000) (k : Nat) (hk : a.length + b.length < k) : frame_sum.f k a b = some ((hsh (a ++ b) : Nat) : Int) := by
  unfold frame_sum.f
  rw [strOfNums_size, strOfNums_size, if_pos (by omega), sum_f _ (by rw [str2_size]; omega) k (by rw [str2_size]; exact hk), str2]
  rfl
theorem rsum_f (a b : List Int) (h : a.length + b.length < 100000000) (k : Nat) (hk : a.length + b.length + 66 < k) : lockgateref02_Sum.f k (strOfNums a ++ strOfNums b) = some ((hsh (a ++ b) : Nat) : Int) := by
  rw [ref_f _ (by rw [str2_size]; omega) k (by rw [str2_size]; exact hk), str2]
  rfl
theorem put_f (l r : List Int) (hl : l.length < 10000000) (hr : r.length < 10000000) (k : Nat) (hk : r.length + 100 < k) : frame_Put.f k l r = some (l ++ frame r) := by
  have h4 : frame_low.f k [] ((r.length : Nat) : Int) 4 = some (lowB r.length 4) := low_f r.length 4 (by omega) [] (by simp) k (by omega)
  have h8 : ∀ m : Nat, frame_low.f k (l ++ lowB r.length 4) (m : Int) 8 = some (l ++ lowB r.length 4 ++ lowB m 8) := fun m => low_f m 8 (by omega) _ (by rw [List.length_append, lowB_length]; omega) k (by omega)
  unfold frame_Put.f
  rw [u64_wrap_nat _ (by omega), h4, Option.bind_some, if_pos (by rw [lowB_length]; omega), fsum_f _ _ (by rw [lowB_length]; omega) k (by rw [lowB_length]; omega), Option.bind_some, h8, Option.bind_some, if_pos (by rw [List.length_append, List.length_append, lowB_length, lowB_length]; omega)]
  unfold frame
  simp only [List.append_assoc]
theorem frame_f (r : List Int) (hr : r.length < 10000000) (k : Nat) (hk : r.length + 200 < k) : lockgateref04_Frame.f k r = some (frame r) := by
  have h4 : lockgateref04_low.f k ((r.length : Nat) : Int) 4 = some (lowB r.length 4) := refLow_f r.length 4 (by omega) (by omega) k (by omega)
  have h8 : ∀ m : Nat, m < 18446744073709551616 → lockgateref04_low.f k (m : Int) 8 = some (lowB m 8) := fun m hm => refLow_f m 8 (by omega) hm k (by omega)
  unfold lockgateref04_Frame.f
  rw [u64_wrap_nat _ (by omega), h4, Option.bind_some, Option.bind_some, if_pos (by rw [lowB_length, List.length_nil]; omega), Option.bind_some, List.nil_append, strOfNums_size, strOfNums_size, if_pos (by rw [lowB_length]; omega),
    rsum_f _ _ (by rw [lowB_length]; omega) k (by rw [lowB_length]; omega), Option.bind_some, h8 _ (hsh_lt _), Option.bind_some, if_pos (by rw [lowB_length, lowB_length]; omega), Option.bind_some, if_pos (by rw [List.length_append, lowB_length, lowB_length]; omega)]
  rfl
theorem or_add (s c : Nat) (hs : s < 72057594037927936) (hc : c < 256) : Number.stepW (s : Int) (c : Int) = ((c + 256 * s : Nat) : Int) := by
  unfold Number.stepW
  have e1 : IntKind.u64.wrap ((s : Int) * 256) = ((s * 256 : Nat) : Int) := by rw [u64_wrap]; omega
  have e2 : IntKind.u64.wrap (c : Int) = ((c : Nat) : Int) := by rw [u64_wrap]; omega
  rw [e1, e2]
  have e : (2 : Nat) ^ IntKind.u64.bits = 18446744073709551616 := by decide
  have ho : (s * 256) ||| c = c + 256 * s := by
    have := Nat.shiftLeft_add_eq_or_of_lt (b := c) (i := 8) (by omega) s
    rw [Nat.shiftLeft_eq, show (2 : Nat) ^ 8 = 256 from rfl] at this
    omega
  simp only [Go.bits, BitVec.ofInt_natCast, BitVec.toNat_or, BitVec.toNat_ofNat, e, Nat.mod_eq_of_lt (show s * 256 < 18446744073709551616 by omega), Nat.mod_eq_of_lt (show c < 18446744073709551616 by omega), ho]
  exact u64_wrap_nat _ (by omega)
theorem rd_nat (l : List Int) (i : Nat) (h : i < l.length) : rd l (i : Int) = l[i] := by
  unfold rd
  rw [Int.toNat_natCast, List.getD_eq_getElem?_getD, List.getElem?_eq_getElem h]
  rfl
theorem numW_l (l : List Int) (hb : Byt l) (hl : l.length ≤ 8) : ∀ (d : Nat), d ≤ l.length → Number.numW (Number.bup l d) = ((num (l.drop (l.length - d)) : Nat) : Int)
  | 0, _ => by rw [Number.bup_zero, Nat.sub_zero, List.drop_length]; rfl
  | d + 1, hd => by
    have hm : l.length - (d + 1) < l.length := by omega
    have e := Number.bup_step l (l.length - (d + 1)) hm
    rw [show l.length - (l.length - (d + 1)) = d + 1 by omega, show l.length - (l.length - (d + 1) + 1) = d by omega] at e
    have hx := hb _ (List.getElem_mem hm)
    rw [e, Number.numW_snoc, numW_l l hb hl d (by omega), rd_nat l _ hm, List.drop_eq_getElem_cons hm, show l.length - (d + 1) + 1 = l.length - d by omega]
    obtain ⟨c, hc⟩ : ∃ c : Nat, l[l.length - (d + 1)] = (c : Int) := ⟨(l[l.length - (d + 1)]).toNat, by omega⟩
    have hnl : num (l.drop (l.length - d)) < 72057594037927936 := by
      have := num_lt _ (hb.drop (l.length - d))
      rw [List.length_drop] at this
      have h2 : (256 : Nat) ^ (l.length - (l.length - d)) ≤ 256 ^ 7 := Nat.pow_le_pow_right (by decide) (by omega)
      have h3 : (256 : Nat) ^ 7 = 72057594037927936 := by decide
      omega
    rw [hc] at hx ⊢
    rw [or_add _ _ hnl (by omega)]
    simp only [num, Int.toNat_natCast]
theorem number_f (l : List Int) (hb : Byt l) (hl : l.length ≤ 8) : frame_number.f l = some ((num l : Nat) : Int) := by
  unfold frame_number.f
  rw [if_pos (by omega), numW_l l hb hl l.length (Nat.le_refl _), Nat.sub_self, List.drop_zero]
end Go.Proofs.Ytdbkedipfpepbaa.FramePure
