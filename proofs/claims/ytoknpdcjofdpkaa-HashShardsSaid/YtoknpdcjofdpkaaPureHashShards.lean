/- Proved: for whatever key and number of shards HashShards is called with, the program's shard is the document's, and lies from 0 up to below the number of shards. Conditions: none. -/
import Derived.Test.YtoknpdcjofdpkaaPHashShardsx1
import Derived.Test.YtoknpdcjofdpkaaMath
namespace Go.Proofs.Ytoknpdcjofdpkaa.Pure
open Go.RowKit Go.Proofs.Ytoknpdcjofdpkaa.PHashShards Go.Proofs.YtoknpdcjofdpkaaW.PrintWords Go.Proofs.YtoknpdcjofdpkaaW.PrintLast Go.HashMath
namespace HashShards
theorem bt_nat (s : ByteArray) (i : Nat) (h : i < s.size) : bt s (i : Int) = ((s.data.toList[i]'(by simpa using h)).toNat : Int) := by
  have h' : ((i : Int).toNat) < s.size := by omega
  unfold bt
  rw [dif_pos h']
  simp only [Int.toNat_natCast]
  rfl
theorem drop_cons (s : ByteArray) (i : Nat) (h : i < s.size) : s.data.toList.drop i = (s.data.toList[i]'(by simpa using h)) :: s.data.toList.drop (i + 1) :=
  List.drop_eq_getElem_cons (by simpa using h)
theorem sum_loop (s : ByteArray) (hs : s.size ≤ 140737488351232) : ∀ (d k i h : Nat), d = s.size - i → i ≤ s.size → d < k → h < 18446744073709551616 →
    hash_Sum.l0 k s (h : Int) (s.size : Int) (i : Int) = some ((sums h (s.data.toList.drop i) : Nat) : Int) := by
  intro d
  induction d with
  | zero =>
    intro k i h hd hi hk _
    obtain ⟨k, rfl⟩ : ∃ m, k = m + 1 := ⟨k - 1, by omega⟩
    have e : s.data.toList.drop i = [] := List.drop_eq_nil_of_le (by simp; show s.size ≤ i; omega)
    simp only [hash_Sum.l0]
    rw [if_neg (by omega), e]
    rfl
  | succ d ih =>
    intro k i h hd hi hk hh
    obtain ⟨k, rfl⟩ : ∃ m, k = m + 1 := ⟨k - 1, by omega⟩
    have hlt : i < s.size := by omega
    have hw : wrap64 ((i : Int) + 1) = ((i + 1 : Nat) : Int) := by unfold wrap64; omega
    simp only [hash_Sum.l0]
    rw [if_pos (by omega), if_pos (by omega), if_pos (by omega), hw, bt_nat s i hlt, step_eq h _ hh (UInt8.toNat_lt _),
      ih k (i + 1) _ (by omega) (by omega) (by omega) (step_lt _ _), drop_cons s i hlt]
    rfl
theorem sum_f (s : ByteArray) (hs : s.size ≤ 140737488351232) (k : Nat) (hk : s.size < k) :
    hash_Sum.f k s = some ((sums 14695981039346656037 s.data.toList : Nat) : Int) := by
  unfold hash_Sum.f
  have := sum_loop s hs s.size k 0 14695981039346656037 (by omega) (by omega) hk (by decide)
  exact this
theorem awake_f (k : Nat) (hk : 1 < k) : lockgatelaw02_awake.f k = some true := by
  unfold lockgatelaw02_awake.f
  rw [sum_f _ (by decide) k (by show 0 < k; omega), sum_f _ (by decide) k (by show 1 < k; omega)]
  simp only [Option.bind_some]
  rw [if_pos (by decide)]
  decide
theorem mm (x c m : Nat) : (x % m * c) % m = x * c % m := by rw [Nat.mul_mod, Nat.mod_mod, ← Nat.mul_mod]
theorem times_l (j : Nat) : ∀ (k a b o : Nat), b < 2 ^ j → j < k → a < 18446744073709551616 → o < 18446744073709551616 → b < 18446744073709551616 →
    lockgateref02_times.l0 k (a : Int) (b : Int) (o : Int) = some (((o + a * b) % 18446744073709551616 : Nat) : Int) := by
  induction j with
  | zero =>
    intro k a b o hb hk ha ho _
    obtain ⟨k, rfl⟩ : ∃ m, k = m + 1 := ⟨k - 1, by omega⟩
    obtain rfl : b = 0 := by simpa using hb
    simp only [lockgateref02_times.l0]
    rw [if_neg (by omega), Nat.mul_zero, Nat.add_zero, Nat.mod_eq_of_lt ho]
  | succ j ih =>
    intro k a b o hb hk ha ho hbb
    obtain ⟨k, rfl⟩ : ∃ m, k = m + 1 := ⟨k - 1, by omega⟩
    simp only [lockgateref02_times.l0]
    by_cases h0 : b = 0
    · subst h0
      rw [if_neg (by omega), Nat.mul_zero, Nat.add_zero, Nat.mod_eq_of_lt ho]
    · have ea : IntKind.u64.wrap ((a : Int) + a) = (((a + a) % 18446744073709551616 : Nat) : Int) := by rw [u64_wrap]; omega
      have eo : IntKind.u64.wrap ((o : Int) + a) = (((o + a) % 18446744073709551616 : Nat) : Int) := by rw [u64_wrap]; omega
      have eb : IntKind.u64.wrap (Int.tdiv (b : Int) 2) = ((b / 2 : Nat) : Int) := by
        rw [Int.tdiv_eq_ediv_of_nonneg (by omega), u64_wrap]; omega
      have em : Int.tmod (b : Int) 2 = ((b % 2 : Nat) : Int) := by
        rw [Int.tmod_eq_emod_of_nonneg (by omega)]; omega
      have hb2 : b / 2 < 2 ^ j := by rw [Nat.pow_succ] at hb; omega
      have split : a * b = (a + a) * (b / 2) + a * (b % 2) := by
        have : b = 2 * (b / 2) + b % 2 := by omega
        conv => lhs; rw [this]
        rw [Nat.mul_add, ← Nat.mul_assoc, Nat.mul_two]
      rw [if_pos (by omega), em, ea, eo, eb]
      by_cases h1 : b % 2 = 1
      · rw [if_pos (by omega), ih k _ _ _ hb2 (by omega) (Nat.mod_lt _ (by decide)) (Nat.mod_lt _ (by decide)) (by omega)]
        congr 2
        rw [split, h1, Nat.mul_one, Nat.add_mod, Nat.mod_mod, mm, ← Nat.add_mod]
        congr 1
        omega
      · have h2 : b % 2 = 0 := by omega
        rw [if_neg (by omega), ih k _ _ _ hb2 (by omega) (Nat.mod_lt _ (by decide)) ho (by omega)]
        congr 2
        rw [split, h2, Nat.mul_zero, Nat.add_zero, Nat.add_mod, mm, ← Nat.add_mod]
theorem times_f (k a : Nat) (hk : 64 < k) (ha : a < 18446744073709551616) :
    lockgateref02_times.f k (a : Int) 1099511628211 = some (((a * 1099511628211) % 18446744073709551616 : Nat) : Int) := by
  unfold lockgateref02_times.f
  have := times_l 64 k a 1099511628211 0 (by decide) hk ha (by decide) (by decide)
  rw [Nat.zero_add] at this
  exact this
theorem ref_loop (s : ByteArray) (hs : s.size ≤ 140737488351232) : ∀ (d k i h : Nat), d = s.size - i → i ≤ s.size → d + 66 < k → h < 18446744073709551616 →
    lockgateref02_Sum.l0 k s (h : Int) (i : Int) = some ((sums h (s.data.toList.drop i) : Nat) : Int) := by
  intro d
  induction d with
  | zero =>
    intro k i h hd hi hk _
    obtain ⟨k, rfl⟩ : ∃ m, k = m + 1 := ⟨k - 1, by omega⟩
    have e : s.data.toList.drop i = [] := List.drop_eq_nil_of_le (by simp; show s.size ≤ i; omega)
    simp only [lockgateref02_Sum.l0]
    rw [if_neg (by omega), e]
    rfl
  | succ d ih =>
    intro k i h hd hi hk hh
    obtain ⟨k, rfl⟩ : ∃ m, k = m + 1 := ⟨k - 1, by omega⟩
    have hlt : i < s.size := by omega
    have hw : wrap64 ((i : Int) + 1) = ((i + 1 : Nat) : Int) := by unfold wrap64; omega
    have hc : (s.data.toList[i]'(by simpa using hlt)).toNat < 256 := UInt8.toNat_lt _
    simp only [lockgateref02_Sum.l0]
    rw [if_pos (by omega), if_pos (by omega), hw, bt_nat s i hlt, drop_cons s i hlt]
    generalize hg : (s.data.toList[i]'(by simpa using hlt)) = c at hc
    have em : Int.tmod (h : Int) 256 = ((h % 256 : Nat) : Int) := by rw [Int.tmod_eq_emod_of_nonneg (by omega)]; omega
    have es : IntKind.u64.wrap ((h : Int) - ((h % 256 : Nat) : Int)) = ((h - h % 256 : Nat) : Int) := by rw [u64_wrap]; omega
    have ex : IntKind.u64.wrap (((h - h % 256 : Nat) : Int) + ((h % 256 ^^^ c.toNat : Nat) : Int)) = ((h ^^^ c.toNat : Nat) : Int) := by
      have e1 := low_xor h c.toNat hc
      have e2 := xor_lt h c.toNat hh (by omega)
      rw [u64_wrap]; omega
    rw [em, es, u64_wrap_nat c.toNat (by omega), bits_xor _ _ (by omega) (by omega), ex, times_f k _ (by omega) (xor_lt _ _ hh (by omega))]
    simp only [Option.bind_some]
    rw [ih k (i + 1) _ (by omega) (by omega) (by omega) (Nat.mod_lt _ (by decide))]
    rfl
theorem ref_f (s : ByteArray) (hs : s.size ≤ 140737488351232) (k : Nat) (hk : s.size + 66 < k) :
    lockgateref02_Sum.f k s = some ((sums 14695981039346656037 s.data.toList : Nat) : Int) := by
  unfold lockgateref02_Sum.f
  have := ref_loop s hs s.size k 0 14695981039346656037 (by omega) (by omega) hk (by decide)
  exact this
theorem tmod_nat (h n : Nat) : Int.tmod (h : Int) (n : Int) = ((h % n : Nat) : Int) := by
  rw [Int.tmod_eq_emod_of_nonneg (by omega)]; exact (Int.natCast_emod h n).symm
theorem tdiv_nat (h n : Nat) : Int.tdiv (h : Int) (n : Int) = ((h / n : Nat) : Int) := by
  rw [Int.tdiv_eq_ediv_of_nonneg (by omega)]; exact (Int.natCast_ediv h n).symm
theorem wrap64_nat (n : Nat) (h : n < 9223372036854775808) : wrap64 (n : Int) = n := by unfold wrap64; omega
theorem shard_f (s : ByteArray) (hs : s.size ≤ 140737488351232) (k m : Nat) (hk : s.size < k) (hm0 : 0 < m) (hm : m < 9223372036854775808) :
    hash_Shard.f k s (m : Int) = some ((sums 14695981039346656037 s.data.toList % m : Nat) : Int) := by
  unfold hash_Shard.f
  rw [sum_f s hs k hk, u64_wrap_nat m (by omega)]
  simp only [Option.bind_some]
  have hl := Nat.mod_lt (sums 14695981039346656037 s.data.toList) hm0
  rw [if_neg (by omega), tmod_nat, wrap64_nat _ (by omega)]
theorem ref_shard_f (s : ByteArray) (hs : s.size ≤ 140737488351232) (k m : Nat) (hk : s.size + 66 < k) (hm0 : 0 < m) (hm : m < 9223372036854775808) :
    lockgateref02_Shard.f k s (m : Int) = some ((sums 14695981039346656037 s.data.toList % m : Nat) : Int) := by
  unfold lockgateref02_Shard.f
  rw [ref_f s hs k hk, u64_wrap_nat m (by omega)]
  simp only [Option.bind_some]
  have hl := sums_lt s.data.toList 14695981039346656037 (by decide)
  generalize sums 14695981039346656037 s.data.toList = h at hl
  have hq : h / m ≤ h := Nat.div_le_self h m
  have hmod : m * (h / m) + h % m = h := Nat.div_add_mod h m
  have hc : (h / m) * m = m * (h / m) := Nat.mul_comm _ _
  have hl2 := Nat.mod_lt h hm0
  rw [if_neg (by omega), tdiv_nat, u64_wrap_nat (h / m) (by omega)]
  have e1 : ((h / m : Nat) : Int) * (m : Int) = ((h / m * m : Nat) : Int) := by rw [Int.natCast_mul]
  rw [e1, u64_wrap_nat _ (by omega)]
  have e2 : (h : Int) - ((h / m * m : Nat) : Int) = ((h % m : Nat) : Int) := by omega
  rw [e2, u64_wrap_nat _ (by omega), wrap64_nat _ (by omega)]
end HashShards
/-- HashShards. -/
theorem HashShards : lockgatelaw02_HashShards.Pure := by
  intro s n hs hn
  refine ⟨s.size + 69, ?_⟩
  have hn' := hn
  simp [Lit.wf, IntKind.min, IntKind.max, IntKind.bits, IntKind.signed] at hn'
  unfold lockgatelaw02_HashShards.f
  by_cases h1 : n < 1
  · rw [if_pos h1]
    simp only [lockgatelaw02_HashShards.j0, if_true]
    rw [HashShards.awake_f _ (by omega)]
    rfl
  · rw [if_neg h1]
    simp only [lockgatelaw02_HashShards.j0]
    by_cases h2 : (s.size : Int) > 5000
    · rw [if_pos (by simpa using h2), HashShards.awake_f _ (by omega)]
      rfl
    · rw [if_neg (by simpa using h2)]
      obtain ⟨m, rfl⟩ : ∃ m : Nat, n = m := ⟨n.toNat, by omega⟩
      have hm : m < 9223372036854775808 := by omega
      have hm0 : 0 < m := by omega
      rw [HashShards.shard_f s hs _ m (by omega) hm0 hm, HashShards.awake_f _ (by omega), HashShards.ref_shard_f s hs _ m (by omega) hm0 hm]
      simp only [Option.bind_some, if_true]
      have hl := Nat.mod_lt (sums 14695981039346656037 s.data.toList) hm0
      rw [if_pos (by omega), decide_eq_true (by omega)]

end Go.Proofs.Ytoknpdcjofdpkaa.Pure
