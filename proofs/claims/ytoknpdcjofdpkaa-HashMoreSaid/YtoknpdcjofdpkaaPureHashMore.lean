/- Proved: for whatever two texts and byte HashMore is called with, the texts have one sum just if they have one sum with that byte behind each: the call returns true. Conditions: none. -/
import Derived.Test.YtoknpdcjofdpkaaPHashMorex1
import Derived.Test.YtoknpdcjofdpkaaMath
namespace Go.Proofs.Ytoknpdcjofdpkaa.Pure
open Go.RowKit Go.Proofs.Ytoknpdcjofdpkaa.PHashMore Go.Proofs.YtoknpdcjofdpkaaW.PrintWords Go.Proofs.YtoknpdcjofdpkaaW.PrintLast Go.HashMath
namespace HashMore
theorem bt_nat (s : ByteArray) (i : Nat) (h : i < s.size) : bt s (i : Int) = ((s.data.toList[i]'(by simpa using h)).toNat : Int) := by
  have h' : ((i : Int).toNat) < s.size := by omega
  unfold bt
  rw [dif_pos h']
  simp only [Int.toNat_natCast]
  rfl
theorem drop_cons (s : ByteArray) (i : Nat) (h : i < s.size) : s.data.toList.drop i = (s.data.toList[i]'(by simpa using h)) :: s.data.toList.drop (i + 1) :=
  List.drop_eq_getElem_cons (by simpa using h)
theorem sum_loop (s : ByteArray) (hs : s.size ≤ 140737488351232) : ∀ (d k i h : Nat), d = s.size - i → i ≤ s.size → d < k → h < 18446744073709551616 →
    hash_Sum.l0 k s (h : Int) (s.size : Int) (i : Int) = some ((sums h (s.data.toList.drop i) : Nat) : Int) := by
  intro d
  induction d with
  | zero =>
    intro k i h hd hi hk _
    obtain ⟨k, rfl⟩ : ∃ m, k = m + 1 := ⟨k - 1, by omega⟩
    have e : s.data.toList.drop i = [] := List.drop_eq_nil_of_le (by simp; show s.size ≤ i; omega)
    simp only [hash_Sum.l0]
    rw [if_neg (by omega), e]
    rfl
  | succ d ih =>
    intro k i h hd hi hk hh
    obtain ⟨k, rfl⟩ : ∃ m, k = m + 1 := ⟨k - 1, by omega⟩
    have hlt : i < s.size := by omega
    have hw : wrap64 ((i : Int) + 1) = ((i + 1 : Nat) : Int) := by unfold wrap64; omega
    simp only [hash_Sum.l0]
    rw [if_pos (by omega), if_pos (by omega), if_pos (by omega), hw, bt_nat s i hlt, step_eq h _ hh (UInt8.toNat_lt _),
      ih k (i + 1) _ (by omega) (by omega) (by omega) (step_lt _ _), drop_cons s i hlt]
    rfl
theorem sum_f (s : ByteArray) (hs : s.size ≤ 140737488351232) (k : Nat) (hk : s.size < k) :
    hash_Sum.f k s = some ((sums 14695981039346656037 s.data.toList : Nat) : Int) := by
  unfold hash_Sum.f
  have := sum_loop s hs s.size k 0 14695981039346656037 (by omega) (by omega) hk (by decide)
  exact this
theorem awake_f (k : Nat) (hk : 1 < k) : lockgatelaw02_awake.f k = some true := by
  unfold lockgatelaw02_awake.f
  rw [sum_f _ (by decide) k (by show 0 < k; omega), sum_f _ (by decide) k (by show 1 < k; omega)]
  simp only [Option.bind_some]
  rw [if_pos (by decide)]
  decide
theorem one (n : Nat) : (strOfNums [(n : Int)]).data.toList = [UInt8.ofNat n] := by
  rw [strOfNums_data]; simp
theorem sums_snoc (h : Nat) (l : List UInt8) (c : UInt8) : sums h (l ++ [c]) = HashMath.step (sums h l) c.toNat := by
  unfold sums; rw [List.foldl_append, List.foldl_cons, List.foldl_nil]
theorem data_app (a b : ByteArray) : (a ++ b).data.toList = a.data.toList ++ b.data.toList := by
  rw [ByteArray.data_append, Array.toList_append]
end HashMore
/-- HashMore. -/
theorem HashMore : lockgatelaw02_HashMore.Pure := by
  intro s t c hs ht hc
  refine ⟨s.size + t.size + 69, ?_⟩
  have hc' := hc
  simp [Lit.wf, IntKind.min, IntKind.max, IntKind.bits, IntKind.signed] at hc'
  obtain ⟨n, rfl⟩ : ∃ n : Nat, c = n := ⟨c.toNat, by omega⟩
  have hn : n < 256 := by omega
  have e1 := HashMore.one n
  have e1s : (strOfNums [(n : Int)]).size = 1 := by
    have : (strOfNums [(n : Int)]).data.toList.length = 1 := by rw [e1]; rfl
    simpa using this
  unfold lockgatelaw02_HashMore.f
  by_cases h1 : (s.size : Int) > 5000
  · rw [if_pos h1]
    simp only [lockgatelaw02_HashMore.j0, if_true]
    rw [HashMore.awake_f _ (by omega)]
    rfl
  · rw [if_neg h1]
    simp only [lockgatelaw02_HashMore.j0]
    by_cases h2 : (t.size : Int) > 5000
    · rw [if_pos (by simpa using h2), HashMore.awake_f _ (by omega)]
      rfl
    · rw [if_neg (by simpa using h2)]
      have es : (s ++ strOfNums [(n : Int)]).size = s.size + 1 := by rw [ByteArray.size_append, e1s]
      have et : (t ++ strOfNums [(n : Int)]).size = t.size + 1 := by rw [ByteArray.size_append, e1s]
      rw [HashMore.sum_f s hs _ (by omega), HashMore.sum_f t ht _ (by omega)]
      simp only [Option.bind_some]
      rw [if_pos (by omega), HashMore.sum_f _ (by omega) _ (by omega)]
      simp only [Option.bind_some]
      rw [if_pos (by omega), HashMore.sum_f _ (by omega) _ (by omega)]
      simp only [Option.bind_some]
      rw [HashMore.awake_f _ (by omega)]
      simp only [Option.bind_some, if_true]
      rw [HashMore.data_app, HashMore.data_app, e1, HashMore.sums_snoc, HashMore.sums_snoc]
      have l1 := sums_lt s.data.toList 14695981039346656037 (by decide)
      have l2 := sums_lt t.data.toList 14695981039346656037 (by decide)
      generalize sums 14695981039346656037 s.data.toList = a at l1
      generalize sums 14695981039346656037 t.data.toList = b at l2
      have hcc : (UInt8.ofNat n).toNat < 256 := UInt8.toNat_lt _
      generalize (UInt8.ofNat n).toNat = c at hcc
      congr 1
      by_cases hab : a = b
      · subst hab
        simp
      · have hxy : HashMath.step a c ≠ HashMath.step b c := fun h => hab (step_inj a b c l1 l2 hcc h)
        have r1 : ((a : Int) == (b : Int)) = false := by rw [beq_eq_false_iff_ne]; omega
        have r2 : ((HashMath.step a c : Int) == (HashMath.step b c : Int)) = false := by rw [beq_eq_false_iff_ne]; omega
        rw [r1, r2]; rfl

end Go.Proofs.Ytoknpdcjofdpkaa.Pure
