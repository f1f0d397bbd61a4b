/- When two rows of bytes, and two rows of rows, are the same. Conditions: lists of fewer than a million bytes. -/
import Derived.Test.YtdbkedipfpepbaaFramePure
namespace Go.Proofs.Ytdbkedipfpepbaa.FramePure
open Go.RowKit Go.Proofs.Ytdbkedipfpepbaa.PWal Go.Proofs.YtdbkedipfpepbaaW.PrintWords Go.Proofs.YtdbkedipfpepbaaW.PrintLast Go.HashMath Go.FrameMath
set_option linter.unusedVariables false
theorem same_l (x y : List Int) (hl : x.length < 10000000) (hxy : x.length = y.length) : ∀ (d k i : Nat), d = x.length - i → i ≤ x.length → d < k → lockgateref03_Same.l0 k x y (i : Int) = some (decide (x.drop i = y.drop i)) := by
  intro d
  induction d with
  | zero =>
    intro k i hd hi hk
    obtain ⟨k, rfl⟩ : ∃ m, k = m + 1 := ⟨k - 1, by omega⟩
    simp only [lockgateref03_Same.l0]
    rw [if_neg (by omega), List.drop_eq_nil_of_le (by omega), List.drop_eq_nil_of_le (by omega)]
    simp
  | succ d ih =>
    intro k i hd hi hk
    obtain ⟨k, rfl⟩ : ∃ m, k = m + 1 := ⟨k - 1, by omega⟩
    have h1 : i < x.length := by omega
    have h2 : i < y.length := by omega
    simp only [lockgateref03_Same.l0]
    rw [if_pos (by omega), if_pos (by omega), if_pos (by omega), rd_nat x i h1, rd_nat y i h2, w1 i (by omega), List.drop_eq_getElem_cons h1, List.drop_eq_getElem_cons h2]
    by_cases e : x[i] = y[i]
    · rw [if_pos e, ih k (i + 1) (by omega) (by omega) (by omega)]
      exact congrArg some (by rw [decide_eq_decide, List.cons.injEq]; exact ⟨fun h => ⟨e, h⟩, fun h => h.2⟩)
    · rw [if_neg e]
      exact congrArg some (by symm; rw [decide_eq_false_iff_not, List.cons.injEq]; exact fun h => e h.1)
theorem same_f (x y : List Int) (hl : x.length < 10000000) (k : Nat) (hk : x.length < k) : lockgateref03_Same.f k x y = some (decide (x = y)) := by
  unfold lockgateref03_Same.f
  by_cases h : x.length = y.length
  · rw [if_pos (by omega)]
    have := same_l x y hl h x.length k 0 (by omega) (by omega) hk
    rw [List.drop_zero, List.drop_zero] at this
    exact this
  · rw [if_neg (by omega)]
    have : x ≠ y := fun e => h (by rw [e])
    simp [this]
theorem rdL (m : List (List Int)) (i : Nat) (h : i < m.length) : rd_L1 m (i : Int) = m[i] := by
  unfold rd_L1
  rw [Int.toNat_natCast, List.getD_eq_getElem?_getD, List.getElem?_eq_getElem h]
  rfl
theorem sameAll_l (m : List (List Int)) (B : Nat) (hB : B < 10000000) (hm : m.length < 10000000) (hb : ∀ x ∈ m, x.length ≤ B) : ∀ (d k i : Nat), d = m.length - i → i ≤ m.length → d + B + 1 < k → lockgateref04_SameAll.l0 k m m (i : Int) = some true := by
  intro d
  induction d with
  | zero =>
    intro k i hd hi hk
    obtain ⟨k, rfl⟩ : ∃ m, k = m + 1 := ⟨k - 1, by omega⟩
    simp only [lockgateref04_SameAll.l0]
    rw [if_neg (by omega)]
  | succ d ih =>
    intro k i hd hi hk
    obtain ⟨k, rfl⟩ : ∃ m, k = m + 1 := ⟨k - 1, by omega⟩
    have h1 : i < m.length := by omega
    have h2 := hb _ (List.getElem_mem h1)
    simp only [lockgateref04_SameAll.l0]
    rw [if_pos (by omega), if_pos (by omega), if_pos (by omega), rdL m i h1, same_f _ _ (by omega) k (by omega), Option.bind_some, if_pos (by simp), w1 i (by omega)]
    exact ih k (i + 1) (by omega) (by omega) (by omega)
theorem sameAll_f (m : List (List Int)) (B : Nat) (hB : B < 10000000) (hm : m.length < 10000000) (hb : ∀ x ∈ m, x.length ≤ B) (k : Nat) (hk : m.length + B + 1 < k) : lockgateref04_SameAll.f k m m = some true := by
  unfold lockgateref04_SameAll.f
  rw [if_pos rfl]
  exact sameAll_l m B hB hm hb m.length k 0 (by omega) (by omega) hk
end Go.Proofs.Ytdbkedipfpepbaa.FramePure
