-- Taken over from the frame laws' texts by transframe.py.
import Derived.Test.YtdbkedipfpepbaaFrameScan
import Derived.Test.YtdbkedipfpepbaaFrameSame
namespace Go.Proofs.Ytdbkedipfpepbaa.FramePure
open Go.RowKit Go.Proofs.Ytdbkedipfpepbaa.PWal Go.Proofs.YtdbkedipfpepbaaW.PrintWords Go.Proofs.YtdbkedipfpepbaaW.PrintLast Go.HashMath Go.FrameMath
set_option linter.unusedVariables false
def tot (m : List (List Int)) : Nat := (m.map List.length).sum
theorem tot_take (m : List (List Int)) (i : Nat) (h : i < m.length) : tot (m.take (i + 1)) = tot (m.take i) + m[i].length := by
  unfold tot
  rw [List.take_succ_eq_append_getElem h, List.map_append, List.sum_append]
  simp
theorem few_l (m : List (List Int)) (hm : m.length ≤ 40) : ∀ (d k i : Nat), d = m.length - i → i ≤ m.length → d < k → tot (m.take i) ≤ 3000 * i →
    ∃ b, lockgateref04_Few.l0 k m (tot (m.take i) : Nat) (i : Int) = some b ∧ (b = true → tot m ≤ 3000) := by
  intro d
  induction d with
  | zero =>
    intro k i hd hi hk ht
    obtain ⟨k, rfl⟩ : ∃ q, k = q + 1 := ⟨k - 1, by omega⟩
    have e : m.take i = m := List.take_of_length_le (by omega)
    rw [e, lockgateref04_Few.l0, if_neg (by omega)]
    exact ⟨_, rfl, fun h => by have := of_decide_eq_true h; omega⟩
  | succ d ih =>
    intro k i hd hi hk ht
    obtain ⟨k, rfl⟩ : ∃ q, k = q + 1 := ⟨k - 1, by omega⟩
    have h1 : i < m.length := by omega
    have htk := tot_take m i h1
    rw [lockgateref04_Few.l0, if_pos (by omega), if_pos (by omega), rdL m i h1]
    by_cases hb : (m[i].length : Int) > 3000
    · rw [if_pos hb]; exact ⟨false, rfl, fun h => by cases h⟩
    · rw [if_neg hb, wadd_ (tot (m.take i)) m[i].length (by omega) (by omega), w1 i (by omega), ← htk]
      exact ih k (i + 1) (by omega) (by omega) (by omega) (by omega)
theorem few_f (m : List (List Int)) (k : Nat) (hk : 100 < k) : ∃ b, lockgateref04_Few.f k m = some b ∧ (b = true → tot m ≤ 3000 ∧ m.length ≤ 40) := by
  unfold lockgateref04_Few.f
  by_cases h : (m.length : Int) > 40
  · rw [if_pos h]; exact ⟨false, rfl, fun h => by cases h⟩
  · rw [if_neg h]
    obtain ⟨b, h1, h2⟩ := few_l m (by omega) m.length k 0 (by omega) (by omega) (by omega) (by simp [tot])
    exact ⟨b, h1, fun hb => ⟨h2 hb, by omega⟩⟩
theorem flat_length (m : List (List Int)) : ((m.map frame).flatten).length = tot m + 12 * m.length := by
  induction m with
  | nil => rfl
  | cons x m ih =>
    rw [List.map_cons, List.flatten_cons, List.length_append, ih, frame_length]
    simp [tot]; omega
end Go.Proofs.Ytdbkedipfpepbaa.FramePure
