/- FrameAgain: plain: what is read, framed again, are the bytes up to the place. Conditions: lists of fewer than a million bytes. -/
import Derived.Test.YtfjhioepaekffaaFrameSame
import Derived.Test.YtfjhioepaekffaaFrameScan
import Derived.Test.YtfjhioepaekffaaPFramex7
import Derived.Test.YtfjhioepaekffaaPFramex8
namespace Go.Proofs.Ytfjhioepaekffaa.FramePure
open Go.RowKit Go.Proofs.Ytfjhioepaekffaa.PFrame Go.Proofs.YtfjhioepaekffaaW.PrintWords Go.Proofs.YtfjhioepaekffaaW.PrintLast Go.HashMath Go.FrameMath
set_option linter.unusedVariables false
theorem flat_len_take (m : List (List Int)) (i : Nat) (h : i < m.length) : ((m.take (i + 1)).map frame).flatten = ((m.take i).map frame).flatten ++ frame m[i] := by
  rw [List.take_succ_eq_append_getElem h, List.map_append, List.flatten_append, List.map_singleton, List.flatten_singleton]
theorem flat_le (m : List (List Int)) (i : Nat) : ((m.take i).map frame).flatten.length ≤ (m.map frame).flatten.length := by
  have e : m = m.take i ++ m.drop i := (List.take_append_drop i m).symm
  conv => rhs; rw [e]
  rw [List.map_append, List.flatten_append, List.length_append]
  omega
theorem mem_len (m : List (List Int)) (x : List Int) (h : x ∈ m) : x.length ≤ (m.map frame).flatten.length := by
  obtain ⟨i, hi, rfl⟩ := List.mem_iff_getElem.1 h
  have h1 := flat_le m (i + 1)
  rw [flat_len_take m i hi, List.length_append, frame_length] at h1
  omega
theorem len_le (m : List (List Int)) : m.length ≤ (m.map frame).flatten.length := by
  induction m with
  | nil => exact Nat.zero_le _
  | cons x m ih =>
    rw [List.map_cons, List.flatten_cons, List.length_append, List.length_cons, frame_length]
    omega
theorem row_l (m : List (List Int)) (hm : (m.map frame).flatten.length < 1000000) : ∀ (d k i : Nat), d = m.length - i → i ≤ m.length → d + (m.map frame).flatten.length + 300 < k →
    lockgatelaw04_row.l0 k m ((m.take i).map frame).flatten (i : Int) = some (m.map frame).flatten := by
  have hml := len_le m
  intro d
  induction d with
  | zero =>
    intro k i hd hi hk
    obtain ⟨k, rfl⟩ : ∃ q, k = q + 1 := ⟨k - 1, by omega⟩
    simp only [lockgatelaw04_row.l0]
    rw [if_neg (by omega), List.take_of_length_le (by omega)]
  | succ d ih =>
    intro k i hd hi hk
    obtain ⟨k, rfl⟩ : ∃ q, k = q + 1 := ⟨k - 1, by omega⟩
    have h1 : i < m.length := by omega
    have h2 := mem_len m m[i] (List.getElem_mem h1)
    have h3 := flat_le m i
    simp only [lockgatelaw04_row.l0]
    rw [if_pos (by omega), if_pos (by omega), rdL m i h1, frame_f _ (by omega) k (by omega), Option.bind_some, if_pos (by rw [frame_length]; omega), w1 i (by omega), ← flat_len_take m i h1]
    exact ih k (i + 1) (by omega) (by omega) (by omega)
theorem row_f (m : List (List Int)) (hm : (m.map frame).flatten.length < 1000000) (k : Nat) (hk : 2 * (m.map frame).flatten.length + 300 < k) : lockgatelaw04_row.f k m = some (m.map frame).flatten := by
  have hml := len_le m
  exact row_l m hm m.length k 0 (by omega) (by omega) (by omega)
theorem awake_f' : lockgatelaw04_awake.f = some true := rfl
theorem FrameAgain (l : List Int) (hb : Byt l) : ∃ k, lockgatelaw04_FrameAgain.f k l = some true := by
  obtain ⟨k, hk⟩ : ∃ k, k = 4 * l.length + 1000 := ⟨_, rfl⟩
  refine ⟨k + 1, ?_⟩
  unfold lockgatelaw04_FrameAgain.f
  rw [awake_f', Option.bind_some, if_pos rfl]
  by_cases hl : (l.length : Int) > 5000
  · rw [decide_eq_true hl, lockgatelaw04_FrameAgain.j0, if_pos rfl, awake_f', Option.bind_some]
  · rw [decide_eq_false hl, lockgatelaw04_FrameAgain.j0, if_neg (by decide), scan_f l hb (by omega) k (by omega), Option.bind_some]
    have h1 := scan_fits l (l.length + 1) [] 0 (by omega)
    have h2 := scan_again l (l.length + 1) [] 0 (by omega) (by simp)
    generalize scan (l.length + 1) l [] 0 = r at *
    obtain ⟨m, a⟩ := r
    dsimp only at h1 h2 ⊢
    have h3 : ((m.map frame).flatten).length = a := by rw [h2, List.length_take]; omega
    rw [if_pos (by omega), row_f m (by omega) k (by omega), Option.bind_some, if_pos (by omega), Int.toNat_natCast, same_f _ _ (by omega) k (by omega), Option.bind_some, h2]
    simp
end Go.Proofs.Ytfjhioepaekffaa.FramePure
