/- FrameKeeps, FrameTorn, FrameSpoilt: plain. Conditions: none beyond those of the laws. -/
import Derived.Test.YtfjhioepaekffaaFrameAgain
import Derived.Test.YtfjhioepaekffaaFrameScans
import Derived.Test.YtfjhioepaekffaaPFramex9
namespace Go.Proofs.Ytfjhioepaekffaa.FramePure
open Go.RowKit Go.Proofs.Ytfjhioepaekffaa.PFrame Go.Proofs.YtfjhioepaekffaaW.PrintWords Go.Proofs.YtfjhioepaekffaaW.PrintLast Go.HashMath Go.FrameMath
set_option linter.unusedVariables false
def tot (m : List (List Int)) : Nat := (m.map List.length).sum
theorem tot_take (m : List (List Int)) (i : Nat) (h : i < m.length) : tot (m.take (i + 1)) = tot (m.take i) + m[i].length := by
  unfold tot
  rw [List.take_succ_eq_append_getElem h, List.map_append, List.sum_append]
  simp
theorem few_l (m : List (List Int)) (hm : m.length ≤ 40) : ∀ (d k i : Nat), d = m.length - i → i ≤ m.length → d < k → tot (m.take i) ≤ 3000 * i →
    ∃ b, lockgateref04_Few.l0 k m (tot (m.take i) : Nat) (i : Int) = some b ∧ (b = true → tot m ≤ 3000) := by
  intro d
  induction d with
  | zero =>
    intro k i hd hi hk ht
    obtain ⟨k, rfl⟩ : ∃ q, k = q + 1 := ⟨k - 1, by omega⟩
    have e : m.take i = m := List.take_of_length_le (by omega)
    rw [e, lockgateref04_Few.l0, if_neg (by omega)]
    exact ⟨_, rfl, fun h => by have := of_decide_eq_true h; omega⟩
  | succ d ih =>
    intro k i hd hi hk ht
    obtain ⟨k, rfl⟩ : ∃ q, k = q + 1 := ⟨k - 1, by omega⟩
    have h1 : i < m.length := by omega
    have htk := tot_take m i h1
    rw [lockgateref04_Few.l0, if_pos (by omega), if_pos (by omega), rdL m i h1]
    by_cases hb : (m[i].length : Int) > 3000
    · rw [if_pos hb]; exact ⟨false, rfl, fun h => by cases h⟩
    · rw [if_neg hb, wadd_ (tot (m.take i)) m[i].length (by omega) (by omega), w1 i (by omega), ← htk]
      exact ih k (i + 1) (by omega) (by omega) (by omega) (by omega)
theorem few_f (m : List (List Int)) (k : Nat) (hk : 100 < k) : ∃ b, lockgateref04_Few.f k m = some b ∧ (b = true → tot m ≤ 3000 ∧ m.length ≤ 40) := by
  unfold lockgateref04_Few.f
  by_cases h : (m.length : Int) > 40
  · rw [if_pos h]; exact ⟨false, rfl, fun h => by cases h⟩
  · rw [if_neg h]
    obtain ⟨b, h1, h2⟩ := few_l m (by omega) m.length k 0 (by omega) (by omega) (by omega) (by simp [tot])
    exact ⟨b, h1, fun hb => ⟨h2 hb, by omega⟩⟩
theorem flat_length (m : List (List Int)) : ((m.map frame).flatten).length = tot m + 12 * m.length := by
  induction m with
  | nil => rfl
  | cons x m ih =>
    rw [List.map_cons, List.flatten_cons, List.length_append, ih, frame_length]
    simp [tot]; omega
theorem flat_byt (m : List (List Int)) (h : ∀ x ∈ m, Byt x) : Byt (m.map frame).flatten := by
  intro y hy
  obtain ⟨f, hf, hyf⟩ := List.mem_flatten.1 hy
  obtain ⟨x, hx, rfl⟩ := List.mem_map.1 hf
  exact frame_byt (h x hx) y hyf
/-! ### FrameKeeps -/
theorem keeps_l1 (x : List Int) (B L i : Nat) (hi : i < L) (hL : L < 1000000) (hB : B < 1000000) (k0 : Nat)
    (next : ∀ (m : List (List Int)) (k : Nat), m.length = L → (∀ y ∈ m, y.length ≤ B) → k0 ≤ k → lockgatelaw04_FrameKeeps.l0 k x x m ((i + 1 : Nat) : Int) = some true) :
    ∀ (d k j : Nat) (m : List (List Int)) (hm : m.length = L), (∀ y ∈ m, y.length ≤ B) → d = (m[i]'(by omega)).length - j → j ≤ (m[i]'(by omega)).length → d + 1 + k0 ≤ k → lockgatelaw04_FrameKeeps.l1 k x x m (i : Int) (j : Int) = some true := by
  intro d
  induction d with
  | zero =>
    intro k j m hm hb hd hj hk
    obtain ⟨k, rfl⟩ : ∃ q, k = q + 1 := ⟨k - 1, by omega⟩
    have hl := hb _ (List.getElem_mem (show i < m.length by omega))
    rw [lockgatelaw04_FrameKeeps.l1, if_pos (by omega), if_pos (by omega), rdL m i (by omega), if_neg (by omega), w1 i (by omega)]
    exact next m k hm hb (by omega)
  | succ d ih =>
    intro k j m hm hb hd hj hk
    obtain ⟨k, rfl⟩ : ∃ q, k = q + 1 := ⟨k - 1, by omega⟩
    have hl := hb _ (List.getElem_mem (show i < m.length by omega))
    rw [lockgatelaw04_FrameKeeps.l1, if_pos (by omega), if_pos (by omega), rdL m i (by omega), if_pos (by omega), if_pos (by omega), w1 j (by omega), Int.toNat_natCast, Int.toNat_natCast]
    have hset : (m.set i ((m[i]'(by omega)).set j 99))[i]'(by rw [List.length_set]; omega) = (m[i]'(by omega)).set j 99 := List.getElem_set_self _
    refine ih k (j + 1) _ (by rw [List.length_set]; exact hm) (fun y hy => ?_) (by rw [hset, List.length_set]; omega) (by rw [hset, List.length_set]; omega) (by omega)
    rcases List.mem_or_eq_of_mem_set hy with h | rfl
    · exact hb y h
    · rw [List.length_set]; exact hl
theorem keeps_l0 (x : List Int) (hx : x.length < 1000000) (B L : Nat) (hL : L < 1000000) (hB : B < 1000000) : ∀ (d k i : Nat) (m : List (List Int)), d = L - i → i ≤ L → m.length = L → (∀ y ∈ m, y.length ≤ B) → d * (B + 3) + x.length + 5 ≤ k →
    lockgatelaw04_FrameKeeps.l0 k x x m (i : Int) = some true := by
  intro d
  induction d with
  | zero =>
    intro k i m hd hi hm hb hk
    obtain ⟨k, rfl⟩ : ∃ q, k = q + 1 := ⟨k - 1, by omega⟩
    rw [lockgatelaw04_FrameKeeps.l0, if_neg (by omega), same_f x x (by omega) k (by omega), Option.bind_some]
    simp
  | succ d ih =>
    intro k i m hd hi hm hb hk
    rw [Nat.succ_mul] at hk
    obtain ⟨k, rfl⟩ : ∃ q, k = q + 1 := ⟨k - 1, by omega⟩
    have hl := hb _ (List.getElem_mem (show i < m.length by omega))
    rw [lockgatelaw04_FrameKeeps.l0, if_pos (by omega)]
    generalize hz : d * (B + 3) = z at *
    exact keeps_l1 x B L i (by omega) hL hB (z + x.length + 5) (fun m' k' h1 h2 h3 => ih k' (i + 1) m' (by omega) (by omega) h1 h2 h3) _ k 0 m hm hb rfl (by omega) (by omega)
set_option maxRecDepth 100000 in
theorem FrameKeeps (m : List (List Int)) (hb : ∀ x ∈ m, Byt x) : ∃ k, lockgatelaw04_FrameKeeps.f k m = some true := by
  obtain ⟨k, hk⟩ : ∃ k, k = 100000000 := ⟨_, rfl⟩
  refine ⟨k + 1, ?_⟩
  unfold lockgatelaw04_FrameKeeps.f
  rw [awake_f', Option.bind_some, if_pos rfl]
  obtain ⟨b, h1, h2⟩ := few_f m (k + 1) (by omega)
  rw [h1, Option.bind_some]
  cases b
  · rw [lockgatelaw04_FrameKeeps.j0, if_pos (show (!false) = true from rfl), awake_f', Option.bind_some]
  · obtain ⟨h3, h4⟩ := h2 rfl
    have hfl := flat_length m
    have hby := flat_byt m hb
    rw [lockgatelaw04_FrameKeeps.j0, if_neg (by decide), row_f m (by omega) k (by omega), Option.bind_some, Option.bind_some, if_pos (by rw [List.length_nil]; omega), List.nil_append, scan_f _ hby (by omega) k (by omega), Option.bind_some]
    obtain ⟨h5, h6⟩ := scan_small (m.map frame).flatten ((m.map frame).flatten.length + 1) 0 [] (by omega) (by simp) (by simp)
    generalize (m.map frame).flatten = l at *
    generalize scan (l.length + 1) l [] 0 = r at *
    have h8 : l.length ≤ 5000 := by omega
    have h9 : r.1.length ≤ 5000 := by omega
    have hkk : 5000 * 5003 + 5005 ≤ k := by rw [hk]; decide
    clear hk hfl
    have h7 : r.1.length * (5000 + 3) ≤ 5000 * 5003 := Nat.mul_le_mul h9 (by decide)
    exact keeps_l0 l (by omega) 5000 r.1.length (by omega) (by decide) r.1.length k 0 r.1 rfl (Nat.zero_le _) rfl (fun y hy => Nat.le_trans (h6 y hy) h8) (by generalize r.1.length * (5000 + 3) = z at *; omega)
end Go.Proofs.Ytfjhioepaekffaa.FramePure
