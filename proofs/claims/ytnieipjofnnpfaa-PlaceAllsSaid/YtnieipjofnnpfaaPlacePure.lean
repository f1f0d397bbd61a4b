/- Plain facts on chains of members: what the printed functions of the place laws come to. Conditions: lists of at most sixteen members where the laws look at them. -/
import Derived.Test.YtnieipjofnnpfaaPPlacex9
import Derived.Test.YtnieipjofnnpfaaPPlacex8
import Derived.Test.YtnieipjofnnpfaaPPlacex6
import Derived.Test.YtnieipjofnnpfaaPPlacex7
namespace Go.Proofs.Ytnieipjofnnpfaa.PlacePure
open Go.RowKit Go.Proofs.Ytnieipjofnnpfaa.PPlace Go.Proofs.YtnieipjofnnpfaaW.PrintWords Go.Proofs.YtnieipjofnnpfaaW.PrintLast
theorem w1 (i : Nat) (h : i < 9000000000000000000) : wrap64 ((i : Int) + 1) = ((i + 1 : Nat) : Int) := by unfold wrap64; omega
set_option linter.unusedVariables false
/-- no node twice -/
def Apart (l : List S24) : Prop := ∀ i j, ∀ hi : i < j, ∀ hj : j < l.length, (l[i]'(by omega)).f0 ≠ l[j].f0
def Good (l : List S24) : Prop := l.length ≤ 16 ∧ Apart l
theorem right_inner (l : List S24) (i : Nat) (hi : i < l.length) (k0 : Nat) (hk0 : 0 < k0) (hr : (∀ j, ∀ _ : i < j, ∀ hj : j < l.length, j < 20 → l[i].f0 ≠ l[j].f0) → ∀ k, k0 ≤ k → ∃ b, lockgateref16_Right.l0 k l ((i : Int) + 1) = some b ∧ (b = true → Good l)) :
    ∀ (d k j : Nat), d = 20 - j → i < j → j ≤ 20 → 2 * d + 2 + k0 ≤ k → (∀ q, ∀ _ : i < q, ∀ hq : q < j, ∀ hl : q < l.length, l[i].f0 ≠ l[q].f0) →
      ∃ b, lockgateref16_Right.l1 k l (i : Int) (j : Int) = some b ∧ (b = true → Good l) := by
  intro d
  induction d with
  | zero =>
    intro k j hd hij hj hk hq
    obtain ⟨k, rfl⟩ : ∃ m, k = m + 2 := ⟨k - 2, by omega⟩
    have hstop : lockgateref16_Right.j3 (k + 1) l (i : Int) (j : Int) false = lockgateref16_Right.l0 k l ((i : Int) + 1) := by
      simp only [lockgateref16_Right.j3]
      rw [if_neg (by decide), show wrap64 ((i : Int) + 1) = (i : Int) + 1 by unfold wrap64; omega]
    have e : lockgateref16_Right.l1 (k + 2) l (i : Int) (j : Int) = lockgateref16_Right.l0 k l ((i : Int) + 1) := by
      simp only [lockgateref16_Right.l1]
      rw [← hstop, show decide ((j : Int) < 20) = false by simp; omega]
      split <;> rfl
    rw [e]
    exact hr (fun j' a b c => hq j' a (by omega) b) k (by omega)
  | succ d ih =>
    intro k j hd hij hj hk hq
    obtain ⟨k, rfl⟩ : ∃ m, k = m + 2 := ⟨k - 2, by omega⟩
    by_cases hlt : j < l.length
    · have e : lockgateref16_Right.l1 (k + 2) l (i : Int) (j : Int) = (if l[i].f0 = l[j].f0 then some false else lockgateref16_Right.l1 k l (i : Int) ((j + 1 : Nat) : Int)) := by
        simp only [lockgateref16_Right.l1]
        rw [if_pos (by omega), show decide ((j : Int) < 20) = true by simp; omega]
        simp only [lockgateref16_Right.j3]
        rw [if_pos (by decide), if_pos (by omega), if_pos (by omega), if_pos (by omega), if_pos (by omega), rd_get' l i hi, rd_get' l j hlt, w1 j (by omega)]
      rw [e]
      by_cases hc : l[i].f0 = l[j].f0
      · rw [if_pos hc]; exact ⟨false, rfl, fun h => by cases h⟩
      · rw [if_neg hc]
        refine ih k (j + 1) (by omega) (by omega) (by omega) (by omega) (fun q a b c => ?_)
        rcases Nat.lt_or_ge q j with h | h
        · exact hq q a h c
        · obtain rfl : q = j := by omega
          exact hc
    · have e : lockgateref16_Right.l1 (k + 2) l (i : Int) (j : Int) = lockgateref16_Right.l0 k l ((i : Int) + 1) := by
        simp only [lockgateref16_Right.l1]
        rw [if_neg (by omega)]
        simp only [lockgateref16_Right.j3]
        rw [if_neg (by decide), show wrap64 ((i : Int) + 1) = (i : Int) + 1 by unfold wrap64; omega]
      rw [e]
      exact hr (fun j' a b c => hq j' a (by omega) b) k (by omega)
theorem right_outer (l : List S24) : ∀ (d k i : Nat), d = 20 - i → i ≤ 20 → 50 * d + 5 ≤ k → (∀ p q, ∀ _ : p < q, ∀ hq : q < l.length, p < i → q < 20 → (l[p]'(by omega)).f0 ≠ l[q].f0) →
    ∃ b, lockgateref16_Right.l0 k l (i : Int) = some b ∧ (b = true → Good l) := by
  intro d
  induction d with
  | zero =>
    intro k i hd hi hk hq
    obtain ⟨k, rfl⟩ : ∃ m, k = m + 2 := ⟨k - 2, by omega⟩
    have e : lockgateref16_Right.l0 (k + 2) l (i : Int) = lockgateref16_Right.j1 (k + 1) l (i : Int) false := by
      simp only [lockgateref16_Right.l0]
      rw [show decide ((i : Int) < 20) = false by simp; omega]
      split <;> rfl
    rw [e]
    simp only [lockgateref16_Right.j1]
    rw [if_neg (by decide)]
    by_cases h0 : (l.length : Int) > 0
    · rw [if_pos h0]
      refine ⟨_, rfl, fun h => ?_⟩
      have h16 : l.length ≤ 16 := by simp at h; omega
      exact ⟨h16, fun p q a b => hq p q a b (by omega) (by omega)⟩
    · rw [if_neg h0]; exact ⟨_, rfl, fun h => by cases h⟩
  | succ d ih =>
    intro k i hd hi hk hq
    obtain ⟨k, rfl⟩ : ∃ m, k = m + 2 := ⟨k - 2, by omega⟩
    by_cases hlt : i < l.length
    · have e : lockgateref16_Right.l0 (k + 2) l (i : Int) = lockgateref16_Right.l1 k l (i : Int) ((i + 1 : Nat) : Int) := by
        simp only [lockgateref16_Right.l0]
        rw [if_pos (by omega), show decide ((i : Int) < 20) = true by simp; omega]
        simp only [lockgateref16_Right.j1]
        rw [if_pos (by decide), w1 i (by omega)]
      rw [e]
      refine right_inner l i hlt (50 * d + 5) (by omega) (fun hx k' hk' => ?_) (20 - (i + 1)) k (i + 1) rfl (by omega) (by omega) (by omega) (fun q a b c => by omega)
      have := ih k' (i + 1) (by omega) (by omega) hk' (fun p q a b c d' => ?_)
      · rw [show ((i + 1 : Nat) : Int) = (i : Int) + 1 by omega] at this; exact this
      · rcases Nat.lt_or_ge p i with h | h
        · exact hq p q a b h d'
        · obtain rfl : p = i := by omega
          exact hx q a b d'
    · have e : lockgateref16_Right.l0 (k + 2) l (i : Int) = lockgateref16_Right.j1 (k + 1) l (i : Int) false := by
        simp only [lockgateref16_Right.l0]
        rw [if_neg (by omega)]
      rw [e]
      simp only [lockgateref16_Right.j1]
      rw [if_neg (by decide)]
      by_cases h0 : (l.length : Int) > 0
      · rw [if_pos h0]
        refine ⟨_, rfl, fun h => ?_⟩
        have h16 : l.length ≤ 16 := by simp at h; omega
        exact ⟨h16, fun p q a b => hq p q a b (by omega) (by omega)⟩
      · rw [if_neg h0]; exact ⟨_, rfl, fun h => by cases h⟩
theorem single_f (l : List S24) (k : Nat) (hk : 1005 ≤ k) : ∃ b, lockgateref17_Single.f k l = some b ∧ (b = true → Good l) := by
  unfold lockgateref17_Single.f
  by_cases h : (l.length : Int) = 0
  · rw [if_pos h]
    exact ⟨true, rfl, fun _ => ⟨by omega, fun i j a b => by omega⟩⟩
  · rw [if_neg h]
    obtain ⟨b, h1, h2⟩ := right_outer l 20 k 0 rfl (by omega) (by omega) (fun p q a b c => by omega)
    unfold lockgateref16_Right.f
    exact ⟨b, by rw [show (0 : Int) = ((0 : Nat) : Int) from rfl, h1]; rfl, h2⟩
theorem right_f (l1 l2 : List S24) (k : Nat) (hk : 1005 ≤ k) : ∃ b, lockgatelaw17_right.f k l1 l2 = some b ∧ (b = true → Good l1 ∧ Good l2) := by
  unfold lockgatelaw17_right.f
  obtain ⟨b, h1, h2⟩ := single_f l1 k hk
  obtain ⟨c, h3, h4⟩ := single_f l2 k hk
  rw [h1, Option.bind_some]
  cases b
  · exact ⟨false, rfl, fun h => by cases h⟩
  · rw [if_pos rfl, h3]
    exact ⟨c, rfl, fun h => ⟨h2 rfl, h4 h⟩⟩
theorem same_l (l : List S24) (hl : l.length < 1000000) : ∀ (d k i : Nat), d = l.length - i → i ≤ l.length → d < k → lockgateref16_Same.l0 k l l (i : Int) = some true := by
  intro d
  induction d with
  | zero =>
    intro k i hd hi hk
    obtain ⟨k, rfl⟩ : ∃ m, k = m + 1 := ⟨k - 1, by omega⟩
    simp only [lockgateref16_Same.l0]
    rw [if_neg (by omega)]
  | succ d ih =>
    intro k i hd hi hk
    obtain ⟨k, rfl⟩ : ∃ m, k = m + 1 := ⟨k - 1, by omega⟩
    simp only [lockgateref16_Same.l0]
    rw [if_pos (by omega), if_pos (by omega), if_pos (by omega), if_neg (by simp), w1 i (by omega)]
    exact ih k (i + 1) (by omega) (by omega) (by omega)
theorem same_f (l : List S24) (hl : l.length < 1000000) (k : Nat) (hk : l.length < k) : lockgateref16_Same.f k l l = some true := by
  unfold lockgateref16_Same.f
  rw [if_pos rfl]
  exact same_l l hl l.length k 0 (by omega) (by omega) hk
theorem refIndex_l (l : List S24) (a b : Int) (hl : l.length < 1000000) : ∀ (d k i : Nat), d = l.length - i → i ≤ l.length → d < k →
    lockgateref16_Index.l0 k l (i : Int) a b = some (idxFrom (same a b) (l.drop i) i) := by
  intro d
  induction d with
  | zero =>
    intro k i hd hi hk
    obtain ⟨k, rfl⟩ : ∃ m, k = m + 1 := ⟨k - 1, by omega⟩
    simp only [lockgateref16_Index.l0]
    rw [if_neg (by omega), List.drop_eq_nil_of_le (by omega)]
    rfl
  | succ d ih =>
    intro k i hd hi hk
    obtain ⟨k, rfl⟩ : ∃ m, k = m + 1 := ⟨k - 1, by omega⟩
    have hlt : i < l.length := by omega
    simp only [lockgateref16_Index.l0]
    rw [if_pos (by omega), if_pos (by omega), w1 i (by omega), rd_get' l i hlt, List.drop_eq_getElem_cons hlt]
    unfold idxFrom
    by_cases h1 : l[i].f0 = a
    · rw [if_pos h1]
      by_cases h2 : l[i].f1 = b
      · rw [if_pos h2, if_pos (by simp [same, h1, h2])]
      · rw [if_neg h2, if_neg (by simp [same, h1]; exact fun h => h2 h.symm), ih k (i + 1) (by omega) (by omega) (by omega)]
    · rw [if_neg h1, if_neg (by simp [same]; exact fun h => absurd h.symm h1), ih k (i + 1) (by omega) (by omega) (by omega)]
theorem refIndex_f (l : List S24) (a b : Int) (hl : l.length < 1000000) (k : Nat) (hk : l.length < k) : lockgateref16_Index.f k l a b = some (idxFrom (same a b) l 0) := by
  unfold lockgateref16_Index.f
  have := refIndex_l l a b hl l.length k 0 (by omega) (by omega) hk
  rw [List.drop_zero] at this
  exact this
theorem s24_eta (x : S24) : (⟨x.f0, x.f1⟩ : S24) = x := rfl
theorem refBoth_l (l up : List S24) (hl : l.length < 1000000) (hu : up.length < 1000000) : ∀ (d k i : Nat) (acc : List S24), d = l.length - i → i ≤ l.length → d + up.length + 1 < k → acc.length ≤ i →
    lockgateref17_Both.l0 k l up acc (i : Int) = some (acc ++ (l.drop i).filter fun x => !decide (idxOf up x < 0)) := by
  intro d
  induction d with
  | zero =>
    intro k i acc hd hi hk ha
    obtain ⟨k, rfl⟩ : ∃ m, k = m + 1 := ⟨k - 1, by omega⟩
    simp only [lockgateref17_Both.l0]
    rw [if_neg (by omega), List.drop_eq_nil_of_le (by omega)]
    simp
  | succ d ih =>
    intro k i acc hd hi hk ha
    obtain ⟨k, rfl⟩ : ∃ m, k = m + 1 := ⟨k - 1, by omega⟩
    have hlt : i < l.length := by omega
    simp only [lockgateref17_Both.l0]
    rw [if_pos (by omega), if_pos (by omega), w1 i (by omega), rd_get' l i hlt, refIndex_f up _ _ hu k (by omega), Option.bind_some, s24_eta, List.drop_eq_getElem_cons hlt, List.filter_cons]
    change (if idxOf up l[i] ≥ 0 then _ else _) = _
    by_cases h : idxOf up l[i] ≥ 0
    · rw [if_pos h, if_pos (by omega), ih k (i + 1) _ (by omega) (by omega) (by omega) (by simp; omega), if_pos (by simp; omega)]
      simp
    · rw [if_neg h, ih k (i + 1) _ (by omega) (by omega) (by omega) (by omega), if_neg (by simp; omega)]
theorem refBoth_f (l up : List S24) (hl : l.length < 1000000) (hu : up.length < 1000000) (k : Nat) (hk : l.length + up.length + 1 < k) : lockgateref17_Both.f k l up = place_Both.f l up := by
  unfold lockgateref17_Both.f place_Both.f
  have := refBoth_l l up hl hu l.length k 0 [] (by omega) (by omega) hk (by simp)
  rw [if_pos (by omega)]
  exact this
theorem refLead_l (l : List S24) (x : S24) (hl : l.length < 1000000) : ∀ (d k i : Nat) (acc : List S24), d = l.length - i → i ≤ l.length → d < k → acc.length ≤ i + 1 →
    lockgateref17_Lead.l0 k l acc (i : Int) x.f0 x.f1 = some (acc ++ (l.drop i).filter fun y => !same x.f0 x.f1 y) := by
  intro d
  induction d with
  | zero =>
    intro k i acc hd hi hk ha
    obtain ⟨k, rfl⟩ : ∃ m, k = m + 1 := ⟨k - 1, by omega⟩
    simp only [lockgateref17_Lead.l0]
    rw [if_neg (by omega), List.drop_eq_nil_of_le (by omega)]
    simp
  | succ d ih =>
    intro k i acc hd hi hk ha
    obtain ⟨k, rfl⟩ : ∃ m, k = m + 1 := ⟨k - 1, by omega⟩
    have hlt : i < l.length := by omega
    simp only [lockgateref17_Lead.l0]
    rw [if_pos (by omega), if_pos (by omega), w1 i (by omega), rd_get' l i hlt, s24_eta, List.drop_eq_getElem_cons hlt, List.filter_cons]
    have e : (!(l[i].f0 == x.f0) || !(l[i].f1 == x.f1)) = !same x.f0 x.f1 l[i] := by
      unfold same; rw [Bool.not_and]
      congr 1 <;> congr 1 <;> rw [Bool.beq_comm]
    rw [e]
    by_cases h : (!same x.f0 x.f1 l[i]) = true
    · rw [if_pos h, if_pos (by omega), ih k (i + 1) _ (by omega) (by omega) (by omega) (by simp; omega), if_pos h]
      simp
    · rw [if_neg h, ih k (i + 1) _ (by omega) (by omega) (by omega) (by omega), if_neg h]
/-- what a place that was found says -/
theorem idxFrom_spec (p : S24 → Bool) : ∀ (l : List S24) (i : Nat), (idxFrom p l i = -1 ∧ ∀ x ∈ l, p x = false) ∨ ∃ j : Nat, ∃ h : j < l.length, idxFrom p l i = ((i + j : Nat) : Int) ∧ p l[j] = true ∧ ∀ q, ∀ h2 : q < j, p (l[q]'(by omega)) = false
  | [], _ => .inl ⟨rfl, by simp⟩
  | x :: l, i => by
    unfold idxFrom
    by_cases h : p x = true
    · rw [if_pos h]
      exact .inr ⟨0, by simp, by simp, h, fun q h2 => absurd h2 (by omega)⟩
    · rw [if_neg h]
      have h' : p x = false := by simpa using h
      rcases idxFrom_spec p l (i + 1) with ⟨h1, h2⟩ | ⟨j, hj, h1, h2, h3⟩
      · exact .inl ⟨h1, by simpa [h'] using h2⟩
      · refine .inr ⟨j + 1, by simp; omega, by rw [h1]; congr 1; omega, by simpa using h2, fun q hq => ?_⟩
        cases q with
        | zero => simpa using h'
        | succ q => simpa using h3 q (by omega)
theorem same_iff (x y : S24) : same x.f0 x.f1 y = true ↔ x = y := by
  obtain ⟨a, b⟩ := x; obtain ⟨c, d⟩ := y
  simp [same]
theorem index_at (l : List S24) (h : Apart l) (i : Nat) (hi : i < l.length) : idxOf l l[i] = (i : Int) := by
  unfold idxOf
  rcases idxFrom_spec (same l[i].f0 l[i].f1) l 0 with ⟨_, h2⟩ | ⟨j, hj, h1, h2, h3⟩
  · have := h2 l[i] (List.getElem_mem hi)
    simp [same] at this
  · rw [h1, Nat.zero_add]
    have e : l[i].f0 = l[j].f0 := by simp [same] at h2; exact h2.1
    rcases Nat.lt_trichotomy i j with hlt | rfl | hgt
    · exact absurd e (h i j hlt hj)
    · rfl
    · exact absurd e.symm (h j i hgt hi)
theorem filter_out (l : List S24) (h : Apart l) (j : Nat) (hj : j < l.length) : l.filter (fun y => !same l[j].f0 l[j].f1 y) = l.take j ++ l.drop (j + 1) := by
  have e : l = l.take j ++ l[j] :: l.drop (j + 1) := by rw [← List.drop_eq_getElem_cons hj, List.take_append_drop]
  conv => lhs; arg 2; rw [e]
  rw [List.filter_append, List.filter_cons, if_neg (by simp [same])]
  congr 1
  · rw [List.filter_eq_self]
    intro a ha
    obtain ⟨i, hi, rfl⟩ := List.mem_take_iff_getElem.1 ha
    have := h i j (by omega) hj
    simp [same]
    exact .inl fun h => this h.symm
  · rw [List.filter_eq_self]
    intro a ha
    obtain ⟨i, hi, rfl⟩ := List.mem_drop_iff_getElem.1 ha
    have := h j (j + 1 + i) (by omega) (by omega)
    simp [same]
    exact .inl this
theorem refLead_f (l : List S24) (x : S24) (h : Good l) (k : Nat) (hk : 100 < k) : lockgateref17_Lead.f k l x.f0 x.f1 = some (leadL l x (idxOf l x)) := by
  obtain ⟨h16, ha⟩ := h
  obtain ⟨k, rfl⟩ : ∃ m, k = m + 1 := ⟨k - 1, by omega⟩
  unfold lockgateref17_Lead.f
  rw [refIndex_f l _ _ (by omega) (k + 1) (by omega), Option.bind_some]
  change (if idxOf l x ≥ 0 then _ else _) = _
  have hx : idxOf l x = idxFrom (same x.f0 x.f1) l 0 := rfl
  rcases idxFrom_spec (same x.f0 x.f1) l 0 with ⟨h1, h2⟩ | ⟨j, hj, h1, h2, h3⟩
  · rw [hx, h1, if_neg (by decide)]
    simp only [lockgateref17_Lead.j0]
    have := refLead_l l x (by omega) l.length k 0 [] (by omega) (by omega) (by omega) (by simp)
    refine this.trans ?_
    unfold leadL
    rw [if_pos (by decide), List.drop_zero, List.filter_eq_self.2 (fun a ha => by simp [h2 a ha])]
    rfl
  · rw [hx, h1, if_pos (by omega), if_pos (by simp)]
    simp only [lockgateref17_Lead.j0]
    have := refLead_l l x (by omega) l.length k 0 ([] ++ [x]) (by omega) (by omega) (by omega) (by simp)
    refine this.trans ?_
    have e : x = l[j] := (same_iff x l[j]).1 h2
    unfold leadL
    rw [if_neg (by omega), List.drop_zero, Nat.zero_add, Int.toNat_natCast]
    subst e
    rw [filter_out l ha j hj]
    rfl
theorem lead_f (l : List S24) (x : S24) (hl : l.length < 8796093022000) : place_Lead.f l x.f0 x.f1 = some (leadL l x (idxOf l x)) := by
  unfold place_Lead.f; rw [if_pos hl]
theorem lead_length (l : List S24) (x : S24) : (leadL l x (idxOf l x)).length = l.length ∨ (leadL l x (idxOf l x)).length ≤ l.length + 1 := by
  unfold leadL
  split
  · exact .inl rfl
  · exact .inr (by simp; omega)
/-! ### the chain -/
def step (want : Int) (acc : List S24) (x : S24) : List S24 := if (acc.length : Int) < want then (if acc.any (fun y => y.f0 == x.f0) then acc else acc ++ [x]) else acc
def chainL (want : Int) (acc ring : List S24) : List S24 := ring.foldl (step want) acc
def ring (l : List S24) (s : Nat) : List S24 := l.drop s ++ l.take s
theorem ring_length (l : List S24) (s : Nat) (hs : s ≤ l.length) : (ring l s).length = l.length := by simp [ring]; omega
theorem ring_at (l : List S24) (s : Nat) (hs : s < l.length) (j : Nat) (hj : j < l.length) : (ring l s)[j]'(by rw [ring_length l s (by omega)]; exact hj) = l[(s + j) % l.length]'(Nat.mod_lt _ (by omega)) := by
  unfold ring
  rcases Nat.lt_or_ge (s + j) l.length with h | h
  · have e : (s + j) % l.length = s + j := Nat.mod_eq_of_lt h
    rw [List.getElem_append_left (by simp; omega)]
    simp only [List.getElem_drop, e]
  · have e : (s + j) % l.length = j - (l.length - s) := by rw [Nat.mod_eq_sub_mod h, Nat.mod_eq_of_lt (by omega)]; omega
    rw [List.getElem_append_right (by simp; omega)]
    simp only [List.getElem_take, List.length_drop, e]
theorem apart_ne (l : List S24) (h : Apart l) (i j : Nat) (hi : i < l.length) (hj : j < l.length) (hn : i ≠ j) : l[i].f0 ≠ l[j].f0 := by
  rcases Nat.lt_or_gt_of_ne hn with h1 | h1
  · exact h i j h1 hj
  · exact fun e => h j i h1 hi e.symm
theorem ring_apart (l : List S24) (h : Apart l) (s : Nat) (hs : s < l.length) : Apart (ring l s) := by
  intro i j hi hj
  rw [ring_length l s (by omega)] at hj
  rw [ring_at l s hs i (by omega), ring_at l s hs j hj]
  refine apart_ne l h _ _ _ _ fun e => ?_
  have h1 : (s + i) % l.length = if s + i < l.length then s + i else s + i - l.length := by
    split
    · rename_i h; exact Nat.mod_eq_of_lt h
    · rw [Nat.mod_eq_sub_mod (by omega), Nat.mod_eq_of_lt (by omega)]
  have h2 : (s + j) % l.length = if s + j < l.length then s + j else s + j - l.length := by
    split
    · rename_i h; exact Nat.mod_eq_of_lt h
    · rw [Nat.mod_eq_sub_mod (by omega), Nat.mod_eq_of_lt (by omega)]
  rw [h1, h2] at e
  split at e <;> split at e <;> omega
theorem step_length (want : Int) (acc : List S24) (x : S24) : (step want acc x).length ≤ acc.length + 1 := by
  unfold step; split <;> (try split) <;> simp
theorem tmod_nat (n : Int) (h : 0 ≤ n) (m : Nat) : Int.tmod n (m : Int) = ((n.toNat % m : Nat) : Int) := by
  obtain ⟨a, rfl⟩ : ∃ a : Nat, n = a := ⟨n.toNat, by omega⟩
  rfl
theorem chain_l (n : Int) (hn : 0 ≤ n) (l : List S24) (hl : 0 < l.length) (hl2 : l.length < 1000000) (want : Int) : ∀ (d k j : Nat) (acc : List S24), d = l.length - j → j ≤ l.length → d < k → acc.length + d < 1000000 →
    place_Chain.l0 k n l want acc (l.length : Int) (j : Int) = some (chainL want acc ((ring l (n.toNat % l.length)).drop j)) := by
  have hs : n.toNat % l.length < l.length := Nat.mod_lt _ hl
  have hrl : (ring l (n.toNat % l.length)).length = l.length := ring_length l _ (by omega)
  intro d
  induction d with
  | zero =>
    intro k j acc hd hj hk ha
    obtain ⟨k, rfl⟩ : ∃ m, k = m + 1 := ⟨k - 1, by omega⟩
    simp only [place_Chain.l0]
    rw [if_neg (by omega), List.drop_eq_nil_of_le (by omega)]
    rfl
  | succ d ih =>
    intro k j acc hd hj hk ha
    obtain ⟨k, rfl⟩ : ∃ m, k = m + 1 := ⟨k - 1, by omega⟩
    have hlt : j < l.length := by omega
    have hm : Int.tmod (wrap64 ((Int.tmod n (l.length : Int)) + (j : Int))) (l.length : Int) = (((n.toNat % l.length + j) % l.length : Nat) : Int) := by
      rw [tmod_nat n hn, show wrap64 (((n.toNat % l.length : Nat) : Int) + (j : Int)) = ((n.toNat % l.length + j : Nat) : Int) by unfold wrap64; omega]
      rfl
    have hml : (n.toNat % l.length + j) % l.length < l.length := Nat.mod_lt _ hl
    simp only [place_Chain.l0]
    rw [if_pos (by omega), if_neg (by omega), hm, if_pos (by omega), if_pos (by omega), rd_get' l _ hml, w1 j (by omega), ← ring_at l _ hs j hlt, s24_eta, List.drop_eq_getElem_cons (by omega)]
    unfold chainL
    rw [List.foldl_cons]
    generalize (ring l (n.toNat % l.length))[j] = x
    have hstep := step_length want acc x
    unfold step at hstep ⊢
    by_cases h1 : (acc.length : Int) < want
    · rw [if_pos h1] at hstep
      rw [if_pos h1, if_pos h1]
      unfold place_node.f
      rw [Option.bind_some]
      by_cases h2 : acc.any (fun y => y.f0 == x.f0) = true
      · rw [if_pos h2, if_pos h2]
        exact ih k (j + 1) acc (by omega) (by omega) (by omega) (by omega)
      · rw [if_neg h2, if_neg h2, if_pos (by omega)]
        exact ih k (j + 1) _ (by omega) (by omega) (by omega) (by simp; omega)
    · rw [if_neg h1, if_neg h1]
      exact ih k (j + 1) acc (by omega) (by omega) (by omega) (by omega)
def startOf (n : Int) (l : List S24) : Nat := if l.length = 0 then 0 else n.toNat % l.length
theorem chain_f (n : Int) (hn : 0 ≤ n) (l1 l : List S24) (h1 : l1.length ≤ 16) (h2 : l.length ≤ 16) (want : Int) (k : Nat) (hk : 20 < k) :
    place_Chain.f k n l1 l want = some (chainL want l1 (ring l (startOf n l))) := by
  unfold place_Chain.f api_Member_19.f
  rw [if_pos (by omega), Option.bind_some]
  rcases Nat.eq_zero_or_pos l.length with h | h
  · obtain rfl : l = [] := by cases l <;> simp_all
    obtain ⟨k, rfl⟩ : ∃ m, k = m + 1 := ⟨k - 1, by omega⟩
    simp only [place_Chain.l0]
    rw [if_neg (by decide)]
    rfl
  · have := chain_l n hn l h (by omega) want l.length k 0 l1 (by omega) (by omega) (by omega) (by omega)
    rw [List.drop_zero] at this
    unfold startOf
    rw [if_neg (by omega)]
    exact this
theorem refNode_l (l : List S24) (a : Int) (hl : l.length < 1000000) : ∀ (d k i : Nat), d = l.length - i → i ≤ l.length → d < k →
    lockgateref17_node.l0 k l a (i : Int) = some ((l.drop i).any fun y => y.f0 == a) := by
  intro d
  induction d with
  | zero =>
    intro k i hd hi hk
    obtain ⟨k, rfl⟩ : ∃ m, k = m + 1 := ⟨k - 1, by omega⟩
    simp only [lockgateref17_node.l0]
    rw [if_neg (by omega), List.drop_eq_nil_of_le (by omega)]
    rfl
  | succ d ih =>
    intro k i hd hi hk
    obtain ⟨k, rfl⟩ : ∃ m, k = m + 1 := ⟨k - 1, by omega⟩
    have hlt : i < l.length := by omega
    simp only [lockgateref17_node.l0]
    rw [if_pos (by omega), if_pos (by omega), w1 i (by omega), rd_get' l i hlt, List.drop_eq_getElem_cons hlt, List.any_cons]
    by_cases h : l[i].f0 = a
    · rw [if_pos h]; simp [h]
    · rw [if_neg h, ih k (i + 1) (by omega) (by omega) (by omega)]; simp [h]
theorem refNode_f (l : List S24) (a : Int) (hl : l.length < 1000000) (k : Nat) (hk : l.length < k) : lockgateref17_node.f k l a = some (l.any fun y => y.f0 == a) := by
  have := refNode_l l a hl l.length k 0 (by omega) (by omega) hk
  rw [List.drop_zero] at this
  exact this
theorem refChain_l (l1 r : List S24) (h1 : l1.length ≤ 16) (hr : Apart r) (hr16 : r.length ≤ 16) (want : Int) : ∀ (d k i : Nat) (t : List S24), d = r.length - i → i ≤ r.length → d + 20 < k → t.length ≤ i → (∀ y ∈ t, y ∈ r.take i) →
    lockgateref17_Chain.l0 k l1 want (l1 ++ t) r (i : Int) = some (chainL want (l1 ++ t) (r.drop i)) := by
  intro d
  induction d with
  | zero =>
    intro k i t hd hi hk ht hm
    obtain ⟨k, rfl⟩ : ∃ m, k = m + 1 := ⟨k - 1, by omega⟩
    simp only [lockgateref17_Chain.l0]
    rw [if_neg (by omega), List.drop_eq_nil_of_le (by omega)]
    rfl
  | succ d ih =>
    intro k i t hd hi hk ht hm
    obtain ⟨k, rfl⟩ : ∃ m, k = m + 1 := ⟨k - 1, by omega⟩
    have hlt : i < r.length := by omega
    have htk : r.take (i + 1) = r.take i ++ [r[i]] := by rw [List.take_succ_eq_append_getElem hlt]
    have hm' : ∀ y ∈ t, y ∈ r.take (i + 1) := fun y hy => by rw [htk]; exact List.mem_append_left _ (hm y hy)
    have hne : t.any (fun y => y.f0 == r[i].f0) = false := by
      rw [List.any_eq_false]
      intro y hy
      obtain ⟨q, hq, rfl⟩ := List.mem_take_iff_getElem.1 (hm y hy)
      have := hr q i (by omega) hlt
      simpa using this
    simp only [lockgateref17_Chain.l0]
    rw [if_pos (by omega), w1 i (by omega), rd_get' r i hlt, s24_eta, List.drop_eq_getElem_cons hlt, refNode_f l1 _ (by omega) k (by omega), Option.bind_some]
    unfold chainL
    rw [List.foldl_cons]
    unfold step
    rw [List.any_append, hne, Bool.or_false]
    by_cases h3 : (((l1 ++ t).length : Nat) : Int) < want
    · rw [if_pos h3, if_pos h3, if_pos (by omega)]
      by_cases h2 : l1.any (fun y => y.f0 == r[i].f0) = true
      · rw [if_pos h2, if_pos h2]
        exact ih k (i + 1) t (by omega) (by omega) (by omega) (by omega) hm'
      · rw [if_neg h2, if_neg h2, if_pos (by simp; omega), List.append_assoc]
        exact ih k (i + 1) _ (by omega) (by omega) (by omega) (by simp; omega) (fun y hy => by
          rcases List.mem_append.1 hy with h | h
          · exact hm' y h
          · rw [htk]; exact List.mem_append_right _ h)
    · rw [if_neg h3, if_neg h3]
      exact ih k (i + 1) t (by omega) (by omega) (by omega) (by omega) hm'
theorem start_e (n : Int) (hn : 0 ≤ n) (hn2 : n ≤ 9223372036854775807) (l : List S24) (h : 0 < l.length) (h216 : l.length ≤ 16) : (wrap64 (n - (wrap64 ((wrap64 (Int.tdiv n (l.length : Int))) * (l.length : Int))))) = ((n.toNat % l.length : Nat) : Int) := by
  have hs : n.toNat % l.length < l.length := Nat.mod_lt _ h
  obtain ⟨a, rfl⟩ : ∃ a : Nat, n = a := ⟨n.toNat, by omega⟩
  have hd : Int.tdiv (a : Int) (l.length : Int) = ((a / l.length : Nat) : Int) := rfl
  have ha : a / l.length * l.length + a % l.length = a := Nat.div_add_mod' a l.length
  have hle : a / l.length ≤ a := Nat.div_le_self a _
  rw [hd]
  have w : wrap64 ((a / l.length : Nat) : Int) = ((a / l.length : Nat) : Int) := by
    generalize a / l.length = q at *
    unfold wrap64; omega
  rw [w]
  have m : ((a / l.length : Nat) : Int) * (l.length : Int) = ((a / l.length * l.length : Nat) : Int) := by simp
  rw [m]
  generalize a / l.length * l.length = q at *
  have w2 : wrap64 (q : Int) = (q : Int) := by unfold wrap64; omega
  rw [w2, Int.toNat_natCast]
  generalize a % l.length = r at *
  unfold wrap64; omega
theorem refChain_f (n : Int) (hn : 0 ≤ n) (hn2 : n ≤ 9223372036854775807) (l1 l : List S24) (h1 : Good l1) (h2 : Good l) (want : Int) (k : Nat) (hk : 40 < k) :
    lockgateref17_Chain.f k n l1 l want = some (chainL want l1 (ring l (startOf n l))) := by
  obtain ⟨h116, h1a⟩ := h1
  obtain ⟨h216, h2a⟩ := h2
  unfold lockgateref17_Chain.f
  rw [if_pos (by rw [List.length_nil]; omega), Option.bind_some, List.nil_append]
  rcases Nat.eq_zero_or_pos l.length with h | h
  · rw [if_pos (by omega)]
    obtain rfl : l = [] := by cases l <;> simp_all
    rfl
  · have hs : n.toNat % l.length < l.length := Nat.mod_lt _ h
    have e := start_e n hn hn2 l h h216
    rw [if_neg (by omega)]
    have := refChain_l l1 (ring l (n.toNat % l.length)) h116 (ring_apart l h2a _ hs) (by rw [ring_length _ _ (by omega)]; exact h216) want (ring l (n.toNat % l.length)).length k 0 [] (by omega) (by omega) (by rw [ring_length _ _ (by omega)]; omega) (by simp) (by simp)
    rw [List.append_nil, List.drop_zero] at this
    unfold startOf
    rw [if_neg (show ¬ l.length = 0 by omega), ← this, e]
    unfold ring
    generalize n.toNat % l.length = s at *
    have hd : (l.drop s).length ≤ 16 := by rw [List.length_drop]; omega
    have ht : (l.take s).length ≤ 16 := by rw [List.length_take]; omega
    rw [if_pos (by omega), if_pos (by omega), Option.bind_some, Int.toNat_natCast]
    generalize l.drop s = d at *
    generalize l.take s = t at *
    rw [if_pos (by rw [List.length_nil]; omega), Option.bind_some, Option.bind_some, if_pos (by rw [List.nil_append]; omega)]
    rfl
theorem chain_spec (want : Int) : ∀ (r acc : List S24), ∃ t, chainL want acc r = acc ++ t ∧ (∀ y ∈ t, y ∈ r) ∧ (t ≠ [] → ((acc ++ t).length : Int) ≤ want) ∧ (Apart acc → Apart (acc ++ t)) ∧ (((acc ++ t).length : Int) < want → ∀ x ∈ r, ∃ y ∈ acc ++ t, y.f0 = x.f0) ∧ t.length ≤ r.length
  | [], acc => ⟨[], by simp [chainL], by simp, by simp, by simp, by simp, by simp⟩
  | x :: r, acc => by
    have e : chainL want acc (x :: r) = chainL want (step want acc x) r := rfl
    obtain ⟨t, h1, h2, h3, h4, h5, h6⟩ := chain_spec want r (step want acc x)
    rw [e, h1]
    by_cases hw : (acc.length : Int) < want
    · by_cases ha : acc.any (fun y => y.f0 == x.f0) = true
      · have es : step want acc x = acc := by unfold step; rw [if_pos hw, if_pos ha]
        rw [es] at h3 h4 h5 ⊢
        refine ⟨t, rfl, fun y hy => List.mem_cons_of_mem _ (h2 y hy), h3, h4, fun hlt z hz => ?_, by simp; omega⟩
        rcases List.mem_cons.1 hz with rfl | hz
        · obtain ⟨y, hy, hye⟩ := List.any_eq_true.1 ha
          exact ⟨y, List.mem_append_left _ hy, by simpa using hye⟩
        · exact h5 hlt z hz
      · have es : step want acc x = acc ++ [x] := by unfold step; rw [if_pos hw, if_neg ha]
        rw [es] at h3 h4 h5 ⊢
        simp only [List.append_assoc] at h3 h4 h5 ⊢
        refine ⟨[x] ++ t, rfl, fun y hy => ?_, fun _ => ?_, fun hap => h4 ?_, fun hlt z hz => ?_, by simp; omega⟩
        · rcases List.mem_append.1 hy with h | h
          · exact List.mem_cons.2 (.inl (by simpa using h))
          · exact List.mem_cons_of_mem _ (h2 y h)
        · by_cases ht : t = []
          · subst ht; simp; omega
          · exact h3 ht
        · intro i j hi hj
          rw [List.length_append, List.length_singleton] at hj
          rcases Nat.lt_or_ge j acc.length with h | h
          · rw [List.getElem_append_left (by omega), List.getElem_append_left h]
            exact hap i j hi h
          · obtain rfl : j = acc.length := by omega
            rw [List.getElem_append_left (by omega)]
            simp only [List.getElem_concat_length]
            have ha' : acc.any (fun y => y.f0 == x.f0) = false := by simpa using ha
            rw [List.any_eq_false] at ha'
            have := ha' acc[i] (List.getElem_mem _)
            simpa using this
        · rcases List.mem_cons.1 hz with rfl | hz
          · exact ⟨z, by simp, rfl⟩
          · exact h5 hlt z hz
    · have es : step want acc x = acc := by unfold step; rw [if_neg hw]
      rw [es] at h3 h4 h5 ⊢
      refine ⟨t, rfl, fun y hy => List.mem_cons_of_mem _ (h2 y hy), h3, h4, fun hlt => ?_, by simp; omega⟩
      rw [List.length_append] at hlt
      omega
theorem awake_f : lockgatelaw17_awake.f = some true := rfl
theorem PlaceAlls (n : Int) (hn2 : n ≤ 9223372036854775807) (l1 l2 : List S24) (want : Int) (x : S24) : ∃ k, lockgatelaw17_PlaceAlls.f k n l1 l2 want x.f0 x.f1 = some true := by
  refine ⟨2000, ?_⟩
  unfold lockgatelaw17_PlaceAlls.f
  rw [awake_f, Option.bind_some, if_pos rfl]
  by_cases hn : n < 0
  · rw [if_pos hn]
    simp only [lockgatelaw17_PlaceAlls.j0, if_true, awake_f, Option.bind_some]
  · rw [if_neg hn]
    obtain ⟨b, hb, hg⟩ := right_f l1 l2 2000 (by omega)
    rw [hb, Option.bind_some]
    cases b
    · simp only [lockgatelaw17_PlaceAlls.j0, Bool.not_false, if_true, awake_f, Option.bind_some]
    · obtain ⟨g1, g2⟩ := hg rfl
      have h1 := g1.1
      have h2 := g2.1
      have hcl : (chainL want l1 (ring l2 (startOf n l2))).length < 1000 := by
        obtain ⟨t, e, _, _, _, _, h6⟩ := chain_spec want (ring l2 (startOf n l2)) l1
        have : startOf n l2 ≤ l2.length := by unfold startOf; split; omega; exact Nat.le_of_lt (Nat.mod_lt _ (by omega))
        rw [ring_length _ _ this] at h6
        rw [e]; simp; omega
      have hll := lead_length l1 x
      simp only [lockgatelaw17_PlaceAlls.j0]
      rw [if_neg (by decide), chain_f n (by omega) l1 l2 h1 h2 want 1999 (by omega), Option.bind_some, refChain_f n (by omega) hn2 l1 l2 g1 g2 want 1999 (by omega), Option.bind_some,
        same_f _ (by omega) 1999 (by omega), Option.bind_some, if_pos rfl, refBoth_f l1 l2 (by omega) (by omega) 1999 (by omega)]
      have hb : place_Both.f l1 l2 = some (l1.filter fun x => !decide (idxOf l2 x < 0)) := by unfold place_Both.f; rw [if_pos (by omega)]
      have hbl := List.length_filter_le (fun x => !decide (idxOf l2 x < 0)) l1
      rw [hb, Option.bind_some, Option.bind_some, same_f _ (by omega) 1999 (by omega), Option.bind_some, if_pos rfl, lead_f l1 x (by omega), Option.bind_some, refLead_f l1 x g1 1999 (by omega), Option.bind_some,
        same_f _ (by omega) 1999 (by omega)]
      rfl
/-! ### PlaceLead -/
theorem leadL_at (l : List S24) (ha : Apart l) (m : Nat) (hm : m < l.length) : leadL l l[m] (idxOf l l[m]) = l[m] :: (l.take m ++ l.drop (m + 1)) := by
  unfold leadL
  rw [index_at l ha m hm, if_neg (by omega), Int.toNat_natCast]
theorem rd_lt (l : List S24) (i : Nat) (x : S24) (h : l[i]? = some x) : rd_T24 l (i : Int) = x := by
  obtain ⟨h1, h2⟩ := List.getElem?_eq_some_iff.1 h
  rw [rd_get' l i h1, h2]
theorem lead_low (l : List S24) (m : Nat) (hm : m < l.length) (i : Nat) (hi : i < m) : (l[m] :: (l.take m ++ l.drop (m + 1)))[i + 1]? = some (l[i]'(by omega)) := by
  rw [List.getElem?_cons_succ, List.getElem?_append_left (by simp; omega), List.getElem?_take_of_lt hi, List.getElem?_eq_getElem (by omega)]
theorem lead_high (l : List S24) (m : Nat) (hm : m < l.length) (i : Nat) (hi : m < i) (hl : i < l.length) : (l[m] :: (l.take m ++ l.drop (m + 1)))[i]? = some l[i] := by
  obtain ⟨i, rfl⟩ : ∃ q, i = q + 1 := ⟨i - 1, by omega⟩
  rw [List.getElem?_cons_succ, List.getElem?_append_right (by simp; omega), List.getElem?_drop, List.length_take, show m + 1 + (i - min m l.length) = i + 1 by omega, List.getElem?_eq_getElem hl]
theorem leadLoop (l : List S24) (h16 : l.length ≤ 16) (m : Nat) (hm : m < l.length) (o : List S24) (ho : o = l[m] :: (l.take m ++ l.drop (m + 1))) : ∀ (d k i : Nat), d = l.length - i → i ≤ l.length → d < k →
    lockgatelaw17_PlaceLead.l0 k l (m : Int) o (i : Int) = some true := by
  have hol : o.length = l.length := by rw [ho]; simp; omega
  intro d
  induction d with
  | zero =>
    intro k i hd hi hk
    obtain ⟨k, rfl⟩ : ∃ q, k = q + 1 := ⟨k - 1, by omega⟩
    simp only [lockgatelaw17_PlaceLead.l0]
    rw [if_neg (by omega)]
  | succ d ih =>
    intro k i hd hi hk
    obtain ⟨k, rfl⟩ : ∃ q, k = q + 1 := ⟨k - 1, by omega⟩
    have hlt : i < l.length := by omega
    have next := ih k (i + 1) (by omega) (by omega) (by omega)
    simp only [lockgatelaw17_PlaceLead.l0]
    rw [if_pos (by omega), w1 i (by omega), next]
    rcases Nat.lt_trichotomy i m with h | h | h
    · have e := rd_lt o (i + 1) l[i] (by rw [ho]; exact lead_low l m hm i h)
      rw [if_pos (by omega), if_pos (by omega), if_pos (by omega), if_pos (by omega), e, rd_get' l i hlt, if_neg (by simp), if_neg (by omega)]
    · rw [if_neg (by omega), if_neg (by omega)]
    · have e := rd_lt o i l[i] (by rw [ho]; exact lead_high l m hm i h hlt)
      rw [if_neg (by omega), if_pos (by omega), if_pos (by omega), if_pos (by omega), e, rd_get' l i hlt, if_neg (by simp)]
theorem PlaceLead (l : List S24) (n : Int) (h0 : 0 ≤ n) (h1 : n ≤ 255) : ∃ k, lockgatelaw17_PlaceLead.f k l n = some true := by
  refine ⟨2000, ?_⟩
  unfold lockgatelaw17_PlaceLead.f
  rw [awake_f, Option.bind_some, if_pos rfl]
  obtain ⟨b, hb, hg⟩ := single_f l 2000 (by omega)
  rw [hb, Option.bind_some]
  cases b
  · rw [if_neg (by decide)]
    simp only [lockgatelaw17_PlaceLead.j0, if_true, awake_f, Option.bind_some]
  · obtain ⟨h16, ha⟩ := hg rfl
    rw [if_pos rfl]
    rcases Nat.eq_zero_or_pos l.length with h | h
    · rw [show ((l.length : Int) == 0) = true by rw [h]; rfl]
      simp only [lockgatelaw17_PlaceLead.j0, if_true, awake_f, Option.bind_some]
    · rw [show ((l.length : Int) == 0) = false by simp; intro e; simp [e] at h]
      have hm : n.toNat % l.length < l.length := Nat.mod_lt _ h
      have e : Int.tmod (wrap64 n) (l.length : Int) = ((n.toNat % l.length : Nat) : Int) := by
        rw [show wrap64 n = n by unfold wrap64; omega]; exact tmod_nat n h0 _
      simp only [lockgatelaw17_PlaceLead.j0]
      rw [if_neg (by decide), if_neg (by omega), e]
      generalize n.toNat % l.length = m at *
      have hll : (l[m] :: (l.take m ++ l.drop (m + 1))).length = l.length := by simp; omega
      rw [if_pos (by omega), if_pos (by omega), rd_get' l m hm, lead_f l l[m] (by omega), leadL_at l ha m hm, Option.bind_some, if_pos (by omega), if_pos (by omega)]
      rw [show rd_T24 (l[m] :: (l.take m ++ l.drop (m + 1))) 0 = l[m] from rd_lt (l[m] :: (l.take m ++ l.drop (m + 1))) 0 l[m] rfl]
      simp only [lockgatelaw17_PlaceLead.j1]
      rw [if_neg (by simp)]
      exact leadLoop l h16 m hm _ rfl l.length _ 0 (by omega) (by omega) (by omega)
/-! ### PlaceMemory -/
theorem mem_l2 (l1 l2 : List S24) (h1 : l1.length ≤ 16) (h2 : l2.length ≤ 16) : ∀ (d k i : Nat) (o : List S24), d = o.length - i → i ≤ o.length → o.length < 1000 → d + 20 < k → lockgatelaw17_PlaceMemory.l2 k l1 l2 l1 l2 o (i : Int) = some true := by
  intro d
  induction d with
  | zero =>
    intro k i o hd hi ho hk
    obtain ⟨k, rfl⟩ : ∃ q, k = q + 1 := ⟨k - 1, by omega⟩
    simp only [lockgatelaw17_PlaceMemory.l2]
    rw [if_neg (by omega), same_f l1 (by omega) k (by omega), Option.bind_some, if_pos rfl, same_f l2 (by omega) k (by omega), Option.bind_some]
  | succ d ih =>
    intro k i o hd hi ho hk
    obtain ⟨k, rfl⟩ : ∃ q, k = q + 1 := ⟨k - 1, by omega⟩
    simp only [lockgatelaw17_PlaceMemory.l2]
    rw [if_pos (by omega), if_pos (by omega), w1 i (by omega)]
    exact ih k (i + 1) _ (by rw [List.length_set]; omega) (by rw [List.length_set]; omega) (by rw [List.length_set]; omega) (by omega)
theorem mem_l1 (l1 l2 r : List S24) (h1 : l1.length ≤ 16) (h2 : l2.length ≤ 16) (hr : r.length < 1000) : ∀ (d k i : Nat) (o : List S24), d = o.length - i → i ≤ o.length → o.length < 1000 → d + 1100 < k → lockgatelaw17_PlaceMemory.l1 k l1 l2 l1 l2 o r (i : Int) = some true := by
  intro d
  induction d with
  | zero =>
    intro k i o hd hi ho hk
    obtain ⟨k, rfl⟩ : ∃ q, k = q + 1 := ⟨k - 1, by omega⟩
    simp only [lockgatelaw17_PlaceMemory.l1]
    rw [if_neg (by omega)]
    exact mem_l2 l1 l2 h1 h2 r.length k 0 r (by omega) (by omega) hr (by omega)
  | succ d ih =>
    intro k i o hd hi ho hk
    obtain ⟨k, rfl⟩ : ∃ q, k = q + 1 := ⟨k - 1, by omega⟩
    simp only [lockgatelaw17_PlaceMemory.l1]
    rw [if_pos (by omega), if_pos (by omega), w1 i (by omega)]
    exact ih k (i + 1) _ (by rw [List.length_set]; omega) (by rw [List.length_set]; omega) (by rw [List.length_set]; omega) (by omega)
theorem mem_l0 (l1 l2 q r : List S24) (h1 : l1.length ≤ 16) (h2 : l2.length ≤ 16) (hq : q.length < 1000) (hr : r.length < 1000) : ∀ (d k i : Nat) (o : List S24), d = o.length - i → i ≤ o.length → o.length < 1000 → d + 2200 < k → lockgatelaw17_PlaceMemory.l0 k l1 l2 l1 l2 o q r (i : Int) = some true := by
  intro d
  induction d with
  | zero =>
    intro k i o hd hi ho hk
    obtain ⟨k, rfl⟩ : ∃ q, k = q + 1 := ⟨k - 1, by omega⟩
    simp only [lockgatelaw17_PlaceMemory.l0]
    rw [if_neg (by omega)]
    exact mem_l1 l1 l2 r h1 h2 hr q.length k 0 q (by omega) (by omega) hq (by omega)
  | succ d ih =>
    intro k i o hd hi ho hk
    obtain ⟨k, rfl⟩ : ∃ q, k = q + 1 := ⟨k - 1, by omega⟩
    simp only [lockgatelaw17_PlaceMemory.l0]
    rw [if_pos (by omega), if_pos (by omega), w1 i (by omega)]
    exact ih k (i + 1) _ (by rw [List.length_set]; omega) (by rw [List.length_set]; omega) (by rw [List.length_set]; omega) (by omega)
theorem chain_length (n want : Int) (l1 l2 : List S24) (h1 : l1.length ≤ 16) (h2 : l2.length ≤ 16) : (chainL want l1 (ring l2 (startOf n l2))).length < 1000 := by
  obtain ⟨t, e, _, _, _, _, h6⟩ := chain_spec want (ring l2 (startOf n l2)) l1
  have : startOf n l2 ≤ l2.length := by unfold startOf; split; omega; exact Nat.le_of_lt (Nat.mod_lt _ (by omega))
  rw [ring_length _ _ this] at h6
  rw [e]; simp; omega
theorem PlaceMemory (n : Int) (l1 l2 : List S24) : ∃ k, lockgatelaw17_PlaceMemory.f k n l1 l2 = some true := by
  refine ⟨5000, ?_⟩
  unfold lockgatelaw17_PlaceMemory.f
  rw [awake_f, Option.bind_some, if_pos rfl]
  by_cases hn : n < 0
  · rw [if_pos hn]
    simp only [lockgatelaw17_PlaceMemory.j0, if_true, awake_f, Option.bind_some]
  · rw [if_neg hn]
    obtain ⟨b, hb, hg⟩ := right_f l1 l2 5000 (by omega)
    rw [hb, Option.bind_some]
    cases b
    · simp only [lockgatelaw17_PlaceMemory.j0, Bool.not_false, if_true, awake_f, Option.bind_some]
    · obtain ⟨g1, g2⟩ := hg rfl
      have h1 := g1.1
      have h2 := g2.1
      have hcl := chain_length n 9 l1 l2 h1 h2
      have hb : place_Both.f l1 l2 = some (l1.filter fun x => !decide (idxOf l2 x < 0)) := by unfold place_Both.f; rw [if_pos (by omega)]
      have hbl := List.length_filter_le (fun x => !decide (idxOf l2 x < 0)) l1
      have hll := lead_length l1 ⟨-9, 0⟩
      have hlf : place_Lead.f l1 (-9) 0 = some (leadL l1 ⟨-9, 0⟩ (idxOf l1 ⟨-9, 0⟩)) := lead_f l1 ⟨-9, 0⟩ (by omega)
      simp only [lockgatelaw17_PlaceMemory.j0]
      rw [if_neg (by decide), Option.bind_some, if_pos (by rw [List.length_nil]; omega), Option.bind_some, if_pos (by rw [List.length_nil]; omega), chain_f n (by omega) l1 l2 h1 h2 9 4999 (by omega), Option.bind_some, hb, Option.bind_some, hlf, Option.bind_some, List.nil_append, List.nil_append]
      exact mem_l0 l1 l2 _ _ h1 h2 (by omega) (by omega) _ 4999 0 _ rfl (by omega) hcl (by omega)
/-! ### PlaceKeeps -/
theorem keeps_l3 (l1 l2 : List S24) (want : Int) (c : List S24) (hc : c.length < 1000) (ha : Apart c) (cnt : Int) (i : Nat) (hi : i < c.length) (k0 : Nat) (next : ∀ k, k0 ≤ k → lockgatelaw17_PlaceKeeps.l2 k l1 l2 want c cnt ((i + 1 : Nat) : Int) = some true) :
    ∀ (d k j : Nat), d = i - j → j ≤ i → d + 1 + k0 ≤ k → lockgatelaw17_PlaceKeeps.l3 k l1 l2 want c cnt (i : Int) (j : Int) = some true := by
  intro d
  induction d with
  | zero =>
    intro k j hd hj hk
    obtain ⟨k, rfl⟩ : ∃ q, k = q + 1 := ⟨k - 1, by omega⟩
    simp only [lockgatelaw17_PlaceKeeps.l3]
    rw [if_neg (by omega), w1 i (by omega)]
    exact next k (by omega)
  | succ d ih =>
    intro k j hd hj hk
    obtain ⟨k, rfl⟩ : ∃ q, k = q + 1 := ⟨k - 1, by omega⟩
    simp only [lockgatelaw17_PlaceKeeps.l3]
    rw [if_pos (by omega), if_pos (by omega), if_pos (by omega), if_pos (by omega), if_pos (by omega), rd_get' c j (by omega), rd_get' c i hi, if_neg (ha j i (by omega) hi), w1 j (by omega)]
    exact ih k (j + 1) (by omega) (by omega) (by omega)
theorem keeps_l2 (l1 l2 : List S24) (hl2 : l2.length ≤ 16) (want : Int) (c : List S24) (hc : c.length ≤ 32) (ha : Apart c) (cnt : Int) (hcnt : cnt ≠ 0 → want ≤ (c.length : Int)) (hin : ∀ i, ∀ h : i < c.length, l1.length ≤ i → c[i] ∈ l2) :
    ∀ (d k i : Nat), d = c.length - i → i ≤ c.length → 100 * d + 50 ≤ k → lockgatelaw17_PlaceKeeps.l2 k l1 l2 want c cnt (i : Int) = some true := by
  intro d
  induction d with
  | zero =>
    intro k i hd hi hk
    obtain ⟨k, rfl⟩ : ∃ q, k = q + 1 := ⟨k - 1, by omega⟩
    simp only [lockgatelaw17_PlaceKeeps.l2]
    rw [if_neg (by omega)]
    by_cases h : cnt = 0
    · rw [if_pos h]
    · rw [if_neg h]; have := hcnt h; simp; omega
  | succ d ih =>
    intro k i hd hi hk
    obtain ⟨k, rfl⟩ : ∃ q, k = q + 2 := ⟨k - 2, by omega⟩
    have hlt : i < c.length := by omega
    have h3 := keeps_l3 l1 l2 want c (by omega) ha cnt i hlt (100 * d + 50) (fun k' hk' => ih k' (i + 1) (by omega) (by omega) hk') (i - 0) k 0 rfl (by omega) (by omega)
    have e : lockgatelaw17_PlaceKeeps.j5 (k + 1) l1 l2 want c cnt (i : Int) false = some true := by
      simp only [lockgatelaw17_PlaceKeeps.j5]
      rw [if_neg (by decide)]
      exact h3
    simp only [lockgatelaw17_PlaceKeeps.l2]
    rw [if_pos (by omega)]
    by_cases h : (i : Int) ≥ (l1.length : Int)
    · rw [if_pos h, if_pos (by omega), rd_get' c i hlt, refIndex_f l2 _ _ (by omega) (k + 1) (by omega), Option.bind_some]
      rcases idxFrom_spec (same c[i].f0 c[i].f1) l2 0 with ⟨_, h2⟩ | ⟨j, hj, h1, _, _⟩
      · have := h2 c[i] (hin i hlt (by omega))
        simp [same] at this
      · rw [h1, show decide (((0 + j : Nat) : Int) < 0) = false by simp]
        exact e
    · rw [if_neg h]
      exact e
theorem keeps_l1 (l1 l2 : List S24) (want : Int) (c : List S24) (hc : c.length ≤ 32) (i : Nat) (hi : i < l2.length) (hi2 : i < 100) (cnt : Int) (k0 : Nat)
    (hn : (∀ y ∈ c, y.f0 ≠ l2[i].f0) → want ≤ (c.length : Int)) (hcnt : cnt ≠ 0 → want ≤ (c.length : Int))
    (next : ∀ k cnt', k0 ≤ k → (cnt' ≠ 0 → want ≤ (c.length : Int)) → lockgatelaw17_PlaceKeeps.l0 k l1 l2 want c cnt' ((i + 1 : Nat) : Int) = some true) :
    ∀ (d k j : Nat) (b : Bool), d = c.length - j → j ≤ c.length → d + 1 + k0 ≤ k → (b = false → ∀ q, ∀ h : q < c.length, q < j → c[q].f0 ≠ l2[i].f0) → lockgatelaw17_PlaceKeeps.l1 k l1 l2 want c cnt (i : Int) b (j : Int) = some true := by
  intro d
  induction d with
  | zero =>
    intro k j b hd hj hk hb
    obtain ⟨k, rfl⟩ : ∃ q, k = q + 1 := ⟨k - 1, by omega⟩
    simp only [lockgatelaw17_PlaceKeeps.l1]
    rw [if_neg (by omega), w1 i (by omega)]
    cases b
    · rw [if_neg (by decide)]
      refine next k _ (by omega) fun _ => hn fun y hy => ?_
      obtain ⟨q, hq, rfl⟩ := List.mem_iff_getElem.1 hy
      exact hb rfl q hq (by omega)
    · rw [if_pos rfl]
      exact next k cnt (by omega) hcnt
  | succ d ih =>
    intro k j b hd hj hk hb
    obtain ⟨k, rfl⟩ : ∃ q, k = q + 1 := ⟨k - 1, by omega⟩
    have hlt : j < c.length := by omega
    simp only [lockgatelaw17_PlaceKeeps.l1]
    rw [if_pos (by omega), w1 j (by omega)]
    cases b
    · rw [if_neg (by decide), if_pos (by omega), if_pos (by omega), if_pos (by omega), rd_get' c j hlt, rd_get' l2 i hi]
      refine ih k (j + 1) _ (by omega) (by omega) (by omega) fun hf q hq hqj => ?_
      rcases Nat.lt_or_ge q j with h | h
      · exact hb rfl q hq h
      · obtain rfl : q = j := by omega
        simpa using hf
    · rw [if_pos rfl]
      exact ih k (j + 1) true (by omega) (by omega) (by omega) (fun h => by cases h)
set_option maxRecDepth 100000 in
theorem keeps_l0 (l1 l2 : List S24) (hl2 : l2.length ≤ 16) (want : Int) (c : List S24) (hc : c.length ≤ 32) (ha : Apart c) (hin : ∀ i, ∀ h : i < c.length, l1.length ≤ i → c[i] ∈ l2)
    (hall : (c.length : Int) < want → ∀ x ∈ l2, ∃ y ∈ c, y.f0 = x.f0) :
    ∀ (d k i : Nat) (cnt : Int), d = l2.length - i → i ≤ l2.length → 100 * d + 4000 ≤ k → (cnt ≠ 0 → want ≤ (c.length : Int)) → lockgatelaw17_PlaceKeeps.l0 k l1 l2 want c cnt (i : Int) = some true := by
  intro d
  induction d with
  | zero =>
    intro k i cnt hd hi hk hcnt
    obtain ⟨k, rfl⟩ : ∃ q, k = q + 1 := ⟨k - 1, by omega⟩
    simp only [lockgatelaw17_PlaceKeeps.l0]
    rw [if_neg (by omega)]
    exact keeps_l2 l1 l2 hl2 want c hc ha cnt hcnt hin c.length k 0 (by omega) (by omega) (by omega)
  | succ d ih =>
    intro k i cnt hd hi hk hcnt
    obtain ⟨k, rfl⟩ : ∃ q, k = q + 1 := ⟨k - 1, by omega⟩
    have hlt : i < l2.length := by omega
    have hk2 : c.length + 1 + (100 * d + 4000) ≤ k := by omega
    simp only [lockgatelaw17_PlaceKeeps.l0]
    rw [if_pos (by omega)]
    refine keeps_l1 l1 l2 want c hc i hlt (by omega) cnt (100 * d + 4000) (fun hno => ?_) hcnt (fun k' cnt' hk' hc' => ih k' (i + 1) cnt' (by omega) (by omega) hk' hc') c.length k 0 false rfl (Nat.zero_le _) hk2 (fun _ q h hq => absurd hq (Nat.not_lt_zero _))
    by_cases hw : want ≤ (c.length : Int)
    · exact hw
    · obtain ⟨y, hy, he⟩ := hall (by omega) l2[i] (List.getElem_mem hlt)
      exact absurd he (hno y hy)
theorem mem_ring (l : List S24) (s : Nat) (x : S24) : x ∈ ring l s ↔ x ∈ l := by
  unfold ring
  rw [List.mem_append]
  constructor
  · rintro (h | h)
    · exact List.mem_of_mem_drop h
    · exact List.mem_of_mem_take h
  · intro h
    rw [← List.take_append_drop s l] at h
    rcases List.mem_append.1 h with h | h
    · exact .inr h
    · exact .inl h
set_option maxRecDepth 100000 in
theorem PlaceKeeps (n : Int) (l1 l2 : List S24) (want : Int) : ∃ k, lockgatelaw17_PlaceKeeps.f k n l1 l2 want = some true := by
  refine ⟨9000, ?_⟩
  unfold lockgatelaw17_PlaceKeeps.f
  rw [awake_f, Option.bind_some, if_pos rfl]
  by_cases hn : n < 0
  · rw [if_pos hn]
    simp only [lockgatelaw17_PlaceKeeps.j0, if_true, awake_f, Option.bind_some]
  · rw [if_neg hn]
    obtain ⟨b, hb, hg⟩ := right_f l1 l2 9000 (by omega)
    rw [hb, Option.bind_some]
    cases b
    · simp only [lockgatelaw17_PlaceKeeps.j0, Bool.not_false, if_true, awake_f, Option.bind_some]
    · obtain ⟨⟨h1, a1⟩, ⟨h2, a2⟩⟩ := hg rfl
      have hst : startOf n l2 ≤ l2.length := by unfold startOf; split; omega; exact Nat.le_of_lt (Nat.mod_lt _ (by omega))
      obtain ⟨t, e, c1, c2, c3, c4, c5⟩ := chain_spec want (ring l2 (startOf n l2)) l1
      rw [ring_length _ _ hst] at c5
      have hal := c3 a1
      have hlen : (l1 ++ t).length = l1.length + t.length := List.length_append
      simp only [lockgatelaw17_PlaceKeeps.j0]
      rw [if_neg (by decide), chain_f n (by omega) l1 l2 h1 h2 want 8999 (by omega), Option.bind_some, e]
      rw [if_neg (by omega), if_pos (by omega), if_pos (by omega), Int.toNat_natCast, List.take_left, same_f l1 (by omega) 8999 (by omega), Option.bind_some]
      simp only [if_true]
      have fin : lockgatelaw17_PlaceKeeps.j1 8999 l1 l2 want (l1 ++ t) false = some true := by
        simp only [lockgatelaw17_PlaceKeeps.j1]
        rw [if_neg (by decide)]
        refine keeps_l0 l1 l2 h2 want (l1 ++ t) (by omega) hal (fun i hi hl => ?_) (fun hw x hx => c4 hw x ((mem_ring _ _ _).2 hx)) l2.length _ 0 0 (by omega) (by omega) (by omega) (fun h => absurd rfl h)
        rw [List.getElem_append_right hl]
        exact (mem_ring _ _ _).1 (c1 _ (List.getElem_mem _))
      by_cases ht : t = []
      · subst ht
        rw [if_neg (by simp)]
        exact fin
      · have := c2 ht
        have h0 : 0 < t.length := List.length_pos_iff.2 ht
        rw [if_pos (by omega), show decide (((l1 ++ t).length : Int) > want) = false by simpa using this]
        exact fin
end Go.Proofs.Ytnieipjofnnpfaa.PlacePure
