/- Plain facts on chains of members: what the printed functions of the view laws come to. Conditions: lists of at most sixteen members where the laws look at them. -/
import Derived.Test.YteipphlhbhahfaaPViewx4
namespace Go.Proofs.Yteipphlhbhahfaa.ViewPure
open Go.RowKit Go.Proofs.Yteipphlhbhahfaa.PView Go.Proofs.YteipphlhbhahfaaW.PrintWords Go.Proofs.YteipphlhbhahfaaW.PrintLast
theorem wrap_small (x : Int) (h0 : -9223372036854775808 ≤ x) (h1 : x ≤ 9223372036854775807) : wrap64 x = x := by unfold wrap64; omega
theorem rd_get (l : List S26) (i : Nat) (h : i < l.length) : rd_T26 l (i : Int) = l[i] := by
  unfold rd_T26; rw [Int.toNat_natCast, List.getD_eq_getElem?_getD, List.getElem?_eq_getElem h]; rfl
/-- the test of slices.Index -/
def same (a b : Int) (x : S26) : Bool := a == x.f0 && (b == x.f1)
theorem index_l (l : List S26) (a b : Int) (hl : l.length ≤ 9223372036854775807) : ∀ (d k i : Nat), d = l.length - i → i ≤ l.length → d < k →
    api_Member_21.l0 k l (l.length : Int) (i : Int) a b = some (idxFrom (same a b) (l.drop i) i) := by
  intro d
  induction d with
  | zero =>
    intro k i hd hi hk
    obtain ⟨k, rfl⟩ : ∃ m, k = m + 1 := ⟨k - 1, by omega⟩
    simp only [api_Member_21.l0]
    rw [if_neg (by omega), List.drop_eq_nil_of_le (by omega)]
    rfl
  | succ d ih =>
    intro k i hd hi hk
    obtain ⟨k, rfl⟩ : ∃ m, k = m + 1 := ⟨k - 1, by omega⟩
    have hlt : i < l.length := by omega
    have hw : wrap64 ((i : Int) + 1) = ((i + 1 : Nat) : Int) := by unfold wrap64; omega
    simp only [api_Member_21.l0]
    rw [if_pos (by omega), if_pos (by omega), if_pos (by omega), hw, rd_get l i hlt, List.drop_eq_getElem_cons hlt]
    unfold idxFrom
    change (if same a b l[i] = true then _ else _) = _
    by_cases h : same a b l[i] = true
    · rw [if_pos h, if_pos h]
    · rw [if_neg h, if_neg h, ih k (i + 1) (by omega) (by omega) (by omega)]
theorem index_f (l : List S26) (a b : Int) (hl : l.length ≤ 9223372036854775807) (k : Nat) (hk : l.length < k) : view_Index.f k l a b = some (idxFrom (same a b) l 0) := by
  have := index_l l a b hl l.length k 0 (by omega) (by omega) hk
  unfold view_Index.f api_Member_21.f
  rw [show ((0 : Nat) : Int) = 0 from rfl, List.drop_zero] at this
  rw [this]
  rfl
/-- what a place that was found says -/
theorem idxFrom_spec (p : S26 → Bool) : ∀ (l : List S26) (i : Nat), (idxFrom p l i = -1 ∧ ∀ x ∈ l, p x = false) ∨ ∃ j : Nat, ∃ h : j < l.length, idxFrom p l i = ((i + j : Nat) : Int) ∧ p l[j] = true ∧ ∀ q, ∀ h2 : q < j, p (l[q]'(by omega)) = false
  | [], _ => .inl ⟨rfl, by simp⟩
  | x :: l, i => by
    unfold idxFrom
    by_cases h : p x = true
    · rw [if_pos h]
      exact .inr ⟨0, by simp, by simp, h, fun q h2 => absurd h2 (by omega)⟩
    · rw [if_neg h]
      have h' : p x = false := by simpa using h
      rcases idxFrom_spec p l (i + 1) with ⟨h1, h2⟩ | ⟨j, hj, h1, h2, h3⟩
      · exact .inl ⟨h1, by simpa [h'] using h2⟩
      · refine .inr ⟨j + 1, by simp; omega, by rw [h1]; congr 1; omega, by simpa using h2, fun q hq => ?_⟩
        cases q with
        | zero => simpa using h'
        | succ q => simpa using h3 q (by omega)
/-- no node twice -/
theorem dupFrom_false (l : List S26) : ∀ (d i : Nat), dupFrom l d i = false → ∀ j, i ≤ j → j < i + d → dupAt l j = false
  | 0, _, _, j, h1, h2 => by omega
  | d + 1, i, h, j, h1, h2 => by
    unfold dupFrom at h
    simp only [Bool.or_eq_false_iff] at h
    rcases Nat.eq_or_lt_of_le h1 with rfl | h3
    · exact h.1
    · exact dupFrom_false l d (i + 1) h.2 j (by omega) (by omega)
theorem right_spec (l : List S26) (h : rightP l = true) : 0 < l.length ∧ l.length ≤ 16 ∧ ∀ i j, ∀ hi : i < j, ∀ hj : j < l.length, (l[i]'(by omega)).f0 ≠ l[j].f0 := by
  unfold rightP at h
  split at h
  · cases h
  · rename_i hn
    refine ⟨by omega, by omega, fun i j hi hj e => ?_⟩
    have h1 : dupFrom l l.length 0 = false := by simpa using h
    have h2 := dupFrom_false l l.length 0 h1 j (by omega) (by omega)
    unfold dupAt at h2
    rw [rd_get l j hj, List.any_eq_false] at h2
    have h3 : l[i]'(by omega) ∈ l.take j := List.mem_take_iff_getElem.2 ⟨i, by omega, by simp⟩
    have := h2 _ h3
    simp [e] at this
/-- of a right chain a member stands at its place -/
theorem index_at (l : List S26) (h : rightP l = true) (i : Nat) (hi : i < l.length) : idxFrom (same l[i].f0 l[i].f1) l 0 = (i : Int) := by
  obtain ⟨_, _, hd⟩ := right_spec l h
  rcases idxFrom_spec (same l[i].f0 l[i].f1) l 0 with ⟨_, h2⟩ | ⟨j, hj, h1, h2, h3⟩
  · have := h2 l[i] (List.getElem_mem hi)
    simp [same] at this
  · rw [h1, Nat.zero_add]
    have e : l[i].f0 = l[j].f0 := by simp [same] at h2; exact h2.1
    rcases Nat.lt_trichotomy i j with hlt | rfl | hgt
    · exact absurd e (hd i j hlt hj)
    · rfl
    · exact absurd e.symm (hd j i hgt hi)
theorem index_none (l : List S26) (h : rightP l = true) (i : Nat) (hi : i < l.length) (b : Int) (hb : b ≠ l[i].f1) : idxFrom (same l[i].f0 b) l 0 = -1 := by
  obtain ⟨_, _, hd⟩ := right_spec l h
  rcases idxFrom_spec (same l[i].f0 b) l 0 with ⟨h1, _⟩ | ⟨j, hj, h1, h2, h3⟩
  · exact h1
  · have e : l[i].f0 = l[j].f0 ∧ b = l[j].f1 := by simpa [same] using h2
    rcases Nat.lt_trichotomy i j with hlt | rfl | hgt
    · exact absurd e.1 (hd i j hlt hj)
    · exact absurd e.2 hb
    · exact absurd e.1.symm (hd j i hgt hi)
theorem at_in (l : List S26) (i : Nat) (hi : i < l.length) : view_at.f l (i : Int) = some (l[i].f0, l[i].f1, true) := by
  unfold view_at.f
  rw [if_neg (by omega), if_neg (by omega), if_pos (by omega), if_pos (by omega), rd_get l i hi]
theorem at_out (l : List S26) (i : Int) (hi : i < 0 ∨ (l.length : Int) ≤ i) : view_at.f l i = some (0, 0, false) := by
  unfold view_at.f
  by_cases h : i < 0
  · rw [if_pos h]
  · rw [if_neg h, if_pos (by omega)]
theorem awake_f (k : Nat) (hk : 4 < k) : lockgatelaw16_awake.f k = some true := by
  unfold lockgatelaw16_awake.f
  simp only [Option.bind_some]
  unfold view_Behind.f
  rw [index_f _ _ _ (by decide) k (by show 2 < k; omega), index_f _ _ _ (by decide) k (by show 2 < k; omega)]
  decide +kernel
theorem head_f (l : List S26) (h : 0 < l.length) : view_Head.f l = some (l[0].f0, l[0].f1, true) := by
  unfold view_Head.f
  have := at_in l 0 h
  rw [show ((0 : Nat) : Int) = 0 from rfl] at this
  rw [this]; rfl
theorem behind_f (l : List S26) (hl : rightP l = true) (i : Nat) (hi : i < l.length) (k : Nat) (hk : l.length < k) :
    view_Behind.f k l l[i].f0 l[i].f1 = (view_at.f l ((i + 1 : Nat) : Int)) := by
  have h16 := (right_spec l hl).2.1
  have hw : wrap64 ((i : Int) + 1) = ((i + 1 : Nat) : Int) := by unfold wrap64; omega
  have hn : ¬ ((i : Int) < 0) := by omega
  unfold view_Behind.f
  rw [index_f l _ _ (by omega) k hk, index_at l hl i hi, Option.bind_some, if_neg hn, hw]
  generalize view_at.f l ((i + 1 : Nat) : Int) = o
  rcases o with _ | ⟨a, b, c⟩
  · rw [Option.bind_none]
  · rw [Option.bind_some]
theorem ahead_f (l : List S26) (hl : rightP l = true) (i : Nat) (hi : i < l.length) (k : Nat) (hk : l.length < k) :
    view_Ahead.f k l l[i].f0 l[i].f1 = (view_at.f l ((i : Int) - 1)) := by
  have h16 := (right_spec l hl).2.1
  have hw : wrap64 ((i : Int) - 1) = (i : Int) - 1 := by unfold wrap64; omega
  unfold view_Ahead.f
  rw [index_f l _ _ (by omega) k hk, index_at l hl i hi, Option.bind_some, hw]
  generalize view_at.f l ((i : Int) - 1) = o
  rcases o with _ | ⟨a, b, c⟩
  · rw [Option.bind_none]
  · rw [Option.bind_some]
theorem not_ne (x : Int) (h : (Lit.int .i64 x).wf = true) : Go.bits .xor .i64 (-1) x ≠ x := by
  have h' : -9223372036854775808 ≤ x ∧ x ≤ 9223372036854775807 := by
    simp [Lit.wf, IntKind.min, IntKind.max, IntKind.bits, IntKind.signed] at h
    omega
  have e : Go.bits .xor .i64 (-1) x = IntKind.i64.wrap (18446744073709551615 - x % 18446744073709551616) := by
    show IntKind.i64.wrap ((BitVec.ofInt 64 (-1) ^^^ BitVec.ofInt 64 x).toNat : Int) = _
    have h1 : BitVec.ofInt 64 (-1) = BitVec.allOnes 64 := by decide
    have h2 : (BitVec.ofInt 64 x).toNat = (x % 18446744073709551616).toNat := by simp [BitVec.toNat_ofInt]
    rw [h1, BitVec.allOnes_xor, BitVec.toNat_not, h2]
    congr 1
    omega
  rw [e]
  rw [IntKind.wrap_i64]
  omega
end Go.Proofs.Yteipphlhbhahfaa.ViewPure
