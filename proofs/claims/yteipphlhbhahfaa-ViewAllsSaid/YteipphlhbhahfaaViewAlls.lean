/- Of whatever chain, member, and numbers: ViewAlls answers true: plain facts, no program in sight. -/
import Derived.Test.YteipphlhbhahfaaViewPureA
import Derived.Test.YteipphlhbhahfaaPViewx6
namespace Go.Proofs.Yteipphlhbhahfaa.ViewAlls
open Go.RowKit Go.Proofs.Yteipphlhbhahfaa.PView Go.Proofs.Yteipphlhbhahfaa.ViewPure Go.Proofs.YteipphlhbhahfaaW.PrintWords Go.Proofs.YteipphlhbhahfaaW.PrintLast
set_option linter.unusedVariables false
theorem refIndex_l (l : List S26) (a b : Int) (hl : l.length ≤ 100) : ∀ (d k i : Nat), d = l.length - i → i ≤ l.length → d < k →
    lockgateref16_Index.l0 k l (i : Int) a b = some (idxFrom (same a b) (l.drop i) i) := by
  intro d
  induction d with
  | zero =>
    intro k i hd hi hk
    obtain ⟨k, rfl⟩ : ∃ m, k = m + 1 := ⟨k - 1, by omega⟩
    simp only [lockgateref16_Index.l0]
    rw [if_neg (by omega), List.drop_eq_nil_of_le (by omega)]
    rfl
  | succ d ih =>
    intro k i hd hi hk
    obtain ⟨k, rfl⟩ : ∃ m, k = m + 1 := ⟨k - 1, by omega⟩
    have hlt : i < l.length := by omega
    have hw : wrap64 ((i : Int) + 1) = ((i + 1 : Nat) : Int) := by unfold wrap64; omega
    simp only [lockgateref16_Index.l0]
    rw [if_pos (by omega), if_pos (by omega), hw, rd_get l i hlt, List.drop_eq_getElem_cons hlt, ih k (i + 1) (by omega) (by omega) (by omega)]
    rw [show idxFrom (same a b) (l[i] :: l.drop (i + 1)) i = if same a b l[i] = true then (i : Int) else idxFrom (same a b) (l.drop (i + 1)) (i + 1) from rfl]
    by_cases h1 : l[i].f0 = a
    · by_cases h2 : l[i].f1 = b
      · rw [if_pos h1, if_pos h2, if_pos (by simp [same, h1, h2])]
      · rw [if_pos h1, if_neg h2, if_neg (by simp [same]; exact fun _ h => h2 h.symm)]
    · rw [if_neg h1, if_neg (by simp [same]; exact fun h => absurd h.symm h1)]
theorem refIndex_f (l : List S26) (a b : Int) (hl : l.length ≤ 100) (k : Nat) (hk : 100 < k) : lockgateref16_Index.f k l a b = some (idxFrom (same a b) l 0) := by
  have := refIndex_l l a b hl l.length k 0 (by omega) (by omega) (by omega)
  unfold lockgateref16_Index.f
  rw [show ((0 : Nat) : Int) = 0 from rfl, List.drop_zero] at this
  exact this
/-- a place is none, or one of the list's -/
theorem ix_range (l : List S26) (p : S26 → Bool) : idxFrom p l 0 = -1 ∨ (0 ≤ idxFrom p l 0 ∧ idxFrom p l 0 < l.length) := by
  rcases idxFrom_spec p l 0 with ⟨h, _⟩ | ⟨j, hj, h, _⟩
  · exact .inl h
  · exact .inr (by omega)
/-- what stands at a place, if any does -/
def atP (l : List S26) (i : Int) : Int × Int × Bool := if i < 0 then (0, 0, false) else if i ≥ (l.length : Int) then (0, 0, false) else ((rd_T26 l i).f0, (rd_T26 l i).f1, true)
theorem at_f (l : List S26) (i : Int) : view_at.f l i = some (atP l i) := by
  unfold view_at.f atP
  by_cases h : i < 0
  · rw [if_pos h, if_pos h]
  · rw [if_neg h, if_neg h]
    by_cases h2 : i ≥ (l.length : Int)
    · rw [if_pos h2, if_pos h2]
    · rw [if_neg h2, if_neg h2, if_pos (by omega), if_pos (by omega)]
theorem side_f (l : List S26) (a b by1 : Int) (hl : l.length ≤ 100) (h1 : by1 = 1 ∨ by1 = -1) (k : Nat) (hk : 100 < k) :
    lockgateref16_Side.f k l a b by1 = some (if idxFrom (same a b) l 0 < 0 then (0, 0, false) else atP l (idxFrom (same a b) l 0 + by1)) := by
  have hr := ix_range l (same a b)
  unfold lockgateref16_Side.f
  rw [refIndex_f l a b hl k hk, Option.bind_some]
  generalize idxFrom (same a b) l 0 = x at *
  by_cases hx : x < 0
  · rw [if_pos hx, if_pos hx]
  · rw [if_neg hx, if_neg hx]
    have hw : wrap64 (x + by1) = x + by1 := by unfold wrap64; omega
    rw [hw]
    unfold atP
    by_cases h2 : x + by1 < 0
    · rw [if_pos h2, if_pos h2]
    · rw [if_neg h2, if_neg h2]
      by_cases h3 : x + by1 ≥ (l.length : Int)
      · rw [if_pos h3, if_pos h3]
      · rw [if_neg h3, if_neg h3, if_pos (by omega), if_pos (by omega)]
theorem pair_eta (o : Int × Int × Bool) : ((some o : Option (Int × Int × Bool)).bind fun q => some (q.1, q.2.1, q.2.2)) = some o := rfl
theorem aheadV_f (l : List S26) (a b : Int) (hl : l.length ≤ 100) (k : Nat) (hk : 100 < k) : view_Ahead.f k l a b = some (if idxFrom (same a b) l 0 < 0 then (0, 0, false) else atP l (idxFrom (same a b) l 0 + -1)) := by
  have hr := ix_range l (same a b)
  unfold view_Ahead.f
  rw [index_f l a b (by omega) k (by omega), Option.bind_some]
  generalize idxFrom (same a b) l 0 = x at *
  have hw : wrap64 (x - 1) = x + -1 := by unfold wrap64; omega
  rw [hw, at_f, pair_eta]
  by_cases hx : x < 0
  · rw [if_pos hx]
    unfold atP
    rw [if_pos (by omega)]
  · rw [if_neg hx]
theorem behindV_f (l : List S26) (a b : Int) (hl : l.length ≤ 100) (k : Nat) (hk : 100 < k) : view_Behind.f k l a b = some (if idxFrom (same a b) l 0 < 0 then (0, 0, false) else atP l (idxFrom (same a b) l 0 + 1)) := by
  have hr := ix_range l (same a b)
  unfold view_Behind.f
  rw [index_f l a b (by omega) k (by omega), Option.bind_some]
  generalize idxFrom (same a b) l 0 = x at *
  by_cases hx : x < 0
  · rw [if_pos hx, if_pos hx]
  · have hw : wrap64 (x + 1) = x + 1 := by unfold wrap64; omega
    rw [if_neg hx, if_neg hx, hw, at_f, pair_eta]

/-! ### right, by the document -/
/-- is one of those behind, among the first m, the same? -/
def inn (l : List S26) (m i j : Nat) : Bool := ((l.take m).drop j).any fun x => decide ((rd_T26 l (i : Int)).f0 = x.f0)
def out (l : List S26) (m : Nat) : Nat → Nat → Bool
  | 0, _ => false
  | d + 1, i => inn l m i (i + 1) || out l m d (i + 1)
theorem inner (l : List S26) (m i F : Nat) (R : Bool) (hl : l.length ≤ 100) (hm : m = min l.length 20) (hi : i < m) (hn : ∀ k, F < k → lockgateref16_Right.l0 k l ((i + 1 : Nat) : Int) = some R) :
    ∀ (d k j : Nat), d = m - j → j ≤ m → 2 * d + F + 3 < k → lockgateref16_Right.l1 k l (i : Int) (j : Int) = some (if inn l m i j = true then false else R) := by
  have w1 : ∀ x : Nat, x ≤ 200 → wrap64 ((x : Int) + 1) = ((x + 1 : Nat) : Int) := fun x hx => by unfold wrap64; omega
  intro d
  induction d with
  | zero =>
    intro k j hd hj hk
    obtain ⟨k, rfl⟩ : ∃ q, k = q + 2 := ⟨k - 2, by omega⟩
    have hnil : inn l m i j = false := by
      unfold inn
      rw [List.drop_eq_nil_of_le (by rw [List.length_take]; omega)]
      rfl
    rw [hnil, if_neg (by decide)]
    simp only [lockgateref16_Right.l1]
    have hj3 : lockgateref16_Right.j3 (k + 1) l (i : Int) (j : Int) false = some R := by
      simp only [lockgateref16_Right.j3]
      rw [if_neg (by decide), w1 i (by omega)]
      exact hn k (by omega)
    by_cases h1 : (j : Int) < (l.length : Int)
    · rw [if_pos h1, decide_eq_false (by omega)]
      exact hj3
    · rw [if_neg h1]
      exact hj3
  | succ d ih =>
    intro k j hd hj hk
    obtain ⟨k, rfl⟩ : ∃ q, k = q + 2 := ⟨k - 2, by omega⟩
    have hjl : j < l.length := by omega
    have hil : i < l.length := by omega
    have hcons : inn l m i j = (decide ((rd_T26 l (i : Int)).f0 = l[j].f0) || inn l m i (j + 1)) := by
      unfold inn
      rw [List.drop_eq_getElem_cons (by rw [List.length_take]; omega), List.any_cons, List.getElem_take]
    simp only [lockgateref16_Right.l1]
    rw [if_pos (by omega), decide_eq_true (by omega)]
    simp only [lockgateref16_Right.j3]
    rw [if_pos trivial, if_pos (by omega), if_pos (by omega), if_pos (by omega), if_pos (by omega), w1 j (by omega), ih k (j + 1) (by omega) (by omega) (by omega), hcons, rd_get l j hjl]
    by_cases h : (rd_T26 l (i : Int)).f0 = l[j].f0
    · rw [if_pos h, decide_eq_true h]; rfl
    · rw [if_neg h, decide_eq_false h]; rfl
theorem outer (l : List S26) (m : Nat) (hl : l.length ≤ 100) (hm : m = min l.length 20) :
    ∀ (d k i : Nat), d = m - i → i ≤ m → 60 * d + 10 < k → lockgateref16_Right.l0 k l (i : Int) = some (if out l m d i = true then false else decide (0 < l.length) && decide (l.length ≤ 16)) := by
  have w1 : ∀ x : Nat, x ≤ 200 → wrap64 ((x : Int) + 1) = ((x + 1 : Nat) : Int) := fun x hx => by unfold wrap64; omega
  intro d
  induction d with
  | zero =>
    intro k i hd hi hk
    obtain ⟨k, rfl⟩ : ∃ q, k = q + 2 := ⟨k - 2, by omega⟩
    have hj1 : lockgateref16_Right.j1 (k + 1) l (i : Int) false = some (decide (0 < l.length) && decide (l.length ≤ 16)) := by
      simp only [lockgateref16_Right.j1]
      rw [if_neg (by decide)]
      by_cases h : (l.length : Int) > 0
      · rw [if_pos h, decide_eq_true (show 0 < l.length by omega), Bool.true_and]
        congr 1
        by_cases h2 : l.length ≤ 16
        · rw [decide_eq_true h2, decide_eq_true (by omega)]
        · rw [decide_eq_false h2, decide_eq_false (by omega)]
      · rw [if_neg h, decide_eq_false (show ¬ 0 < l.length by omega)]; rfl
    simp only [lockgateref16_Right.l0, out]
    show _ = some (decide (0 < l.length) && decide (l.length ≤ 16))
    by_cases h1 : (i : Int) < (l.length : Int)
    · rw [if_pos h1, decide_eq_false (by omega)]
      exact hj1
    · rw [if_neg h1]
      exact hj1
  | succ d ih =>
    intro k i hd hi hk
    obtain ⟨k, rfl⟩ : ∃ q, k = q + 2 := ⟨k - 2, by omega⟩
    have hlt : i < m := by omega
    have hin := inner l m i (60 * d + 10) _ hl hm hlt (fun k' hk' => ih k' (i + 1) (by omega) (by omega) hk') (m - (i + 1)) k (i + 1) rfl (by omega) (by omega)
    simp only [lockgateref16_Right.l0]
    rw [if_pos (by omega), decide_eq_true (by omega)]
    simp only [lockgateref16_Right.j1]
    rw [if_pos trivial, w1 i (by omega), hin, show out l m (d + 1) i = (inn l m i (i + 1) || out l m d (i + 1)) from rfl]
    by_cases hx : inn l m i (i + 1) = true
    · rw [if_pos hx, hx, Bool.true_or, if_pos rfl]
    · rw [if_neg hx, Bool.eq_false_iff.2 hx, Bool.false_or]
theorem inn_false (l : List S26) (m i j : Nat) (hm : m ≤ l.length) (hi : i < l.length) : inn l m i j = false ↔ ∀ q (hq : q < l.length), j ≤ q → q < m → l[i].f0 ≠ l[q].f0 := by
  unfold inn
  rw [rd_get l i hi, List.any_eq_false]
  constructor
  · intro h q hq hj hqm he
    have hmem : l[q] ∈ (l.take m).drop j := by
      rw [List.mem_iff_getElem]
      refine ⟨q - j, by rw [List.length_drop, List.length_take]; omega, ?_⟩
      rw [List.getElem_drop, List.getElem_take]
      congr 1
      omega
    have := h _ hmem
    simp [he] at this
  · intro h x hx
    rw [List.mem_iff_getElem] at hx
    obtain ⟨q, hq, rfl⟩ := hx
    rw [List.length_drop, List.length_take] at hq
    rw [List.getElem_drop, List.getElem_take]
    have := h (j + q) (by omega) (by omega) (by omega)
    simpa using this
theorem out_false (l : List S26) (m : Nat) (hm : m ≤ l.length) : ∀ (d i : Nat), i + d = m → (out l m d i = false ↔ ∀ p q (hp : p < l.length) (hq : q < l.length), i ≤ p → p < q → q < m → l[p].f0 ≠ l[q].f0)
  | 0, i, h => by
    constructor
    · intro _ p q hp hq h1 h2 h3; omega
    · intro _; rfl
  | d + 1, i, h => by
    have ih := out_false l m hm d (i + 1) (by omega)
    have hin := inn_false l m i (i + 1) hm (by omega)
    unfold out
    rw [Bool.or_eq_false_iff, hin, ih]
    constructor
    · rintro ⟨h1, h2⟩ p q hp hq hip hpq hqm
      rcases Nat.eq_or_lt_of_le hip with he | he
      · subst he; exact h1 q hq hpq hqm
      · exact h2 p q hp hq he hpq hqm
    · intro hh
      exact ⟨fun q hq h1 h2 => hh i q (by omega) hq (Nat.le_refl _) h1 h2, fun p q hp hq h1 h2 h3 => hh p q hp hq (by omega) h2 h3⟩
theorem dupAt_false (l : List S26) (i : Nat) (hi : i < l.length) : dupAt l i = false ↔ ∀ p (hp : p < l.length), p < i → l[p].f0 ≠ l[i].f0 := by
  unfold dupAt
  rw [rd_get l i hi, List.any_eq_false]
  constructor
  · intro h p hp hpi he
    have := h l[p] (List.mem_take_iff_getElem.2 ⟨p, by omega, rfl⟩)
    simp [he] at this
  · intro h x hx
    obtain ⟨p, hp, rfl⟩ := List.mem_take_iff_getElem.1 hx
    have := h p (by omega) (by omega)
    simpa using this
theorem dupFrom_iff (l : List S26) : ∀ (d i : Nat), i + d = l.length → (dupFrom l d i = false ↔ ∀ q (hq : q < l.length), i ≤ q → ∀ p (hp : p < l.length), p < q → l[p].f0 ≠ l[q].f0)
  | 0, i, h => by
    constructor
    · intro _ q hq h1; omega
    · intro _; rfl
  | d + 1, i, h => by
    have ih := dupFrom_iff l d (i + 1) (by omega)
    have hin := dupAt_false l i (by omega)
    unfold dupFrom
    rw [Bool.or_eq_false_iff, hin, ih]
    constructor
    · rintro ⟨h1, h2⟩ q hq hiq p hp hpq
      rcases Nat.eq_or_lt_of_le hiq with he | he
      · subst he; exact h1 p hp hpq
      · exact h2 q hq he p hp hpq
    · intro hh
      exact ⟨fun p hp h1 => hh i (by omega) (Nat.le_refl _) p hp h1, fun q hq h1 p hp h2 => hh q hq (by omega) p hp h2⟩
theorem refRight_f (l : List S26) (hl : l.length ≤ 100) (k : Nat) (hk : 2000 < k) : lockgateref16_Right.f k l = some (rightP l) := by
  have h := outer l (min l.length 20) hl rfl (min l.length 20) k 0 (by omega) (by omega) (by omega)
  unfold lockgateref16_Right.f
  rw [show ((0 : Nat) : Int) = 0 from rfl] at h
  rw [h]
  congr 1
  unfold rightP
  by_cases h0 : l.length = 0 ∨ 16 < l.length
  · rw [if_pos h0]
    have : (decide (0 < l.length) && decide (l.length ≤ 16)) = false := by
      rcases h0 with h0 | h0
      · rw [decide_eq_false (by omega)]; rfl
      · rw [decide_eq_false (show ¬ l.length ≤ 16 by omega), Bool.and_false]
    rw [this]
    split <;> rfl
  · rw [if_neg h0, show min l.length 20 = l.length by omega, decide_eq_true (show 0 < l.length by omega), decide_eq_true (show l.length ≤ 16 by omega)]
    have e : out l l.length l.length 0 = dupFrom l l.length 0 := by
      have h1 := out_false l l.length (Nat.le_refl _) l.length 0 (by omega)
      have h2 := dupFrom_iff l l.length 0 (by omega)
      have h3 : out l l.length l.length 0 = false ↔ dupFrom l l.length 0 = false := by
        rw [h1, h2]
        exact ⟨fun h q hq _ p hp hpq => h p q hp hq (Nat.zero_le _) hpq hq, fun h p q hp hq _ hpq _ => h q hq (Nat.zero_le _) p hp hpq⟩
      cases ha : out l l.length l.length 0 <;> cases hb : dupFrom l l.length 0
      · rfl
      · exact absurd (h3.1 ha) (by rw [hb]; decide)
      · exact absurd (h3.2 hb) (by rw [ha]; decide)
      · rfl
    rw [e]
    cases dupFrom l l.length 0 <;> rfl

theorem j1_f (k : Nat) (hk : 3000 < k) (l : List S26) (hl : l.length ≤ 100) (a b f0 b0 : Int) (o1 o2 : Int × Int × Bool) :
    lockgatelaw16_ViewAlls.j1 (k + 1) l f0 b0 o1.2.2 o1.2.2 o2.2.2 o2.2.2 (a == f0 && (b == b0) && decide (idxFrom (same a b) l 0 ≥ 0)) a b o1.1 o1.2.1 o1.1 o1.2.1 o2.1 o2.2.1 o2.1 o2.2.1 = some true := by
  simp only [lockgatelaw16_ViewAlls.j1]
  rw [awake_f k (by omega), Option.bind_some, if_pos rfl, show view_Right.f l = some (rightP l) from rfl, Option.bind_some, refRight_f l hl k (by omega), Option.bind_some, if_pos (by simp), index_f l a b (by omega) k (by omega), Option.bind_some, refIndex_f l a b hl k (by omega), Option.bind_some,
    if_pos rfl, if_pos (by simp), if_pos (by simp), if_pos (by simp), if_pos (by simp)]
  unfold view_Is.f
  by_cases h : (a == f0 && (b == b0)) = true
  · rw [if_pos h, index_f l a b (by omega) k (by omega), Option.bind_some, h]
    simp
  · rw [if_neg h, show (a == f0 && (b == b0)) = false by simpa using h]
    rfl
theorem j0_f (k : Nat) (hk : 3001 < k) (l : List S26) (hl : l.length ≤ 100) (a b f0 b0 : Int) (o1 o2 : Int × Int × Bool) :
    lockgatelaw16_ViewAlls.j0 (k + 1) l f0 b0 o1.2.2 o1.2.2 o2.2.2 o2.2.2 false a b o1.1 o1.2.1 o1.1 o1.2.1 o2.1 o2.2.1 o2.1 o2.2.1 = some true := by
  obtain ⟨k, rfl⟩ : ∃ m, k = m + 1 := ⟨k - 1, by omega⟩
  have H := j1_f k (by omega) l hl a b f0 b0 o1 o2
  simp only [lockgatelaw16_ViewAlls.j0]
  rw [if_neg (by decide)]
  by_cases h1 : a = f0
  · rw [if_pos h1]
    by_cases h2 : b = b0
    · rw [if_pos h2, refIndex_f l a b hl (k + 1) (by omega), Option.bind_some]
      rw [show (a == f0) = true from beq_iff_eq.2 h1, show (b == b0) = true from beq_iff_eq.2 h2, Bool.true_and, Bool.true_and] at H
      exact H
    · rw [if_neg h2]
      rw [show (b == b0) = false from beq_eq_false_iff_ne.2 h2, Bool.and_false, Bool.false_and] at H
      exact H
  · rw [if_neg h1]
    rw [show (a == f0) = false from beq_eq_false_iff_ne.2 h1, Bool.false_and, Bool.false_and] at H
    exact H
theorem alls (l : List S26) (a b f0 b0 : Int) : ∃ k, lockgatelaw16_ViewAlls.f k l a b f0 b0 = some true := by
  obtain ⟨k, hk⟩ : ∃ k, k = 5000 := ⟨5000, rfl⟩
  refine ⟨k + 1, ?_⟩
  unfold lockgatelaw16_ViewAlls.f
  by_cases hl : (l.length : Int) > 100
  · rw [if_pos hl, awake_f (k + 1) (by omega)]; rfl
  · rw [if_neg hl]
    have hl' : l.length ≤ 100 := by omega
    rw [aheadV_f l a b hl' (k + 1) (by omega), Option.bind_some, side_f l a b (-1) hl' (.inr rfl) (k + 1) (by omega), Option.bind_some, behindV_f l a b hl' (k + 1) (by omega), Option.bind_some, side_f l a b 1 hl' (.inl rfl) (k + 1) (by omega), Option.bind_some]
    generalize (if idxFrom (same a b) l 0 < 0 then ((0 : Int), (0 : Int), false) else atP l (idxFrom (same a b) l 0 + -1)) = o1
    generalize (if idxFrom (same a b) l 0 < 0 then ((0 : Int), (0 : Int), false) else atP l (idxFrom (same a b) l 0 + 1)) = o2
    have H := j0_f k (by omega) l hl' a b f0 b0 o1 o2
    have hh : view_Head.f l = some (atP l 0) := by
      unfold view_Head.f
      rw [at_f]
      rfl
    rw [hh, Option.bind_some]
    unfold atP
    rw [if_neg (show ¬ ((0 : Int) < 0) by decide)]
    by_cases h0 : (0 : Int) ≥ (l.length : Int)
    · rw [if_pos h0]
      simp only []
      rw [decide_eq_false (show ¬ ((l.length : Int) > 0) by omega), if_neg (by decide), if_neg (by decide)]
      exact H
    · rw [if_neg h0]
      simp only []
      rw [decide_eq_true (show (l.length : Int) > 0 by omega), if_neg (by decide), if_pos trivial, if_pos (by omega), if_neg (by simp)]
      exact H
end Go.Proofs.Yteipphlhbhahfaa.ViewAlls
