/- The plain laws of net: what the program's functions make of a net is what the document's answer makes of it. No program in sight. -/
import Derived.Test.YtaphejpphlcchaaPNetx6
import Derived.Test.YtaphejpphlcchaaPNetx5
import Derived.Test.YtaphejpphlcchaaPNetx4
import Derived.Test.YtaphejpphlcchaaPNetx2
namespace Go.Proofs.Ytaphejpphlcchaa.NetPure
open Go.RowKit Go.Proofs.YtaphejpphlcchaaW.PrintWords Go.Proofs.Ytaphejpphlcchaa.PNet
set_option linter.unusedVariables false
theorem w1 (i : Nat) (h : i < 4611686018427387904) : wrap64 ((i : Int) + 1) = ((i + 1 : Nat) : Int) := by unfold wrap64; omega
theorem wm1 (i : Nat) (h : i < 4611686018427387904) : wrap64 (((i + 1 : Nat) : Int) - 1) = (i : Int) := by unfold wrap64; omega
/-- what Right lets in, as far as it is wanted -/
structure Okay (l : List S29) : Prop where
  len : l.length ≤ 60
  bytes : ∀ x ∈ l, x.f2.length ≤ 500
theorem right_l (a0 : Int) (l : List S29) (hlen : l.length ≤ 60) : ∀ (d k i : Nat), d = l.length - i → i ≤ l.length → d < k →
    ∃ r, lockgateref11_Right.l0 k (i : Int) a0 l = some r ∧ (r = true → ∀ j (h : j < l.length), i ≤ j → (l[j]).f2.length ≤ 500) := by
  intro d
  induction d with
  | zero =>
    intro k i hd hi hk
    obtain ⟨k, rfl⟩ : ∃ m, k = m + 1 := ⟨k - 1, by omega⟩
    refine ⟨true, by simp only [lockgateref11_Right.l0]; rw [if_neg (by omega)], fun _ j h hj => by omega⟩
  | succ d ih =>
    intro k i hd hi hk
    obtain ⟨k, rfl⟩ : ∃ m, k = m + 1 := ⟨k - 1, by omega⟩
    have hlt : i < l.length := by omega
    obtain ⟨r, hr, hr'⟩ := ih k (i + 1) (by omega) (by omega) (by omega)
    have last : ∃ r, (if (((rd_T29 l (i : Int)).f2).length : Int) > 500 then (some false) else (lockgateref11_Right.l0 k (wrap64 ((i : Int) + 1)) a0 l)) = some r ∧ (r = true → ∀ j (h : j < l.length), i ≤ j → (l[j]).f2.length ≤ 500) := by
      rw [rd29 l i hlt, w1 i (by omega)]
      by_cases hb : ((l[i].f2).length : Int) > 500
      · rw [if_pos hb]; exact ⟨false, rfl, fun h => by cases h⟩
      · rw [if_neg hb]
        refine ⟨r, hr, fun h j hj hij => ?_⟩
        rcases Nat.eq_or_lt_of_le hij with he | he
        · subst he; omega
        · exact hr' h j hj he
    simp only [lockgateref11_Right.l0]
    rw [if_pos (by omega), if_pos (by omega)]
    by_cases h1 : ((rd_T29 l (i : Int)).f0) < 0
    · rw [if_pos h1]; exact ⟨false, rfl, fun h => by cases h⟩
    rw [if_neg h1]
    by_cases h2 : ((rd_T29 l (i : Int)).f0) ≥ a0
    · rw [if_pos h2]; exact ⟨false, rfl, fun h => by cases h⟩
    rw [if_neg h2]
    by_cases h3 : (i : Int) > 0
    · rw [if_pos h3]
      obtain ⟨m, rfl⟩ : ∃ m, i = m + 1 := ⟨i - 1, by omega⟩
      rw [wm1 m (by omega), if_pos (by omega), if_pos (by omega)]
      by_cases h4 : ((rd_T29 l (m : Int)).f0) ≥ ((rd_T29 l ((m + 1 : Nat) : Int)).f0)
      · rw [if_pos h4]; exact ⟨false, rfl, fun h => by cases h⟩
      rw [if_neg h4]
      exact last
    · rw [if_neg h3]
      exact last
theorem right_f (k : Nat) (hk : 70 ≤ k) (a0 : Int) (l : List S29) : ∃ r, lockgateref11_Right.f k a0 l = some r ∧ (r = true → (0 ≤ a0 ∧ a0 ≤ 4611686018427387904) ∧ Okay l) := by
  obtain ⟨k, rfl⟩ : ∃ m, k = m + 1 := ⟨k - 1, by omega⟩
  unfold lockgateref11_Right.f
  have j0 : lockgateref11_Right.j0 (k + 1) true a0 l = some false := by simp only [lockgateref11_Right.j0]; rfl
  by_cases h1 : a0 < 0
  · rw [if_pos h1, j0]; exact ⟨false, rfl, fun h => by cases h⟩
  rw [if_neg h1]
  by_cases h2 : a0 > 4611686018427387904
  · rw [if_pos h2, j0]; exact ⟨false, rfl, fun h => by cases h⟩
  rw [if_neg h2]
  by_cases h3 : (l.length : Int) > 60
  · rw [decide_eq_true h3, j0]; exact ⟨false, rfl, fun h => by cases h⟩
  rw [decide_eq_false h3]
  simp only [lockgateref11_Right.j0]
  obtain ⟨r, hr, hr'⟩ := right_l a0 l (by omega) l.length k 0 rfl (Nat.zero_le _) (by omega)
  rw [if_neg (by decide)]
  refine ⟨r, hr, fun h => ⟨⟨by omega, by omega⟩, ⟨by omega, fun x hx => ?_⟩⟩⟩
  obtain ⟨j, hj, rfl⟩ := List.mem_iff_getElem.1 hx
  exact hr' h j hj (Nat.zero_le _)
theorem clone_f (b : List Int) (h : b.length ≤ 500) : slices_Clone_byte_byte.f b = some b := by unfold slices_Clone_byte_byte.f; rw [if_pos (by omega)]
theorem copied_l (a0 : Int) (l : List S29) (ok : Okay l) : ∀ (d k i : Nat), d = l.length - i → i ≤ l.length → d < k → net_copied.l0 k l (l.length : Int) (i : Int) a0 (l.take i) = some (a0, l) := by
  have hl := ok.len
  intro d
  induction d with
  | zero =>
    intro k i hd hi hk
    obtain ⟨k, rfl⟩ : ∃ m, k = m + 1 := ⟨k - 1, by omega⟩
    simp only [net_copied.l0]
    rw [if_neg (by omega), List.take_of_length_le (by omega)]
  | succ d ih =>
    intro k i hd hi hk
    obtain ⟨k, rfl⟩ : ∃ m, k = m + 1 := ⟨k - 1, by omega⟩
    have hlt : i < l.length := by omega
    simp only [net_copied.l0]
    rw [if_pos (by omega), if_pos (by omega), if_pos (by omega), rd29 l i hlt, clone_f _ (ok.bytes _ (List.getElem_mem hlt)), Option.bind_some, if_pos (by rw [List.length_take]; omega), w1 i (by omega)]
    have := ih k (i + 1) (by omega) (by omega) (by omega)
    rw [List.take_succ_eq_append_getElem hlt] at this
    exact this
theorem copied_f (k : Nat) (hk : 70 ≤ k) (a0 : Int) (l : List S29) (ok : Okay l) : net_copied.f k a0 l = some (a0, l) := by
  have hl := ok.len
  have := copied_l a0 l ok l.length k 0 rfl (Nat.zero_le _) (by omega)
  rw [List.take_zero] at this
  exact this
theorem send_f (k : Nat) (hk : 70 ≤ k) (a0 : Int) (l : List S29) (ok : Okay l) (to1 : Int) (b : List Int) (hb : b.length ≤ 500) : net_Send.f k a0 l to1 b = some (wrap64 (a0 + 1), l ++ [⟨a0, to1, b⟩]) := by
  have hl := ok.len
  unfold net_Send.f
  rw [copied_f k hk a0 l ok, Option.bind_some, clone_f b hb, Option.bind_some]
  exact if_pos (by show l.length < 3518437208883; omega)
/-- a list without the element at a place -/
def wo (at1 : Int) : Nat → List S29 → List S29
  | _, [] => []
  | i, x :: l => if (i : Int) = at1 then wo at1 (i + 1) l else x :: wo at1 (i + 1) l
theorem wo_len (at1 : Int) : ∀ (l : List S29) (i : Nat), (wo at1 i l).length ≤ l.length
  | [], _ => Nat.le_refl _
  | x :: l, i => by
    have := wo_len at1 l (i + 1)
    unfold wo
    split
    · simp; omega
    · simp; omega
theorem wo_far (at1 : Int) : ∀ (l : List S29) (i : Nat), at1 < (i : Int) → wo at1 i l = l
  | [], _, _ => rfl
  | x :: l, i, h => by
    unfold wo
    rw [if_neg (by omega), wo_far at1 l (i + 1) (by omega)]
theorem wo_erase : ∀ (l : List S29) (i j : Nat), wo ((i + j : Nat) : Int) i l = l.eraseIdx j
  | [], _, _ => rfl
  | x :: l, i, 0 => by
    unfold wo
    rw [if_pos (by omega), wo_far _ l (i + 1) (by omega)]
    rfl
  | x :: l, i, j + 1 => by
    unfold wo
    rw [if_neg (by omega), show i + (j + 1) = (i + 1) + j by omega, wo_erase l (i + 1) j]
    rfl
theorem without_l (a0 : Int) (l : List S29) (at1 : Int) (hl : l.length ≤ 60) : ∀ (d k i : Nat) (acc : List S29), d = l.length - i → i ≤ l.length → d < k → acc.length ≤ i → lockgateref11_without.l0 k at1 (i : Int) a0 l a0 acc = some (a0, acc ++ wo at1 i (l.drop i)) := by
  intro d
  induction d with
  | zero =>
    intro k i acc hd hi hk ha
    obtain ⟨k, rfl⟩ : ∃ m, k = m + 1 := ⟨k - 1, by omega⟩
    simp only [lockgateref11_without.l0]
    rw [if_neg (by omega), List.drop_eq_nil_of_le (by omega)]
    simp [wo]
  | succ d ih =>
    intro k i acc hd hi hk ha
    obtain ⟨k, rfl⟩ : ∃ m, k = m + 1 := ⟨k - 1, by omega⟩
    have hlt : i < l.length := by omega
    simp only [lockgateref11_without.l0]
    rw [if_pos (by omega), List.drop_eq_getElem_cons hlt, rd29 l i hlt, w1 i (by omega)]
    unfold wo
    by_cases h : (i : Int) = at1
    · rw [if_pos h, if_pos h, ih k (i + 1) acc (by omega) (by omega) (by omega) (by omega)]
    · rw [if_neg h, if_neg h, if_pos (by omega), if_pos (by omega), ih k (i + 1) (acc ++ [l[i]]) (by omega) (by omega) (by omega) (by simp; omega)]
      rw [List.append_assoc]; rfl
theorem without_f (k : Nat) (hk : 70 ≤ k) (a0 : Int) (l : List S29) (hl : l.length ≤ 60) (at1 : Int) : lockgateref11_without.f k a0 l at1 = some (a0, wo at1 0 l) := by
  unfold lockgateref11_without.f
  have := without_l a0 l at1 hl l.length k 0 [] rfl (Nat.zero_le _) (by omega) (Nat.le_refl _)
  rw [List.drop_zero, List.nil_append] at this
  exact this
theorem refSend_f (k : Nat) (hk : 70 ≤ k) (a0 : Int) (l : List S29) (ok : Okay l) (to1 : Int) (b : List Int) : lockgateref11_Send.f k a0 l to1 b = some (wrap64 (a0 + 1), l ++ [⟨a0, to1, b⟩]) := by
  have hl := ok.len
  unfold lockgateref11_Send.f
  rw [without_f k hk a0 l hl, wo_far (-1) l 0 (by omega), Option.bind_some]
  exact if_pos (by show l.length < 3518437208883; omega)
theorem cut_l (a0 : Int) (l : List S29) (to1 : Int) (hl : l.length ≤ 60) : ∀ (d k i : Nat) (acc : List S29), d = l.length - i → i ≤ l.length → d < k → acc.length ≤ i → lockgateref11_Cut.l0 k to1 (i : Int) a0 l a0 acc = some (a0, acc ++ (l.drop i).filter (fun x => !(x.f1 == to1))) := by
  intro d
  induction d with
  | zero =>
    intro k i acc hd hi hk ha
    obtain ⟨k, rfl⟩ : ∃ m, k = m + 1 := ⟨k - 1, by omega⟩
    simp only [lockgateref11_Cut.l0]
    rw [if_neg (by omega), List.drop_eq_nil_of_le (by omega)]
    simp
  | succ d ih =>
    intro k i acc hd hi hk ha
    obtain ⟨k, rfl⟩ : ∃ m, k = m + 1 := ⟨k - 1, by omega⟩
    have hlt : i < l.length := by omega
    simp only [lockgateref11_Cut.l0]
    rw [if_pos (by omega), if_pos (by omega), List.drop_eq_getElem_cons hlt, rd29 l i hlt, w1 i (by omega), List.filter_cons]
    by_cases h : l[i].f1 = to1
    · rw [if_pos h, show (!(l[i].f1 == to1)) = false by rw [h]; simp, if_neg (by decide), ih k (i + 1) acc (by omega) (by omega) (by omega) (by omega)]
    · rw [if_neg h, show (!(l[i].f1 == to1)) = true by rw [beq_eq_false_iff_ne.2 h]; rfl, if_pos rfl, if_pos (by omega), ih k (i + 1) (acc ++ [l[i]]) (by omega) (by omega) (by omega) (by simp; omega)]
      rw [List.append_assoc]; rfl
theorem refCut_f (k : Nat) (hk : 70 ≤ k) (a0 : Int) (l : List S29) (hl : l.length ≤ 60) (to1 : Int) : lockgateref11_Cut.f k a0 l to1 = some (a0, l.filter (fun x => !(x.f1 == to1))) := by
  unfold lockgateref11_Cut.f
  have := cut_l a0 l to1 hl l.length k 0 [] rfl (Nat.zero_le _) (by omega) (Nat.le_refl _)
  rw [List.drop_zero, List.nil_append] at this
  exact this
theorem cut_f (k : Nat) (hk : 70 ≤ k) (a0 : Int) (l : List S29) (ok : Okay l) (to1 : Int) : net_Cut.f k a0 l to1 = some (a0, l.filter (fun x => !(x.f1 == to1))) := by
  unfold net_Cut.f
  rw [copied_f k hk a0 l ok, Option.bind_some]
theorem same3_l (b : List Int) (hb : b.length ≤ 500) : ∀ (d k i : Nat), d = b.length - i → i ≤ b.length → d < k → lockgateref03_Same.l0 k b b (i : Int) = some true := by
  intro d
  induction d with
  | zero =>
    intro k i hd hi hk
    obtain ⟨k, rfl⟩ : ∃ m, k = m + 1 := ⟨k - 1, by omega⟩
    simp only [lockgateref03_Same.l0]
    rw [if_neg (by omega)]
  | succ d ih =>
    intro k i hd hi hk
    obtain ⟨k, rfl⟩ : ∃ m, k = m + 1 := ⟨k - 1, by omega⟩
    simp only [lockgateref03_Same.l0]
    rw [if_pos (by omega), if_pos (by omega), if_pos (by omega), if_pos trivial, w1 i (by omega)]
    exact ih k (i + 1) (by omega) (by omega) (by omega)
theorem same3_f (k : Nat) (hk : 510 ≤ k) (b : List Int) (hb : b.length ≤ 500) : lockgateref03_Same.f k b b = some true := by
  unfold lockgateref03_Same.f
  rw [if_pos rfl]
  exact same3_l b hb b.length k 0 rfl (Nat.zero_le _) (by omega)
theorem samePacket_f (k : Nat) (hk : 510 ≤ k) (a b : Int) (c : List Int) (hc : c.length ≤ 500) : lockgateref11_SamePacket.f k a b c a b c = some true := by
  unfold lockgateref11_SamePacket.f
  rw [if_pos rfl, if_pos rfl, same3_f k hk c hc]
  rfl
theorem same_l (a0 : Int) (l : List S29) (hl : l.length ≤ 61) (hb : ∀ x ∈ l, x.f2.length ≤ 500) : ∀ (d k i : Nat), d = l.length - i → i ≤ l.length → d + 510 < k → lockgateref11_Same.l0 k (i : Int) a0 l a0 l = some true := by
  intro d
  induction d with
  | zero =>
    intro k i hd hi hk
    obtain ⟨k, rfl⟩ : ∃ m, k = m + 1 := ⟨k - 1, by omega⟩
    simp only [lockgateref11_Same.l0]
    rw [if_neg (by omega)]
  | succ d ih =>
    intro k i hd hi hk
    obtain ⟨k, rfl⟩ : ∃ m, k = m + 1 := ⟨k - 1, by omega⟩
    have hlt : i < l.length := by omega
    simp only [lockgateref11_Same.l0]
    rw [if_pos (by omega), if_pos (by omega), if_pos (by omega), rd29 l i hlt, samePacket_f k (by omega) _ _ _ (hb _ (List.getElem_mem hlt)), Option.bind_some, if_pos rfl, w1 i (by omega)]
    exact ih k (i + 1) (by omega) (by omega) (by omega)
theorem same_f (k : Nat) (hk : 600 ≤ k) (a0 : Int) (l : List S29) (hl : l.length ≤ 61) (hb : ∀ x ∈ l, x.f2.length ≤ 500) : lockgateref11_Same.f k a0 l a0 l = some true := by
  obtain ⟨k, rfl⟩ : ∃ m, k = m + 1 := ⟨k - 1, by omega⟩
  unfold lockgateref11_Same.f
  rw [if_pos rfl]
  simp only [lockgateref11_Same.j0]
  rw [show ((l.length : Int) != (l.length : Int)) = false by simp, if_neg (by decide)]
  exact same_l a0 l hl hb l.length k 0 rfl (Nat.zero_le _) (by omega)

/-- the place that a number names -/
theorem place (l : List S29) (i : Int) (hi : 0 ≤ i) (h0 : ¬ (l.length : Int) = 0) : ∃ j : Nat, j < l.length ∧ Int.tmod i (l.length : Int) = (j : Int) := by
  have h1 := Int.tmod_nonneg (l.length : Int) hi
  have h2 := Int.tmod_lt_of_pos i (show (0 : Int) < l.length by omega)
  exact ⟨(Int.tmod i (l.length : Int)).toNat, by omega, by omega⟩
theorem take_f (k : Nat) (hk : 70 ≤ k) (a0 : Int) (l : List S29) (ok : Okay l) (i : Int) (hi : 0 ≤ i) : ∃ x1 x2 x3 m ok1, net_Take.f k a0 l i = some (x1, x2, x3, a0, m, ok1) ∧ lockgateref11_Take.f k a0 l i = some (x1, x2, x3, a0, m, ok1) ∧ x3.length ≤ 500 ∧ Okay m ∧
    (((l = [] ∧ m = [] ∧ ok1 = false) ∨ (m.length + 1 = l.length ∧ ok1 = true))) := by
  unfold net_Take.f takeF lockgateref11_Take.f
  rw [copied_f k hk a0 l ok, Option.bind_some]
  by_cases h0 : (l.length : Int) = 0
  · obtain rfl : l = [] := List.eq_nil_of_length_eq_zero (by omega)
    exact ⟨0, 0, [], [], false, rfl, rfl, by simp, ok, .inl ⟨rfl, rfl, rfl⟩⟩
  · obtain ⟨j, hj, hji⟩ := place l i hi h0
    simp only [hji]
    rw [if_neg h0, if_neg h0, if_pos (by omega), if_pos (by omega), if_pos (by omega), rd29 l j hj, without_f k hk a0 l ok.len, Option.bind_some]
    have hw := wo_erase l 0 j
    rw [Nat.zero_add] at hw
    rw [hw, Int.toNat_natCast]
    refine ⟨_, _, _, _, _, rfl, rfl, ok.bytes _ (List.getElem_mem hj), ⟨?_, fun x hx => ok.bytes x (List.mem_of_mem_eraseIdx hx)⟩, .inr ⟨?_, rfl⟩⟩
    · rw [List.length_eraseIdx_of_lt hj]; have := ok.len; omega
    · rw [List.length_eraseIdx_of_lt hj]; omega
theorem copy_f (k : Nat) (hk : 70 ≤ k) (a0 : Int) (l : List S29) (ok : Okay l) (i : Int) (hi : 0 ≤ i) : ∃ n m, net_Copy.f k a0 l i = some (n, m) ∧ lockgateref11_Copy.f k a0 l i = some (n, m) ∧ m.length ≤ 61 ∧ (∀ x ∈ m, x.f2.length ≤ 500) ∧ ((l = [] ∧ m = []) ∨ (l ≠ [] ∧ m.length = l.length + 1)) := by
  unfold net_Copy.f lockgateref11_Copy.f
  have hl := ok.len
  by_cases h0 : (l.length : Int) = 0
  · obtain rfl : l = [] := List.eq_nil_of_length_eq_zero (by omega)
    rw [if_pos h0, if_pos h0, copied_f k hk a0 [] ok]
    exact ⟨_, _, rfl, rfl, by simp, ok.bytes, .inl ⟨rfl, rfl⟩⟩
  · obtain ⟨j, hj, hji⟩ := place l i hi h0
    have hb := ok.bytes _ (List.getElem_mem hj)
    simp only [hji]
    rw [if_neg h0, if_neg h0, if_pos (by omega), if_pos (by omega), if_pos (by omega), if_pos (by omega), rd29 l j hj, send_f k hk a0 l ok _ _ hb, refSend_f k hk a0 l ok, Option.bind_some]
    refine ⟨_, _, rfl, rfl, by simp; omega, fun x hx => ?_, .inr ⟨fun h => h0 (by rw [h]; rfl), by simp⟩⟩
    rcases List.mem_append.1 hx with h | h
    · exact ok.bytes x h
    · rw [List.mem_singleton.1 h]; exact hb
theorem drop_f (k : Nat) (hk : 70 ≤ k) (a0 : Int) (l : List S29) (i : Int) {x1 x2 : Int} {x3 : List Int} {n : Int} {m : List S29} {b : Bool} (h : net_Take.f k a0 l i = some (x1, x2, x3, n, m, b)) : net_Drop.f k a0 l i = some (n, m) := by
  unfold net_Drop.f
  rw [h]
  rfl
end Go.Proofs.Ytaphejpphlcchaa.NetPure
