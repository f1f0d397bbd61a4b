/- Plain facts on frames: bytes of a number, the number of some bytes, a record's frame, what stands where: no program in it. -/
import Derived.Test.YtdbkedipfpepbaaMath
import Derived.Laws.BytesArg
namespace Go.FrameMath
open Go Go.HashMath
def Byt (l : List Int) : Prop := ∀ x ∈ l, 0 ≤ x ∧ x < 256
theorem Byt.append {a b : List Int} (ha : Byt a) (hb : Byt b) : Byt (a ++ b) := fun x hx => (List.mem_append.1 hx).elim (ha x) (hb x)
theorem Byt.take {a : List Int} (ha : Byt a) (n : Nat) : Byt (a.take n) := fun x hx => ha x (List.mem_of_mem_take hx)
theorem Byt.drop {a : List Int} (ha : Byt a) (n : Nat) : Byt (a.drop n) := fun x hx => ha x (List.mem_of_mem_drop hx)
/-- the sum of some bytes -/
def hsh (l : List Int) : Nat := sums 14695981039346656037 (l.map fun n => UInt8.ofNat n.toNat)
theorem hsh_lt (l : List Int) : hsh l < 18446744073709551616 := sums_lt _ _ (by decide)
/-- the lowest n bytes of a number, the lowest first -/
def lowB (x : Nat) : Nat → List Int
  | 0 => []
  | n + 1 => ((x % 256 : Nat) : Int) :: lowB (x / 256) n
theorem lowB_length (n : Nat) : ∀ x, (lowB x n).length = n := by
  induction n with
  | zero => intro x; rfl
  | succ n ih => intro x; simp [lowB, ih]
theorem lowB_byt (n : Nat) : ∀ x, Byt (lowB x n) := by
  induction n with
  | zero => intro x y hy; cases hy
  | succ n ih =>
    intro x y hy
    rcases List.mem_cons.1 hy with rfl | hy
    · omega
    · exact ih _ y hy
/-- the number whose lowest byte stands first -/
def num : List Int → Nat
  | [] => 0
  | c :: l => c.toNat + 256 * num l
theorem num_lt : ∀ l : List Int, Byt l → num l < 256 ^ l.length
  | [], _ => by decide
  | c :: l, h => by
    have h1 := num_lt l (fun x hx => h x (List.mem_cons_of_mem _ hx))
    have h2 := h c (List.mem_cons_self ..)
    simp only [num, List.length_cons, Nat.pow_succ]
    omega
theorem num_lowB : ∀ (n x : Nat), num (lowB x n) = x % 256 ^ n
  | 0, x => by simp [lowB, num, Nat.mod_one]
  | n + 1, x => by
    simp only [lowB, num, num_lowB n, Int.toNat_natCast]
    rw [Nat.pow_succ, Nat.mul_comm (256 ^ n) 256, Nat.mod_mul]
theorem lowB_num : ∀ l : List Int, Byt l → lowB (num l) l.length = l
  | [], _ => rfl
  | c :: l, h => by
    have h2 := h c (List.mem_cons_self ..)
    simp only [num, List.length_cons, lowB]
    have e1 : (c.toNat + 256 * num l) % 256 = c.toNat := by omega
    have e2 : (c.toNat + 256 * num l) / 256 = num l := by omega
    rw [e1, e2, lowB_num l (fun x hx => h x (List.mem_cons_of_mem _ hx))]
    congr 1
    omega
/-- a record's frame -/
def frame (r : List Int) : List Int := lowB r.length 4 ++ lowB (hsh (lowB r.length 4 ++ r)) 8 ++ r
theorem frame_length (r : List Int) : (frame r).length = 12 + r.length := by simp [frame, lowB_length]; omega
theorem frame_byt {r : List Int} (h : Byt r) : Byt (frame r) := ((lowB_byt _ _).append (lowB_byt _ _)).append h
/-- the record that stands at the head of some bytes, if its frame does -/
def headOf (l : List Int) : Option (List Int) :=
  if l.length < 12 then none else if 16777216 < num (l.take 4) ∨ l.length < 12 + num (l.take 4) then none
  else if l.take (12 + num (l.take 4)) = frame ((l.drop 12).take (num (l.take 4))) then some ((l.drop 12).take (num (l.take 4))) else none
theorem headOf_frame (r : List Int) (hr : r.length ≤ 16777216) (rest : List Int) : headOf (frame r ++ rest) = some r := by
  have h4 : (frame r ++ rest).take 4 = lowB r.length 4 := by
    unfold frame
    rw [List.append_assoc, List.append_assoc, List.take_left' (lowB_length _ _)]
  have hn : num ((frame r ++ rest).take 4) = r.length := by rw [h4, num_lowB, Nat.mod_eq_of_lt (by omega)]
  have hd : (frame r ++ rest).drop 12 = r ++ rest := by
    unfold frame
    rw [List.append_assoc (lowB _ _ ++ _), List.drop_left' (by simp [lowB_length])]
  unfold headOf
  rw [hn, hd, List.take_left' rfl, List.take_left' (frame_length r), if_neg (by simp [frame_length]; omega), if_neg (by simp [frame_length]; omega), if_pos rfl]
theorem headOf_some {l r : List Int} (h : headOf l = some r) : l.take (12 + r.length) = frame r ∧ 12 + r.length ≤ l.length ∧ r.length ≤ 16777216 := by
  unfold headOf at h
  split at h
  · cases h
  · split at h
    · cases h
    · split at h
      · rename_i h1 h2 h3
        obtain rfl := Option.some.inj h
        have hl : ((l.drop 12).take (num (l.take 4))).length = num (l.take 4) := by rw [List.length_take, List.length_drop]; omega
        rw [hl]
        exact ⟨h3, by omega, by omega⟩
      · cases h
/-- a frame that is cut off isn't told -/
theorem headOf_torn (r : List Int) (hr : r.length ≤ 16777216) (rest : List Int) (n : Nat) (hn : n < 12 + r.length) : headOf ((frame r ++ rest).take n) = none := by
  unfold headOf
  by_cases h : n < 12
  · rw [if_pos (by rw [List.length_take]; omega)]
  · have h4 : ((frame r ++ rest).take n).take 4 = lowB r.length 4 := by
      rw [List.take_take, Nat.min_eq_left (by omega)]
      unfold frame
      rw [List.append_assoc, List.append_assoc, List.take_left' (lowB_length _ _)]
    have hnum : num (((frame r ++ rest).take n).take 4) = r.length := by rw [h4, num_lowB, Nat.mod_eq_of_lt (by omega)]
    rw [hnum]
    by_cases h2 : ((frame r ++ rest).take n).length < 12
    · rw [if_pos h2]
    · rw [if_neg h2, if_pos (by right; rw [List.length_take]; omega)]
theorem sums_append (h : Nat) (a b : List UInt8) : sums h (a ++ b) = sums (sums h a) b := List.foldl_append
theorem sums_inj : ∀ (l : List UInt8) (a b : Nat), a < 18446744073709551616 → b < 18446744073709551616 → sums a l = sums b l → a = b
  | [], _, _, _, _, h => h
  | c :: l, a, b, ha, hb, h => step_inj a b c.toNat ha hb (UInt8.toNat_lt _) (sums_inj l _ _ (step_lt _ _) (step_lt _ _) h)
/-- one byte turned: another sum -/
theorem hsh_set (pre : List Int) (r : List Int) (hr : Byt r) (i : Nat) (hi : i < r.length) (y : Int) (hy : 0 ≤ y ∧ y < 256) (hne : y ≠ r[i]) : hsh (pre ++ r.set i y) ≠ hsh (pre ++ r) := by
  intro e
  have hx := hr r[i] (List.getElem_mem hi)
  have e1 : r = r.take i ++ r[i] :: r.drop (i + 1) := by rw [← List.drop_eq_getElem_cons hi, List.take_append_drop]
  have e2 : r.set i y = r.take i ++ y :: r.drop (i + 1) := by rw [List.set_eq_take_append_cons_drop, if_pos hi]
  unfold hsh at e
  rw [e2] at e
  conv at e => rhs; rw [e1]
  simp only [List.map_append, List.map_cons, sums_append] at e
  have lt : ∀ l h, h < 18446744073709551616 → sums h l < 18446744073709551616 := sums_lt
  have e3 := sums_inj _ _ _ (step_lt _ _) (step_lt _ _) (show sums (HashMath.step _ _) _ = sums (HashMath.step _ _) _ from e)
  have e4 := step_inj' _ _ _ (lt _ _ (lt _ _ (by decide))) (UInt8.toNat_lt _) (UInt8.toNat_lt _) e3
  rw [UInt8.toNat_ofNat', UInt8.toNat_ofNat'] at e4
  omega
/-- a frame of which one byte of the record was turned isn't told -/
theorem headOf_spoilt (r : List Int) (hb : Byt r) (hr : r.length ≤ 16777216) (i : Nat) (hi : i < r.length) (y : Int) (hy : 0 ≤ y ∧ y < 256) (hne : y ≠ r[i]) :
    headOf ((frame r).set (12 + i) y) = none := by
  have hf : (frame r).set (12 + i) y = lowB r.length 4 ++ lowB (hsh (lowB r.length 4 ++ r)) 8 ++ r.set i y := by
    unfold frame
    rw [List.set_append_right _ _ (by simp [lowB_length])]
    congr 1
    simp [lowB_length]
  rw [hf]
  have h4 : (lowB r.length 4 ++ lowB (hsh (lowB r.length 4 ++ r)) 8 ++ r.set i y).take 4 = lowB r.length 4 := by
    rw [List.append_assoc, List.take_left' (lowB_length _ _)]
  have hn : num (lowB r.length 4) = r.length := by rw [num_lowB, Nat.mod_eq_of_lt (by omega)]
  have hd : (lowB r.length 4 ++ lowB (hsh (lowB r.length 4 ++ r)) 8 ++ r.set i y).drop 12 = r.set i y := by
    rw [List.drop_left' (by simp [lowB_length])]
  have hl : (lowB r.length 4 ++ lowB (hsh (lowB r.length 4 ++ r)) 8 ++ r.set i y).length = 12 + r.length := by simp [lowB_length]; omega
  unfold headOf
  rw [h4, hn, hd, hl, if_neg (by omega), if_neg (by omega), List.take_of_length_le (by omega), List.take_of_length_le (by simp), if_neg]
  intro e
  unfold frame at e
  rw [List.length_set] at e
  have e1 := List.append_inj_left e (by simp [lowB_length])
  have e2 := List.append_inj_right e1 rfl
  have e3 := congrArg num e2
  rw [num_lowB, num_lowB, Nat.mod_eq_of_lt (hsh_lt _), Nat.mod_eq_of_lt (hsh_lt _)] at e3
  exact hsh_set _ r hb i hi y hy hne e3.symm
/-- the records from a place on, as far as frames stand there; fuel -/
def scan : Nat → List Int → List (List Int) → Nat → List (List Int) × Nat
  | 0, _, out, at_ => (out, at_)
  | k + 1, l, out, at_ => match headOf (l.drop at_) with
    | none => (out, at_)
    | some r => scan k l (out ++ [r]) (at_ + (12 + r.length))
theorem scan_fits (l : List Int) : ∀ (k : Nat) (out : List (List Int)) (a : Nat), a ≤ l.length → (scan k l out a).2 ≤ l.length
  | 0, _, _, h => h
  | k + 1, out, a, h => by
    unfold scan
    cases e : headOf (l.drop a) with
    | none => exact h
    | some r =>
      have := (headOf_some e).2.1
      rw [List.length_drop] at this
      exact scan_fits l k _ _ (by omega)
theorem scan_again (l : List Int) : ∀ (k : Nat) (out : List (List Int)) (a : Nat), a ≤ l.length → (out.map frame).flatten = l.take a → ((scan k l out a).1.map frame).flatten = l.take (scan k l out a).2
  | 0, _, _, _, h => h
  | k + 1, out, a, ha, h => by
    unfold scan
    cases e : headOf (l.drop a) with
    | none => exact h
    | some r =>
      obtain ⟨h1, h2, _⟩ := headOf_some e
      rw [List.length_drop] at h2
      refine scan_again l k _ _ (by omega) ?_
      rw [List.map_append, List.flatten_append, h, List.map_singleton, List.flatten_singleton, ← h1]
      exact List.take_add.symm
end Go.FrameMath
