/- Same, Few and Begins in plain words. -/
import Derived.Test.YtpagajgpcmonkaaPDiskx1
import Derived.Test.YtpagajgpcmonkaaPDiskx2
import Derived.Test.YtpagajgpcmonkaaDiskChange
namespace Go.Proofs.Ytpagajgpcmonkaa.PDisk
open Go.RowKit Go.Proofs.YtpagajgpcmonkaaW.PrintWords Go.Proofs.YtpagajgpcmonkaaW.PrintLast Go.Proofs.YtpagajgpcmonkaaW.PrintMore
set_option linter.unusedVariables false
set_option linter.unusedSimpArgs false
theorem w1 (i : Nat) (h : i < 4611686018427387904) : wrap64 ((i : Int) + 1) = ((i + 1 : Nat) : Int) := by unfold wrap64; omega
theorem rd_get (xs : List Int) (i : Nat) (h : i < xs.length) : rd xs (i : Int) = xs[i] := by
  unfold rd; rw [Int.toNat_natCast, List.getD_eq_getElem?_getD, List.getElem?_eq_getElem h]; rfl
theorem rdT_get (xs : List S39) (i : Nat) (h : i < xs.length) : rd_T39 xs (i : Int) = xs[i] := by
  unfold rd_T39; rw [Int.toNat_natCast, List.getD_eq_getElem?_getD, List.getElem?_eq_getElem h]; rfl
theorem same_l (a b : List Int) (he : a.length = b.length) (hb : a.length ≤ 1000000000) : ∀ (d k i : Nat), d = a.length - i → i ≤ a.length → d < k → lockgateref03_Same.l0 k a b (i : Int) = some (decide (a.drop i = b.drop i)) := by
  intro d
  induction d with
  | zero =>
    intro k i hd hi hk
    obtain ⟨k, rfl⟩ : ∃ m, k = m + 1 := ⟨k - 1, by omega⟩
    simp only [lockgateref03_Same.l0]
    rw [if_neg (by omega), List.drop_of_length_le (by omega), List.drop_of_length_le (by omega), decide_eq_true rfl]
  | succ d ih =>
    intro k i hd hi hk
    obtain ⟨k, rfl⟩ : ∃ m, k = m + 1 := ⟨k - 1, by omega⟩
    simp only [lockgateref03_Same.l0]
    rw [if_pos (by omega), if_pos (by omega), if_pos (by omega), rd_get a i (by omega), rd_get b i (by omega), w1 i (by omega), ih k (i + 1) (by omega) (by omega) (by omega), List.drop_eq_getElem_cons (show i < a.length by omega), List.drop_eq_getElem_cons (show i < b.length by omega)]
    by_cases h : a[i] = b[i]
    · rw [if_pos h, h]
      congr 1
      exact decide_eq_decide.mpr ⟨fun h => by rw [h], fun h => (List.cons.inj h).2⟩
    · rw [if_neg h, decide_eq_false (fun e => h (List.cons.inj e).1)]
theorem same_f (a b : List Int) (hb : a.length ≤ 1000000000) : lockgateref03_Same.f (a.length + 1) a b = some (decide (a = b)) := by
  unfold lockgateref03_Same.f
  by_cases h : a.length = b.length
  · rw [if_pos (by omega)]
    have := same_l a b h hb a.length (a.length + 1) 0 rfl (Nat.zero_le _) (by omega)
    simpa using this
  · rw [if_neg (by omega), decide_eq_false (fun e => h (by rw [e]))]
theorem Same_says {A0 A1 : Option Addr} {c0 c1 : Nat} {a b : List Int} (w : World) (ha : Kd.C (Kd.int .u8) w A0 a.length a) (hac : a.length ≤ c0) (hb : Kd.C (Kd.int .u8) w A1 b.length b) (hbc : b.length ≤ c1) (hl : a.length ≤ 1000000000) :
    Calls Try.prog 13 #[.slice A0 a.length c0, .slice A1 b.length c1] w fun e w' => e = .returned (.bool (decide (a = b))) ∧ Below w.heap.size w w' :=
  (lockgateref03_Same.calls _ A0 c0 a A1 c1 b _ w ha hac hb hbc (same_f a b hl)).mono fun e w' h => ⟨h.1, h.2.below⟩
def Few (l : List S39) : Prop := l.length ≤ 40 ∧ ∀ x ∈ l, x.f2.length ≤ 200
instance (l : List S39) : Decidable (Few l) := by unfold Few; infer_instance
theorem few_l (l : List S39) (hl : l.length ≤ 40) : ∀ (d k i : Nat), d = l.length - i → i ≤ l.length → d < k → lockgateref07_Few.l0 k l (i : Int) = some (decide (∀ x ∈ l.drop i, x.f2.length ≤ 200)) := by
  intro d
  induction d with
  | zero =>
    intro k i hd hi hk
    obtain ⟨k, rfl⟩ : ∃ m, k = m + 1 := ⟨k - 1, by omega⟩
    simp only [lockgateref07_Few.l0]
    rw [if_neg (by omega), List.drop_of_length_le (by omega), decide_eq_true (by simp)]
  | succ d ih =>
    intro k i hd hi hk
    obtain ⟨k, rfl⟩ : ∃ m, k = m + 1 := ⟨k - 1, by omega⟩
    simp only [lockgateref07_Few.l0]
    rw [if_pos (by omega), if_pos (by omega), rdT_get l i (by omega), w1 i (by omega), ih k (i + 1) (by omega) (by omega) (by omega), List.drop_eq_getElem_cons (show i < l.length by omega)]
    by_cases h : (l[i]).f2.length ≤ 200
    · rw [if_neg (by omega)]
      congr 1
      exact decide_eq_decide.mpr ⟨fun g x hx => by rcases List.mem_cons.1 hx with rfl | hx; exact h; exact g x hx, fun g x hx => g x (List.mem_cons_of_mem _ hx)⟩
    · rw [if_pos (by omega), decide_eq_false (fun g => h (g _ (List.mem_cons_self ..)))]
theorem few_f (l : List S39) : lockgateref07_Few.f 41 l = some (decide (Few l)) := by
  unfold lockgateref07_Few.f
  by_cases h : l.length ≤ 40
  · rw [if_neg (by omega)]
    have := few_l l h l.length 41 0 rfl (Nat.zero_le _) (by omega)
    rw [List.drop_zero] at this
    rw [show (0 : Int) = ((0 : Nat) : Int) from rfl, this]
    congr 1
    exact decide_eq_decide.mpr ⟨fun g => ⟨h, g⟩, fun g => g.2⟩
  · rw [if_pos (by omega), decide_eq_false (fun g => h g.1)]
theorem Few_says {A : Option Addr} {c : Nat} {l : List S39} (w : World) (ha : Kd.C k39 w A l.length l) (hc : l.length ≤ c) :
    Calls Try.prog 14 #[.slice A l.length c] w fun e w' => e = .returned (.bool (decide (Few l))) ∧ Below w.heap.size w w' :=
  (lockgateref07_Few.calls _ A c l _ w ha hc (few_f l)).mono fun e w' h => ⟨h.1, h.2.below⟩
theorem C_take {w : World} {A : Option Addr} {n : Nat} {a : List Int} (m : Nat) (ha : Kd.C (Kd.int .u8) w A a.length a) (hm : m ≤ a.length) : Kd.C (Kd.int .u8) w A m (a.take m) := by
  obtain ⟨h1, h2, h3⟩ := ha
  refine ⟨by rw [List.length_take]; omega, by omega, fun hn => ?_⟩
  obtain ⟨b, hb, hr⟩ := h3 (by omega)
  refine ⟨b, hb, fun j p hj => hr j p ?_⟩
  rw [List.getElem?_take] at hj
  split at hj
  · exact hj
  · cases hj
theorem Same_len {A0 A1 : Option Addr} {n c0 c1 : Nat} {a b : List Int} (w : World) (hn : b.length = n) (ha : Kd.C (Kd.int .u8) w A0 a.length a) (hac : a.length ≤ c0) (hb : Kd.C (Kd.int .u8) w A1 n b) (hbc : n ≤ c1) (hl : a.length ≤ 1000000000) :
    Calls Try.prog 13 #[.slice A0 a.length c0, .slice A1 n c1] w fun e w' => e = .returned (.bool (decide (a = b))) ∧ Below w.heap.size w w' := by
  subst hn
  exact Same_says w ha hac hb hbc hl
set_option maxHeartbeats 8000000 in
set_option maxRecDepth 100000 in
theorem Begins_says {A0 A1 : Option Addr} {c0 c1 : Nat} {a b : List Int} (w : World) (ha : Kd.C (Kd.int .u8) w A0 a.length a) (hac : a.length ≤ c0) (hb : Kd.C (Kd.int .u8) w A1 b.length b) (hbc : b.length ≤ c1) (hl : a.length ≤ 1000000000) (hl2 : b.length ≤ 1000000000) :
    Calls Try.prog 22 #[.slice A0 a.length c0, .slice A1 b.length c1] w fun e w' => e = .returned (.bool (decide (b = a.take b.length))) ∧ Below w.heap.size w w' := by
  have HA := Aside0.mk ha
  have HB := Aside0.mk hb
  clear ha hb
  go_enter Try.func22, Try.ntmps22
  by_cases hle : b.length ≤ a.length
  · have e1 : decide ((b.length : Int) ≤ (a.length : Int)) = true := decide_eq_true (by omega)
    go_wp2_with (first
      | (go_at_call 13; (with_reducible refine (Same_len (a := b) (b := a.take b.length) w (by rw [List.length_take]; omega) HB.out hbc (C_take (n := 0) b.length HA.out hle) (Nat.le_trans hle hac) hl2).mono ?_); rintro e w2 ⟨rfl, h2⟩)
      | fail)
    go_ret
    exact ⟨rfl, h2⟩
  · have e1 : decide ((b.length : Int) ≤ (a.length : Int)) = false := decide_eq_false (by omega)
    go_wp2
    go_ret
    exact ⟨by rw [decide_eq_false (fun h => hle (by have := congrArg List.length h; rw [List.length_take] at this; omega))]; rfl, Below.refl _ _⟩
end Go.Proofs.Ytpagajgpcmonkaa.PDisk
