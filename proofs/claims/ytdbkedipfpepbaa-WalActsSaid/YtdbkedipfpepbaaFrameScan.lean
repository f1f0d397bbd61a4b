/- What frame.Scan comes to: the records whose frames stand one behind the other. Conditions: lists of fewer than a million bytes. -/
import Derived.Test.YtdbkedipfpepbaaFramePure
namespace Go.Proofs.Ytdbkedipfpepbaa.FramePure
open Go.RowKit Go.Proofs.Ytdbkedipfpepbaa.PWal Go.Proofs.YtdbkedipfpepbaaW.PrintWords Go.Proofs.YtdbkedipfpepbaaW.PrintLast Go.HashMath Go.FrameMath
set_option linter.unusedVariables false
/-! ### Scan -/
theorem cut (l : List Int) (a n : Nat) : (l.take (a + n)).drop a = (l.drop a).take n := by
  rw [List.drop_take, show a + n - a = n by omega]
theorem cut2 (l : List Int) (a b n : Nat) : (l.take (a + b + n)).drop (a + b) = ((l.drop a).drop b).take n := by
  rw [cut, List.drop_drop]
/-- the frame's test, as the program makes it -/
theorem test_iff (D : List Int) (hb : Byt D) (hn : 12 + num (D.take 4) ≤ D.length) :
    (D.take (12 + num (D.take 4)) = frame ((D.drop 12).take (num (D.take 4)))) ↔ num ((D.drop 4).take 8) = hsh (D.take 4 ++ (D.drop 12).take (num (D.take 4))) := by
  have h4 : (D.take 4).length = 4 := by rw [List.length_take]; omega
  have h8 : ((D.drop 4).take 8).length = 8 := by rw [List.length_take, List.length_drop]; omega
  have hr : ((D.drop 12).take (num (D.take 4))).length = num (D.take 4) := by rw [List.length_take, List.length_drop]; omega
  have l4 := lowB_num (D.take 4) (hb.take 4)
  have l8 := lowB_num ((D.drop 4).take 8) ((hb.drop 4).take 8)
  rw [h4] at l4
  rw [h8] at l8
  have split : D.take (12 + num (D.take 4)) = D.take 4 ++ (D.drop 4).take 8 ++ (D.drop 12).take (num (D.take 4)) := by
    rw [List.take_add, show (12 : Nat) = 4 + 8 from rfl, List.take_add]
  rw [split]
  unfold frame
  rw [hr, l4]
  constructor
  · intro e
    have e1 := List.append_inj_left e (by rw [List.length_append, List.length_append, lowB_length, h8])
    have e2 := List.append_inj_right e1 rfl
    rw [e2, num_lowB, Nat.mod_eq_of_lt (hsh_lt _)]
  · intro e
    rw [← e, l8]
theorem e00_ (m : Nat) (h : 12 ≤ m) (h2 : m < 1000000) : wrap64 ((m : Int) - 12) = ((m - 12 : Nat) : Int) := by rw [w64 _ (by omega) (by omega)]; omega
theorem j1_true (k : Nat) (l : List Int) (out : List (List Int)) (a n : Int) : frame_Scan.j1 (k + 1) l out a n true = some (out, a) := by rw [frame_Scan.j1, if_pos rfl]
theorem q_ (n m : Nat) (h : 16777216 < n ∨ m < 12 + n) (hb : ¬ (n : Int) > 16777216) (h12 : ¬ m < 12) : (n : Int) > ((m - 12 : Nat) : Int) := by omega
theorem w4_ (a : Nat) (h : a < 4000000000) : wrap64 ((a : Int) + 4) = ((a + 4 : Nat) : Int) := by unfold wrap64; omega
theorem w12_ (a : Nat) (h : a < 4000000000) : wrap64 ((a : Int) + 12) = ((a + 12 : Nat) : Int) := by unfold wrap64; omega
theorem w12l_ (n : Nat) (h : n < 4000000000) : wrap64 (12 + (n : Int)) = ((12 + n : Nat) : Int) := by unfold wrap64; omega
theorem wadd_ (a n : Nat) (h : a < 4000000000) (h2 : n < 4000000000) : wrap64 ((a : Int) + (n : Int)) = ((a + n : Nat) : Int) := by unfold wrap64; omega
theorem wsub_ (a n : Nat) (h : a < 4000000000) (h2 : n ≤ a) : wrap64 ((a : Int) - (n : Int)) = ((a - n : Nat) : Int) := by unfold wrap64; omega
theorem wn_ (n : Nat) (h : n < 4294967296) : wrap64 (n : Int) = (n : Int) := by unfold wrap64; omega
theorem scan_l (l : List Int) (hb : Byt l) (hl : l.length < 1000000) : ∀ (f a : Nat) (out : List (List Int)) (k : Nat), a ≤ l.length → l.length - a < f → out.length ≤ a → 2 * (l.length - a) + l.length + 500 < k →
    frame_Scan.l0 k l out (a : Int) = some ((scan f l out a).1, ((scan f l out a).2 : Int))
  | 0, a, out, k, _, h, _, _ => by omega
  | f + 1, a, out, k, ha, hf, ho, hk => by
    obtain ⟨k, rfl⟩ : ∃ m, k = m + 2 := ⟨k - 2, by omega⟩
    have hD : (l.drop a).length = l.length - a := List.length_drop
    have hbD := hb.drop a
    unfold scan
    by_cases h12 : l.length - a < 12
    · have hn : headOf (l.drop a) = none := by unfold headOf; rw [if_pos (by omega)]
      rw [hn]
      simp only [frame_Scan.l0]
      rw [wsub_ l.length a (by omega) ha, if_pos (by omega)]
    · have hnum : num ((l.drop a).take 4) < 4294967296 := by
        have := num_lt _ (hbD.take 4)
        rw [List.length_take, Nat.min_eq_left (by omega)] at this
        exact this
      have n4 : frame_number.f ((l.drop a).take 4) = some ((num ((l.drop a).take 4) : Nat) : Int) := number_f _ (hbD.take 4) (by rw [List.length_take]; omega)
      have n8 : frame_number.f (((l.drop a).drop 4).take 8) = some ((num (((l.drop a).drop 4).take 8) : Nat) : Int) := number_f _ ((hbD.drop 4).take 8) (by rw [List.length_take]; omega)
      have hti := test_iff (l.drop a) hbD
      have hho : headOf (l.drop a) = if 16777216 < num ((l.drop a).take 4) ∨ (l.drop a).length < 12 + num ((l.drop a).take 4) then none else if (l.drop a).take (12 + num ((l.drop a).take 4)) = frame (((l.drop a).drop 12).take (num ((l.drop a).take 4))) then some (((l.drop a).drop 12).take (num ((l.drop a).take 4))) else none := by
        unfold headOf; rw [if_neg (by omega)]
      generalize hn : num ((l.drop a).take 4) = n at *
      replace hti := Aside0.mk hti
      replace hho := Aside0.mk hho
      simp only [frame_Scan.l0]
      rw [wsub_ l.length a (by omega) ha, if_neg (by omega), if_pos (by omega), w4_ a (by omega), if_pos (by omega), if_pos (by omega), Int.toNat_natCast, Int.toNat_natCast, cut l a 4, n4, Option.bind_some, wn_ n hnum]
      rw [e00_ (l.length - a) (by omega) (by omega)]
      by_cases hbig : 16777216 < n ∨ (l.drop a).length < 12 + n
      · rw [hho.out, if_pos hbig]
        by_cases hb1 : (n : Int) > 16777216
        · rw [if_pos hb1]
          rw [j1_true]
        · rw [if_neg hb1, decide_eq_true (q_ n (l.length - a) (hD ▸ hbig) hb1 h12)]
          rw [j1_true]
      · obtain ⟨hx1, hx2⟩ := not_or.1 hbig
        have hx3 : n ≤ 16777216 := Nat.not_lt.1 hx1
        have hx4 : 12 + n ≤ (l.drop a).length := Nat.not_lt.1 hx2
        rw [hho.out, if_neg hbig]
        clear hbig hx1 hx2
        rw [if_neg (by omega), decide_eq_false (show ¬ (n : Int) > ((l.length - a - 12 : Nat) : Int) by omega)]
        have hr : (((l.drop a).drop 12).take n).length = n := by rw [List.length_take, List.length_drop]; omega
        have ht4 : ((l.drop a).take 4).length = 4 := by rw [List.length_take]; omega
        have cs := fsum_f ((l.drop a).take 4) (((l.drop a).drop 12).take n) (by omega) k (by omega)
        have hti' := hti.out (by omega)
        generalize hrr : ((l.drop a).drop 12).take n = r at *
        rw [frame_Scan.j1, if_neg (by decide), w4_ a (by omega), w12_ a (by omega), if_pos (by omega), if_pos (by omega), if_pos (by omega), Int.toNat_natCast, Int.toNat_natCast, show a + 12 = a + 4 + 8 from rfl, cut2 l a 4 8, n8, Option.bind_some, if_pos (by omega), if_pos (by omega), if_pos (by omega)]
        rw [show a + 4 + 8 = a + 12 from rfl, wadd_ (a + 12) n (by omega) (by omega), if_pos (by omega), if_pos (by omega), if_pos (by omega), Int.toNat_natCast, Int.toNat_natCast, cut l a 4, cut2 l a 12 n, hrr, cs, Option.bind_some]
        by_cases ht : num (((l.drop a).drop 4).take 8) = hsh ((l.drop a).take 4 ++ r)
        · rw [if_pos (by rw [ht]), if_pos (hti'.2 ht)]
          have hcl : slices_Clone_bytes.f r = some r := by unfold slices_Clone_bytes.f; rw [if_pos (by omega)]
          rw [hcl, Option.bind_some, if_pos (by omega), w12l_ n (by omega), wadd_ a (12 + n) (by omega) (by omega)]
          have := scan_l l hb hl f (a + (12 + n)) (out ++ [r]) k (by omega) (by omega) (by rw [List.length_append, List.length_singleton]; omega) (by omega)
          rw [this]
          simp only [hr]
        · rw [if_neg (by omega), if_neg (fun h => ht (hti'.1 h))]
theorem scan_f (l : List Int) (hb : Byt l) (hl : l.length < 1000000) (k : Nat) (hk : 3 * l.length + 500 < k) : frame_Scan.f k l = some ((scan (l.length + 1) l [] 0).1, ((scan (l.length + 1) l [] 0).2 : Int)) := by
  unfold frame_Scan.f
  exact scan_l l hb hl (l.length + 1) 0 [] k (by omega) (by omega) (by simp) (by omega)
end Go.Proofs.Ytdbkedipfpepbaa.FramePure
