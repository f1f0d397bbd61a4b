/- FrameScans: plain: the document's reading is the program's. Conditions: lists of fewer than a million bytes. -/
import Derived.Test.YtfjhioepaekffaaFrameSame
import Derived.Test.YtfjhioepaekffaaFrameScan
import Derived.Test.YtfjhioepaekffaaPFramex5
import Derived.Test.YtfjhioepaekffaaPFramex6
namespace Go.Proofs.Ytfjhioepaekffaa.FramePure
open Go.RowKit Go.Proofs.Ytfjhioepaekffaa.PFrame Go.Proofs.YtfjhioepaekffaaW.PrintWords Go.Proofs.YtfjhioepaekffaaW.PrintLast Go.HashMath Go.FrameMath
set_option linter.unusedVariables false
theorem wk_ (a c : Nat) (h : a < 4000000000) (hc : c < 4000000000) : wrap64 ((a : Int) + (c : Int)) = ((a + c : Nat) : Int) := wadd_ a c h hc
theorem wm_ (c d : Nat) (hc : c ≤ 16777216) (hd : d < 256) : wrap64 ((c : Int) * (d : Int)) = ((c * d : Nat) : Int) := by
  have h : c * d ≤ 16777216 * 255 := Nat.mul_le_mul hc (by omega)
  rw [← Int.natCast_mul]
  generalize c * d = q at *
  unfold wrap64; omega
/-- four bytes, told one by one -/
theorem four (D : List Int) (hb : Byt D) (h : 4 ≤ D.length) : ∃ d0 d1 d2 d3 : Nat, D[0] = d0 ∧ D[1] = d1 ∧ D[2] = d2 ∧ D[3] = d3 ∧ d0 < 256 ∧ d1 < 256 ∧ d2 < 256 ∧ d3 < 256 ∧ num (D.take 4) = d0 + 256 * d1 + 65536 * d2 + 16777216 * d3 := by
  match D, hb, h with
  | a :: b :: c :: d :: r, hb, _ =>
    have ha := hb a (by simp)
    have hbb := hb b (by simp)
    have hc := hb c (by simp)
    have hd := hb d (by simp)
    refine ⟨a.toNat, b.toNat, c.toNat, d.toNat, ?_, ?_, ?_, ?_, ?_, ?_, ?_, ?_, ?_⟩
    · show a = _; omega
    · show b = _; omega
    · show c = _; omega
    · show d = _; omega
    · omega
    · omega
    · omega
    · omega
    · show a.toNat + 256 * (b.toNat + 256 * (c.toNat + 256 * (d.toNat + 256 * 0))) = _
      omega
theorem rd_drop (l : List Int) (a i : Nat) (h : a + i < l.length) : rd l ((a + i : Nat) : Int) = (l.drop a)[i]'(by rw [List.length_drop]; omega) := by
  rw [rd_nat l (a + i) h, List.getElem_drop]
theorem sum4 (d0 d1 d2 d3 : Nat) (h0 : d0 < 256) (h1 : d1 < 256) (h2 : d2 < 256) (h3 : d3 < 256) :
    wrap64 ((wrap64 ((wrap64 ((wrap64 (d0 : Int)) + (wrap64 (256 * (wrap64 (d1 : Int)))))) + (wrap64 (65536 * (wrap64 (d2 : Int)))))) + (wrap64 (16777216 * (wrap64 (d3 : Int))))) = ((d0 + 256 * d1 + 65536 * d2 + 16777216 * d3 : Nat) : Int) := by
  have e0 : wrap64 (d0 : Int) = d0 := wn_ d0 (by omega)
  have e1 : wrap64 (256 * (wrap64 (d1 : Int))) = ((256 * d1 : Nat) : Int) := by rw [wn_ d1 (by omega)]; exact wm_ 256 d1 (by omega) h1
  have e2 : wrap64 (65536 * (wrap64 (d2 : Int))) = ((65536 * d2 : Nat) : Int) := by rw [wn_ d2 (by omega)]; exact wm_ 65536 d2 (by omega) h2
  have e3 : wrap64 (16777216 * (wrap64 (d3 : Int))) = ((16777216 * d3 : Nat) : Int) := by rw [wn_ d3 (by omega)]; exact wm_ 16777216 d3 (by omega) h3
  rw [e0, e1, e2, e3]
  clear e0 e1 e2 e3
  rw [wadd_ d0 (256 * d1) (by omega) (by omega), wadd_ (d0 + 256 * d1) (65536 * d2) (by omega) (by omega)]
  generalize hx : d0 + 256 * d1 + 65536 * d2 = x
  have hxl : x < 16777216 := by omega
  clear hx
  unfold wrap64
  omega
theorem w123_ (a : Nat) (h : a < 4000000000) : wrap64 ((a : Int) + 1) = ((a + 1 : Nat) : Int) ∧ wrap64 ((a : Int) + 2) = ((a + 2 : Nat) : Int) ∧ wrap64 ((a : Int) + 3) = ((a + 3 : Nat) : Int) := by
  unfold wrap64; omega
theorem rj1_true (k : Nat) (l : List Int) (out : List (List Int)) (a n : Int) : lockgateref04_Scan.j1 (k + 1) l out a n true = some (out, a) := by rw [lockgateref04_Scan.j1, if_pos rfl]
theorem rscan_l (l : List Int) (hb : Byt l) (hl : l.length < 1000000) : ∀ (f a : Nat) (out : List (List Int)) (k : Nat), a ≤ l.length → l.length - a < f → out.length ≤ a → 2 * (l.length - a) + l.length + 500 < k →
    lockgateref04_Scan.l0 k l out (a : Int) = some ((scan f l out a).1, ((scan f l out a).2 : Int))
  | 0, a, out, k, _, h, _, _ => by omega
  | f + 1, a, out, k, ha, hf, ho, hk => by
    obtain ⟨k, rfl⟩ : ∃ m, k = m + 2 := ⟨k - 2, by omega⟩
    have hD : (l.drop a).length = l.length - a := List.length_drop
    have hbD := hb.drop a
    unfold scan
    by_cases h12 : l.length - a < 12
    · have hn : headOf (l.drop a) = none := by unfold headOf; rw [if_pos (by omega)]
      rw [hn]
      simp only [lockgateref04_Scan.l0]
      rw [wsub_ l.length a (by omega) ha, if_neg (by omega)]
    · obtain ⟨d0, d1, d2, d3, q0, q1, q2, q3, b0, b1, b2, b3, hnum⟩ := four (l.drop a) hbD (by omega)
      have hho : headOf (l.drop a) = if 16777216 < num ((l.drop a).take 4) ∨ (l.drop a).length < 12 + num ((l.drop a).take 4) then none else if (l.drop a).take (12 + num ((l.drop a).take 4)) = frame (((l.drop a).drop 12).take (num ((l.drop a).take 4))) then some (((l.drop a).drop 12).take (num ((l.drop a).take 4))) else none := by
        unfold headOf; rw [if_neg (by omega)]
      have hal : a < 4000000000 := by omega
      have hn32 : num ((l.drop a).take 4) < 4294967296 := by rw [hnum]; omega
      have r0 : rd l (a : Int) = d0 := (rd_drop l a 0 (by omega)).trans q0
      have r1 : rd l ((a + 1 : Nat) : Int) = d1 := (rd_drop l a 1 (by omega)).trans q1
      have r2 : rd l ((a + 2 : Nat) : Int) = d2 := (rd_drop l a 2 (by omega)).trans q2
      have r3 : rd l ((a + 3 : Nat) : Int) = d3 := (rd_drop l a 3 (by omega)).trans q3
      rw [lockgateref04_Scan.l0, (w123_ a hal).1, (w123_ a hal).2.1, (w123_ a hal).2.2, r0, r1, r2, r3, sum4 d0 d1 d2 d3 b0 b1 b2 b3, ← hnum]
      clear r0 r1 r2 r3 q0 q1 q2 q3 hnum
      generalize hn : num ((l.drop a).take 4) = n at *
      replace hho := Aside0.mk hho
      rw [wsub_ l.length a (by omega) ha, if_pos (by omega), if_pos (by omega), if_pos (by omega), if_pos (by omega), if_pos (by omega), if_pos (by omega), if_pos (by omega), if_pos (by omega), if_pos (by omega)]
      by_cases hb1 : (n : Int) > 16777216
      · rw [if_pos hb1, rj1_true, hho.out, if_pos (.inl (by omega))]
      · rw [if_neg hb1]
        have hx3 : n ≤ 16777216 := by omega
        rw [w12_ a (by omega), wadd_ (a + 12) n (by omega) (by omega)]
        by_cases hb2 : ((a + 12 + n : Nat) : Int) > (l.length : Int)
        · rw [decide_eq_true hb2, rj1_true, hho.out, if_pos (.inr (by omega))]
        · have hx4 : 12 + n ≤ (l.drop a).length := by omega
          rw [decide_eq_false hb2, hho.out, if_neg (by omega)]
          clear hb1 hb2 hho hn32
          have hr : (((l.drop a).drop 12).take n).length = n := by rw [List.length_take, List.length_drop]; omega
          generalize hrr : ((l.drop a).drop 12).take n = r at *
          have hfl := frame_length r
          rw [lockgateref04_Scan.j1, if_neg (by decide), Option.bind_some, w12_ a (by omega), wadd_ (a + 12) n (by omega) (by omega), if_pos (by omega), if_pos (by omega), if_pos (by omega), Int.toNat_natCast, Int.toNat_natCast, cut2 l a 12 n, hrr, if_pos (by rw [List.length_nil]; omega), Option.bind_some, List.nil_append, frame_f r (by omega) k (by omega), Option.bind_some, if_pos (by omega), if_pos (by omega), Int.toNat_natCast, Nat.add_assoc, cut l a (12 + n),
            same_f _ _ (by omega) k (by omega), Option.bind_some]
          by_cases ht : (l.drop a).take (12 + n) = frame r
          · rw [if_pos (decide_eq_true ht.symm), if_pos ht, if_pos (by omega)]
            have := rscan_l l hb hl f (a + (12 + n)) (out ++ [r]) k (by omega) (by omega) (by rw [List.length_append, List.length_singleton]; omega) (by omega)
            rw [this]
            simp only [hr]
          · rw [if_neg (by simpa using fun h => ht h.symm), if_neg ht]
theorem rscan_f (l : List Int) (hb : Byt l) (hl : l.length < 1000000) (k : Nat) (hk : 3 * l.length + 500 < k) : lockgateref04_Scan.f k l = some ((scan (l.length + 1) l [] 0).1, ((scan (l.length + 1) l [] 0).2 : Int)) := by
  unfold lockgateref04_Scan.f
  exact rscan_l l hb hl (l.length + 1) 0 [] k (by omega) (by omega) (by simp) (by omega)
theorem scan_small (l : List Int) : ∀ (f a : Nat) (out : List (List Int)), a ≤ l.length → out.length ≤ a → (∀ x ∈ out, x.length ≤ l.length) → (scan f l out a).1.length ≤ l.length ∧ ∀ x ∈ (scan f l out a).1, x.length ≤ l.length
  | 0, a, out, ha, ho, hx => ⟨Nat.le_trans ho ha, hx⟩
  | f + 1, a, out, ha, ho, hx => by
    unfold scan
    cases e : headOf (l.drop a) with
    | none => exact ⟨Nat.le_trans ho ha, hx⟩
    | some r =>
      have h2 := (headOf_some e).2.1
      rw [List.length_drop] at h2
      refine scan_small l f _ _ (by omega) (by rw [List.length_append, List.length_singleton]; omega) fun x hm => ?_
      rcases List.mem_append.1 hm with h | h
      · exact hx x h
      · obtain rfl := List.mem_singleton.1 h
        omega
theorem FrameScans (l : List Int) (hb : Byt l) : ∃ k, lockgatelaw04_FrameScans.f k l = some true := by
  obtain ⟨k, hk⟩ : ∃ k, k = 4 * l.length + 1000 := ⟨_, rfl⟩
  refine ⟨k + 1, ?_⟩
  unfold lockgatelaw04_FrameScans.f
  rw [show lockgatelaw04_awake.f = some true from rfl, Option.bind_some, if_pos rfl]
  by_cases hl : (l.length : Int) > 5000
  · rw [decide_eq_true hl, lockgatelaw04_FrameScans.j0, if_pos rfl]; rfl
  · rw [decide_eq_false hl, lockgatelaw04_FrameScans.j0, if_neg (by decide), scan_f l hb (by omega) k (by omega), Option.bind_some, rscan_f l hb (by omega) k (by omega), Option.bind_some]
    obtain ⟨h1, h2⟩ := scan_small l (l.length + 1) 0 [] (by omega) (by simp) (by simp)
    generalize scan (l.length + 1) l [] 0 = r at *
    obtain ⟨m, a⟩ := r
    dsimp only at h1 h2 ⊢
    rw [sameAll_f m l.length (by omega) (by omega) h2 k (by omega), Option.bind_some, if_pos rfl]
    simp
end Go.Proofs.Ytfjhioepaekffaa.FramePure
