/- The document's Do, in plain words. -/
import Derived.Test.YtpagajgpcmonkaaDiskSim
namespace Go.Proofs.Ytpagajgpcmonkaa.PDisk
open Go.RowKit Go.Proofs.YtpagajgpcmonkaaW.PrintWords Go.Proofs.YtpagajgpcmonkaaW.PrintLast Go.Proofs.YtpagajgpcmonkaaW.PrintMore
set_option linter.unusedVariables false
set_option linter.unusedSimpArgs false
def size (d : RD) : Nat := d.safe.length + d.loose.length
theorem size_count (d : RD) : size d.count = size d := by unfold RD.count size; split <;> (try split) <;> rfl
theorem tmod6 (a : Int) (h0 : 0 ≤ a) (h1 : a ≤ 255) : Int.tmod (wrap64 a) 6 = a % 6 := by
  rw [wr a (by omega) (by omega)]
  obtain ⟨n, rfl⟩ := Int.eq_ofNat_of_zero_le h0
  rfl
/-- a change that is none: the area is wrong, or the disk is down -/
theorem j0_bad (k : Nat) (m : Int) {s : AD} {d : RD} (h : Sim s d) (x : S39) (ha : mayE s x.f1 ≠ 0) (b : Bool) (hb : b = decide (x.f1 ≠ 0 ∧ x.f1 ≠ 1)) :
    lockgateref07_Do.j0 (k + 1) m b d.safe d.loose d.left d.armed d.down x.f0 x.f1 x.f2 x.f3 x.f4 = some (d.tup (mayE s x.f1)) := by
  simp only [lockgateref07_Do.j0]
  unfold mayE at ha ⊢
  by_cases hz : x.f1 ≠ 0 ∧ x.f1 ≠ 1
  · rw [if_pos hz, hb, decide_eq_true hz, if_pos rfl]; rfl
  · rw [if_neg hz] at ha ⊢
    rw [hb, decide_eq_false hz, if_neg (by simp)]
    have hd : s.down = true := by
      cases hh : s.down
      · rw [hh] at ha; exact absurd rfl ha
      · rfl
    rw [if_pos (h.dn ▸ hd), hd]; rfl
theorem j0_sync (k : Nat) {s : AD} {d : RD} (h : Sim s d) (hd : s.down = false) (hn : size d ≤ 100000) (y0 y1 : Int) (y2 : List Int) (y3 y4 : Int) :
    lockgateref07_Do.j0 (k + 2) 3 false d.safe d.loose d.left d.armed d.down y0 y1 y2 y3 y4 = some (({ d with safe := d.safe ++ d.loose, loose := [] } : RD).count.tup 0) := by
  have hdn : ¬ d.down = true := by rw [← h.dn, hd]; simp
  unfold size at hn
  rw [lockgateref07_Do.j0]
  rw [if_neg (by simp), if_neg hdn, if_pos rfl]
  simp only [Option.bind_some, List.nil_append, List.length_nil]
  rw [if_pos (by omega), if_pos (by omega)]
  have h1 : Sim { s with safe := s.now, loose := [] } { d with safe := d.safe ++ d.loose, loose := [] } :=
    ⟨h.dn, rfl, by dsimp only; rw [h.nw, h.sf, List.map_append, List.foldl_append], rfl, h.ar, h.l0, h.l1, by dsimp only; rw [List.append_nil]; exact h.ok⟩
  exact j1_f k h1 hd
theorem j0_ch (k : Nat) {s : AD} {d : RD} (h : Sim s d) (m : Int) (hm : m = 0 ∨ m = 1 ∨ m = 2) (hd : s.down = false) (hn : size d ≤ 100000) (y0 y1 : Int) (y2 : List Int) (y3 y4 : Int) (h1 : y1 = 0 ∨ y1 = 1) (h2 : y2.length ≤ 200) :
    lockgateref07_Do.j0 (k + 2) m false d.safe d.loose d.left d.armed d.down y0 y1 y2 y3 y4 = some (({ d with loose := d.loose ++ [⟨m, y1, y2, y3, y4⟩] } : RD).count.tup 0) := by
  have hdn : ¬ d.down = true := by rw [← h.dn, hd]; simp
  unfold size at hn
  rw [lockgateref07_Do.j0]
  rw [if_neg (by simp), if_neg hdn, if_neg (by omega)]
  simp only [Option.bind_some, List.nil_append, List.length_nil, List.length_singleton]
  rw [if_pos (by omega), if_pos (by omega), show m % 256 = m by omega]
  have hx : okS ⟨m, y1, y2, y3, y4⟩ := ⟨hm, h1, h2⟩
  have h3 : Sim { s with now := doSt s.now (chg ⟨m, y1, y2, y3, y4⟩), loose := s.loose ++ [chg ⟨m, y1, y2, y3, y4⟩] } { d with loose := d.loose ++ [⟨m, y1, y2, y3, y4⟩] } :=
    ⟨h.dn, by dsimp only; rw [h.lo, List.map_append]; rfl, h.sf, by dsimp only; rw [h.nw, List.map_append, List.foldl_append]; rfl, h.ar, h.l0, h.l1, by
      dsimp only
      intro y hy
      rw [← List.append_assoc] at hy
      rcases List.mem_append.1 hy with hy | hy
      · exact h.ok y hy
      · rw [List.mem_singleton.1 hy]; exact hx⟩
  exact j1_f k h3 hd
theorem do_f (k : Nat) {s : AD} {d : RD} (h : Sim s d) (x : S39) (hx : okAct x) (hl : x.f2.length ≤ 200) (hn : size d ≤ 100000) :
    ∃ d', lockgateref07_Do.f (k + 2) d.safe d.loose d.left d.armed d.down x.f0 x.f1 x.f2 x.f3 x.f4 = some (d'.tup (playE s x)) ∧ Sim (s.play x) d' ∧ size d' ≤ size d + 1 := by
  unfold lockgateref07_Do.f
  rw [tmod6 x.f0 hx.1 hx.2.1]
  have hm : x.f0 % 6 = 0 ∨ x.f0 % 6 = 1 ∨ x.f0 % 6 = 2 ∨ x.f0 % 6 = 3 ∨ x.f0 % 6 = 4 ∨ x.f0 % 6 = 5 := by omega
  unfold playE AD.play
  generalize x.f0 % 6 = m at hm
  -- a change
  have CH : ∀ (hm3 : m = 0 ∨ m = 1 ∨ m = 2), ∃ d', (if x.f1 = 0 then lockgateref07_Do.j0 (k + 2) m false d.safe d.loose d.left d.armed d.down x.f0 x.f1 x.f2 x.f3 x.f4 else lockgateref07_Do.j0 (k + 2) m (x.f1 != 1) d.safe d.loose d.left d.armed d.down x.f0 x.f1 x.f2 x.f3 x.f4) = some (d'.tup (mayE s x.f1)) ∧ Sim (s.change (m, x.f1, if m = 0 then x.f2 else [])) d' ∧ size d' ≤ size d + 1 := by
    intro hm3
    by_cases hE : mayE s x.f1 = 0
    · have ha := mayE_area hE
      have hd : s.down = false := by
        unfold mayE at hE
        rw [if_neg (by omega)] at hE
        cases hh : s.down
        · rfl
        · rw [hh] at hE; cases hE
      have e : (if x.f1 = 0 then lockgateref07_Do.j0 (k + 2) m false d.safe d.loose d.left d.armed d.down x.f0 x.f1 x.f2 x.f3 x.f4 else lockgateref07_Do.j0 (k + 2) m (x.f1 != 1) d.safe d.loose d.left d.armed d.down x.f0 x.f1 x.f2 x.f3 x.f4) = lockgateref07_Do.j0 (k + 2) m false d.safe d.loose d.left d.armed d.down x.f0 x.f1 x.f2 x.f3 x.f4 := by
        split
        · rfl
        · rw [show (x.f1 != 1) = false by rcases ha with h0 | h0; exact absurd h0 (by assumption); rw [h0]; rfl]
      rw [e, j0_ch k h m hm3 hd hn x.f0 x.f1 x.f2 x.f3 x.f4 ha hl, hE]
      refine ⟨_, rfl, h.change ⟨m, x.f1, x.f2, x.f3, x.f4⟩ ⟨hm3, ha, hl⟩ hd, ?_⟩
      rw [size_count]; unfold size; simp only [List.length_append, List.length_singleton]; omega
    · have e : (if x.f1 = 0 then lockgateref07_Do.j0 (k + 2) m false d.safe d.loose d.left d.armed d.down x.f0 x.f1 x.f2 x.f3 x.f4 else lockgateref07_Do.j0 (k + 2) m (x.f1 != 1) d.safe d.loose d.left d.armed d.down x.f0 x.f1 x.f2 x.f3 x.f4) = lockgateref07_Do.j0 (k + 2) m (decide (x.f1 ≠ 0 ∧ x.f1 ≠ 1)) d.safe d.loose d.left d.armed d.down x.f0 x.f1 x.f2 x.f3 x.f4 := by
        split
        · rename_i h0; rw [decide_eq_false (fun hh => hh.1 h0)]
        · rename_i h0
          congr 1
          by_cases h1 : x.f1 = 1
          · rw [h1]; rfl
          · rw [decide_eq_true ⟨h0, h1⟩]; exact bne_iff_ne.mpr h1
      rw [e, j0_bad (k + 1) m h x hE _ rfl]
      refine ⟨d, rfl, ?_, by omega⟩
      rw [AD.change_no hE]
      exact h
  rcases hm with rfl | rfl | rfl | rfl | rfl | rfl
  · have := CH (.inl rfl)
    simp (decide := true) only [↓reduceIte] at this ⊢
    exact this
  · have := CH (.inr (.inl rfl))
    simp (decide := true) only [↓reduceIte] at this ⊢
    exact this
  · have := CH (.inr (.inr rfl))
    simp (decide := true) only [↓reduceIte] at this ⊢
    exact this
  · simp (decide := true) only [↓reduceIte]
    cases hd : s.down
    · rw [j0_sync k h hd hn]
      refine ⟨_, rfl, h.sync hd, ?_⟩
      rw [size_count]; unfold size; simp only [List.length_append, List.length_nil]; omega
    · have hdn : d.down = true := h.dn ▸ hd
      refine ⟨d, ?_, ?_, by omega⟩
      · rw [lockgateref07_Do.j0, if_neg (by simp), if_pos hdn]; rfl
      · unfold AD.sync; rw [if_pos hd]; exact h
  · simp (decide := true) only [↓reduceIte]
    refine ⟨_, ?_, h.arm x.f3 hx.2.2.1 hx.2.2.2, ?_⟩
    · by_cases hd : d.down = true
      · rw [if_pos hd, if_pos hd]; rfl
      · rw [if_neg hd, if_neg hd]; rfl
    · by_cases hd : d.down = true
      · rw [if_pos hd]; omega
      · rw [if_neg hd]; unfold size; dsimp only; omega
  · simp (decide := true) only [↓reduceIte]
    refine ⟨_, ?_, h.crash x.f3 x.f4, ?_⟩
    · unfold lockgateref07_crash.f
      unfold size at hn
      rw [if_pos (by omega)]
      rfl
    · unfold size; have := keptS_len x.f3 x.f4 d.loose 0; simp only [List.length_append, List.length_nil]; omega
end Go.Proofs.Ytpagajgpcmonkaa.PDisk
