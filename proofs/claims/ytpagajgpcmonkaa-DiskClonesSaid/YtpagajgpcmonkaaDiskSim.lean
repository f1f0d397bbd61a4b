/- The document's disk and the program's, side by side, in plain words. -/
import Derived.Test.YtpagajgpcmonkaaDiskRefDo
import Derived.Test.YtpagajgpcmonkaaDiskLib
namespace Go.Proofs.Ytpagajgpcmonkaa.PDisk
open Go.RowKit Go.Proofs.YtpagajgpcmonkaaW.PrintWords Go.Proofs.YtpagajgpcmonkaaW.PrintLast Go.Proofs.YtpagajgpcmonkaaW.PrintMore
set_option linter.unusedVariables false
set_option linter.unusedSimpArgs false
structure RD where
  safe : List S39
  loose : List S39
  left : Int
  armed : Bool
  down : Bool
def chg (x : S39) : Chg := (x.f0, x.f1, if x.f0 = 0 then x.f2 else [])
def okS (x : S39) : Prop := (x.f0 = 0 ∨ x.f0 = 1 ∨ x.f0 = 2) ∧ (x.f1 = 0 ∨ x.f1 = 1) ∧ x.f2.length ≤ 200
structure Sim (s : AD) (d : RD) : Prop where
  dn : s.down = d.down
  lo : s.loose = d.loose.map chg
  sf : s.safe = (d.safe.map chg).foldl doSt ([], [], 0)
  nw : s.now = (d.loose.map chg).foldl doSt s.safe
  ar : (d.armed = true ∧ s.left = d.left ∧ (s.down = false → 0 < s.left)) ∨ (d.armed = false ∧ s.left < 0)
  l0 : -9223372036854775808 ≤ s.left
  l1 : s.left ≤ 9223372036854775807
  ok : ∀ x ∈ d.safe ++ d.loose, okS x
def RD.new : RD := ⟨[], [], 0, false, false⟩
theorem Sim.new : Sim PDisk.new RD.new := ⟨rfl, rfl, rfl, rfl, .inr ⟨rfl, by decide⟩, by decide, by decide, by simp [RD.new]⟩
def RD.count (d : RD) : RD := if d.armed = true then (if d.left - 1 = 0 then { d with left := d.left - 1, down := true } else { d with left := d.left - 1 }) else d
theorem Sim.count {s : AD} {d : RD} (h : Sim s d) (hd : s.down = false) : Sim s.count d.count := by
  obtain ⟨ss, sn, sl, sleft, sdown⟩ := s
  obtain ⟨ds, dl, dleft, darmed, ddown⟩ := d
  obtain ⟨dn, lo, sf, nw, ar, l0, l1, ok⟩ := h
  dsimp only at *
  subst hd
  subst dn
  rcases ar with ⟨rfl, rfl, hp⟩ | ⟨rfl, hn⟩
  · have hp := hp rfl
    unfold AD.count RD.count countD
    dsimp only
    rw [if_pos hp, if_pos rfl]
    by_cases h0 : sleft - 1 = 0
    · rw [if_pos h0]
      exact ⟨decide_eq_true h0, lo, sf, nw, .inl ⟨rfl, rfl, fun hh => by dsimp only at hh; rw [decide_eq_true h0] at hh; cases hh⟩, by dsimp only; omega, by dsimp only; omega, ok⟩
    · rw [if_neg h0]
      exact ⟨decide_eq_false h0, lo, sf, nw, .inl ⟨rfl, rfl, fun _ => by dsimp only; omega⟩, by dsimp only; omega, by dsimp only; omega, ok⟩
  · unfold AD.count RD.count countD
    dsimp only
    rw [if_neg (show ¬ sleft > 0 by omega), if_neg (by simp)]
    exact ⟨rfl, lo, sf, nw, .inr ⟨rfl, hn⟩, l0, l1, ok⟩
def RD.tup (d : RD) (e : Int) : List S39 × List S39 × Int × Bool × Bool × Int := (d.safe, d.loose, d.left, d.armed, d.down, e)
theorem wr (a : Int) (h0 : -9223372036854775808 ≤ a) (h1 : a ≤ 9223372036854775807) : wrap64 a = a := by unfold wrap64; omega
theorem j1_f (k : Nat) {s : AD} {d : RD} (h : Sim s d) (hd : s.down = false) : lockgateref07_Do.j1 (k + 1) d.safe d.loose d.left d.armed d.down = some (d.count.tup 0) := by
  have hdn : d.down = false := h.dn ▸ hd
  simp only [lockgateref07_Do.j1]
  unfold RD.count RD.tup
  by_cases ha : d.armed = true
  · rw [if_pos ha, if_pos ha]
    rcases h.ar with ⟨_, hl, hp⟩ | ⟨hn, _⟩
    · have hp := hp hd
      have h1 := h.l1
      rw [wr (d.left - 1) (by omega) (by omega)]
      split <;> rfl
    · rw [ha] at hn; cases hn
  · rw [if_neg ha, if_neg ha]
theorem Sim.sync {s : AD} {d : RD} (h : Sim s d) (hd : s.down = false) : Sim s.sync ({ d with safe := d.safe ++ d.loose, loose := [] } : RD).count := by
  unfold AD.sync
  rw [if_neg (by rw [hd]; simp)]
  have h1 : Sim { s with safe := s.now, loose := [] } { d with safe := d.safe ++ d.loose, loose := [] } :=
    ⟨h.dn, rfl, by dsimp only; rw [h.nw, h.sf, List.map_append, List.foldl_append], rfl, h.ar, h.l0, h.l1, by dsimp only; rw [List.append_nil]; exact h.ok⟩
  exact h1.count hd
theorem Sim.change {s : AD} {d : RD} (h : Sim s d) (x : S39) (hx : okS x) (hd : s.down = false) : Sim (s.change (chg x)) ({ d with loose := d.loose ++ [x] } : RD).count := by
  unfold AD.change
  have hm : mayE s (chg x).2.1 = 0 := by
    unfold mayE
    rw [hd, if_neg (by have := hx.2.1; show ¬ (x.f1 ≠ 0 ∧ x.f1 ≠ 1); omega)]; rfl
  rw [if_pos hm]
  have h1 : Sim { s with now := doSt s.now (chg x), loose := s.loose ++ [chg x] } { d with loose := d.loose ++ [x] } :=
    ⟨h.dn, by dsimp only; rw [h.lo, List.map_append]; rfl, h.sf, by dsimp only; rw [h.nw, List.map_append, List.foldl_append]; rfl, h.ar, h.l0, h.l1, by
      dsimp only
      intro y hy
      rw [← List.append_assoc] at hy
      rcases List.mem_append.1 hy with hy | hy
      · exact h.ok y hy
      · rw [List.mem_singleton.1 hy]; exact hx⟩
  exact h1.count hd
theorem kept_map (keep torn : Int) : ∀ (l : List S39) (i : Int), (∀ x ∈ l, okS x) → kept keep torn (l.map chg) i = (keptS keep torn l i).map chg ∧ ∀ x ∈ keptS keep torn l i, okS x := by
  intro l
  induction l with
  | nil => intro i _; exact ⟨rfl, by simp [keptS]⟩
  | cons c l ih =>
    intro i hok
    have hc := hok c (List.mem_cons_self ..)
    have ih := ih (i + 1) (fun x hx => hok x (List.mem_cons_of_mem _ hx))
    simp only [List.map_cons, kept, keptS]
    by_cases hi : i < keep
    · rw [if_pos hi, if_pos hi, ih.1]
      exact ⟨rfl, fun x hx => by rcases List.mem_cons.1 hx with rfl | hx; exact hc; exact ih.2 x hx⟩
    · rw [if_neg hi, if_neg hi]
      by_cases hz : c.f0 = 0 ∧ 0 < torn
      · rw [if_pos hz, if_pos (show (chg c).1 = 0 ∧ 0 < torn from hz)]
        have e1 : (chg c).2.2 = c.f2 := by unfold chg; dsimp only; rw [if_pos hz.1]
        by_cases ht : torn < (c.f2.length : Int)
        · rw [if_pos ht]
          refine ⟨?_, fun x hx => ?_⟩
          · rw [e1]; unfold chg; simp only [List.map_cons, List.map_nil]; rw [if_pos hz.1]
          · rw [List.mem_singleton.1 hx]; exact ⟨hc.1, hc.2.1, by have := hc.2.2; show (c.f2.take torn.toNat).length ≤ 200; rw [List.length_take]; omega⟩
        · rw [if_neg ht]
          refine ⟨?_, fun x hx => by rw [List.mem_singleton.1 hx]; exact hc⟩
          rw [e1, List.take_of_length_le (by omega)]; unfold chg; simp only [List.map_cons, List.map_nil]; rw [if_pos hz.1]
      · rw [if_neg hz, if_neg (show ¬ ((chg c).1 = 0 ∧ 0 < torn) from hz)]
        exact ⟨rfl, by simp⟩
theorem Sim.crash {s : AD} {d : RD} (h : Sim s d) (keep torn : Int) : Sim (s.crash keep torn) ⟨d.safe ++ keptS keep torn d.loose 0, [], 0, false, false⟩ := by
  obtain ⟨k1, k2⟩ := kept_map keep torn d.loose 0 (fun x hx => h.ok x (List.mem_append_right _ hx))
  refine ⟨rfl, rfl, ?_, rfl, .inr ⟨rfl, by show (-1 : Int) < 0; decide⟩, by show (-9223372036854775808 : Int) ≤ -1; decide, by show (-1 : Int) ≤ 9223372036854775807; decide, ?_⟩
  · show (kept keep torn s.loose 0).foldl doSt s.safe = _
    rw [h.lo, k1, h.sf]
    dsimp only
    rw [List.map_append, List.foldl_append]
  · dsimp only
    rw [List.append_nil]
    intro x hx
    rcases List.mem_append.1 hx with hx | hx
    · exact h.ok x (List.mem_append_left _ hx)
    · exact k2 x hx
theorem keptS_len (keep torn : Int) : ∀ (l : List S39) (i : Int), (keptS keep torn l i).length ≤ l.length := by
  intro l
  induction l with
  | nil => intro i; simp [keptS]
  | cons c l ih =>
    intro i
    simp only [keptS]
    split
    · have := ih (i + 1); simp only [List.length_cons]; omega
    · split <;> simp
theorem Sim.arm {s : AD} {d : RD} (h : Sim s d) (n : Int) (h0 : -9223372036854775808 ≤ n) (h1 : n ≤ 9223372036854775807) : Sim (s.arm n) (if d.down = true then d else { d with left := n, armed := decide (n ≥ 0), down := n == 0 }) := by
  by_cases hd : s.down = true
  · have hd' : d.down = true := h.dn ▸ hd
    rw [if_pos hd']
    have : s.arm n = s := by unfold AD.arm; rw [if_pos hd, if_pos hd]
    rw [this]; exact h
  · have hd' : ¬ d.down = true := h.dn ▸ hd
    rw [if_neg hd']
    unfold AD.arm
    rw [if_neg hd, if_neg hd]
    refine ⟨?_, h.lo, h.sf, h.nw, ?_, h0, h1, h.ok⟩
    · dsimp only
      by_cases hn : n = 0
      · rw [hn]; rfl
      · rw [decide_eq_false hn, beq_eq_false_iff_ne.mpr hn]
    · dsimp only
      by_cases hn : n ≥ 0
      · refine .inl ⟨decide_eq_true hn, rfl, fun hh => ?_⟩
        have := of_decide_eq_false hh
        omega
      · exact .inr ⟨decide_eq_false hn, by omega⟩
end Go.Proofs.Ytpagajgpcmonkaa.PDisk
