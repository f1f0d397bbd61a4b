/- What the disk laws share: acts played one behind the other. -/
import Derived.Test.YtpagajgpcmonkaaDiskPlay
import Derived.Test.YtpagajgpcmonkaaDiskPure
import Derived.Test.YtpagajgpcmonkaaDiskAwake
namespace Go.Proofs.Ytpagajgpcmonkaa.PDisk
open Go.RowKit Go.Proofs.YtpagajgpcmonkaaW.PrintWords Go.Proofs.YtpagajgpcmonkaaW.PrintLast Go.Proofs.YtpagajgpcmonkaaW.PrintMore
set_option linter.unusedVariables false
set_option linter.unusedSimpArgs false
/-- an act's numbers -/
def okAct (x : S39) : Prop := 0 ≤ x.f0 ∧ x.f0 ≤ 255 ∧ -9223372036854775808 ≤ x.f3 ∧ x.f3 ≤ 9223372036854775807
theorem AD.change_no {s : AD} {c : Chg} (h : mayE s c.2.1 ≠ 0) : s.change c = s := by unfold AD.change; rw [if_neg h]
theorem mayE_area {s : AD} {a : Int} (h : mayE s a = 0) : a = 0 ∨ a = 1 := by
  unfold mayE at h
  split at h
  · cases h
  · rename_i h; omega
theorem Ok.play {N : Nat} {s : AD} (h : Ok N s) (x : S39) (hx : okAct x) (hl : x.f2.length ≤ 200) : Ok (N + 201) (s.play x) := by
  have ch : ∀ (k : Int) (bs : List Int), (k = 0 ∨ k = 1 ∨ k = 2) → bs.length ≤ 200 → Ok (N + 201) (s.change (k, x.f1, bs)) := by
    intro k bs hk hb
    by_cases hm : mayE s x.f1 = 0
    · exact (h.change (k, x.f1, bs) ⟨hk, mayE_area hm⟩).mono (by show N + bs.length + 1 ≤ _; omega)
    · rw [AD.change_no hm]; exact h.mono (by omega)
  unfold AD.play
  repeat' split
  · exact ch 0 x.f2 (.inl rfl) hl
  · exact ch 1 [] (.inr (.inl rfl)) (by simp)
  · exact ch 2 [] (.inr (.inr rfl)) (by simp)
  · exact h.sync.mono (by omega)
  · exact (h.arm x.f3 hx.2.2.1 hx.2.2.2).mono (by omega)
  · exact (h.crash x.f3 x.f4).mono (by omega)
  · exact h.mono (by omega)
theorem n8040 : 8040 ≤ 500000000 := by decide
def playAll (s : AD) (l : List S39) : AD := l.foldl AD.play s
theorem playAll_step (s : AD) (l : List S39) (i : Nat) (h : i < l.length) : playAll s (l.take (i + 1)) = (playAll s (l.take i)).play l[i] := by
  unfold playAll
  rw [List.take_succ_eq_append_getElem h, List.foldl_append]; rfl
theorem Ok.playAll {N : Nat} {s : AD} (h : Ok N s) (l : List S39) (hl : ∀ x ∈ l, okAct x ∧ x.f2.length ≤ 200) : Ok (N + l.length * 201) (playAll s l) := by
  induction l generalizing N s with
  | nil => exact h.mono (by omega)
  | cons x l ih =>
    have := ih (h.play x (hl x (List.mem_cons_self ..)).1 (hl x (List.mem_cons_self ..)).2) (fun y hy => hl y (List.mem_cons_of_mem _ hy))
    exact this.mono (by simp only [List.length_cons]; omega)
theorem Ok.played {N : Nat} {s : AD} (h : Ok N s) (l : List S39) (hw : ∀ x ∈ l, okAct x) (hF : Few l) (i : Nat) : Ok (N + 8040) (PDisk.playAll s (l.take i)) := by
  have := Ok.playAll h (l.take i) (fun x hx => ⟨hw x (List.mem_of_mem_take hx), hF.2 x (List.mem_of_mem_take hx)⟩)
  have hl := hF.1
  exact this.mono (by rw [List.length_take]; omega)
theorem Ok.played0 (l : List S39) (hw : ∀ x ∈ l, okAct x) (hF : Few l) (i : Nat) : Ok 8040 (PDisk.playAll PDisk.new (l.take i)) := (Ok.new.played l hw hF i).mono (Nat.le_of_eq (Nat.zero_add _))
theorem Ok.n0s {s : AD} (h : Ok 8040 s) : s.now.1.length ≤ 1000000000 := Nat.le_trans h.n0 (by decide)
theorem Ok.n1s {s : AD} (h : Ok 8040 s) : s.now.2.1.length ≤ 1000000000 := Nat.le_trans h.n1 (by decide)
theorem armed_no {s : AD} (h : s.down = false) : (s.arm (-1)).down = false := by unfold AD.arm; rw [h]; rfl
theorem syncE_ok {s : AD} (h : s.down = false) : (if s.down = true then (4 : Int) else 0) = 0 := by rw [h]; rfl
theorem syncE_no {s : AD} (h : s.down = true) : (if s.down = true then (4 : Int) else 0) = 4 := by rw [h]; rfl
theorem mayS {t u : St} {l : List Chg} {n : Int} (a : Int) (h : a = 0 ∨ a = 1) : mayE ⟨t, u, l, n, false⟩ a = 0 := by rcases h with rfl | rfl <;> rfl
theorem readS0 {t u : St} {l : List Chg} {n : Int} : readB ⟨t, u, l, n, false⟩ 0 = u.1 := rfl
theorem readS1 {t u : St} {l : List Chg} {n : Int} : readB ⟨t, u, l, n, false⟩ 1 = u.2.1 := rfl
theorem Few_true {A : Option Addr} {c : Nat} {l : List S39} (w : World) (ha : Kd.C k39 w A l.length l) (hc : l.length ≤ c) (hF : Few l) :
    Calls Try.prog 14 #[.slice A l.length c] w fun e w' => e = .returned (.bool true) ∧ Below w.heap.size w w' := by
  have := Few_says w ha hc
  rw [decide_eq_true hF] at this
  exact this
theorem Few_false {A : Option Addr} {c : Nat} {l : List S39} (w : World) (ha : Kd.C k39 w A l.length l) (hc : l.length ≤ c) (hF : ¬ Few l) :
    Calls Try.prog 14 #[.slice A l.length c] w fun e w' => e = .returned (.bool false) ∧ Below w.heap.size w w' := by
  have := Few_says w ha hc
  rw [decide_eq_false hF] at this
  exact this
theorem BS.len {B : Nat} {W : World} {A : Option Addr} {n c : Nat} {bs : List Int} (h : BS B W (.slice A n c) bs) : n = bs.length ∧ n ≤ c ∧ (Kd.int .u8).C W A n bs := by
  obtain ⟨A', c', e, hc, hC⟩ := h.reads
  injection e with e1 e2 e3
  subst e1; subst e2; subst e3
  exact ⟨rfl, hc, hC⟩
theorem Same_bs {B1 B2 : Nat} {A0 A1 : Option Addr} {n m c0 c1 : Nat} {a b : List Int} {r : Bool} (w : World) (ha : BS B1 w (.slice A0 n c0) a) (hb : BS B2 w (.slice A1 m c1) b) (hl : a.length ≤ 1000000000) (hr : decide (a = b) = r) :
    Calls Try.prog 13 #[.slice A0 n c0, .slice A1 m c1] w fun e w' => e = .returned (.bool r) ∧ Below w.heap.size w w' := by
  obtain ⟨rfl, hc, hC⟩ := ha.len
  obtain ⟨rfl, hc', hC'⟩ := hb.len
  exact hr ▸ Same_says w hC hc hC' hc' hl
theorem Begins_bs {B1 B2 : Nat} {A0 A1 : Option Addr} {n m c0 c1 : Nat} {a b : List Int} {r : Bool} (w : World) (ha : BS B1 w (.slice A0 n c0) a) (hb : BS B2 w (.slice A1 m c1) b) (hl : a.length ≤ 1000000000) (hl2 : b.length ≤ 1000000000) (hr : decide (b = a.take b.length) = r) :
    Calls Try.prog 22 #[.slice A0 n c0, .slice A1 m c1] w fun e w' => e = .returned (.bool r) ∧ Below w.heap.size w w' := by
  obtain ⟨rfl, hc, hC⟩ := ha.len
  obtain ⟨rfl, hc', hC'⟩ := hb.len
  exact hr ▸ Begins_says w hC hc hC' hc' hl hl2
/-- behind a sync -/
theorem synced {s : AD} (h : s.down = false) : (s.arm (-1)).sync = ⟨s.now, s.now, [], -1, false⟩ := by
  obtain ⟨a, b, c, d, e⟩ := s
  cases h
  rfl
theorem synced_not {s : AD} (h : s.down = true) : (s.arm (-1)).sync = s.arm (-1) ∧ (s.arm (-1)).down = true := by
  obtain ⟨a, b, c, d, e⟩ := s
  cases h
  exact ⟨rfl, rfl⟩
theorem still (t : St) (keep torn : Int) : (⟨t, t, [], -1, false⟩ : AD).crash keep torn = ⟨t, t, [], -1, false⟩ := rfl
end Go.Proofs.Ytpagajgpcmonkaa.PDisk
