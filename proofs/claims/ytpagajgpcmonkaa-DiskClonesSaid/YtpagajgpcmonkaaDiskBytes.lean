/- The document's Bytes in plain words, and the walk of Shows. -/
import Derived.Test.YtpagajgpcmonkaaDiskDoF
import Derived.Test.YtpagajgpcmonkaaPDiskx2
import Derived.BigQuiet
namespace Go.Proofs.Ytpagajgpcmonkaa.PDisk
open Go.RowKit Go.Proofs.YtpagajgpcmonkaaW.PrintWords Go.Proofs.YtpagajgpcmonkaaW.PrintLast Go.Proofs.YtpagajgpcmonkaaW.PrintMore
set_option linter.unusedVariables false
set_option linter.unusedSimpArgs false
def bstep (a : Int) (o : List Int × Int) (x : S39) : List Int × Int := if x.f0 = 2 then (o.1, x.f1) else if x.f1 = a then (if x.f0 = 1 then ([], o.2) else (o.1 ++ x.f2, o.2)) else o
def part (a : Int) (t : St) : List Int × Int := (if a = 0 then t.1 else t.2.1, t.2.2)
theorem part_step (a : Int) (ha : a = 0 ∨ a = 1) (t : St) (x : S39) (hx : okS x) : bstep a (part a t) x = part a (doSt t (chg x)) := by
  obtain ⟨hk, hr, _⟩ := hx
  unfold bstep part doSt chg
  dsimp only
  rcases hk with h | h | h <;> rcases hr with h' | h' <;> rcases ha with rfl | rfl <;> rw [h, h'] <;> simp (decide := true) only [↓reduceIte]
theorem part_fold (a : Int) (ha : a = 0 ∨ a = 1) (l : List S39) : ∀ (t : St), (∀ x ∈ l, okS x) → l.foldl (bstep a) (part a t) = part a ((l.map chg).foldl doSt t) := by
  induction l with
  | nil => intro t _; rfl
  | cons x l ih =>
    intro t h
    rw [List.foldl_cons, part_step a ha t x (h x (List.mem_cons_self ..)), ih _ (fun y hy => h y (List.mem_cons_of_mem _ hy))]
    rfl
theorem bstep_len (a : Int) (o : List Int × Int) (x : S39) : (bstep a o x).1.length ≤ o.1.length + x.f2.length := by
  unfold bstep
  split
  · dsimp only; omega
  · split
    · split
      · simp
      · simp
    · omega
theorem bstep2 {a : Int} {o : List Int} {f : Int} {x : S39} (h : x.f0 = 2) : bstep a (o, f) x = (o, x.f1) := by unfold bstep; rw [if_pos h]
theorem bstep1 {a : Int} {o : List Int} {f : Int} {x : S39} (h : x.f0 ≠ 2) (h1 : x.f1 = a ∧ x.f0 = 1) : bstep a (o, f) x = ([], f) := by unfold bstep; rw [if_neg h, if_pos h1.1, if_pos h1.2]
theorem bstep0 {a : Int} {o : List Int} {f : Int} {x : S39} (h : x.f0 ≠ 2) (h1 : x.f1 = a) (h2 : x.f0 ≠ 1) : bstep a (o, f) x = (o ++ x.f2, f) := by unfold bstep; rw [if_neg h, if_pos h1, if_neg h2]
theorem bstepn {a : Int} {o : List Int} {f : Int} {x : S39} (h : x.f0 ≠ 2) (h1 : ¬ x.f1 = a) : bstep a (o, f) x = (o, f) := by unfold bstep; rw [if_neg h, if_neg h1]
theorem bytes_l (a : Int) (l : List S39) (hl : l.length ≤ 100000) (hx : ∀ x ∈ l, x.f2.length ≤ 200) : ∀ (n k i : Nat) (o : List Int) (f : Int), n = l.length - i → i ≤ l.length → 2 * n < k → o.length ≤ 200 * i →
    lockgateref07_Bytes.l0 k a o f l (i : Int) = some ((l.drop i).foldl (bstep a) (o, f)) := by
  intro n
  induction n with
  | zero =>
    intro k i o f hn hi hk ho
    obtain ⟨k, rfl⟩ : ∃ m, k = m + 1 := ⟨k - 1, by omega⟩
    rw [lockgateref07_Bytes.l0, if_neg (by omega), List.drop_of_length_le (by omega)]; rfl
  | succ n ih =>
    intro k i o f hn hi hk ho
    obtain ⟨k, rfl⟩ : ∃ m, k = m + 2 := ⟨k - 2, by omega⟩
    have hlt : i < l.length := by omega
    have hlx := hx _ (List.getElem_mem hlt)
    have J : ∀ (b : Bool), b = decide ((l[i]).f1 = a ∧ (l[i]).f0 = 1) → (l[i]).f0 ≠ 2 → lockgateref07_Bytes.j1 (k + 1) a o f l (i : Int) b = some ((l.drop i).foldl (bstep a) (o, f)) := by
      intro b hb h2
      rw [lockgateref07_Bytes.j1, rdT_get l i hlt, w1 i (by omega), List.drop_eq_getElem_cons hlt, List.foldl_cons]
      have hb' := bstep_len a (o, f) l[i]
      by_cases h1 : (l[i]).f1 = a ∧ (l[i]).f0 = 1
      · rw [hb, decide_eq_true h1, if_pos rfl, ih k (i + 1) [] f (by omega) (by omega) (by omega) (by simp), bstep1 h2 h1]
      · rw [hb, decide_eq_false h1, if_neg (by simp), if_pos (by omega), if_pos (by omega)]
        by_cases h3 : (l[i]).f1 = a
        · rw [if_pos h3, if_pos (by omega), ih k (i + 1) (o ++ (l[i]).f2) f (by omega) (by omega) (by omega) (by rw [List.length_append]; omega), bstep0 h2 h3 (fun h => h1 ⟨h3, h⟩)]
        · rw [if_neg h3, ih k (i + 1) o f (by omega) (by omega) (by omega) (by omega), bstepn h2 h3]
    rw [lockgateref07_Bytes.l0, if_pos (by omega), if_pos (by omega), rdT_get l i hlt]
    by_cases h2 : (l[i]).f0 = 2
    · rw [if_pos h2, w1 i (by omega), ih (k + 1) (i + 1) o _ (by omega) (by omega) (by omega) (by omega), List.drop_eq_getElem_cons hlt, List.foldl_cons, bstep2 h2]
    · rw [if_neg h2]
      by_cases h3 : (l[i]).f1 = a
      · rw [if_pos h3]
        refine J _ ?_ h2
        by_cases h4 : (l[i]).f0 = 1
        · rw [decide_eq_true ⟨h3, h4⟩]; exact beq_iff_eq.mpr h4
        · rw [decide_eq_false (fun h => h4 h.2)]; exact beq_eq_false_iff_ne.mpr h4
      · rw [if_neg h3]
        exact J _ (by rw [decide_eq_false (fun h => h3 h.1)]) h2
theorem bytes_f {s : AD} {d : RD} (h : Sim s d) (hn : size d ≤ 1000) (a : Int) (ha : a = 0 ∨ a = 1) : lockgateref07_Bytes.f 2002 d.safe d.loose d.left d.armed d.down a = some (if a = 0 then s.now.1 else s.now.2.1, s.now.2.2) := by
  unfold size at hn
  unfold lockgateref07_Bytes.f
  simp only [Option.bind_some, List.nil_append, List.length_nil]
  rw [if_pos (by omega), if_pos (by omega)]
  have h1 := bytes_l a (d.safe ++ d.loose) (by rw [List.length_append]; omega) (fun x hx => (h.ok x hx).2.2) (d.safe ++ d.loose).length 2002 0 [] 0 rfl (Nat.zero_le _) (by rw [List.length_append]; omega) (by simp)
  rw [List.drop_zero] at h1
  have h2 := part_fold a ha (d.safe ++ d.loose) ([], [], 0) h.ok
  have h3 : part a ([], [], 0) = ([], 0) := by unfold part; split <;> rfl
  rw [h3] at h2
  have h4 : lockgateref07_Bytes.l0 2002 a [] 0 (d.safe ++ d.loose) 0 = some ((d.safe ++ d.loose).foldl (bstep a) ([], 0)) := h1
  rw [h4, h2, List.map_append, List.foldl_append, ← h.sf, ← h.nw]
  rfl
end Go.Proofs.Ytpagajgpcmonkaa.PDisk
