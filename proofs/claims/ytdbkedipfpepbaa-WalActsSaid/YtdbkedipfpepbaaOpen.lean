/- Opening of a law's arguments: out of the claim's reading of a value, a plain Lean value of its kind, and the cells that say so; and a row of a law whose call leaves what was there. Conditions: none. -/
import Derived.Test.YtdbkedipfpepbaaWWords
import Derived.Test.YtdbkedipfpepbaaRows
import Derived.Deep.Slices
import Derived.ChangeArms
import Derived.ChangeSame
import Derived.WalkKit
import Derived.ProofKit
import Derived.OpenShut
import Derived.ShutString
import Derived.ChangeOld
import Derived.Below
import Derived.SizedLaws
import Derived.Carry
namespace Go.Proofs.YtdbkedipfpepbaaO
open Go.RowKit Go.Proofs.YtdbkedipfpepbaaW.PrintWords Go.ChangeShapes Go.WideShapes Go.ChangeAt

/-- What a type's cells say can be told as a value of a kind, of which 'ok' holds. -/
def Opens {α : Type} (P : Program) (k : Kd α) (t : TypeId) (ok : α → Prop) : Prop :=
  P.cellsOf t = k.sz ∧ ∀ (H : Type) (enc : TypeId × Value → H) (w : World) (spare : Nat → Bool) (fuel : Nat) (cs : List Value) (x : DataW H × List MemPlace),
    DataW.trod enc P w 0 spare true fuel t cs = some x → ∃ v : α, k.K w v cs ∧ ok v
theorem opens_int {P : Program} {t : TypeId} {k : IntKind} (ht : P.underlying t = some (.int k)) (hc : P.cellsOf t = 1) : Opens P (Kd.int k) t (fun n => (Lit.int k n).wf = true) := by
  refine ⟨hc, fun H enc w spare fuel cs x h => ?_⟩
  obtain ⟨n, rfl, _, hw⟩ := DataW.trod_int ht h
  exact ⟨n, rfl, hw⟩
theorem opens_bool {P : Program} {t : TypeId} (ht : P.underlying t = some .bool) (hc : P.cellsOf t = 1) : Opens P Kd.bool t (fun _ => True) := by
  refine ⟨hc, fun H enc w spare fuel cs x h => ?_⟩
  obtain ⟨b, rfl, _⟩ := DataW.trod_bool ht h
  exact ⟨b, rfl, trivial⟩
theorem opens_string {P : Program} {t : TypeId} (ht : P.underlying t = some .string) (hc : P.cellsOf t = 1) : Opens P Kd.string t (fun s => s.size ≤ maxLen) := by
  refine ⟨hc, fun H enc w spare fuel cs x h => ?_⟩
  obtain ⟨s, rfl, _, hs⟩ := DataW.trod_string ht h
  exact ⟨s, rfl, hs⟩
/-- A list of values, one for each index. -/
theorem list_of {α : Type} {p : Nat → α → Prop} : ∀ n, (∀ i, i < n → ∃ v, p i v) → ∃ l : List α, l.length = n ∧ ∀ i v, l[i]? = some v → p i v
  | 0, _ => ⟨[], rfl, fun i v h => by simp at h⟩
  | n + 1, h => by
    obtain ⟨l, hl, hp⟩ := list_of n (fun i hi => h i (by omega))
    obtain ⟨v, hv⟩ := h n (by omega)
    refine ⟨l ++ [v], by simp [hl], fun i u hu => ?_⟩
    rcases Nat.lt_or_ge i n with hi | hi
    · rw [List.getElem?_append_left (by omega)] at hu
      exact hp i u hu
    · rw [List.getElem?_append_right (by omega)] at hu
      have hi' : i = n := by
        have h1 := (List.getElem?_eq_some_iff.1 hu).1
        simp at h1
        omega
      subst hi'
      rw [hl, Nat.sub_self] at hu
      simp at hu
      exact hu ▸ hv
theorem opens_slice {α : Type} {P : Program} {k : Kd α} {t e : TypeId} {ok : α → Prop} (ht : P.underlying t = some (.slice e)) (hc : P.cellsOf t = 1) (hk : Opens P k e ok) :
    Opens P (Kd.slice e k) t (fun l => l.length ≤ maxLen ∧ ∀ v ∈ l, ok v) := by
  refine ⟨hc, fun H enc w spare fuel cs x h => ?_⟩
  rcases Go.Deep.open_slice ht h with ⟨rfl, _⟩ | ⟨a, len, cap, m, n, D, Pl, rfl, _, hl, hm, hmm, _, hi⟩
  · exact ⟨[], ⟨none, 0, rfl, Nat.le_refl _, rfl, by simp, fun h => absurd h (by simp)⟩, by simp [maxLen], by simp⟩
  · have hlm : len ≤ m := by rw [hmm]; split <;> omega
    obtain ⟨l, hll, hp⟩ := list_of (p := fun i v => ok v ∧ ∃ c, c.length = k.sz ∧ k.K w v c ∧ ∀ j u, c[j]? = some u → w.cell? (a.add (i * k.sz + j)) = some u) len (fun i hlt => by
      obtain ⟨cs', hcs, ht'⟩ := hi i (by omega)
      obtain ⟨v, hK, hok⟩ := hk.2 H enc w spare n cs' _ ht'
      refine ⟨v, hok, cs', k.K_len hK, hK, fun j u hu => ?_⟩
      obtain ⟨_, hcl, hat⟩ := World.cells?_some hcs
      rw [hk.1] at hcl hat
      have hj : j < k.sz := by have := (List.getElem?_eq_some_iff.1 hu).1; omega
      have := hat j hj
      rw [← Go.Deep.add_add, this, hu])
    refine ⟨l, ⟨some a, cap, by rw [hll], by omega, rfl, by simp only [maxLen] at hm; omega, fun _ => ⟨a, rfl, fun j p hj => ?_⟩⟩, by omega, fun v hv => ?_⟩
    · exact (hp j p hj).2
    · obtain ⟨i, hi', rfl⟩ := List.getElem_of_mem hv
      exact (hp i _ (List.getElem?_eq_getElem hi')).1
/-- The fields from j on, one behind the other. -/
def Fields {α : Type} (P : Program) (k : Kd α) (fs : List Field) (off : Nat) (ok : α → Prop) : Prop :=
  ∀ (H : Type) (enc : TypeId × Value → H) (w : World) (spare : Nat → Bool) (fuel : Nat) (cs : List Value), cs.length = off + k.sz →
    (∀ f ∈ fs, ∃ x, DataW.trod enc P w 0 spare true fuel f.type ((cs.drop f.offset).take (P.cellsOf f.type)) = some x) → ∃ v : α, k.K w v (cs.drop off) ∧ ok v
theorem fields_last {α : Type} {P : Program} {k : Kd α} {f : Field} {t : TypeId} {off : Nat} {ok : α → Prop} (ht : f.type = t) (ho : f.offset = off) (hk : Opens P k t ok) : Fields P k [f] off ok := by
  intro H enc w spare fuel cs hl h
  obtain ⟨x, hx⟩ := h f (by simp)
  obtain ⟨v, hK, hok⟩ := hk.2 H enc w spare fuel _ x (ht ▸ hx)
  rw [hk.1, ho] at hK
  rw [List.take_of_length_le (by simp; omega)] at hK
  exact ⟨v, hK, hok⟩
theorem fields_cons {α β : Type} {P : Program} {a : Kd α} {b : Kd β} {f : Field} {fs : List Field} {t : TypeId} {off off2 : Nat} {oka : α → Prop} {okb : β → Prop} (ht : f.type = t) (ho : f.offset = off) (ha : Opens P a t oka)
    (h2 : off2 = off + a.sz) (hb : Fields P b fs off2 okb) : Fields P (Kd.pair a b) (f :: fs) off (fun x => oka x.1 ∧ okb x.2) := by
  intro H enc w spare fuel cs hl h
  have hl' : cs.length = off + (a.sz + b.sz) := hl
  obtain ⟨x, hx⟩ := h f (by simp)
  obtain ⟨v, hK, hok⟩ := ha.2 H enc w spare fuel _ x (ht ▸ hx)
  rw [ha.1, ho] at hK
  obtain ⟨u, hKu, hoku⟩ := hb H enc w spare fuel cs (by omega) (fun g hg => h g (by simp [hg]))
  refine ⟨(v, u), ⟨(cs.drop off).take a.sz, cs.drop off2, ?_, hK, hKu⟩, hok, hoku⟩
  rw [h2, ← List.drop_drop, List.take_append_drop]
theorem opens_struct {α β : Type} {P : Program} {k : Kd β} {f : α → β} {t : TypeId} {fs : Array Field} {ok : β → Prop} (ht : P.underlying t = some (.struct fs)) (hc : P.cellsOf t = k.sz)
    (hf : ∀ y, ∃ x, f x = y) (hk : Fields P k fs.toList 0 ok) : Opens P (Kd.iso k f) t (fun x => ok (f x)) := by
  refine ⟨hc, fun H enc w spare fuel cs x h => ?_⟩
  obtain ⟨xs, n, _, _, hl, hlen, hg⟩ := DataW.trod_struct ht h
  obtain ⟨v, hK, hok⟩ := hk H enc w spare n cs (by rw [hl, hc]; omega) (fun f hfm => by
    obtain ⟨i, hi, rfl⟩ := List.getElem_of_mem hfm
    have hi' : i < fs.size := by simpa using hi
    have := hg i fs[i] (Array.getElem?_eq_getElem hi')
    rw [List.getElem?_eq_getElem (by omega)] at this
    exact ⟨_, by simpa using this⟩)
  obtain ⟨y, rfl⟩ := hf v
  exact ⟨y, hK, hok⟩
/-- Of a value among the arguments. -/
theorem Opens.value {α : Type} {P : Program} {k : Kd α} {t : TypeId} {ok : α → Prop} (hk : Opens P k t ok) {H : Type} {enc : TypeId × Value → H} {w : World} {spare : Nat → Bool} {v : Value} {d : DataW H} {p : List MemPlace}
    (h : DataW.Trod enc P w 0 spare true t v d p) : ∃ x : α, k.K w x v.cells.toList ∧ ok x := by
  obtain ⟨fuel, hf⟩ := h
  exact hk.2 H enc w spare fuel _ _ hf
/-- All arguments, behind a call that leaves what was there. -/
theorem trodAll_stays {H : Type} {enc : TypeId × Value → H} {P : Program} (hl : laidOutB P = true) {W W' : World} (hb : Below W.heap.size W W') :
    ∀ {ts : List TypeId} {vs : List Value} {ds : List (DataW H)} {p : List MemPlace}, ts.all (fun t => P.readableRec t && decide (t < P.types.size)) = true →
      DataW.TrodAll enc P W 0 (fun _ => true) true ts vs ds p → DataW.TrodAll enc P W' 0 (fun b => decide (b < W.heap.size)) true ts vs ds p
  | [], [], [], _, _, h => h
  | [], [], _ :: _, _, _, h => h.elim
  | [], _ :: _, _, _, _, h => h.elim
  | _ :: _, [], _, _, _, h => h.elim
  | _ :: _, _ :: _, [], _, _, h => h.elim
  | t :: ts, v :: vs, d :: ds, p, hr, h => by
    simp only [List.all_cons, Bool.and_eq_true, decide_eq_true_eq] at hr
    obtain ⟨p1, q, h1, h2, rfl⟩ := h
    have lt : ∀ x ∈ p1, x.block < W.heap.size := by obtain ⟨m, hm⟩ := h1; exact DataW.trod_lt m _ _ _ hm
    exact ⟨p1, q, Below.trod hl hr.1.1 hr.1.2 h1 hb lt, trodAll_stays hl hb hr.2 h2, rfl⟩
end Go.Proofs.YtdbkedipfpepbaaO
