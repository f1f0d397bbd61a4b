/- A log in memory, in plain words; and frame's functions. -/
import Derived.Test.YtdbkedipfpepbaaWalTurn
import Derived.Test.YtdbkedipfpepbaaFrameScan
import Derived.Test.YtdbkedipfpepbaaFrameSame
import Derived.Test.YtdbkedipfpepbaaPWalx2
namespace Go.Proofs.Ytdbkedipfpepbaa.PWal
open Go.RowKit Go.Proofs.YtdbkedipfpepbaaW.PrintWords Go.Proofs.YtdbkedipfpepbaaW.PrintLast Go.Proofs.YtdbkedipfpepbaaW.PrintMore Go.FrameMath
set_option linter.unusedVariables false
set_option linter.unusedSimpArgs false
def flat (rs : List (List Int)) : List Int := (rs.map frame).flatten
theorem flat_append (a b : List (List Int)) : flat (a ++ b) = flat a ++ flat b := by unfold flat; rw [List.map_append, List.flatten_append]
theorem flat_one (r : List Int) : flat [r] = frame r := by simp [flat]
theorem flat_cons (r : List Int) (rs : List (List Int)) : flat (r :: rs) = frame r ++ flat rs := by simp [flat]
theorem flat_len (rs : List (List Int)) : 12 * rs.length ≤ (flat rs).length := by
  induction rs with
  | nil => simp [flat]
  | cons r rs ih => rw [flat_cons, List.length_append, frame_length, List.length_cons]; omega
theorem flat_pos {rs : List (List Int)} (h : rs ≠ []) : 12 ≤ (flat rs).length := by
  have := flat_len rs
  have : 0 < rs.length := List.length_pos_iff.mpr h
  omega
theorem flat_byt {rs : List (List Int)} (h : ∀ r ∈ rs, Byt r) : Byt (flat rs) := by
  induction rs with
  | nil => intro x hx; simp [flat] at hx
  | cons r rs ih => rw [flat_cons]; exact (frame_byt (h r (List.mem_cons_self ..))).append (ih fun x hx => h x (List.mem_cons_of_mem _ hx))
theorem head_nil : headOf [] = none := by rfl
theorem scan_all (l : List Int) : ∀ (rs : List (List Int)) (k : Nat) (out : List (List Int)) (a : Nat), l.drop a = flat rs → a ≤ l.length → rs.length < k → (∀ r ∈ rs, r.length ≤ 16777216) → scan k l out a = (out ++ rs, l.length) := by
  intro rs
  induction rs with
  | nil =>
    intro k out a h ha hk _
    obtain ⟨k, rfl⟩ : ∃ m, k = m + 1 := ⟨k - 1, by omega⟩
    unfold scan
    have hl : l.length ≤ a := by
      have := congrArg List.length h
      simp [flat] at this
      omega
    rw [h, show flat [] = [] from rfl, head_nil, List.append_nil]
    rw [show a = l.length by omega]
  | cons r rs ih =>
    intro k out a h ha hk hr
    obtain ⟨k, rfl⟩ : ∃ m, k = m + 1 := ⟨k - 1, by omega⟩
    unfold scan
    rw [h, flat_cons, headOf_frame r (hr r (List.mem_cons_self ..)) (flat rs)]
    dsimp only
    have h1 := congrArg List.length h
    rw [List.length_drop, flat_cons, List.length_append, frame_length] at h1
    rw [ih k (out ++ [r]) (a + (12 + r.length)) ?_ (by omega) (by simp only [List.length_cons] at hk; omega) (fun x hx => hr x (List.mem_cons_of_mem _ hx)), List.append_assoc, List.singleton_append]
    rw [← List.drop_drop, h, flat_cons, ← frame_length r, List.drop_left]
theorem Scan_says {A : Option Addr} {c : Nat} (rs : List (List Int)) (w : World) (ha : Kd.C (Kd.int .u8) w A (flat rs).length (flat rs)) (hc : (flat rs).length ≤ c) (hb : ∀ r ∈ rs, Byt r) (hr : ∀ r ∈ rs, r.length ≤ 16777216) (hl : (flat rs).length < 1000000) :
    Calls Try.prog 26 #[.slice A (flat rs).length c] w fun e w' => ∃ v : Value, e = .returned (.tuple #[v, .int .i64 ((flat rs).length : Int)]) ∧ Kd.S (Kd.slice 5 (Kd.int .u8)) 28 w' w.heap.size (fun _ => True) v rs ∧ Below w.heap.size w w' := by
  have h1 := FramePure.scan_f (flat rs) (flat_byt hb) hl (3 * (flat rs).length + 501) (by omega)
  have h3 := flat_len rs
  have h2 := scan_all (flat rs) rs ((flat rs).length + 1) [] 0 rfl (Nat.zero_le _) (by omega) hr
  rw [h2, List.nil_append] at h1
  exact frame_Scan.calls _ A c _ _ _ w ha hc h1
theorem Put_says {A : Option Addr} {c : Nat} {v : Value} {l0 l1 : List Int} (w0 w : World) (hB : Below w0.heap.size w0 w) (ho : Kd.R (Kd.int .u8) 5 w w0.heap.size (fun k => w0.heap.size ≤ k) v l0) (hF : Kd.F (Kd.int .u8) w (fun k => k < w0.heap.size) A l1.length l1) (hc : l1.length ≤ c) (h0 : l0.length < 10000000) (h1 : l1.length < 10000000) :
    Calls Try.prog 24 #[v, .slice A l1.length c] w fun e w' => ∃ v' : Value, e = .returned v' ∧ Kd.R (Kd.int .u8) 5 w' w0.heap.size (fun k => w0.heap.size ≤ k) v' (l0 ++ frame l1) ∧ Below w0.heap.size w0 w' := by
  refine (frame_Put.calls (l1.length + 101) (fun k => w0.heap.size ≤ k) v l0 A c l1 _ w0 w hB ho (fun W_ hk => Kd.F_now (Kd.F_kept hF hk (fun k h1 h2 => by omega))) hc (FramePure.put_f l0 l1 h0 h1 _ (by omega))).mono ?_
  rintro e w' ⟨v', he, hr, hb, _⟩
  exact ⟨v', he, Kd.R_mono hr (fun k hk => hk.elim id (fun h => Nat.le_trans hB.size h)), hb⟩
theorem Put_nil (w : World) : Calls Try.prog 24 #[.slice none 0 0, .slice none 0 0] w fun e w' => ∃ v' : Value, e = .returned v' ∧ Kd.R (Kd.int .u8) 5 w' w.heap.size (fun k => w.heap.size ≤ k) v' (frame []) ∧ Below w.heap.size w w' :=
  Put_says (A := none) (c := 0) (l0 := []) (l1 := []) w w (Below.refl _ _) (Kd.R_nil _ _ _ _ _) (Kd.F_nil _ _ _) (Nat.le_refl _) (by simp) (by simp)
/-! ### a log -/
def area (u : St) (a : Int) : List Int := if a = 0 then u.1 else u.2.1
def turnSt (u : St) (a : Int) (b : List Int) : St := doSt (doSt (doSt u (1, a, [])) (0, a, b)) (2, a, [])
theorem T5_is (u : St) (a : Int) (b : List Int) : T5 u a b = UP (turnSt u a b) (turnSt u a b) [] := rfl
theorem turn_area (u : St) (a : Int) (b : List Int) (ha : a = 0 ∨ a = 1) : area (turnSt u a b) a = b ∧ (turnSt u a b).2.2 = a := by
  rcases ha with rfl | rfl <;> simp [turnSt, doSt, area]
theorem add_area (u : St) (a : Int) (b : List Int) (ha : a = 0 ∨ a = 1) : area (doSt u (0, a, b)) a = area u a ++ b ∧ (doSt u (0, a, b)).2.2 = u.2.2 := by
  rcases ha with rfl | rfl <;> simp [doSt, area]
/-- what a log's disk has: frames of rs in front -/
structure LS8 (u : St) (front : Int) (rs : List (List Int)) : Prop where
  fr : front = 0 ∨ front = 1
  at_ : u.2.2 = front
  ar : area u front = flat rs
  by_ : ∀ r ∈ rs, Byt r
  sm : ∀ r ∈ rs, r.length ≤ 3000
  le : (flat rs).length ≤ 100000
/-- a log at q, of the disk at p -/
structure LG (B : Nat) (W : World) (p q : Nat) (t u : St) (l : List Chg) (front : Int) (rs : List (List Int)) : Prop where
  rep : Rep B W p (UP t u l)
  blk : W.heap[q]? = some (.cells #[.pointer (some ⟨p, 0, none⟩), .int .i64 front, .int .i64 ((flat rs).length : Int)] 60 (0, 0))
  hq : B ≤ q
  st : LS8 u front rs
theorem LG.below {B : Nat} {W W' : World} {p q : Nat} {t u : St} {l : List Chg} {front : Int} {rs : List (List Int)} (h : LG B W p q t u l front rs) (hb : Below W.heap.size W W') : LG B W' p q t u l front rs :=
  ⟨h.rep.below hb, blkK hb h.blk, h.hq, h.st⟩
theorem LS8.turned {u : St} {front : Int} {rs rs' : List (List Int)} (h : LS8 u front rs) (hb : ∀ r ∈ rs', Byt r) (hs : ∀ r ∈ rs', r.length ≤ 3000) (hl : (flat rs').length ≤ 100000) : LS8 (turnSt u (1 - front) (flat rs')) (1 - front) rs' := by
  have ha : 1 - front = 0 ∨ 1 - front = 1 := by rcases h.fr with h | h <;> omega
  exact ⟨ha, (turn_area u _ _ ha).2, (turn_area u _ _ ha).1, hb, hs, hl⟩
/-- what Add adds -/
def added (rs : List (List Int)) (r : List Int) : List (List Int) := if rs = [] then [[], r] else rs ++ [r]
def addB (rs : List (List Int)) (r : List Int) : List Int := if rs = [] then frame [] ++ frame r else frame r
theorem added_flat (rs : List (List Int)) (r : List Int) : flat rs ++ addB rs r = flat (added rs r) := by
  unfold added addB
  by_cases h : rs = []
  · rw [if_pos h, if_pos h, h]; simp [flat]
  · rw [if_neg h, if_neg h, flat_append, flat_one]
theorem LS8.add {u : St} {front : Int} {rs : List (List Int)} (h : LS8 u front rs) (r : List Int) (hb : Byt r) (hs : r.length ≤ 3000) (hl : (flat (added rs r)).length ≤ 100000) : LS8 (doSt u (0, front, addB rs r)) front (added rs r) := by
  obtain ⟨e1, e2⟩ := add_area u front (addB rs r) h.fr
  refine ⟨h.fr, e2.trans h.at_, by rw [e1, h.ar, added_flat], fun x hx => ?_, fun x hx => ?_, hl⟩
  · unfold added at hx
    split at hx
    · rcases List.mem_cons.1 hx with rfl | hx
      · intro y hy; cases hy
      · rw [List.mem_singleton.1 hx]; exact hb
    · rcases List.mem_append.1 hx with hx | hx
      · exact h.by_ x hx
      · rw [List.mem_singleton.1 hx]; exact hb
  · unfold added at hx
    split at hx
    · rcases List.mem_cons.1 hx with rfl | hx
      · simp
      · rw [List.mem_singleton.1 hx]; exact hs
    · rcases List.mem_append.1 hx with hx | hx
      · exact h.sm x hx
      · rw [List.mem_singleton.1 hx]; exact hs
end Go.Proofs.Ytdbkedipfpepbaa.PWal
