/- What a disk is in memory, and what its steps come to, by definition. -/
import Derived.Test.YtdbkedipfpepbaaPWalx1
namespace Go.Proofs.Ytdbkedipfpepbaa.PWal
open Go.RowKit Go.Proofs.YtdbkedipfpepbaaW.PrintWords Go.Proofs.YtdbkedipfpepbaaW.PrintLast Go.Proofs.YtdbkedipfpepbaaW.PrintMore
set_option linter.unusedVariables false
/-- a change: its kind, its area, its bytes -/
abbrev Chg := Int × Int × List Int
/-- two areas' bytes, and which is in front -/
abbrev St := List Int × List Int × Int
/-- a disk: the state that lasts, that of now, the loose changes, the count, whether it is down -/
structure AD where
  safe : St
  now : St
  loose : List Chg
  left : Int
  down : Bool
/-- bytes at the front of a block of bytes -/
def BS (B : Nat) (W : World) (v : Value) (bs : List Int) : Prop :=
  ∃ A c, v = .slice A bs.length c ∧ bs.length ≤ c ∧ bs.length ≤ 9223372036854775807 ∧
    ((A = none ∧ c = 0) ∨ ∃ (g : Nat) (cs : Array Value), A = some ⟨g, 0, none⟩ ∧ B ≤ g ∧ W.heap[g]? = some (.cells cs 5 (0, 0)) ∧ ∀ (j : Nat) (b : Int), bs[j]? = some b → cs[j]? = some (.int .u8 b))
/-- all blocks of a type stay -/
def Keeps (t : Nat) (W W' : World) : Prop := ∀ (g : Nat) (cs : Array Value), W.heap[g]? = some (.cells cs t (0, 0)) → W'.heap[g]? = some (.cells cs t (0, 0))
theorem Keeps.trans {t : Nat} {W W1 W2 : World} (h : Keeps t W W1) (k : Keeps t W1 W2) : Keeps t W W2 := fun g cs hg => k g cs (h g cs hg)
theorem Keeps.refl (t : Nat) (W : World) : Keeps t W W := fun _ _ h => h
theorem Keeps.below {t : Nat} {W W' : World} (h : Below W.heap.size W W') : Keeps t W W' := fun g cs hg => blk_b' hg h
where blk_b' {w w1 : World} {g : Nat} {o : Obj} (h : w.heap[g]? = some o) (hb : Below w.heap.size w w1) : w1.heap[g]? = some o := (hb.block g (blk_lt h)).trans h
theorem Keeps.grown {t t' p : Nat} {cs : Array Value} {W W' : World} (h : W.grownBy W' (some p)) (hp : W.heap[p]? = some (.cells cs t' (0, 0))) (hne : t ≠ t') : Keeps t W W' := fun g cs' hg =>
  (h.block g (blk_lt hg) (fun he => blk_ne hg hp hne (Option.some.inj he))).trans hg
theorem BS.keep {B : Nat} {W W' : World} {v : Value} {bs : List Int} (h : BS B W v bs) (hk : Keeps 5 W W') : BS B W' v bs := by
  obtain ⟨A, c, rfl, hl, hm, h⟩ := h
  refine ⟨A, c, rfl, hl, hm, ?_⟩
  rcases h with h | ⟨g, cs, rfl, hB, hg, hc⟩
  · exact .inl h
  · exact .inr ⟨g, cs, rfl, hB, hk g cs hg, hc⟩
/-- what is at or above B, and was there, stays -/
theorem BS.far {B : Nat} {W W' : World} {v : Value} {bs : List Int} (h : BS B W v bs) (hk : ∀ g, B ≤ g → g < W.heap.size → W'.heap[g]? = W.heap[g]?) : BS B W' v bs := by
  obtain ⟨A, c, rfl, hl, hm, h⟩ := h
  refine ⟨A, c, rfl, hl, hm, ?_⟩
  rcases h with h | ⟨g, cs, rfl, hB, hg, hc⟩
  · exact .inl h
  · exact .inr ⟨g, cs, rfl, hB, (hk g hB (blk_lt hg)).trans hg, hc⟩
theorem BS.nil (B : Nat) (W : World) : BS B W (.slice none 0 0) [] := ⟨none, 0, rfl, Nat.le_refl _, by simp, .inl ⟨rfl, rfl⟩⟩
theorem BS.lower {B B' : Nat} {W : World} {v : Value} {bs : List Int} (h : BS B W v bs) (hB : B' ≤ B) : BS B' W v bs := by
  obtain ⟨A, c, rfl, hl, hm, h⟩ := h
  refine ⟨A, c, rfl, hl, hm, ?_⟩
  rcases h with h | ⟨g, cs, rfl, hB', hg, hc⟩
  · exact .inl h
  · exact .inr ⟨g, cs, rfl, Nat.le_trans hB hB', hg, hc⟩
/-- read as a row -/
theorem BS.reads {B : Nat} {W : World} {v : Value} {bs : List Int} (h : BS B W v bs) : ∃ A c, v = .slice A bs.length c ∧ bs.length ≤ c ∧ (Kd.int .u8).C W A bs.length bs := by
  obtain ⟨A, c, rfl, hl, hm, h⟩ := h
  refine ⟨A, c, rfl, hl, rfl, hm, fun hn => ?_⟩
  rcases h with ⟨_, rfl⟩ | ⟨g, cs, rfl, hB, hg, hc⟩
  · omega
  · refine ⟨_, rfl, fun j p hj => ⟨[.int .u8 p], rfl, rfl, fun i u hu => ?_⟩⟩
    match i, hu with
    | 0, hu =>
      rw [add_plain, show (Kd.int IntKind.u8).sz = 1 from rfl, blk_cell hg, show j * 1 + 0 = j by omega, hc j p hj]
      simpa using hu
    | i + 1, hu => simp at hu
/-- a row of one's own, as it comes from Clone and append -/
theorem BS.own {B : Nat} {W : World} {v : Value} {bs : List Int} (h : W.ownsRow B 5 1 v bs.length (bs.map fun b => .int .u8 b)) (hm : bs.length ≤ 9223372036854775807) : BS B W v bs := by
  rcases h.2 with ⟨rfl, h0⟩ | ⟨g, cap, cur, rfl, hB, hg, hc, hcm, hs, ht⟩
  · exact ⟨none, 0, by rw [h0], by omega, hm, .inl ⟨rfl, rfl⟩⟩
  · refine ⟨_, cap, rfl, hc, hm, .inr ⟨g, cur, rfl, hB, hg, fun j b hj => ?_⟩⟩
    have hlt : j < bs.length := (List.getElem?_eq_some_iff.1 hj).1
    have h2 : (cur.toList.take (bs.length * 1))[j]? = some (Value.int .u8 b) := by rw [ht, List.getElem?_map, hj]; rfl
    rw [List.getElem?_take, if_pos (by omega)] at h2
    simpa using h2
theorem BS.ofR {B : Nat} {W : World} {ok : Nat → Prop} {v : Value} {bs : List Int} (h : (Kd.int .u8).R 5 W B ok v bs) (hm : bs.length ≤ 9223372036854775807) : BS B W v bs := by
  obtain ⟨_, inner, ho, hr⟩ := h
  refine BS.own ?_ hm
  have : inner = bs.map fun b => Value.int .u8 b := by
    apply List.ext_getElem?
    intro j
    have h1 : inner.length = bs.length * 1 := hr.1
    rw [Nat.mul_one] at h1
    rw [List.getElem?_map]
    rcases Nat.lt_or_ge j bs.length with hj | hj
    · have h2 : (inner.drop (j * 1)).take 1 = [Value.int .u8 bs[j]] := hr.2 j bs[j] (List.getElem?_eq_getElem hj)
      rw [List.getElem?_eq_getElem hj, List.getElem?_eq_getElem (by omega)]
      rw [Nat.mul_one, List.drop_eq_getElem_cons (by omega), List.take_succ_cons, List.take_zero] at h2
      simpa using h2
    · rw [List.getElem?_eq_none (by omega), List.getElem?_eq_none (by omega)]; rfl
  subst this
  exact ho
/-- a beginning -/
theorem BS.take {B : Nat} {W : World} {A : Option Addr} {n c : Nat} {bs : List Int} (h : BS B W (.slice A n c) bs) (m : Nat) (hm : m ≤ n) : BS B W (.slice A m c) (bs.take m) := by
  obtain ⟨A', c', e, hl, hmx, h⟩ := h
  injection e with e1 e2 e3
  subst e1; subst e3; subst e2
  refine ⟨A, c, by rw [List.length_take, Nat.min_eq_left hm], by rw [List.length_take]; omega, by rw [List.length_take]; omega, ?_⟩
  rcases h with h | ⟨g, cs, rfl, hB, hg, hc⟩
  · exact .inl h
  · refine .inr ⟨g, cs, rfl, hB, hg, fun j b hj => hc j b ?_⟩
    rw [List.getElem?_take] at hj
    split at hj
    · exact hj
    · cases hj
/-- a change as it lies -/
def chgV (y : Chg × Value) : List Value := [.int .i64 y.1.1, .int .i64 y.1.2.1, y.2]
def LS (B : Nat) (W : World) (v : Value) (xs : List Chg) : Prop :=
  ∃ ys : List (Chg × Value), ys.map Prod.fst = xs ∧ W.ownsRow B 69 3 v ys.length (ys.flatMap chgV) ∧ ∀ y ∈ ys, BS B W y.2 y.1.2.2
theorem LS.nil (B : Nat) (W : World) : LS B W (.slice none 0 0) [] := ⟨[], rfl, ⟨by simp, .inl ⟨rfl, rfl⟩⟩, by simp⟩
theorem LS.keep {B : Nat} {W W' : World} {v : Value} {xs : List Chg} (h : LS B W v xs) (hk : Keeps 5 W W') (hl : Keeps 69 W W') : LS B W' v xs := by
  obtain ⟨ys, e, ho, hb⟩ := h
  refine ⟨ys, e, ⟨ho.1, ?_⟩, fun y hy => (hb y hy).keep hk⟩
  rcases ho.2 with h | ⟨g, cap, cur, rfl, hB, hg, r⟩
  · exact .inl h
  · exact .inr ⟨g, cap, cur, rfl, hB, hl g cur hg, r⟩
theorem LS.far {B : Nat} {W W' : World} {v : Value} {xs : List Chg} (h : LS B W v xs) (hk : ∀ g, B ≤ g → g < W.heap.size → W'.heap[g]? = W.heap[g]?) : LS B W' v xs := by
  obtain ⟨ys, e, ho, hb⟩ := h
  refine ⟨ys, e, ⟨ho.1, ?_⟩, fun y hy => (hb y hy).far hk⟩
  rcases ho.2 with h | ⟨g, cap, cur, rfl, hB, hg, r⟩
  · exact .inl h
  · exact .inr ⟨g, cap, cur, rfl, hB, (hk g hB (blk_lt hg)).trans hg, r⟩
theorem flat_get (ys : List (Chg × Value)) : ∀ (i k : Nat), k < 3 → (ys.flatMap chgV)[i * 3 + k]? = (ys[i]?).bind fun y => (chgV y)[k]? := by
  induction ys with
  | nil => intro i k _; simp
  | cons y ys ih =>
    intro i k hk
    rw [List.flatMap_cons]
    cases i with
    | zero => rw [List.getElem?_append_left (by simp [chgV]; omega), Nat.zero_mul, Nat.zero_add]; rfl
    | succ i =>
      rw [List.getElem?_append_right (by simp [chgV]; omega)]
      rw [show (i + 1) * 3 + k - (chgV y).length = i * 3 + k by simp [chgV]; omega, ih i k hk]
      rfl
theorem LS.len {B : Nat} {W : World} {v : Value} {xs : List Chg} (h : LS B W v xs) : ∃ A c, v = .slice A xs.length c ∧ xs.length ≤ c := by
  obtain ⟨ys, e, ho, hb⟩ := h
  have hl : ys.length = xs.length := by rw [← e, List.length_map]
  rcases ho.2 with ⟨rfl, h0⟩ | ⟨g, cap, cur, rfl, hB, hg, hc, r⟩
  · exact ⟨none, 0, by rw [← hl, h0], by omega⟩
  · exact ⟨_, cap, by rw [← hl], by omega⟩
/-- one of the changes -/
theorem LS.get {B : Nat} {W : World} {A : Option Addr} {n c : Nat} {xs : List Chg} (h : LS B W (.slice A n c) xs) (i : Nat) (hi : i < xs.length) :
    ∃ g v, A = some ⟨g, 0, none⟩ ∧ W.cell? ⟨g, i * 3, none⟩ = some (.int .i64 (xs[i]).1) ∧ W.cell? ⟨g, i * 3 + 1, none⟩ = some (.int .i64 (xs[i]).2.1) ∧ W.cell? ⟨g, i * 3 + 2, none⟩ = some v ∧ BS B W v (xs[i]).2.2 := by
  obtain ⟨ys, e, ho, hb⟩ := h
  have hl : ys.length = xs.length := by rw [← e, List.length_map]
  have hx : (ys[i]'(by omega)).1 = xs[i] := by
    have h1 : (ys.map Prod.fst)[i]? = xs[i]? := by rw [e]
    rw [List.getElem?_map, List.getElem?_eq_getElem (by omega), List.getElem?_eq_getElem hi] at h1
    exact Option.some.inj h1
  rcases ho.2 with ⟨_, h0⟩ | ⟨g, cap, cur, hv, hB, hg, hc, hcm, hs, ht⟩
  · omega
  · injection hv with hA _ _
    refine ⟨g, (ys[i]'(by omega)).2, hA, ?_, ?_, ?_, ?_⟩
    all_goals first
      | (have h2 := flat_get ys i 0 (by omega); rw [← ht, List.getElem?_take, if_pos (by omega), List.getElem?_eq_getElem (show i < ys.length by omega)] at h2; rw [blk_cell hg, ← hx]; simpa [chgV] using h2)
      | (have h2 := flat_get ys i 1 (by omega); rw [← ht, List.getElem?_take, if_pos (by omega), List.getElem?_eq_getElem (show i < ys.length by omega)] at h2; rw [blk_cell hg, ← hx]; simpa [chgV] using h2)
      | (have h2 := flat_get ys i 2 (by omega); rw [← ht, List.getElem?_take, if_pos (by omega), List.getElem?_eq_getElem (show i < ys.length by omega)] at h2; rw [blk_cell hg]; simpa [chgV] using h2)
      | (rw [← hx]; exact hb _ (List.getElem_mem _))
def dcells (v0 v1 : Value) (f : Int) (u0 u1 : Value) (g : Int) (lo : Value) (left : Int) (dn : Bool) : Array Value := #[v0, v1, .int .i64 f, u0, u1, .int .i64 g, lo, .int .i64 left, .bool dn]
structure Rep0 (B : Nat) (W : World) (p : Nat) (s : AD) (v0 v1 u0 u1 lo : Value) : Prop where
  hB : B ≤ p
  hp : W.heap[p]? = some (.cells (dcells v0 v1 s.safe.2.2 u0 u1 s.now.2.2 lo s.left s.down) 58 (0, 0))
  h0 : BS B W v0 s.safe.1
  h1 : BS B W v1 s.safe.2.1
  k0 : BS B W u0 s.now.1
  k1 : BS B W u1 s.now.2.1
  hl : LS B W lo s.loose
/-- a disk in memory, all of it at or above B -/
def Rep (B : Nat) (W : World) (p : Nat) (s : AD) : Prop := ∃ v0 v1 u0 u1 lo, Rep0 B W p s v0 v1 u0 u1 lo
theorem Rep.far {B p : Nat} {W W' : World} {s : AD} (h : Rep B W p s) (hk : ∀ g, B ≤ g → g < W.heap.size → W'.heap[g]? = W.heap[g]?) : Rep B W' p s := by
  obtain ⟨v0, v1, u0, u1, lo, hB, hp, h0, h1, k0, k1, hl⟩ := h
  exact ⟨v0, v1, u0, u1, lo, hB, (hk p hB (blk_lt hp)).trans hp, h0.far hk, h1.far hk, k0.far hk, k1.far hk, hl.far hk⟩
theorem Rep.below {B p : Nat} {W W' : World} {s : AD} (h : Rep B W p s) (hk : Below W.heap.size W W') : Rep B W' p s := h.far fun g _ hg => hk.block g hg
theorem Rep.lt {B p : Nat} {W : World} {s : AD} (h : Rep B W p s) : p < W.heap.size := by
  obtain ⟨v0, v1, u0, u1, lo, hB, hp, _⟩ := h
  exact blk_lt hp
theorem Rep.base {B p : Nat} {W : World} {s : AD} (h : Rep B W p s) : B ≤ W.heap.size := by
  have := h.lt
  obtain ⟨v0, v1, u0, u1, lo, hB, _⟩ := h
  omega
/-! ### the steps, by definition -/
def mayE (s : AD) (n : Int) : Int := if n ≠ 0 ∧ n ≠ 1 then 1 else if s.down then 4 else 0
def countD (left : Int) (dn : Bool) : Int × Bool := if left > 0 then (left - 1, decide (left - 1 = 0)) else (left, dn)
def AD.count (s : AD) : AD := { s with left := (countD s.left s.down).1, down := (countD s.left s.down).2 }
def doSt (t : St) (c : Chg) : St :=
  if c.1 = 0 then (if c.2.1 = 0 then (t.1 ++ c.2.2, t.2.1, t.2.2) else (t.1, t.2.1 ++ c.2.2, t.2.2))
  else if c.1 = 1 then (if c.2.1 = 0 then ([], t.2.1, t.2.2) else (t.1, [], t.2.2))
  else (t.1, t.2.1, c.2.1)
def AD.change (s : AD) (c : Chg) : AD := if mayE s c.2.1 = 0 then { s with now := doSt s.now c, loose := s.loose ++ [c] : AD }.count else s
def AD.sync (s : AD) : AD := if s.down = true then s else { s with safe := s.now, loose := [] : AD }.count
def AD.arm (s : AD) (n : Int) : AD := { s with left := if s.down = true then s.left else n, down := if s.down = true then s.down else decide (n = 0) }
/-- the loose changes that last, of a crash -/
def kept (keep torn : Int) : List Chg → Int → List Chg
  | [], _ => []
  | c :: l, i => if i < keep then c :: kept keep torn l (i + 1) else if c.1 = 0 ∧ 0 < torn then [(c.1, c.2.1, c.2.2.take torn.toNat)] else []
def AD.crash (s : AD) (keep torn : Int) : AD :=
  ⟨(kept keep torn s.loose 0).foldl doSt s.safe, (kept keep torn s.loose 0).foldl doSt s.safe, [], -1, false⟩
def new : AD := ⟨([], [], 0), ([], [], 0), [], -1, false⟩
/-- how many bytes changes have -/
def tot : List Chg → Nat
  | [] => 0
  | c :: l => c.2.2.length + tot l
def okC (c : Chg) : Prop := (c.1 = 0 ∨ c.1 = 1 ∨ c.1 = 2) ∧ (c.2.1 = 0 ∨ c.2.1 = 1)
structure Ok (N : Nat) (s : AD) : Prop where
  s0 : s.safe.1.length + tot s.loose ≤ N
  s1 : s.safe.2.1.length + tot s.loose ≤ N
  n0 : s.now.1.length ≤ N
  n1 : s.now.2.1.length ≤ N
  l : s.loose.length ≤ N
  c : ∀ c ∈ s.loose, okC c
  f0 : -9223372036854775808 ≤ s.left
  f1 : s.left ≤ 9223372036854775807
theorem tot_append (l : List Chg) (c : Chg) : tot (l ++ [c]) = tot l + c.2.2.length := by
  induction l with
  | nil => simp [tot]
  | cons d l ih => rw [List.cons_append, tot, tot, ih, Nat.add_assoc]
theorem Ok.mono {N M : Nat} {s : AD} (h : Ok N s) (hM : N ≤ M) : Ok M s := ⟨Nat.le_trans h.s0 hM, Nat.le_trans h.s1 hM, Nat.le_trans h.n0 hM, Nat.le_trans h.n1 hM, Nat.le_trans h.l hM, h.c, h.f0, h.f1⟩
theorem Ok.new : Ok 0 new := ⟨by decide, by decide, by decide, by decide, by decide, by simp [PWal.new], by decide, by decide⟩
theorem Ok.count {N : Nat} {s : AD} (h : Ok N s) : Ok N s.count := by
  obtain ⟨a, b, c, d, e, f, g, i⟩ := h
  refine ⟨a, b, c, d, e, f, ?_, ?_⟩ <;> (unfold AD.count countD; dsimp only; split <;> (dsimp only; omega))
theorem doSt_len (t : St) (c : Chg) : (doSt t c).1.length ≤ t.1.length + c.2.2.length ∧ (doSt t c).2.1.length ≤ t.2.1.length + c.2.2.length := by
  unfold doSt
  repeat' split
  all_goals simp
theorem Ok.change {N : Nat} {s : AD} (h : Ok N s) (c : Chg) (hc : okC c) : Ok (N + c.2.2.length + 1) (s.change c) := by
  unfold AD.change
  split
  · refine Ok.count ⟨?_, ?_, ?_, ?_, ?_, ?_, h.f0, h.f1⟩
    · have := h.s0; rw [tot_append]; dsimp only; omega
    · have := h.s1; rw [tot_append]; dsimp only; omega
    · have := h.n0; have := (doSt_len s.now c).1; dsimp only; omega
    · have := h.n1; have := (doSt_len s.now c).2; dsimp only; omega
    · have := h.l; simp; omega
    · intro d hd
      rcases List.mem_append.1 hd with hd | hd
      · exact h.c d hd
      · rw [List.mem_singleton.1 hd]; exact hc
  · exact h.mono (by omega)
theorem Ok.sync {N : Nat} {s : AD} (h : Ok N s) : Ok N s.sync := by
  unfold AD.sync
  split
  · exact h
  · exact Ok.count ⟨by simpa [tot] using h.n0, by simpa [tot] using h.n1, h.n0, h.n1, by simp, by simp, h.f0, h.f1⟩
theorem Ok.arm {N : Nat} {s : AD} (h : Ok N s) (n : Int) (h0 : -9223372036854775808 ≤ n) (h1 : n ≤ 9223372036854775807) : Ok N (s.arm n) := by
  obtain ⟨a, b, c, d, e, f, g, i⟩ := h
  refine ⟨a, b, c, d, e, f, ?_, ?_⟩ <;> (unfold AD.arm; dsimp only; split <;> omega)
theorem kept_len (keep torn : Int) : ∀ (l : List Chg) (i : Int) (t : St), ((kept keep torn l i).foldl doSt t).1.length ≤ t.1.length + tot l ∧ ((kept keep torn l i).foldl doSt t).2.1.length ≤ t.2.1.length + tot l
  | [], i, t => by simp [kept, tot]
  | c :: l, i, t => by
    unfold kept tot
    split
    · rw [List.foldl_cons]
      have := kept_len keep torn l (i + 1) (doSt t c)
      have := doSt_len t c
      omega
    · split
      · rw [List.foldl_cons, List.foldl_nil]
        have := doSt_len t (c.1, c.2.1, c.2.2.take torn.toNat)
        have h2 : (c.2.2.take torn.toNat).length ≤ c.2.2.length := by rw [List.length_take]; omega
        dsimp only at this
        omega
      · rw [List.foldl_nil]; omega
theorem Ok.crash {N : Nat} {s : AD} (h : Ok N s) (keep torn : Int) : Ok N (s.crash keep torn) := by
  have := kept_len keep torn s.loose 0 s.safe
  have := h.s0
  have := h.s1
  unfold AD.crash
  exact ⟨by simp [tot]; omega, by simp [tot]; omega, by dsimp only; omega, by dsimp only; omega, by simp, by simp, by simp, by simp⟩
end Go.Proofs.Ytdbkedipfpepbaa.PWal
