import Derived.Test.YtdbkedipfpepbaaDiskA
import Derived.Deep.DrawnRows
namespace Go.Proofs.Ytdbkedipfpepbaa.PWal
open Go.RowKit Go.Proofs.YtdbkedipfpepbaaW.PrintWords Go.Proofs.YtdbkedipfpepbaaW.PrintLast Go.Proofs.YtdbkedipfpepbaaW.PrintMore
set_option linter.unusedVariables false
set_option linter.unusedSimpArgs false
/-- the cells of bytes -/
theorem BS.cells {B : Nat} {W : World} {A : Option Addr} {n c : Nat} {bs : List Int} (h : BS B W (.slice A n c) bs) (b : Addr) (hA : A = some b) : ∀ j u, (bs.map fun x => Value.int .u8 x)[j]? = some u → W.cell? (b.add j) = some u := by
  obtain ⟨A', c', e, hl, hmx, h⟩ := h
  injection e with e1 e2 e3
  subst e1
  intro j u hj
  rcases h with ⟨rfl, _⟩ | ⟨g, cs, rfl, hB, hg, hc⟩
  · cases hA
  · obtain rfl := Option.some.inj hA
    rw [List.getElem?_map] at hj
    obtain ⟨x, hx, rfl⟩ := Option.map_eq_some_iff.1 hj
    rw [add_plain, blk_cell hg, hc j x hx]
theorem BS.length {B : Nat} {W : World} {A : Option Addr} {n c : Nat} {bs : List Int} (h : BS B W (.slice A n c) bs) : n = bs.length ∧ n ≤ c ∧ (A = none → n = 0 ∧ c = 0) := by
  obtain ⟨A', c', e, hl, hmx, h⟩ := h
  injection e with e1 e2 e3
  subst e1; subst e2; subst e3
  refine ⟨rfl, hl, fun hA => ?_⟩
  rcases h with ⟨_, rfl⟩ | ⟨g, cs, rfl, hB, hg, hc⟩
  · exact ⟨by omega, rfl⟩
  · cases hA
theorem BS.cap {B : Nat} {W : World} {A : Option Addr} {n c : Nat} {bs : List Int} (h : BS B W (.slice A n c) bs) : BS B W (.slice A n n) bs := by
  obtain ⟨A', c', e, hl, hmx, h⟩ := h
  injection e with e1 e2 e3
  subst e1; subst e2; subst e3
  refine ⟨A, _, rfl, Nat.le_refl _, hmx, ?_⟩
  rcases h with ⟨rfl, rfl⟩ | ⟨g, cs, rfl, hB, hg, hc⟩
  · exact .inl ⟨rfl, by omega⟩
  · exact .inr ⟨g, cs, rfl, hB, hg, hc⟩
theorem Keeps.none {t : Nat} {W W' : World} (h : W.grownBy W' none) : Keeps t W W' := fun g cs hg => (h.block g (blk_lt hg) (by simp)).trans hg
/-- where bytes lie -/
theorem BS.own_at {B : Nat} {W : World} {v : Value} {bs : List Int} (h : BS B W v bs) : ∀ k, v.ownBlock = some k → B ≤ k ∧ k < W.heap.size ∧ ∃ cs, W.heap[k]? = some (.cells cs 5 (0, 0)) := by
  obtain ⟨A, c, rfl, hl, hm, h⟩ := h
  intro k hk
  rcases h with ⟨rfl, _⟩ | ⟨g, cs, rfl, hB, hg, hc⟩
  · cases hk
  · obtain rfl : g = k := by simpa [Value.ownBlock] using hk
    exact ⟨hB, blk_lt hg, cs, hg⟩
/-- not in these blocks -/
def Off (X : Nat → Prop) (v : Value) : Prop := ∀ k, v.ownBlock = some k → ¬ X k
/-- a disk none of whose bytes lie in these blocks -/
def RepX (X : Nat → Prop) (B : Nat) (W : World) (p : Nat) (s : AD) : Prop :=
  ∃ v0 v1 u0 u1 lo, ∃ ys : List (Chg × Value), Rep0 B W p s v0 v1 u0 u1 lo ∧ (Off X v0 ∧ Off X v1 ∧ Off X u0 ∧ Off X u1) ∧ ys.map Prod.fst = s.loose ∧ W.ownsRow B 69 3 lo ys.length (ys.flatMap chgV) ∧ ∀ y ∈ ys, BS B W y.2 y.1.2.2 ∧ Off X y.2
theorem RepX.rep {X : Nat → Prop} {B : Nat} {W : World} {p : Nat} {s : AD} (h : RepX X B W p s) : Rep B W p s := by
  obtain ⟨v0, v1, u0, u1, lo, ys, h, _⟩ := h
  exact ⟨v0, v1, u0, u1, lo, h⟩
theorem Rep.fresh {X : Nat → Prop} {B : Nat} {W : World} {p : Nat} {s : AD} (h : Rep B W p s) (hX : ∀ k, X k → W.heap.size ≤ k) : RepX X B W p s := by
  obtain ⟨v0, v1, u0, u1, lo, h⟩ := h
  obtain ⟨ys, ey, ho, hys⟩ := id h.hl
  have ne : ∀ {v : Value} {bs : List Int}, BS B W v bs → Off X v := fun hb k hk hx => by have := hX k hx; have := (hb.own_at k hk).2.1; omega
  exact ⟨v0, v1, u0, u1, lo, ys, h, ⟨ne h.h0, ne h.h1, ne h.k0, ne h.k1⟩, ey, ho, fun y hy => ⟨hys y hy, ne (hys y hy)⟩⟩
theorem RepX.or {X X' : Nat → Prop} {B : Nat} {W : World} {p : Nat} {s : AD} (h : RepX X B W p s) (hX : ∀ k, X' k → X k ∨ W.heap.size ≤ k) : RepX X' B W p s := by
  obtain ⟨v0, v1, u0, u1, lo, ys, h, ⟨n0, n1, n2, n3⟩, ey, ho, hys⟩ := h
  have ne : ∀ {v : Value} {bs : List Int}, BS B W v bs → Off X v → Off X' v := fun hb hn k hk hx => by
    rcases hX k hx with h1 | h1
    · exact hn k hk h1
    · have := (hb.own_at k hk).2.1; omega
  exact ⟨v0, v1, u0, u1, lo, ys, h, ⟨ne h.h0 n0, ne h.h1 n1, ne h.k0 n2, ne h.k1 n3⟩, ey, ho, fun y hy => ⟨(hys y hy).1, ne (hys y hy).1 (hys y hy).2⟩⟩
/-- bytes elsewhere may grow -/
theorem BS.else_ {B : Nat} {W W' : World} {v : Value} {bs : List Int} (h : BS B W v bs) (hk : ∀ g cs, v.ownBlock = some g → W.heap[g]? = some (.cells cs 5 (0, 0)) → W'.heap[g]? = some (.cells cs 5 (0, 0))) : BS B W' v bs := by
  obtain ⟨A, c, rfl, hl, hm, h⟩ := h
  refine ⟨A, c, rfl, hl, hm, ?_⟩
  rcases h with h | ⟨g, cs, rfl, hB, hg, hc⟩
  · exact .inl h
  · exact .inr ⟨g, cs, rfl, hB, hk g cs rfl hg, hc⟩
theorem RepX.grown {X : Nat → Prop} {B : Nat} {W W' : World} {p : Nat} {s : AD} {r : Option Nat} (h : RepX X B W p s) (hg : W.grownBy W' r) (hr : ∀ k, r = some k → X k ∧ ∃ cs, W.heap[k]? = some (.cells cs 5 (0, 0))) : RepX X B W' p s := by
  obtain ⟨v0, v1, u0, u1, lo, ys, h, ⟨n0, n1, n2, n3⟩, ey, ho, hys⟩ := h
  have kb : ∀ {v : Value} {bs : List Int}, BS B W v bs → Off X v → BS B W' v bs := fun hb hn => hb.else_ fun g cs hv hc => (hg.block g (blk_lt hc) (fun he => hn g hv (hr g he.symm).1)).trans hc
  have kt : ∀ (t : TypeId), t ≠ 5 → Keeps t W W' := fun t ht g cs hc => (hg.block g (blk_lt hc) (fun he => by obtain ⟨cs', hc'⟩ := (hr g he.symm).2; exact blk_ne hc hc' ht rfl)).trans hc
  have ho' : W'.ownsRow B 69 3 lo ys.length (ys.flatMap chgV) := by
    refine ⟨ho.1, ?_⟩
    rcases ho.2 with h1 | ⟨g', cap, cur, hv, hB, hg', r⟩
    · exact .inl h1
    · exact .inr ⟨g', cap, cur, hv, hB, kt 69 (by decide) _ _ hg', r⟩
  exact ⟨v0, v1, u0, u1, lo, ys, ⟨h.hB, kt 58 (by decide) _ _ h.hp, kb h.h0 n0, kb h.h1 n1, kb h.k0 n2, kb h.k1 n3, ⟨ys, ey, ho', fun y hy => kb (hys y hy).1 (hys y hy).2⟩⟩, ⟨n0, n1, n2, n3⟩, ey, ho', fun y hy => ⟨kb (hys y hy).1 (hys y hy).2, (hys y hy).2⟩⟩
theorem RepX.below {X : Nat → Prop} {B : Nat} {W W' : World} {p : Nat} {s : AD} (h : RepX X B W p s) (hb : Below W.heap.size W W') : RepX X B W' p s :=
  h.grown (r := none) ⟨hb.os, hb.tape, hb.output, hb.size, fun k hk _ => hb.block k hk⟩ (fun k hk => by cases hk)
/-- a disk whose row of loose changes lies in none of these blocks -/
def RepL (Y : Nat → Prop) (B : Nat) (W : World) (p : Nat) (s : AD) : Prop := ∃ v0 v1 u0 u1 lo, Rep0 B W p s v0 v1 u0 u1 lo ∧ Off Y lo
theorem RepL.rep {Y : Nat → Prop} {B : Nat} {W : World} {p : Nat} {s : AD} (h : RepL Y B W p s) : Rep B W p s := by
  obtain ⟨v0, v1, u0, u1, lo, h, _⟩ := h
  exact ⟨v0, v1, u0, u1, lo, h⟩
theorem RepL.below {Y : Nat → Prop} {B : Nat} {W W' : World} {p : Nat} {s : AD} (h : RepL Y B W p s) (hb : Below W.heap.size W W') : RepL Y B W' p s := by
  obtain ⟨v0, v1, u0, u1, lo, h, hl⟩ := h
  have k5 := Keeps.below (t := 5) hb
  exact ⟨v0, v1, u0, u1, lo, ⟨h.hB, Keeps.below hb _ _ h.hp, h.h0.keep k5, h.h1.keep k5, h.k0.keep k5, h.k1.keep k5, h.hl.keep k5 (Keeps.below hb)⟩, hl⟩
theorem LS.own_at {B : Nat} {W : World} {lo : Value} {xs : List Chg} (h : LS B W lo xs) : ∀ k, lo.ownBlock = some k → k < W.heap.size := by
  obtain ⟨ys, _, ho, _⟩ := h
  intro k hk
  rcases ho.2 with ⟨rfl, _⟩ | ⟨g, cap, cur, rfl, _, hg, _⟩
  · cases hk
  · obtain rfl : g = k := by simpa [Value.ownBlock] using hk
    exact blk_lt hg
theorem RepL.or {Y Y' : Nat → Prop} {B : Nat} {W : World} {p : Nat} {s : AD} (h : RepL Y B W p s) (hY : ∀ k, Y' k → Y k ∨ W.heap.size ≤ k) : RepL Y' B W p s := by
  obtain ⟨v0, v1, u0, u1, lo, h, hl⟩ := h
  refine ⟨v0, v1, u0, u1, lo, h, fun k hk hy => ?_⟩
  rcases hY k hy with h1 | h1
  · exact hl k hk h1
  · have := h.hl.own_at k hk; omega
theorem Rep.freshL {Y : Nat → Prop} {B : Nat} {W : World} {p : Nat} {s : AD} (h : Rep B W p s) (hY : ∀ k, Y k → W.heap.size ≤ k) : RepL Y B W p s := by
  obtain ⟨v0, v1, u0, u1, lo, h⟩ := h
  exact ⟨v0, v1, u0, u1, lo, h, fun k hk hy => by have := hY k hy; have := h.hl.own_at k hk; omega⟩
/-- all but the disk's own block and its row of loose changes stays -/
def FrameL (lo : Value) (p : Nat) (W W' : World) : Prop := W.heap.size ≤ W'.heap.size ∧ ∀ k, k < W.heap.size → k ≠ p → lo.ownBlock ≠ some k → W'.heap[k]? = W.heap[k]?
theorem FrameL.trans {lo : Value} {p : Nat} {W W1 W2 : World} (h : FrameL lo p W W1) (k : FrameL lo p W1 W2) : FrameL lo p W W2 :=
  ⟨Nat.le_trans h.1 k.1, fun q hq hp hl => (k.2 q (Nat.lt_of_lt_of_le hq h.1) hp hl).trans (h.2 q hq hp hl)⟩
theorem FrameL.below {lo : Value} {p : Nat} {W W' : World} (h : Below W.heap.size W W') : FrameL lo p W W' := ⟨h.size, fun q hq _ _ => h.block q hq⟩
theorem FrameL.grown {lo : Value} {p : Nat} {W W' : World} (h : W.grownBy W' (some p)) : FrameL lo p W W' := ⟨h.size, fun q hq hp _ => h.block q hq (fun he => hp (Option.some.inj he))⟩
theorem FrameL.row {lo : Value} {p : Nat} {W W' : World} (h : W.grownBy W' lo.ownBlock) : FrameL lo p W W' := ⟨h.size, fun q hq _ hl => h.block q hq (fun he => hl he.symm)⟩
/-- these blocks stay -/
def Kp (Y : Nat → Prop) (p : Nat) (W W' : World) : Prop := ∀ k, Y k → k ≠ p → W'.heap[k]? = W.heap[k]?
theorem FrameL.kp {Y : Nat → Prop} {lo : Value} {p : Nat} {W W' : World} (h : FrameL lo p W W') (hl : Off Y lo) (hY : ∀ k, Y k → k < W.heap.size) : Kp Y p W W' := fun k hk hp => h.2 k (hY k hk) hp (fun he => hl k he hk)
theorem run_capped (ty : TypeId) {B : Nat} {W : World} {A A2 : Option Addr} {n c m c2 : Nat} {xs ys : List Int} (hB : B ≤ W.heap.size) (hx : BS B W (.slice A n c) xs) (hy : BS B W (.slice A2 m c2) ys) (hlen : xs.length + ys.length ≤ 1000000000) :
    ∃ v' w', (Builtin.append_ #[28, 28] ty #[.slice A n n, .slice A2 m c2]).run Try.prog W = .ok v' w' ∧ BS B w' v' (xs ++ ys) ∧ W.grownBy w' none ∧ ∀ k, v'.ownBlock = some k → (Value.slice A n c).ownBlock = some k ∨ W.heap.size ≤ k := by
  obtain ⟨i, hi, hz, hsz, hby⟩ := info_parts info5
  have lx := hx.length
  have ly := hy.length
  obtain ⟨l1, l2, l3⟩ := lx
  obtain ⟨m1, m2, m3⟩ := ly
  have hml : (maxLen : Nat) = 9223372036854775807 ∨ True := .inr trivial
  by_cases hm : m = 0
  · refine ⟨.slice A n n, W, ?_, ?_, ⟨rfl, rfl, rfl, Nat.le_refl _, fun _ _ _ => rfl⟩, fun k hk => .inl (by cases A <;> exact hk)⟩
    · have h0 : m = 0 := hm
      subst h0
      cases A <;> cases A2 <;> simp [Builtin.append_, run_underlying Try.underlying28, run_underlying Try.underlying5, sizeOf, typeInfo, hi, hsz, Builtin.lenOf, Builtin.firstCells, loadCells, loadCellsFrom, storeCells]
    · have : ys = [] := List.eq_nil_of_length_eq_zero (by omega)
      rw [this, List.append_nil]
      exact hx.cap
  · cases A2 with
    | none => exact absurd (m3 rfl).1 hm
    | some a2 =>
      have hnews := hy.cells a2 rfl
      cases A with
      | none =>
        obtain ⟨rfl, rfl⟩ := l3 rfl
        obtain rfl : xs = [] := List.eq_nil_of_length_eq_zero (by omega)
        obtain ⟨v', w', hrun, r1, r2, _⟩ := run_append_own (P := Try.prog) W W.heap.size 28 ty 5 i _ 1 1 Try.underlying28 hi hz hsz hby rfl (by decide) (.slice none 0 0) 0 [] ⟨by simp, .inl ⟨rfl, rfl⟩⟩ a2 m c2 (ys.map fun x => Value.int .u8 x) (by rw [List.length_map]; omega) hnews (by simp [Value.oneCell']) (by simp [maxLen]; omega) (by omega) (Nat.le_refl _)
        have hbs : BS W.heap.size w' v' ([] ++ ys) := BS.own ?_ (by simp; omega)
        refine ⟨v', w', hrun, hbs.lower hB, r2, fun k hk => .inr (hbs.own_at k hk).1⟩
        have : ([] ++ ys).length = 0 + m := by simp; omega
        rw [this, List.nil_append]
        rw [List.nil_append] at r1
        exact r1
      | some a1 =>
        have holds := hx.cells a1 rfl
        obtain ⟨v', w', hrun, r1, r2⟩ := run_append_arg_grows (P := Try.prog) W 28 ty 5 i _ 1 1 Try.underlying28 hi hz hsz hby rfl (by decide) a1 n n (xs.map fun x => Value.int .u8 x) (by rw [List.length_map]; omega) holds a2 m c2 (ys.map fun x => Value.int .u8 x) (by rw [List.length_map]; omega) hnews (by omega) (by simp [maxLen]; omega) (by omega)
        have hbs : BS W.heap.size w' v' (xs ++ ys) := BS.own ?_ (by simp; omega)
        refine ⟨v', w', hrun, hbs.lower hB, r2, fun k hk => .inr (hbs.own_at k hk).1⟩
        have : (xs ++ ys).length = n + m := by simp; omega
        rw [this, List.map_append]
        exact r1
theorem step_capped {B : Nat} {W : World} {ops : Array Oper} {o : Oper} {a : Act} {K : Act → World → Prop} {Q : Exit → Act → World → Prop} {E : Prop} (hgd : o.guard = none) (s x : Operand)
    (ho : o.op = .call { callee := .builtin .append, args := #[s, x], argTypes := #[28, 28] })
    {A A2 : Option Addr} {n c m c2 : Nat} {xs ys : List Int} (hs : a.eval s = .slice A n n) (hv : a.eval x = .slice A2 m c2) (hB : B ≤ W.heap.size) (hx : BS B W (.slice A n c) xs) (hy : BS B W (.slice A2 m c2) ys) (hlen : xs.length + ys.length ≤ 1000000000)
    (h : ∀ A' n' c' w', BS B w' (.slice A' n' c') (xs ++ ys) → W.grownBy w' none → (∀ k, (Value.slice A' n' c').ownBlock = some k → (Value.slice A n c).ownBlock = some k ∨ W.heap.size ≤ k) → K (a.put o.dst (.slice A' n' c')) w') :
    if Region.wanted o (yielded ops a.tmps) = true then Oper.wp Try.prog o a W K Q else E := by
  have hw : Region.wanted o (yielded ops a.tmps) = true := by simp [Region.wanted, hgd]
  rw [if_pos hw]
  obtain ⟨v', w', hr, h2, h3, h4⟩ := run_capped o.type hB hx hy hlen
  unfold Oper.wp execOp
  simp only [ho, resolve, invoke, builtin, Sem.run_bind, Sem.run_pure, Result.andThen_ok, List.map_toArray, List.map_cons, List.map_nil, hs, hv, hr]
  obtain ⟨A', c', rfl, _⟩ := id h2
  exact h _ _ _ w' h2 h3 h4
end Go.Proofs.Ytdbkedipfpepbaa.PWal
