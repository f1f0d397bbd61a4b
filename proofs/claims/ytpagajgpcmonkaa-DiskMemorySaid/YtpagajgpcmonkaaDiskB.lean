import Derived.Test.YtpagajgpcmonkaaDiskA
import Derived.Deep.DrawnRows
namespace Go.Proofs.Ytpagajgpcmonkaa.PDisk
open Go.RowKit Go.Proofs.YtpagajgpcmonkaaW.PrintWords Go.Proofs.YtpagajgpcmonkaaW.PrintLast Go.Proofs.YtpagajgpcmonkaaW.PrintMore
set_option linter.unusedVariables false
set_option linter.unusedSimpArgs false
/-- the cells of bytes -/
theorem BS.cells {B : Nat} {W : World} {A : Option Addr} {n c : Nat} {bs : List Int} (h : BS B W (.slice A n c) bs) (b : Addr) (hA : A = some b) : ∀ j u, (bs.map fun x => Value.int .u8 x)[j]? = some u → W.cell? (b.add j) = some u := by
  obtain ⟨A', c', e, hl, hmx, h⟩ := h
  injection e with e1 e2 e3
  subst e1
  intro j u hj
  rcases h with ⟨rfl, _⟩ | ⟨g, cs, rfl, hB, hg, hc⟩
  · cases hA
  · obtain rfl := Option.some.inj hA
    rw [List.getElem?_map] at hj
    obtain ⟨x, hx, rfl⟩ := Option.map_eq_some_iff.1 hj
    rw [add_plain, blk_cell hg, hc j x hx]
theorem BS.length {B : Nat} {W : World} {A : Option Addr} {n c : Nat} {bs : List Int} (h : BS B W (.slice A n c) bs) : n = bs.length ∧ n ≤ c ∧ (A = none → n = 0 ∧ c = 0) := by
  obtain ⟨A', c', e, hl, hmx, h⟩ := h
  injection e with e1 e2 e3
  subst e1; subst e2; subst e3
  refine ⟨rfl, hl, fun hA => ?_⟩
  rcases h with ⟨_, rfl⟩ | ⟨g, cs, rfl, hB, hg, hc⟩
  · exact ⟨by omega, rfl⟩
  · cases hA
theorem BS.cap {B : Nat} {W : World} {A : Option Addr} {n c : Nat} {bs : List Int} (h : BS B W (.slice A n c) bs) : BS B W (.slice A n n) bs := by
  obtain ⟨A', c', e, hl, hmx, h⟩ := h
  injection e with e1 e2 e3
  subst e1; subst e2; subst e3
  refine ⟨A, _, rfl, Nat.le_refl _, hmx, ?_⟩
  rcases h with ⟨rfl, rfl⟩ | ⟨g, cs, rfl, hB, hg, hc⟩
  · exact .inl ⟨rfl, by omega⟩
  · exact .inr ⟨g, cs, rfl, hB, hg, hc⟩
theorem Keeps.none {t : Nat} {W W' : World} (h : W.grownBy W' none) : Keeps t W W' := fun g cs hg => (h.block g (blk_lt hg) (by simp)).trans hg
theorem run_capped (ty : TypeId) {B : Nat} {W : World} {A A2 : Option Addr} {n c m c2 : Nat} {xs ys : List Int} (hB : B ≤ W.heap.size) (hx : BS B W (.slice A n c) xs) (hy : BS B W (.slice A2 m c2) ys) (hlen : xs.length + ys.length ≤ 1000000000) :
    ∃ v' w', (Builtin.append_ #[22, 22] ty #[.slice A n n, .slice A2 m c2]).run Try.prog W = .ok v' w' ∧ BS B w' v' (xs ++ ys) ∧ W.grownBy w' none := by
  obtain ⟨i, hi, hz, hsz, hby⟩ := info_parts info5
  have lx := hx.length
  have ly := hy.length
  obtain ⟨l1, l2, l3⟩ := lx
  obtain ⟨m1, m2, m3⟩ := ly
  have hml : (maxLen : Nat) = 9223372036854775807 ∨ True := .inr trivial
  by_cases hm : m = 0
  · refine ⟨.slice A n n, W, ?_, ?_, ⟨rfl, rfl, rfl, Nat.le_refl _, fun _ _ _ => rfl⟩⟩
    · have h0 : m = 0 := hm
      subst h0
      cases A <;> cases A2 <;> simp [Builtin.append_, run_underlying Try.underlying22, run_underlying Try.underlying5, sizeOf, typeInfo, hi, hsz, Builtin.lenOf, Builtin.firstCells, loadCells, loadCellsFrom, storeCells]
    · have : ys = [] := List.eq_nil_of_length_eq_zero (by omega)
      rw [this, List.append_nil]
      exact hx.cap
  · cases A2 with
    | none => exact absurd (m3 rfl).1 hm
    | some a2 =>
      have hnews := hy.cells a2 rfl
      cases A with
      | none =>
        obtain ⟨rfl, rfl⟩ := l3 rfl
        obtain rfl : xs = [] := List.eq_nil_of_length_eq_zero (by omega)
        obtain ⟨v', w', hrun, r1, r2, _⟩ := run_append_own (P := Try.prog) W B 22 ty 5 i _ 1 1 Try.underlying22 hi hz hsz hby rfl (by decide) (.slice none 0 0) 0 [] ⟨by simp, .inl ⟨rfl, rfl⟩⟩ a2 m c2 (ys.map fun x => Value.int .u8 x) (by rw [List.length_map]; omega) hnews (by simp [Value.oneCell']) (by simp [maxLen]; omega) (by omega) hB
        refine ⟨v', w', hrun, BS.own ?_ (by simp; omega), r2⟩
        have : ([] ++ ys).length = 0 + m := by simp; omega
        rw [this, List.nil_append]
        rw [List.nil_append] at r1
        exact r1
      | some a1 =>
        have holds := hx.cells a1 rfl
        obtain ⟨v', w', hrun, r1, r2⟩ := run_append_arg_grows (P := Try.prog) W 22 ty 5 i _ 1 1 Try.underlying22 hi hz hsz hby rfl (by decide) a1 n n (xs.map fun x => Value.int .u8 x) (by rw [List.length_map]; omega) holds a2 m c2 (ys.map fun x => Value.int .u8 x) (by rw [List.length_map]; omega) hnews (by omega) (by simp [maxLen]; omega) (by omega)
        refine ⟨v', w', hrun, BS.lower (BS.own ?_ (by simp; omega)) hB, r2⟩
        have : (xs ++ ys).length = n + m := by simp; omega
        rw [this, List.map_append]
        exact r1
theorem step_capped {B : Nat} {W : World} {ops : Array Oper} {o : Oper} {a : Act} {K : Act → World → Prop} {Q : Exit → Act → World → Prop} {E : Prop} (hgd : o.guard = none) (s x : Operand)
    (ho : o.op = .call { callee := .builtin .append, args := #[s, x], argTypes := #[22, 22] })
    {A A2 : Option Addr} {n c m c2 : Nat} {xs ys : List Int} (hs : a.eval s = .slice A n n) (hv : a.eval x = .slice A2 m c2) (hB : B ≤ W.heap.size) (hx : BS B W (.slice A n c) xs) (hy : BS B W (.slice A2 m c2) ys) (hlen : xs.length + ys.length ≤ 1000000000)
    (h : ∀ A' n' c' w', BS B w' (.slice A' n' c') (xs ++ ys) → W.grownBy w' none → K (a.put o.dst (.slice A' n' c')) w') :
    if Region.wanted o (yielded ops a.tmps) = true then Oper.wp Try.prog o a W K Q else E := by
  have hw : Region.wanted o (yielded ops a.tmps) = true := by simp [Region.wanted, hgd]
  rw [if_pos hw]
  obtain ⟨v', w', hr, h2, h3⟩ := run_capped o.type hB hx hy hlen
  unfold Oper.wp execOp
  simp only [ho, resolve, invoke, builtin, Sem.run_bind, Sem.run_pure, Result.andThen_ok, List.map_toArray, List.map_cons, List.map_nil, hs, hv, hr]
  obtain ⟨A', c', rfl, _⟩ := id h2
  exact h _ _ _ w' h2 h3
end Go.Proofs.Ytpagajgpcmonkaa.PDisk
