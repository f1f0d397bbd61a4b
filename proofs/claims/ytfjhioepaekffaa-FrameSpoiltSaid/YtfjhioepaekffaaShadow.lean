/- Bytes appended to a slice of one's own: what stood in its block before still stands there, be it that the row grew in place, be it that it moved. Conditions: none. -/
import Derived.Maps.AppendAt
import Derived.Laws.Append
import Derived.Laws.AppendOwn
import Derived.Test.YtfjhioepaekffaaWWords
import Derived.Test.YtfjhioepaekffaaWLast
import Derived.Test.YtfjhioepaekffaaWMore
namespace Go.Proofs.Ytfjhioepaekffaa.Shadow
open Go.RowKit Go.Proofs.YtfjhioepaekffaaW.PrintWords Go.Proofs.YtfjhioepaekffaaW.PrintLast Go.Proofs.YtfjhioepaekffaaW.PrintMore
set_option linter.unusedVariables false
/-- the first m cells of block g are as they were -/
def Sh (w W : World) (g m : Nat) : Prop := ∀ j, j < m → W.cell? ⟨g, j, none⟩ = w.cell? ⟨g, j, none⟩
theorem Sh.refl (w : World) (g m : Nat) : Sh w w g m := fun _ _ => rfl
theorem Sh.trans {a b c : World} {g m : Nat} (h : Sh a b g m) (k : Sh b c g m) : Sh a c g m := fun j hj => (k j hj).trans (h j hj)
theorem cell_of_block {w W : World} {g : Nat} (h : W.heap[g]? = w.heap[g]?) (j : Nat) : W.cell? ⟨g, j, none⟩ = w.cell? ⟨g, j, none⟩ := World.cell?_of_block (a := ⟨g, j, none⟩) h
theorem Sh.of_block {w W : World} {g m : Nat} (h : W.heap[g]? = w.heap[g]?) : Sh w W g m := fun j _ => cell_of_block h j
theorem Sh.alloc {w W : World} {g m : Nat} (h : Sh w W g m) (hg : g < W.heap.size) (o : Obj) : Sh w (W.alloc o) g m := h.trans (Sh.of_block (by
  have := (below_alloc (Below.refl W.heap.size W) o).block g hg
  exact this))
theorem Sh.drewN {w W : World} {g m : Nat} (h : Sh w W g m) (n : Nat) : Sh w (W.drewN n) g m := h.trans fun j _ => by
  have := (pw_below_drewN (Below.refl ((⟨g, j, none⟩ : Addr).block + 1) W) n).cell (p := ⟨g, j, none⟩) (Nat.lt_succ_self _)
  exact this
theorem Sh.mono {w W : World} {g m n : Nat} (h : Sh w W g n) (hm : m ≤ n) : Sh w W g m := fun j hj => h j (Nat.lt_of_lt_of_le hj hm)
/-- a fresh box of one byte reads as a row of one -/
theorem C_box_at (W : World) (x : Int) (e : TypeId) (fr : Nat × Nat) : Kd.C (Kd.int .u8) (W.alloc (.cells #[.int .u8 x] e fr)) (some ⟨W.heap.size, 0, none⟩) 1 [x] := by
  refine ⟨rfl, by decide, fun _ => ⟨_, rfl, fun j p hj => ?_⟩⟩
  have hn := World.news_of_block (cs := #[Value.int .u8 x]) (t := e) (fr := fr) (heap_alloc_new W (.cells #[.int .u8 x] e fr))
  have hj0 : j = 0 := by have := (List.getElem?_eq_some_iff.1 hj).1; simpa using this
  subst hj0
  obtain rfl : x = p := by simpa using hj
  refine ⟨[.int .u8 x], rfl, rfl, fun i u hi => ?_⟩
  have hi0 : i = 0 := by have := (List.getElem?_eq_some_iff.1 hi).1; simpa using this
  subst hi0
  obtain rfl : Value.int .u8 x = u := by simpa using hi
  exact hn 0 _ rfl
theorem C_box (W : World) (x : Int) (e : TypeId) : Kd.C (Kd.int .u8) (W.alloc (.cells #[.int .u8 x] e)) (some ⟨W.heap.size, 0, none⟩) 1 [x] := C_box_at W x e (0, 0)
theorem add_zero_block (g j : Nat) : ((⟨g, 0, none⟩ : Addr).add j) = ⟨g, j, none⟩ := by unfold Addr.add; split <;> simp_all
section
variable {P : Program} {ops : Array Oper} {rest : List Oper} {o : Oper} {a : Act} {Q : Exit → Act → World → Prop}
theorem R_append_sh {w0 W : World} (base : Nat) (hgd : o.guard = none) (s x : Operand) (t e : TypeId)
    (ho : o.op = .call { callee := .builtin .append, args := #[s, x], argTypes := #[t, t] })
    (ht : P.underlying t = some (.slice e)) (hinfo : (P.info? e).map (fun i => (i.zero, i.size, i.bytes)) = some (some (.int .u8 0), 1, 1))
    (v : Value) (xs ys : List Int) (A : Option Addr) (m c : Nat) (ok : Nat → Prop) (hs : a.eval s = v) (hx : a.eval x = .slice A m c)
    (HO : (Kd.int .u8).R e W base ok v xs) (HR : Kd.C (Kd.int .u8) W A m ys) (hfresh : ∀ k, W.heap.size ≤ k → ok k)
    (HB : Below base w0 W) (hbase : base ≤ W.heap.size) (hl : xs.length + m ≤ 140737488355328)
    (h : ∀ v1 w1, (Kd.int .u8).R e w1 base ok v1 (xs ++ ys) → Below base w0 w1 → W.grownBy w1 v.ownBlock → (v1.ownBlock = v.ownBlock ∨ ∃ b, v1.ownBlock = some b ∧ W.heap.size ≤ b) →
      (∀ g, g < W.heap.size → Sh W w1 g xs.length) → wpList P ops Q rest (a.put o.dst v1) w1) :
    wpList P ops Q (o :: rest) a W := by
  obtain ⟨i0, hi, hzz⟩ := Option.map_eq_some_iff.1 hinfo
  simp only [Prod.mk.injEq] at hzz
  obtain ⟨hz0, hz1, hz2⟩ := hzz
  have hown := Kd.own_of_R HO
  have hym : ys.length = m := HR.1
  cases A with
  | none =>
    have h0 : m = 0 := by
      rcases Nat.eq_zero_or_pos m with h0 | h0
      · exact h0
      · obtain ⟨ad, h, _⟩ := HR.2.2 h0; cases h
    subst h0
    obtain rfl : ys = [] := List.eq_nil_of_length_eq_zero hym
    have hrun : (Builtin.append_ #[t, t] o.type #[v, .slice none 0 c]).run P W = .ok v W := by
      rcases hown.2 with ⟨rfl, hn⟩ | ⟨g, cap, cur, rfl, _, _, hnc, _⟩
      · simp [Builtin.append_, run_underlying ht, sizeOf, typeInfo, hi, Builtin.lenOf, Builtin.firstCells]
      · simp [Builtin.append_, run_underlying ht, sizeOf, typeInfo, hi, Builtin.lenOf, Builtin.firstCells, hnc, storeCells]
    refine wpList_plain hgd fun K hK => ?_
    unfold Oper.wp execOp
    simp only [ho, resolve, invoke, builtin, Sem.run_bind, Sem.run_pure, Result.andThen_ok, List.map_toArray, List.map_cons, List.map_nil, hs, hx, hrun]
    exact hK _ _ (h v W (by rw [List.append_nil]; exact HO) HB (World.grownBy.refl W _) (.inl rfl) (fun g _ => Sh.refl _ _ _))
  | some ad =>
    have hnews : ∀ j u, (encs (Value.int .u8) ys)[j]? = some u → W.cell? (ad.add j) = some u := by
      intro j u hu
      have hj : j < ys.length := by have := (List.getElem?_eq_some_iff.1 hu).1; simpa [encs] using this
      obtain ⟨ad', e', hx'⟩ := Kd.at_int HR (j : Int) (by omega) (by omega)
      obtain rfl := Option.some.inj e'
      rw [Int.toNat_natCast] at hx'
      rw [hx', ← hu]
      simp [encs, rd, List.getD_eq_getElem?_getD, hj]
    have hnl : (encs (Value.int .u8) ys).length = m * 1 := by simp [encs, hym]
    have h1 : ∀ u ∈ encs (Value.int .u8) ys, u.oneCell' = true := by
      intro u hu
      obtain ⟨q, _, rfl⟩ := List.mem_map.1 hu
      rfl
    have hmax : xs.length + m ≤ maxLen := by simp only [maxLen]; omega
    obtain ⟨v1, w1, hrun, h2, hg, _, hat⟩ := run_append_own_at (P := P) W base t o.type e i0 (.int .u8 0) 1 1 ht hi hz0 hz1 hz2 rfl (by decide) v xs.length _ hown ad m c _ hnl hnews h1 hmax (by omega) hbase
    have hR1 : (Kd.int .u8).R e w1 base ok v1 (xs ++ ys) := by
      refine Kd.R_of_own (by simpa [encs, hym] using h2) fun k hk => ?_
      rcases hat with hat | hat
      · exact HO.1 k (hat ▸ hk)
      · rw [hat] at hk; obtain rfl := Option.some.inj hk; exact hfresh _ (Nat.le_refl _)
    have hat' : v1.ownBlock = v.ownBlock ∨ ∃ b, v1.ownBlock = some b ∧ W.heap.size ≤ b := hat.imp id fun h => ⟨_, h, Nat.le_refl _⟩
    have hsh : ∀ g, g < W.heap.size → Sh W w1 g xs.length := by
      intro g hgl j hj
      by_cases hgv : some g = v.ownBlock
      · rcases hat with hat | hat
        · have c1 := World.ownsRow.cells h2 (hat.trans hgv.symm) j (.int .u8 (xs[j])) (by rw [List.getElem?_append_left (by simp [encs, hj])]; simp [encs, hj])
          have c0 := World.ownsRow.cells hown hgv.symm j (.int .u8 (xs[j])) (by simp [encs, hj])
          rw [add_zero_block] at c0 c1
          rw [c0, c1]
        · have hown2 := hown
          rcases hown.2 with ⟨rfl, hn⟩ | ⟨g', cap, cur, rfl, hbg, hgg, hnc, hcm, hcs, htake⟩
          · simp [Value.ownBlock] at hgv
          · obtain rfl : g = g' := by simpa [Value.ownBlock] using hgv
            by_cases hroom : xs.length + m ≤ cap
            · have hr := run_append_room (P := P) W t o.type e i0 ht hi g xs.length cap cur hgg ad m c _ (by rw [hz1]; exact hnl) hnews h1 hroom (by rw [hz1, hnl, hcs]; omega)
              rw [hrun] at hr
              injection hr with hv hw
              rw [hv] at hat
              have : g = W.heap.size := by simpa [Value.ownBlock] using hat
              omega
            · have hr := run_append_grow (P := P) W t o.type e i0 (.int .u8 0) ht hi hz0 ⟨g, 0, none⟩ xs.length cap _ (by rw [hz1]; simp [encs]) (World.ownsRow.cells hown2 hgv.symm) ad m c _ (by rw [hz1]; exact hnl) hnews (by omega) (by omega) (growslice_fits (by omega) (by rw [hz2]; omega))
              rw [hrun] at hr
              injection hr with hv hw
              subst hw
              exact cell_of_block (by
                have := (below_alloc (pw_below_drewN (Below.refl W.heap.size W) 1) (.cells ((encs (Value.int .u8) xs).toArray ++ (encs (Value.int .u8) ys).toArray ++ Builtin.zeroCells (Value.int .u8 0).cells (grownCap W (xs.length + m) cap e - (xs.length + m))) e)).block g hgl
                exact this) j
      · exact cell_of_block (hg.block g hgl hgv) j
    refine wpList_plain hgd fun K hK => ?_
    unfold Oper.wp execOp
    simp only [ho, resolve, invoke, builtin, Sem.run_bind, Sem.run_pure, Result.andThen_ok, List.map_toArray, List.map_cons, List.map_nil, hs, hx, hrun]
    exact hK _ _ (h v1 w1 hR1 (HB.grown hg hbase (own_base hown)) hg hat' hsh)
end
end Go.Proofs.Ytfjhioepaekffaa.Shadow
