-- Written for this claim by the session's own driver of the kit's printer (mprint.py).
import Derived.Test.YtaphejpphlcchaaPNetx0
import Derived.Test.YtaphejpphlcchaaPNetx1
namespace Go.Proofs.Ytaphejpphlcchaa.PNet
open Go.RowKit Go.Proofs.YtaphejpphlcchaaW.PrintWords Go.Proofs.YtaphejpphlcchaaW.PrintLast Go.Proofs.YtaphejpphlcchaaW.PrintMore
attribute [local go_sem] max2_int min2_int max_two min_two max_three min_three max_four min_four   -- for this text's walks alone
set_option linter.unusedVariables false
set_option linter.unusedSimpArgs false

theorem add_at0 (g j : Nat) : (⟨g, 0, none⟩ : Addr).add j = ⟨g, j, none⟩ := add_plain g j
theorem run_clear {P : Program} (w : World) (t ty e : TypeId) (ht : P.underlying t = some (.slice e)) (zv : Value) (hz : (zeroValue e).run P w = .ok zv w) (g o n c : Nat) (hn : 0 < n) (cur : Array Value)
    (hh : w.heap[g]? = some (.cells cur e (0, 0))) (hfit : o + (Builtin.zeroCells zv.cells n).size ≤ cur.size) (h1 : ∀ u ∈ (Builtin.zeroCells zv.cells n).toList, u.oneCell' = true) :
    (Builtin.clear_ #[t] ty #[.slice (some ⟨g, o, none⟩) n c]).run P w = .ok (.tuple #[]) (w.setCells g o (Builtin.zeroCells zv.cells n).toList) := by
  have hst := run_storeCells_cells (P := P) g o (Builtin.zeroCells zv.cells n).toList 0 w (fun j hj => by rw [cell_of_row w g _ cur e (0, 0) hh]; simp; simp at hj; omega) (fun j _ => blk_frozen hh _) h1
  simp only [Nat.add_zero] at hst
  obtain ⟨m, rfl⟩ : ∃ m, n = m + 1 := ⟨n - 1, by omega⟩
  simp [Builtin.clear_, run_underlying ht, hz, hst]
theorem R_row {α : Type} {d : Kd α} {e base g n cap : Nat} {ok : Nat → Prop} {W : World} {xs : List α} (h : d.R e W base ok (.slice (some ⟨g, 0, none⟩) n cap) xs) : ∃ cur, W.heap[g]? = some (.cells cur e (0, 0)) ∧ cur.size = cap * d.sz ∧ n = xs.length ∧ n ≤ cap := by
  have hn : n = xs.length := (Kd.R_reads' h).1
  obtain ⟨_, _, ⟨_, ho2⟩, _⟩ := id h
  rcases ho2 with ⟨hv, _⟩ | ⟨g', cap', cur, hv, _, hh, hnc, _, hcs, _⟩
  · cases hv
  injection hv with ha _ hc
  injection ha with ha
  injection ha with hg
  subst hg; subst hc
  exact ⟨cur, hh, hcs, hn, by omega⟩
/-- the spare behind a row of one's own, written -/
theorem R_spare {α : Type} {d : Kd α} {e base g n cap : Nat} {ok : Nat → Prop} {W : World} {xs : List α} (h : d.R e W base ok (.slice (some ⟨g, 0, none⟩) n cap) xs) (vs : List Value) (hvs : n * d.sz + vs.length ≤ cap * d.sz) :
    d.R e (W.setCells g (n * d.sz) vs) base ok (.slice (some ⟨g, 0, none⟩) n cap) xs ∧ W.grownBy (W.setCells g (n * d.sz) vs) (some g) := by
  have hn : n = xs.length := (Kd.R_reads' h).1
  obtain ⟨hok, inner, ho, hr⟩ := h
  obtain ⟨hs1, hs2, hs3, hs4⟩ := setCells_same g vs (n * d.sz) W
  have hG : W.grownBy (W.setCells g (n * d.sz) vs) (some g) := ⟨hs1, hs2, hs3, by omega, fun k _ hk => setCells_far vs _ k (fun he => hk (by rw [he]))⟩
  refine ⟨⟨hok, inner, ?_, ?_⟩, hG⟩
  · obtain ⟨ho1, ho2⟩ := ho
    refine ⟨ho1, ?_⟩
    rcases ho2 with ⟨hv, _⟩ | ⟨g', cap', cur, hv, hb, hh, hnc, hcm, hcs, htk⟩
    · cases hv
    have hv0 := hv
    injection hv with ha _ hc
    injection ha with ha
    injection ha with hg
    subst hg; subst hc
    obtain ⟨cur', h3, h4, h5⟩ := setCells_row vs (n * d.sz) W cur hh (by omega)
    refine .inr ⟨g, cap, cur', hv0, hb, h3, hnc, hcm, by rw [h4, hcs], ?_⟩
    have hnl : xs.length * d.sz = n * d.sz := by rw [hn]
    rw [hnl] at htk ⊢
    have hle : n * d.sz ≤ cap * d.sz := Nat.mul_le_mul_right _ (by omega)
    rw [h5, List.append_assoc, List.take_append_of_le_length (by rw [List.length_take, Array.length_toList]; omega), List.take_take, Nat.min_self, htk]
  · exact hr.imp_ (fun _ _ hp => d.M_move (fun k hk => setCells_far vs _ k (fun he => hk.2 (by simp [Value.ownBlock, he]))) hp)
theorem zero29_one (m : Nat) : ∀ u ∈ (Builtin.zeroCells (Value.agg #[.int .i64 0, .int .i64 0, .slice none 0 0]).cells m).toList, u.oneCell' = true := by
  intro u hu
  simp only [Builtin.zeroCells, Array.toList_map, List.mem_map] at hu
  obtain ⟨q, _, rfl⟩ := hu
  have h3 : q % 3 = 0 ∨ q % 3 = 1 ∨ q % 3 = 2 := by omega
  rcases h3 with h | h | h <;> simp [Value.cells, h, Value.oneCell']
theorem zero29_len (m : Nat) : (Builtin.zeroCells (Value.agg #[.int .i64 0, .int .i64 0, .slice none 0 0]).cells m).size = m * 3 := by simp [Builtin.zeroCells, Value.cells]

set_option maxHeartbeats 8000000 in
set_option maxRecDepth 100000 in
theorem delete_calls {α : Type} (d : Kd α) (hsz : d.sz = 3) (g c i m : Nat) (xs : List α) (base : Nat) (ok : Nat → Prop) (w : World) (ho : d.R 29 w base ok (.slice (some ⟨g, 0, none⟩) (m + 1) c) xs) (hi : i < m + 1) (hbase : base ≤ w.heap.size) :
    Calls Try.prog 23 #[.slice (some ⟨g, 0, none⟩) (m + 1) c, .int .i64 i, .int .i64 ((i : Int) + 1)] w fun e w' => e = .returned (.slice (some ⟨g, 0, none⟩) m c) ∧ d.R 29 w' base ok (.slice (some ⟨g, 0, none⟩) m c) (xs.eraseIdx i) ∧ w.grownBy w' (some g) := by
  obtain ⟨hlen, hc, hC⟩ := Kd.R_reads' ho
  have hle : m + 1 ≤ 9223372036854775807 := by have := hC.2.1; omega
  have HO := Aside0.mk ho
  have HB := Aside0.mk hbase
  have HLEN := Aside0.mk hlen
  clear ho hC hbase hlen
  have h1 : ((i : Int) == (i : Int) + 1) = false := by rw [beq_eq_false_iff_ne]; omega
  obtain ⟨i0, hi0, hzz⟩ := Option.map_eq_some_iff.1 info29
  simp only [Prod.mk.injEq] at hzz
  have hi29 : (Try.prog.info? 29).map (·.size) = some d.sz := by rw [hi0, Option.map_some, hzz.2.1, hsz]
  obtain ⟨B, hB, hcut⟩ : ∃ B, B = (if c = i + 1 then some ⟨g, 0, none⟩ else (some (⟨g, 0, none⟩ : Addr)).map (·.add ((i + 1) * d.sz))) ∧ ∀ W : World, (Instr.slice 22 (.slice (some ⟨g, 0, none⟩) (m + 1) c) (some (.int .i64 ((i : Int) + 1))) none none).run Try.prog W = .ok (.slice B (m + 1 - (i + 1)) (c - (i + 1))) W :=
    ⟨_, rfl, fun W => by
      have := cut_from (P := Try.prog) 22 29 .i64 Try.underlying22 hi0 3 hzz.2.1 (some ⟨g, 0, none⟩) (m + 1) c ((i : Int) + 1) (by omega) (by omega) W
      rw [show ((i : Int) + 1).toNat = i + 1 by omega] at this
      rw [this, hsz]⟩
  have HBB := Aside0.mk hB
  have HI := Aside0.mk hi29
  have hn1 : (i : Int) ≤ (m + 1 : Nat) := by omega
  have hn2 : (i : Int) + 1 ≤ (m + 1 : Nat) := by omega
  have hn3 : (i : Int) ≤ c := by omega
  have hn4 : (0 : Int) ≤ (i : Int) + 1 := by omega
  clear hB hi29
  go_enter Try.func23, Try.ntmps23
  go_wp2
  go_region_law (refine Kd.R_delete_step d (w0 := w) base (by rfl) (.tmp 22) (.tmp 25) 22 29 rfl Try.underlying22 HI.out (g := g) (n := m + 1) (c := c) (k := i) rfl rfl HBB.out (show m - i = m + 1 - (i + 1) by omega) (Kd.R_below HO.out (below_drew (Below.refl _ _))) hi (below_drew (Below.refl _ _)) HB.out ?_; intro w1 hr1 hb1 hg1; have HR1 := Aside0.mk hr1; have HG1 := Aside0.mk (World.grownBy.trans (grown_of_below (below_drew (Below.refl w.heap.size w)) (some g)) hg1); clear hr1 hb1 hg1)
  clear hcut
  simp only [Nat.add_sub_cancel] at HR1
  have HR2 := R_spare HR1.out (Builtin.zeroCells (Value.agg #[.int .i64 0, .int .i64 0, .slice none 0 0]).cells 1).toList (by rw [Array.length_toList, zero29_len, hsz]; omega)
  obtain ⟨cur, hh, hcs, -, -⟩ := R_row HR1.out
  rw [hsz] at HR2 hcs
  have hclr := run_clear (P := Try.prog) w1 22 0 29 Try.underlying22 (.agg #[.int .i64 0, .int .i64 0, .slice none 0 0]) (by kernel_rfl) g (m * 3) 1 (c - m) (by decide) cur hh (by rw [zero29_len, hcs]; omega) (zero29_one 1)
  generalize w1.setCells g (m * 3) (Builtin.zeroCells (Value.agg #[.int .i64 0, .int .i64 0, .slice none 0 0]).cells 1).toList = w2 at HR2 hclr
  have HR3 := Aside0.mk HR2.1
  have HG3 := Aside0.mk (World.grownBy.trans HG1.out HR2.2)
  have hm1 : (m : Int) ≤ (m : Int) + 1 := by omega
  have hm2 : (m : Int) + 1 ≤ c := by omega
  have hm3 : c ≠ m := by omega
  have hcut : ∀ W : World, (Instr.slice 22 (.slice (some ⟨g, 0, none⟩) m c) (some (.int .i64 (m : Int))) (some (.int .i64 ((m : Int) + 1))) none).run Try.prog W = .ok (.slice (some ⟨g, m * 3, none⟩) 1 (c - m)) W := fun W => by
    have hel : Try.prog.elem 22 = 29 := by simp [Program.elem, Try.underlying22]
    rw [run_slice_lh W 22 (some ⟨g, 0, none⟩) m c (by rw [hel]; exact Try.underlying22) .i64 .i64 (m : Int) ((m : Int) + 1) (by omega) (by omega) (by omega), hel]
    simp [sizeOf, typeInfo, hi0, hzz.2.1, sliced, Result.andThen, hm3, add_plain]
  clear HR2 hh hcs HR1 HO
  go_wp2
  trace_state
  go_ret
  exact ⟨rfl, HR3.out, HG3.out⟩

section
variable {P : Program} {ops : Array Oper} {rest : List Oper} {o : Oper} {a : Act} {Q : Exit → Act → World → Prop} {W : World}
/-- a whole block is written -/
theorem put_event (hN : o.dst = none) (hgd : o.guard = none) (t : TypeId) (p x : Operand) (ho : o.op = .store t p x) {g : Nat} {cs cs' : Array Value} {e : TypeId} (haddr : a.eval p = .pointer (some ⟨g, 0, none⟩)) (u : Value) (hx : a.eval x = u) (hu : u.cells = cs')
    (ht : (P.info? t).map (·.size) = some cs'.toList.length) (h1 : ∀ q ∈ cs'.toList, q.oneCell' = true) (hb : W.heap[g]? = some (.cells cs e (0, 0))) (hsz : cs'.toList.length = cs.size)
    (h : ∀ W', W'.heap[g]? = some (.cells cs' e (0, 0)) → W.grownBy W' (some g) → wpList P ops Q rest a W') : wpList P ops Q (o :: rest) a W := by
  refine wpList_plain hgd fun K hK => ?_
  have hrun : (Instr.storeAt t (.pointer (some ⟨g, 0, none⟩)) u).run P W = .ok () (W.setCells g 0 cs'.toList) := run_store_run t u cs'.toList hb (by rw [hu]) ht (by omega) h1
  obtain ⟨cur', h3, h4, h5⟩ := setCells_row cs'.toList 0 W cs hb (by omega)
  obtain ⟨s1, s2, s3, s4⟩ := setCells_same g cs'.toList 0 W
  have hcur : cur' = cs' := by
    apply Array.ext'
    rw [h5, List.take_zero, List.nil_append, List.drop_eq_nil_of_le (by rw [Array.length_toList]; omega), List.append_nil]
  subst hcur
  unfold Oper.wp execOp
  simp only [ho, haddr, hx, Sem.run_bind, Sem.run_pure, Result.andThen_ok, hrun]
  show K (a.put o.dst undef) _
  rw [hN]
  exact hK a _ (h _ h3 ⟨s1, s2, s3, by rw [s4]; exact Nat.le_refl _, fun k _ hk => setCells_far _ _ k (fun he => hk (by rw [he]))⟩)
/-- one cell of a block is written -/
theorem put_field (hN : o.dst = none) (hgd : o.guard = none) (t : TypeId) (p x : Operand) (ho : o.op = .store t p x) {g j : Nat} {cs : Array Value} {e : TypeId} (haddr : a.eval p = .pointer (some ⟨g, j, none⟩)) (u : Value) (hx : a.eval x = u) (hu : u.cells = #[u])
    (ht : (P.info? t).map (·.size) = some 1) (h1 : u.oneCell' = true) (hb : W.heap[g]? = some (.cells cs e (0, 0))) (hj : j < cs.size)
    (h : ∀ W', W'.heap[g]? = some (.cells (cs.setIfInBounds j u) e (0, 0)) → W.grownBy W' (some g) → wpList P ops Q rest a W') : wpList P ops Q (o :: rest) a W := by
  refine wpList_plain hgd fun K hK => ?_
  have hrun : (Instr.storeAt t (.pointer (some ⟨g, j, none⟩)) u).run P W = .ok () (W.setCells g j [u]) := run_store_run t u [u] hb (by rw [hu]) ht (by simp; omega) (by simpa using h1)
  obtain ⟨s1, s2, s3, s4⟩ := setCells_same g [u] j W
  unfold Oper.wp execOp
  simp only [ho, haddr, hx, Sem.run_bind, Sem.run_pure, Result.andThen_ok, hrun]
  show K (a.put o.dst undef) _
  rw [hN]
  exact hK a _ (h _ (blk_set hb j u) ⟨s1, s2, s3, by rw [s4]; exact Nat.le_refl _, fun k _ hk => setCells_far _ _ k (fun he => hk (by rw [he]))⟩)
end
theorem blk_b {w w1 : World} {g : Nat} {o : Obj} (h : w.heap[g]? = some o) (hb : Below w.heap.size w w1) : w1.heap[g]? = some o := (hb.block g (blk_lt h)).trans h
theorem blk_g {w w1 : World} {g g' : Nat} {o : Obj} (h : w.heap[g]? = some o) (hg : w.grownBy w1 (some g')) (hne : g ≠ g') : w1.heap[g]? = some o := (hg.block g (blk_lt h) (fun he => hne (Option.some.inj he))).trans h
theorem below_g {B : Nat} {w w1 w2 : World} {g : Nat} (h : Below B w w1) (hg : w1.grownBy w2 (some g)) (hB : B ≤ w1.heap.size) (hge : B ≤ g) : Below B w w2 := pw_below_grown h _ hB hg (fun k hk => by cases hk; exact hge)
theorem tag_off {α : Type} {d : Kd α} {f : Nat → Nat} {e base : Nat} {ok okq : Nat → Prop} {w : World} {v : Value} {zs : List (α × Nat)} (h : (Kd.tag f d).R e w base ok v zs) (i : Nat) (hz : ∀ z ∈ zs, z.2 ≠ i) (hv : ∀ k, v.ownBlock = some k → okq k) (hq : ∀ k, f k ≠ i → okq k) :
    (Kd.tag f d).R e w base (fun k => ok k ∧ okq k) v zs := by
  obtain ⟨h0, inner, ho, hr⟩ := h
  refine ⟨fun k hk => ⟨h0 k hk, hv k hk⟩, inner, ho, hr.1, fun j p hj => ?_⟩
  have hm := hr.2 j p hj
  have hp : p.2 ≠ i := hz p (List.mem_of_getElem? hj)
  exact d.M_mono (fun k hk => ⟨⟨⟨hk.1.1, hq k (fun he => hp (hk.2.symm.trans he))⟩, hk.1.2⟩, hk.2⟩) hm
theorem erase_zip {α : Type} (xs : List α) (i : Nat) : ∀ z ∈ xs.zipIdx.eraseIdx i, z.2 ≠ i := by
  intro z hz
  obtain ⟨j, hj⟩ := List.getElem?_of_mem hz
  rw [List.getElem?_eraseIdx] at hj
  split at hj
  · rw [List.getElem?_zipIdx, Nat.zero_add] at hj
    obtain ⟨q, _, rfl⟩ := Option.map_eq_some_iff.1 hj
    show j ≠ i
    omega
  · rw [List.getElem?_zipIdx, Nat.zero_add] at hj
    obtain ⟨q, _, rfl⟩ := Option.map_eq_some_iff.1 hj
    show j + 1 ≠ i
    omega

/-- the blocks of the results, as they lie until they are written -/
structure T2 (w W : World) (g4 g5 : Nat) : Prop where
  b4 : W.heap[g4]? = some (.cells #[.int .i64 0, .int .i64 0, .slice none 0 0] 29 (0, 0))
  b5 : W.heap[g5]? = some (.cells #[.int .i64 0, .slice none 0 0] 24 (0, 0))
  hb : Below w.heap.size w W
  h4 : w.heap.size ≤ g4
  h45 : g4 < g5
theorem T2.below {w W W1 : World} {g4 g5 : Nat} (h : T2 w W g4 g5) (hb1 : Below W.heap.size W W1) : T2 w W1 g4 g5 := ⟨blk_b h.b4 hb1, blk_b h.b5 hb1, below_step h.hb hb1, h.h4, h.h45⟩
theorem T2.grown {w W W1 : World} {g4 g5 g : Nat} (h : T2 w W g4 g5) (hg1 : W.grownBy W1 (some g)) (hg : g5 < g) : T2 w W1 g4 g5 :=
  ⟨blk_g h.b4 hg1 (by have := h.h45; omega), blk_g h.b5 hg1 (by omega), below_g h.hb hg1 h.hb.size (by have := h.h4; have := h.h45; omega), h.h4, h.h45⟩
theorem T2.lt {w W : World} {g4 g5 : Nat} (h : T2 w W g4 g5) : g5 < W.heap.size := blk_lt h.b5

theorem final2 {w W : World} {g4 g5 : Nat} (h : T2 w W g4 g5) (x y : Int) (v : Value) (n : Int) (u : Value) :
    (((((((W.setCell ⟨g4, 0, none⟩ (.int .i64 x)).setCell ⟨g4, 1, none⟩ (.int .i64 y)).setCell ⟨g4, 2, none⟩ v).setCell ⟨g5, 0, none⟩ (.int .i64 n)).setCell ⟨g5, 1, none⟩ u).drew).heap[g4]? = some (.cells #[.int .i64 x, .int .i64 y, v] 29 (0, 0))) ∧
    (((((((W.setCell ⟨g4, 0, none⟩ (.int .i64 x)).setCell ⟨g4, 1, none⟩ (.int .i64 y)).setCell ⟨g4, 2, none⟩ v).setCell ⟨g5, 0, none⟩ (.int .i64 n)).setCell ⟨g5, 1, none⟩ u).drew).heap[g5]? = some (.cells #[.int .i64 n, u] 24 (0, 0))) ∧
    Below w.heap.size w ((((((W.setCell ⟨g4, 0, none⟩ (.int .i64 x)).setCell ⟨g4, 1, none⟩ (.int .i64 y)).setCell ⟨g4, 2, none⟩ v).setCell ⟨g5, 0, none⟩ (.int .i64 n)).setCell ⟨g5, 1, none⟩ u).drew) := by
  have h4 := h.h4
  have h45 := h.h45
  refine ⟨?_, ?_, ?_⟩
  · exact blk_drew (blk_far (p := ⟨g5, 1, none⟩) (blk_far (p := ⟨g5, 0, none⟩) (blk_set (blk_set (blk_set h.b4 0 (.int .i64 x)) 1 (.int .i64 y)) 2 v) (by show g4 ≠ g5; omega) _) (by show g4 ≠ g5; omega) _)
  · exact blk_drew (blk_set (blk_set (blk_far (p := ⟨g4, 2, none⟩) (blk_far (p := ⟨g4, 1, none⟩) (blk_far (p := ⟨g4, 0, none⟩) h.b5 (by show g5 ≠ g4; omega) _) (by show g5 ≠ g4; omega) _) (by show g5 ≠ g4; omega) _) 0 (.int .i64 n)) 1 u)
  · exact below_drew (below_set (below_set (below_set (below_set (below_set h.hb h.h4) h.h4) h.h4) (by omega)) (by omega))
theorem final2_far {w W : World} {g4 g5 : Nat} (h : T2 w W g4 g5) (x y : Int) (v : Value) (n : Int) (u : Value) (k : Nat) (hk : g5 < k) :
    ((((((W.setCell ⟨g4, 0, none⟩ (.int .i64 x)).setCell ⟨g4, 1, none⟩ (.int .i64 y)).setCell ⟨g4, 2, none⟩ v).setCell ⟨g5, 0, none⟩ (.int .i64 n)).setCell ⟨g5, 1, none⟩ u).drew).heap[k]? = W.heap[k]? := by
  have h45 := h.h45
  have e : ∀ X : World, X.drew.heap = X.heap := fun _ => rfl
  have n4 : ∀ j, k ≠ (⟨g4, j, none⟩ : Addr).block := fun j => by intro he; have he' : k = g4 := he; omega
  have n5 : ∀ j, k ≠ (⟨g5, j, none⟩ : Addr).block := fun j => by intro he; have he' : k = g5 := he; omega
  rw [e, Below.heap_setCell _ _ _ k (n5 1), Below.heap_setCell _ _ _ k (n5 0), Below.heap_setCell _ _ _ k (n4 2), Below.heap_setCell _ _ _ k (n4 1), Below.heap_setCell _ _ _ k (n4 0)]
theorem nil_S {e base n c : Nat} {A : Option Addr} {ok ok' : Nat → Prop} {W : World} (h : Kd.R k29 e W base ok (.slice A n c) []) (hok : ∀ k, (Value.slice A n c).ownBlock = some k → ok' k) : Kd.S k29 e W base ok' (.slice A n c) [] := by
  obtain ⟨_, inner, ho, _⟩ := h
  exact ⟨fun _ => 0, hok, inner, ho, by have := ho.1; simpa using this, fun j p hj => by simp at hj⟩

def takeF (k : Nat) (a0 : Int) (l : List S29) (i : Int) : Option (Int × Int × List Int × Int × (List (S29)) × Bool) :=
  (net_copied.f k a0 l).bind fun r => if (r.2.length : Int) = 0 then some (0, 0, [], r.1, [], false) else
    if 0 ≤ Int.tmod i (r.2.length : Int) then some ((rd_T29 r.2 (Int.tmod i (r.2.length : Int))).f0, (rd_T29 r.2 (Int.tmod i (r.2.length : Int))).f1, (rd_T29 r.2 (Int.tmod i (r.2.length : Int))).f2, r.1, r.2.eraseIdx (Int.tmod i (r.2.length : Int)).toNat, true) else none

set_option maxHeartbeats 8000000 in
set_option maxRecDepth 100000 in
theorem take_none (k : Nat) (a0 : Int) (A : Option Addr) (c : Nat) (l : List S29) (i n' : Int) (w : World) (hr : Kd.C k29 w A l.length l) (hc : l.length ≤ c) (h : net_copied.f k a0 l = some (n', [])) :
    Calls Try.prog 11 #[.agg #[.int .i64 a0, .slice A l.length c], .int .i64 i] w fun e w' => ∃ v2_ v4_ : Value, e = .returned (.tuple #[.agg #[.int .i64 0, .int .i64 0, v2_], .agg #[.int .i64 n', v4_], .bool false]) ∧
      Kd.R (Kd.int .u8) 5 w' w.heap.size (fun _ => True) v2_ [] ∧ Kd.S k29 29 w' w.heap.size (fun k_ => some k_ ≠ (v2_ : Value).ownBlock) v4_ [] ∧ Below w.heap.size w w' := by
  have HR := Aside0.mk hr
  have HC := Aside0.mk hc
  have HK := Aside0.mk h
  clear hr hc h
  go_enter Try.func11, Try.ntmps11
  go_wp2_with (first
    | ((with_reducible refine gate_dst (N := 2) rfl ?_); refine box_event ?hg (N := 2) ?hd (cs := #[.int .i64 a0, .slice A l.length c]) (t := 24) ?hr ?_; (case hd => rfl); (case hg => rfl); (case hr => first | (go_simp; done) | (go_simp; rfl)); intro g2 e2 w1 b2 hb1; have B2 := Aside0.mk b2; have HB := Aside0.mk hb1; have E2 := Aside0.mk (Nat.le_of_eq e2.symm); clear b2 hb1 e2)
    | ((with_reducible refine gate_dst (N := 4) rfl ?_); refine box_event ?hg (N := 4) ?hd (cs := #[.int .i64 0, .int .i64 0, .slice none 0 0]) (t := 29) ?hr ?_; (case hd => rfl); (case hg => rfl); (case hr => first | (go_simp; done) | (go_simp; rfl)); intro g4 e4 w2 b4 hb1; have n1 := Aside0.mk (blk_b B2.out hb1); have n2 := Aside0.mk (below_step HB.out hb1); have L24 := Aside0.mk (show w.heap.size ≤ g4 by rw [e4]; exact HB.out.size); have B4 := Aside0.mk b4; clear b4 hb1 e4 B2 HB E2; have B2 := n1; have HB := n2; clear n1 n2)
    | ((with_reducible refine gate_dst (N := 5) rfl ?_); refine box_event ?hg (N := 5) ?hd (cs := #[.int .i64 0, .slice none 0 0]) (t := 24) ?hr ?_; (case hd => rfl); (case hg => rfl); (case hr => first | (go_simp; done) | (go_simp; rfl)); intro g5 e5 w3 b5 hb1; have T := Aside0.mk (show T2 w w3 g4 g5 from ⟨blk_b B4.out hb1, b5, below_step HB.out hb1, L24.out, by rw [e5]; exact blk_lt B4.out⟩); have n1 := blk_b B2.out hb1; have hz0 : w3.cell? ⟨g2, 0, none⟩ = some (.int .i64 a0) := (blk_cell n1 0).trans rfl; have hz1 : w3.cell? ⟨g2, 1, none⟩ = some (.slice A l.length c) := (blk_cell n1 1).trans rfl; clear b5 hb1 e5 B2 HB B4 L24 n1)
    | fail)
  refine (net_copied.calls k a0 A c l n' [] w3 (Kd.C_below HR.out T.out.hb) HC.out HK.out).mono ?_
  rintro e w4 ⟨v1, rfl, hs, hb1⟩
  have LT := Aside0.mk (T.out.below hb1).lt
  have HO := Aside0.mk (Kd.S_R (Kd.S_lower (Kd.S_mono (Kd.S_bound hs) (ok' := fun k => g5 < k ∧ k < w4.heap.size) (fun k hk => ⟨by have := T.out.lt; omega, hk.2.2.1⟩)) T.out.hb.size))
  have n1 := Aside0.mk (T.out.below hb1)
  obtain ⟨A1, c1, rfl, hlc, _⟩ := Kd.S_reads hs
  clear T hs hb1 hz0 hz1
  have T := n1
  clear n1
  simp only [List.length_nil] at HO
  obtain ⟨V1, hV1⟩ : ∃ V1, V1 = Value.slice A1 0 c1 := ⟨_, rfl⟩
  go_wp2_with (first
    | ((with_reducible refine gate_dst (N := 7) rfl ?_); refine box_event ?hg (N := 7) ?hd (cs := #[.int .i64 0, .slice none 0 0]) (t := 24) ?hr ?_; (case hd => rfl); (case hg => rfl); (case hr => first | (go_simp; done) | (go_simp; rfl)); intro g7 e7 w5 b7 hb1; have n1 := Aside0.mk (T.out.below hb1); have n2 := Aside0.mk (Kd.R_below HO.out hb1); have G7 := Aside0.mk (show w4.heap.size ≤ g7 from Nat.le_of_eq e7.symm); have B7 := Aside0.mk b7; clear T HO b7 hb1 e7; have T := n1; have HO := n2; clear n1 n2)
    | ((with_reducible refine gate_ (.store 24 (.tmp 7) (.tmp 10)) rfl ?_); refine put_event (g := g7) (e := 24) rfl rfl 24 (.tmp 7) (.tmp 10) rfl rfl (.agg #[.int .i64 n', (Value.slice A1 0 c1)]) rfl (cs' := #[.int .i64 n', (Value.slice A1 0 c1)]) rfl (by kernel_rfl) (by simp [Value.oneCell']) B7.out rfl ?_; intro w6 b7 hg1; have n1 := Aside0.mk (T.out.grown hg1 (by have := G7.out; have := LT.out; omega)); have n2 := Aside0.mk (Kd.R_grown HO.out hg1 (fun k hk he => by have := Option.some.inj he; have := G7.out; omega)); clear B7 T HO hg1; have B7 := Aside0.mk b7; have T := n1; have HO := n2; clear n1 n2 b7; have hz0 : w6.cell? ⟨g7, 0, none⟩ = some (.int .i64 n') := (blk_cell B7.out 0).trans rfl; have hz1 : w6.cell? ⟨g7, 1, none⟩ = some (Value.slice A1 0 c1) := (blk_cell B7.out 1).trans rfl)
    | fail)
  have c40 : w6.cell? ⟨g4, 0, none⟩ = some (.int .i64 0) := (blk_cell T.out.b4 0).trans rfl
  have c41 : w6.cell? ⟨g4, 1, none⟩ = some (.int .i64 0) := (blk_cell T.out.b4 1).trans rfl
  have c42 : w6.cell? ⟨g4, 2, none⟩ = some (.slice none 0 0) := (blk_cell T.out.b4 2).trans rfl
  have c50 : w6.cell? ⟨g5, 0, none⟩ = some (.int .i64 0) := (blk_cell T.out.b5 0).trans rfl
  have c51 : w6.cell? ⟨g5, 1, none⟩ = some (.slice none 0 0) := (blk_cell T.out.b5 1).trans rfl
  have f40 := blk_frozen T.out.b4 0
  have f41 := blk_frozen T.out.b4 1
  have f42 := blk_frozen T.out.b4 2
  have f50 := blk_frozen T.out.b5 0
  have f51 := blk_frozen T.out.b5 1
  have x45 : g4 ≠ g5 := by have := T.out.h45; omega
  have x47 : g4 ≠ g7 := by have := T.out.h45; have := G7.out; have := LT.out; omega
  have x57 : g5 ≠ g7 := by have := G7.out; have := LT.out; omega
  have x54 := x45.symm
  have x74 := x47.symm
  have x75 := x57.symm
  go_region
  have HF := Aside0.mk (final2 T.out 0 0 (.slice none 0 0) n' (Value.slice A1 0 c1))
  have HS := Aside0.mk (Kd.R_step HO.out (fun k hk _ => (final2_far T.out 0 0 (.slice none 0 0) n' (Value.slice A1 0 c1) k hk.1)))
  generalize ((((((w6.setCell { block := g4, off := 0 } (Value.int IntKind.i64 0)).setCell { block := g4, off := 1 }
                    (Value.int IntKind.i64 0)).setCell
                { block := g4, off := 2 } (Value.slice none 0 0)).setCell
            { block := g5, off := 0 } (Value.int IntKind.i64 n')).setCell
        { block := g5, off := 1 } (Value.slice A1 0 c1)).drew) = w7 at HF HS ⊢
  go_wp2
  refine bodyPost_ret (results_list (rs := [.cell 4 29, .cell 5 24, .tmp 6]) rfl (by simp) (.cell g4 29 _ (0, 0) _ rfl HF.out.1 Try.underlying29 rfl (by kernel_rfl) (.cell g5 24 _ (0, 0) _ rfl HF.out.2.1 Try.underlying24 rfl (by kernel_rfl) (.tmp .nil)))) rfl ?_
  exact ⟨_, _, rfl, Kd.R_nil _ _ _ _ _, nil_S HS.out (by simp [Value.ownBlock]), HF.out.2.2⟩


theorem mem_getElem {α : Type} (l : List α) (j : Nat) (h : j < l.length) (z : α) : l.getD j z = l[j] := by rw [List.getD_eq_getElem?_getD, List.getElem?_eq_getElem h]; rfl
theorem rd29 (l : List S29) (j : Nat) (h : j < l.length) : rd_T29 l (j : Int) = l[j] := by unfold rd_T29; rw [Int.toNat_natCast]; exact mem_getElem l j h _

theorem elem_tag {f : Nat → Nat} {W : World} {base g m cp j : Nat} {ok : Nat → Prop} {l' : List S29} {x : S29} (HO : (Kd.tag f k29).R 29 W base ok (.slice (some ⟨g, 0, none⟩) (m + 1) cp) l'.zipIdx) (hjm : j < m + 1) (HX : l'.zipIdx.getD j (z29, 0) = (x, j)) :
    ∃ A2 c2, W.cell? ⟨g, j * 3, none⟩ = some (.int .i64 x.f0) ∧ W.cell? ⟨g, j * 3 + 1, none⟩ = some (.int .i64 x.f1) ∧ W.cell? ⟨g, j * 3 + 2, none⟩ = some (.slice A2 x.f2.length c2) ∧ (Kd.int .u8).R 5 W base (fun k => ok k ∧ k ≠ g ∧ f k = j) (.slice A2 x.f2.length c2) x.f2 := by
  obtain ⟨cs, hcl, hM, hcell, _⟩ := Kd.R_elem HO (z29, 0) (j : Int) (by omega) (by omega)
  rw [Int.toNat_natCast, HX] at hM
  rw [Int.toNat_natCast] at hcell
  have hM' : k29.M W base (fun k => (ok k ∧ k ≠ g) ∧ f k = j) x cs := hM
  obtain ⟨v2, rfl, hR2⟩ := k29_openM hM'
  obtain ⟨A2, c2, rfl⟩ := Kd.R_slice hR2
  exact ⟨A2, c2, hcell 0 _ rfl, hcell 1 _ rfl, hcell 2 _ rfl, Kd.R_mono hR2 (fun k hk => ⟨hk.1.1, hk.1.2, hk.2⟩)⟩

set_option maxHeartbeats 8000000 in
set_option maxRecDepth 100000 in
theorem take_some (k : Nat) (a0 : Int) (A : Option Addr) (c : Nat) (l l' : List S29) (i n' : Int) (j m : Nat) (w : World) (hr : Kd.C k29 w A l.length l) (hc : l.length ≤ c) (h : net_copied.f k a0 l = some (n', l')) (hm : l'.length = m + 1) (hj : Int.tmod i ((m : Int) + 1) = (j : Int)) (hjm : j < m + 1) (x : S29) (hx : x = rd_T29 l' (j : Int)) :
    Calls Try.prog 11 #[.agg #[.int .i64 a0, .slice A l.length c], .int .i64 i] w fun e w' => ∃ v2_ v4_ : Value, e = .returned (.tuple #[.agg #[.int .i64 x.f0, .int .i64 x.f1, v2_], .agg #[.int .i64 n', v4_], .bool true]) ∧
      Kd.R (Kd.int .u8) 5 w' w.heap.size (fun _ => True) v2_ x.f2 ∧ Kd.S k29 29 w' w.heap.size (fun k_ => some k_ ≠ (v2_ : Value).ownBlock) v4_ (l'.eraseIdx j) ∧ Below w.heap.size w w' := by
  have HR := Aside0.mk hr
  have HC := Aside0.mk hc
  have HK := Aside0.mk h
  have HM := Aside0.mk hm
  clear hr hc h hm
  go_enter Try.func11, Try.ntmps11
  go_wp2_with (first
    | ((with_reducible refine gate_dst (N := 2) rfl ?_); refine box_event ?hg (N := 2) ?hd (cs := #[.int .i64 a0, .slice A l.length c]) (t := 24) ?hr ?_; (case hd => rfl); (case hg => rfl); (case hr => first | (go_simp; done) | (go_simp; rfl)); intro g2 e2 w1 b2 hb1; have B2 := Aside0.mk b2; have HB := Aside0.mk hb1; have E2 := Aside0.mk (Nat.le_of_eq e2.symm); clear b2 hb1 e2)
    | ((with_reducible refine gate_dst (N := 4) rfl ?_); refine box_event ?hg (N := 4) ?hd (cs := #[.int .i64 0, .int .i64 0, .slice none 0 0]) (t := 29) ?hr ?_; (case hd => rfl); (case hg => rfl); (case hr => first | (go_simp; done) | (go_simp; rfl)); intro g4 e4 w2 b4 hb1; have n1 := Aside0.mk (blk_b B2.out hb1); have n2 := Aside0.mk (below_step HB.out hb1); have L24 := Aside0.mk (show w.heap.size ≤ g4 by rw [e4]; exact HB.out.size); have B4 := Aside0.mk b4; clear b4 hb1 e4 B2 HB E2; have B2 := n1; have HB := n2; clear n1 n2)
    | ((with_reducible refine gate_dst (N := 5) rfl ?_); refine box_event ?hg (N := 5) ?hd (cs := #[.int .i64 0, .slice none 0 0]) (t := 24) ?hr ?_; (case hd => rfl); (case hg => rfl); (case hr => first | (go_simp; done) | (go_simp; rfl)); intro g5 e5 w3 b5 hb1; have T := Aside0.mk (show T2 w w3 g4 g5 from ⟨blk_b B4.out hb1, b5, below_step HB.out hb1, L24.out, by rw [e5]; exact blk_lt B4.out⟩); have n1 := blk_b B2.out hb1; have hz0 : w3.cell? ⟨g2, 0, none⟩ = some (.int .i64 a0) := (blk_cell n1 0).trans rfl; have hz1 : w3.cell? ⟨g2, 1, none⟩ = some (.slice A l.length c) := (blk_cell n1 1).trans rfl; clear b5 hb1 e5 B2 HB B4 L24 n1)
    | fail)
  refine (net_copied.calls k a0 A c l n' l' w3 (Kd.C_below HR.out T.out.hb) HC.out HK.out).mono ?_
  rintro e w4 ⟨v1, rfl, hs, hb1⟩
  have LT := Aside0.mk (T.out.below hb1).lt
  obtain ⟨f, hR⟩ := Kd.S_lower (Kd.S_mono (Kd.S_bound hs) (ok' := fun k => g5 < k ∧ k < w4.heap.size) (fun k hk => ⟨by have := T.out.lt; omega, hk.2.2.1⟩)) T.out.hb.size
  obtain ⟨g, cp, hv1, hbg, _⟩ := Kd.R_form hR (by rw [List.length_zipIdx, HM.out]; omega)
  rw [List.length_zipIdx, HM.out] at hv1
  subst hv1
  have HO := Aside0.mk hR
  have n1 := Aside0.mk (T.out.below hb1)
  have hn0 : g5 < g ∧ g < w4.heap.size := hR.1 g (by simp [Value.ownBlock])
  have GG := Aside0.mk hn0
  have HZ := Aside0.mk (show l'.zipIdx.length = m + 1 by rw [List.length_zipIdx, HM.out])
  have hmle : m + 1 ≤ 9223372036854775807 := by
    obtain ⟨_, _, hC⟩ := Kd.R_reads' hR
    have := hC.2.1
    rw [HZ.out] at this
    exact this
  have hxz : l'.zipIdx.getD j (z29, 0) = (x, j) := by
    rw [mem_getElem _ j (by rw [HZ.out]; exact hjm), hx, rd29 l' j (by rw [HM.out]; exact hjm), List.getElem_zipIdx, Nat.zero_add]
  have HX := Aside0.mk hxz
  clear T hs hb1 hz0 hz1 hR hbg hn0 hxz hx
  have T := n1
  clear n1
  have hq0 : ((m : Int) + 1 == 0) = false := by rw [beq_eq_false_iff_ne]; omega
  have hq1 : (m : Int) + 1 ≠ 0 := by omega
  have hj0 : (0 : Int) ≤ (j : Int) := by omega
  have hj1 : (j : Int) < (m : Int) + 1 := by omega
  go_wp2_with (first
    | ((with_reducible refine gate_dst (N := 7) rfl ?_); refine box_event ?hg (N := 7) ?hd (cs := #[.int .i64 0, .slice none 0 0]) (t := 24) ?hr ?_; (case hd => rfl); (case hg => rfl); (case hr => first | (go_simp; done) | (go_simp; rfl)); intro g7 e7 w5 b7 hb1; have n1 := Aside0.mk (T.out.below hb1); have n2 := Aside0.mk (Kd.R_below HO.out hb1); have G7 := Aside0.mk (show w4.heap.size ≤ g7 from Nat.le_of_eq e7.symm); have B7 := Aside0.mk b7; clear T HO b7 hb1 e7; have T := n1; have HO := n2; clear n1 n2)
    | ((with_reducible refine gate_ (.store 24 (.tmp 7) (.tmp 10)) rfl ?_); refine put_event (g := g7) (e := 24) rfl rfl 24 (.tmp 7) (.tmp 10) rfl rfl (.agg #[.int .i64 n', (Value.slice (some ⟨g, 0, none⟩) (m + 1) cp)]) rfl (cs' := #[.int .i64 n', (Value.slice (some ⟨g, 0, none⟩) (m + 1) cp)]) rfl (by kernel_rfl) (by simp [Value.oneCell']) B7.out rfl ?_; intro w6 b7 hg1; have n1 := Aside0.mk (T.out.grown hg1 (by have := G7.out; have := LT.out; omega)); have n2 := Aside0.mk (Kd.R_grown HO.out hg1 (fun k hk he => by have := Option.some.inj he; have := G7.out; omega)); clear B7 T HO hg1; have B7 := Aside0.mk b7; have T := n1; have HO := n2; clear n1 n2 b7; have hz0 : w6.cell? ⟨g7, 0, none⟩ = some (.int .i64 n') := (blk_cell B7.out 0).trans rfl; have hz1 : w6.cell? ⟨g7, 1, none⟩ = some (Value.slice (some ⟨g, 0, none⟩) (m + 1) cp) := (blk_cell B7.out 1).trans rfl; obtain ⟨A2, c2, hx0, hx1, hx2, hR2⟩ := elem_tag HO.out hjm HX.out; have R2 := Aside0.mk hR2; clear hR2)
    | ((with_reducible refine gate_dst (N := 8) rfl ?_); refine box_event ?hg (N := 8) ?hd (cs := #[.int .i64 0, .int .i64 0, .slice none 0 0]) (t := 29) ?hr ?_; (case hd => rfl); (case hg => rfl); (case hr => first | (go_simp; done) | (go_simp; rfl)); intro g8 e8 w7 b8 hb1; have n1 := Aside0.mk (T.out.below hb1); have n2 := Aside0.mk (Kd.R_below HO.out hb1); have n3 := Aside0.mk (Kd.R_below R2.out hb1); have n4 := Aside0.mk (blk_b B7.out hb1); have G8 := Aside0.mk (show g7 < g8 by rw [e8]; exact blk_lt B7.out); have B8 := Aside0.mk b8; clear T HO R2 B7 b8 hb1 e8 hz0 hz1 hx0 hx1 hx2; have T := n1; have HO := n2; have R2 := n3; have B7 := n4; clear n1 n2 n3 n4)
    | ((with_reducible refine gate_ (.store 29 (.tmp 8) (.tmp 26)) rfl ?_); refine put_event (g := g8) (e := 29) rfl rfl 29 (.tmp 8) (.tmp 26) rfl rfl (.agg #[.int .i64 x.f0, .int .i64 x.f1, .slice A2 x.f2.length c2]) rfl (cs' := #[.int .i64 x.f0, .int .i64 x.f1, .slice A2 x.f2.length c2]) rfl (by kernel_rfl) (by simp [Value.oneCell']) B8.out rfl ?_; intro w8 b8 hg1; have n1 := Aside0.mk (T.out.grown hg1 (by have := G7.out; have := G8.out; have := LT.out; omega)); have n2 := Aside0.mk (Kd.R_grown HO.out hg1 (fun k hk he => by have := Option.some.inj he; have := G7.out; have := G8.out; omega)); have n3 := Aside0.mk (Kd.R_grown R2.out hg1 (fun k hk he => by have := Option.some.inj he; have := G7.out; have := G8.out; omega)); have n4 := Aside0.mk (blk_g B7.out hg1 (by have := G8.out; omega)); clear B8 B7 T HO R2 hg1; have B8 := Aside0.mk b8; have T := n1; have HO := n2; have R2 := n3; have B7 := n4; clear n1 n2 n3 n4 b8; have hz0 : w8.cell? ⟨g7, 0, none⟩ = some (.int .i64 n') := (blk_cell B7.out 0).trans rfl; have hz1 : w8.cell? ⟨g7, 1, none⟩ = some (Value.slice (some ⟨g, 0, none⟩) (m + 1) cp) := (blk_cell B7.out 1).trans rfl)
    | fail)
  refine (delete_calls (Kd.tag f k29) rfl g cp j m l'.zipIdx w.heap.size _ w8 HO.out hjm T.out.hb.size).mono ?_
  rintro e w9 ⟨rfl, hr9, hg1⟩
  have n1 := Aside0.mk (T.out.grown hg1 GG.out.1)
  have n3 := Aside0.mk (Kd.R_grown R2.out hg1 (fun k hk he => hk.2.1 (Option.some.inj he)))
  have n4 := Aside0.mk (blk_g B7.out hg1 (by have := GG.out; have := G7.out; omega))
  have n5 := Aside0.mk (blk_g B8.out hg1 (by have := GG.out; have := G7.out; have := G8.out; omega))
  clear T HO R2 B7 B8 hz0 hz1 hg1
  have HO := Aside0.mk hr9
  clear hr9
  have T := n1
  have R2 := n3
  have B7 := n4
  have B8 := n5
  clear n1 n3 n4 n5
  go_wp2_with (first
    | ((with_reducible refine gate_ (.store 22 (.tmp 33) (.tmp 32)) rfl ?_); refine put_field (g := g7) (j := 1) (e := 24) rfl rfl 22 (.tmp 33) (.tmp 32) rfl rfl (.slice (some ⟨g, 0, none⟩) m cp) rfl rfl (by kernel_rfl) rfl B7.out (by simp) ?_; intro w10 b7 hg1; have n1 := Aside0.mk (T.out.grown hg1 (by have := G7.out; have := LT.out; omega)); have n2 := Aside0.mk (Kd.R_grown HO.out hg1 (fun k hk he => by have := Option.some.inj he; have := G7.out; omega)); have n3 := Aside0.mk (Kd.R_grown R2.out hg1 (fun k hk he => by have := Option.some.inj he; have := G7.out; omega)); have n5 := Aside0.mk (blk_g B8.out hg1 (by have := G8.out; omega)); clear B8 B7 T HO R2 hg1; have B7 : Aside0 (w10.heap[g7]? = some (.cells #[.int .i64 n', .slice (some ⟨g, 0, none⟩) m cp] 24 (0, 0))) := Aside0.mk (by simpa using b7); have T := n1; have HO := n2; have R2 := n3; have B8 := n5; clear n1 n2 n3 n5 b7)
    | fail)
  have cz0 : w10.cell? ⟨g7, 0, none⟩ = some (.int .i64 n') := (blk_cell B7.out 0).trans rfl
  have cz1 : w10.cell? ⟨g7, 1, none⟩ = some (.slice (some ⟨g, 0, none⟩) m cp) := (blk_cell B7.out 1).trans rfl
  have cy0 : w10.cell? ⟨g8, 0, none⟩ = some (.int .i64 x.f0) := (blk_cell B8.out 0).trans rfl
  have cy1 : w10.cell? ⟨g8, 1, none⟩ = some (.int .i64 x.f1) := (blk_cell B8.out 1).trans rfl
  have cy2 : w10.cell? ⟨g8, 2, none⟩ = some (.slice A2 x.f2.length c2) := (blk_cell B8.out 2).trans rfl
  have c40 : w10.cell? ⟨g4, 0, none⟩ = some (.int .i64 0) := (blk_cell T.out.b4 0).trans rfl
  have c41 : w10.cell? ⟨g4, 1, none⟩ = some (.int .i64 0) := (blk_cell T.out.b4 1).trans rfl
  have c42 : w10.cell? ⟨g4, 2, none⟩ = some (.slice none 0 0) := (blk_cell T.out.b4 2).trans rfl
  have c50 : w10.cell? ⟨g5, 0, none⟩ = some (.int .i64 0) := (blk_cell T.out.b5 0).trans rfl
  have c51 : w10.cell? ⟨g5, 1, none⟩ = some (.slice none 0 0) := (blk_cell T.out.b5 1).trans rfl
  have f40 := blk_frozen T.out.b4 0
  have f41 := blk_frozen T.out.b4 1
  have f42 := blk_frozen T.out.b4 2
  have f50 := blk_frozen T.out.b5 0
  have f51 := blk_frozen T.out.b5 1
  have x45 : g4 ≠ g5 := by have := T.out.h45; omega
  have x47 : g4 ≠ g7 := by have := T.out.h45; have := G7.out; have := LT.out; omega
  have x57 : g5 ≠ g7 := by have := G7.out; have := LT.out; omega
  have x48 : g4 ≠ g8 := by have := T.out.h45; have := G7.out; have := G8.out; have := LT.out; omega
  have x58 : g5 ≠ g8 := by have := G7.out; have := G8.out; have := LT.out; omega
  have x54 := x45.symm
  have x74 := x47.symm
  have x75 := x57.symm
  have x84 := x48.symm
  have x85 := x58.symm
  go_region
  have HF := Aside0.mk (final2 T.out x.f0 x.f1 (.slice A2 x.f2.length c2) n' (Value.slice (some ⟨g, 0, none⟩) m cp))
  have HS := Aside0.mk (Kd.R_step HO.out (fun k hk _ => (final2_far T.out x.f0 x.f1 (.slice A2 x.f2.length c2) n' (Value.slice (some ⟨g, 0, none⟩) m cp) k hk.1)))
  have HR2 := Aside0.mk (Kd.R_step R2.out (fun k hk _ => (final2_far T.out x.f0 x.f1 (.slice A2 x.f2.length c2) n' (Value.slice (some ⟨g, 0, none⟩) m cp) k hk.1.1)))
  generalize ((((((w10.setCell { block := g4, off := 0 } (Value.int IntKind.i64 x.f0)).setCell { block := g4, off := 1 }
                    (Value.int IntKind.i64 x.f1)).setCell
                { block := g4, off := 2 } (Value.slice A2 x.f2.length c2)).setCell
            { block := g5, off := 0 } (Value.int IntKind.i64 n')).setCell
        { block := g5, off := 1 } (Value.slice (some ⟨g, 0, none⟩) m cp)).drew) = w11 at HF HS HR2 ⊢
  go_wp2
  refine bodyPost_ret (results_list (rs := [.cell 4 29, .cell 5 24, .tmp 6]) rfl (by simp) (.cell g4 29 _ (0, 0) _ rfl HF.out.1 Try.underlying29 rfl (by kernel_rfl) (.cell g5 24 _ (0, 0) _ rfl HF.out.2.1 Try.underlying24 rfl (by kernel_rfl) (.tmp .nil)))) rfl ?_
  have hb2 : ∀ k, (Value.slice A2 x.f2.length c2).ownBlock = some k → k ≠ g ∧ f k = j := fun k hk => (HR2.out.1 k hk).2
  refine ⟨_, _, rfl, Kd.R_mono HR2.out (fun _ _ => trivial), ?_, HF.out.2.2⟩
  refine Kd.S_mono (Kd.S_erase (tag_off (okq := fun k => some k ≠ (Value.slice A2 x.f2.length c2).ownBlock) HS.out j (erase_zip l' j) (fun k hk he => ?_) (fun k hk he => hk (hb2 k he.symm).2))) (fun _ hk => hk.2)
  have hkg : g = k := by simpa [Value.ownBlock] using hk
  exact (hb2 k he.symm).1 hkg.symm

def net_Take.f (k : Nat) (a0_0 : Int) (l0_1 : List (S29)) (a1 : Int) : Option (Int × Int × List Int × Int × (List (S29)) × Bool) := takeF k a0_0 l0_1 a1
theorem net_Take.mono : ∀ a0 a1 a2 k, LeO (net_Take.f k a0 a1 a2) (net_Take.f (k + 1) a0 a1 a2) := by
  intro a0 a1 a2 k
  unfold net_Take.f takeF
  exact LeO.bind (net_copied.mono _ _ _) (fun _ => LeO.refl _)
theorem net_Take.calls (k : Nat) (a0_0 : Int) (A0_1 : Option Addr) (c0_1 : Nat) (l0_1 : List (S29)) (a1 : Int) (r1 : Int) (r2 : Int) (r3 : List Int) (r4 : Int) (r5 : List (S29)) (r6 : Bool) (w : World) (hr0_1 : Kd.C k29 w A0_1 l0_1.length l0_1) (hc0_1 : l0_1.length ≤ c0_1) (h : net_Take.f k a0_0 l0_1 a1 = some (r1, r2, r3, r4, r5, r6)) :
    Calls Try.prog 11 #[.agg #[.int .i64 a0_0, .slice A0_1 l0_1.length c0_1], .int .i64 a1] w fun e w' => ∃ v2_ v4_ : Value, e = .returned (.tuple #[.agg #[.int .i64 r1, .int .i64 r2, v2_], .agg #[.int .i64 r4, v4_], .bool r6]) ∧ Kd.R (Kd.int .u8) 5 w' w.heap.size (fun _ => True) v2_ r3 ∧ Kd.S k29 29 w' w.heap.size (fun k_ => some k_ ≠ (v2_ : Value).ownBlock) v4_ r5 ∧ Below w.heap.size w w' := by
  unfold net_Take.f takeF at h
  obtain ⟨⟨n', l'⟩, hcp, h⟩ := Option.bind_eq_some_iff.mp h
  replace h : (if (l'.length : Int) = 0 then some (0, 0, [], n', [], false) else
    if 0 ≤ Int.tmod a1 (l'.length : Int) then some ((rd_T29 l' (Int.tmod a1 (l'.length : Int))).f0, (rd_T29 l' (Int.tmod a1 (l'.length : Int))).f1, (rd_T29 l' (Int.tmod a1 (l'.length : Int))).f2, n', l'.eraseIdx (Int.tmod a1 (l'.length : Int)).toNat, true) else none) = some (r1, r2, r3, r4, r5, r6) := h
  by_cases h0 : (l'.length : Int) = 0
  · rw [if_pos h0] at h
    simp only [Option.some.injEq, Prod.mk.injEq] at h
    obtain ⟨rfl, rfl, rfl, rfl, rfl, rfl⟩ := h
    obtain rfl : l' = [] := List.eq_nil_of_length_eq_zero (by omega)
    exact take_none k a0_0 A0_1 c0_1 l0_1 a1 n' w hr0_1 hc0_1 hcp
  · rw [if_neg h0] at h
    by_cases h1 : 0 ≤ Int.tmod a1 (l'.length : Int)
    · rw [if_pos h1] at h
      simp only [Option.some.injEq, Prod.mk.injEq] at h
      obtain ⟨m, hm⟩ : ∃ m, l'.length = m + 1 := ⟨l'.length - 1, by omega⟩
      obtain ⟨j, hj⟩ := Int.eq_ofNat_of_zero_le h1
      have hlt : Int.tmod a1 (l'.length : Int) < (l'.length : Int) := Int.tmod_lt_of_pos _ (by omega)
      rw [hj] at h hlt
      rw [Int.toNat_natCast] at h
      obtain ⟨rfl, rfl, rfl, rfl, rfl, rfl⟩ := h
      have hj' : Int.tmod a1 ((m : Int) + 1) = (j : Int) := by rw [← hj, hm]; rfl
      exact take_some k a0_0 A0_1 c0_1 l0_1 l' a1 n' j m w hr0_1 hc0_1 hcp hm hj' (by omega) _ rfl
    · rw [if_neg h1] at h
      cases h

-- NOT PRINTED: function 27 (api_Packet_27)

-- NOT PRINTED: function 25 (api_Packet_25)

/-- the place of the first one that p lets by, or -1 -/
def idxFrom (p : S29 → Bool) : List S29 → Nat → Int
  | [], _ => -1
  | x :: l, i => if p x = true then (i : Int) else idxFrom p l (i + 1)
def packV (x : S29) (u : Value) : Value := .agg #[.int .i64 x.f0, .int .i64 x.f1, u]
theorem rd_mem (l0 : List S29) (k : Nat) (hlt : k < l0.length) : rd_T29 l0 (k : Int) ∈ l0 := by rw [rd29 l0 k hlt]; exact List.getElem_mem hlt
theorem rd_drop (l0 : List S29) (k : Nat) (hlt : k < l0.length) : l0.drop k = rd_T29 l0 (k : Int) :: l0.drop (k + 1) := by rw [rd29 l0 k hlt]; exact List.drop_eq_getElem_cons hlt

set_option maxHeartbeats 8000000 in
set_option maxRecDepth 100000 in
theorem indexFunc_calls (A0 : Option Addr) (c0 : Nat) (l0 : List S29) (g : Nat) (caps : Array Value) (p : S29 → Bool) (w : World)
    (hr0 : Kd.C k29 w A0 l0.length l0) (hc0 : l0.length ≤ c0) (fg : Func) (hfg : Try.prog.funcs[g]? = some fg) (hb : fg.body.isSome = true) (hn : (fg.name == "runtime.NumGoroutine") = false)
    (hg : ∀ x ∈ l0, ∀ A n c w', Below w.heap.size w w' → Calls Try.prog g (#[packV x (.slice A n c)] ++ caps) w' fun e w'' => e = .returned (.bool (p x)) ∧ Below w'.heap.size w' w'') :
    Calls Try.prog 27 #[.slice A0 l0.length c0, .func (.func g) #[] caps] w fun e w' => e = .returned (.int .i64 (idxFrom p l0 0)) ∧ Below w.heap.size w w' := by
  have HR0 := Aside0.mk hr0
  have HC0 := Aside0.mk hc0
  have HG := Aside0.mk hg
  have hle : l0.length ≤ 9223372036854775807 := hr0.2.1
  have hcf := fun args w => enters_ hfg hn hb args w
  clear hr0 hc0 hg hfg hb hn
  go_enter Try.func27, Try.ntmps27
  go_wp2
  go_loopw [8] (fun v8 w' => ∃ k : Nat, k ≤ l0.length ∧ v8 = .int .i64 k ∧ Aside0 (idxFrom p l0 0 = idxFrom p (l0.drop k) k) ∧ Aside0 (Below w.heap.size w w')) (fun v8 _ => l0.length - (intOf v8).toNat)
  case atStart => exact ⟨0, Nat.zero_le _, rfl, ⟨rfl⟩, ⟨Below.refl _ _⟩⟩
  case round =>
    obtain ⟨k, hk, rfl, HA, HB⟩ := hrel
    by_cases hlt : k < l0.length
    · obtain ⟨ad, A2, c2, e, hx0, hx1, hx2, _, _⟩ := at_T29 HR0.out (k : Int) (by omega) (by omega)
      rw [Int.toNat_natCast] at hx0 hx1 hx2
      have HD := Aside0.mk (rd_drop l0 k hlt)
      have HM := Aside0.mk (rd_mem l0 k hlt)
      cases e
      replace hx0 := (HB.out.cell (World.block_lt_of_cell? w _ hx0)).trans hx0
      replace hx1 := (HB.out.cell (World.block_lt_of_cell? w _ hx1)).trans hx1
      replace hx2 := (HB.out.cell (World.block_lt_of_cell? w _ hx2)).trans hx2
      generalize hx : rd_T29 l0 (k : Int) = x at *
      clear hx
      go_wp2_with fail
      refine (HG.out x HM.out A2 x.f2.length c2 wr HB.out).mono ?_
      rintro e w1 ⟨rfl, hb1⟩
      have HB1 := Aside0.mk (below_step HB.out hb1)
      clear hb1
      by_cases hp : p x = true
      · have HP := Aside0.mk hp
        have hp1 : p x = true := hp
        clear hp
        go_wp2
        go_ret
        exact ⟨by rw [HA.out, HD.out]; simp [idxFrom, HP.out], HB1.out⟩
      · have hp1 : p x = false := by simpa using hp
        have HP := Aside0.mk hp1
        clear hp
        go_wp2
        go_roundw
        case rel => exact ⟨k + 1, by omega, by go_num, ⟨by rw [HA.out, HD.out]; simp [idxFrom, HP.out]⟩, HB1⟩
        case measure => simp [intOf]; omega
    · have hk' : k = l0.length := by omega
      go_wp2
      go_ret
      exact ⟨by rw [HA.out, List.drop_eq_nil_of_le (by omega)]; rfl, HB.out⟩
theorem idx_cases (p : S29 → Bool) : ∀ (l : List S29) (i : Nat), (idxFrom p l i = -1 ∧ l.filter (fun x => !p x) = l) ∨ ∃ j : Nat, j < l.length ∧ idxFrom p l i = ((i + j : Nat) : Int) ∧ (l.take (j + 1)).filter (fun x => !p x) = l.take j
  | [], i => .inl ⟨rfl, rfl⟩
  | x :: l, i => by
    unfold idxFrom
    by_cases h : p x = true
    · rw [if_pos h]
      exact .inr ⟨0, by simp, rfl, by simp [h]⟩
    · rw [if_neg h]
      have h' : p x = false := by simpa using h
      rcases idx_cases p l (i + 1) with ⟨h1, h2⟩ | ⟨j, hj, h1, h2⟩
      · exact .inl ⟨h1, by simp [h', h2]⟩
      · exact .inr ⟨j + 1, by simp; omega, by rw [h1]; congr 1; omega, by simp only [List.take_succ_cons]; simp [h', h2]⟩

theorem idxP (p : S29 → Bool) : ∀ (zs : List (S29 × Nat)) (i : Nat), (idxFrom p (zs.map (·.1)) i = -1 ∧ zs.filter (fun z => !p z.1) = zs) ∨ ∃ j : Nat, j < zs.length ∧ idxFrom p (zs.map (·.1)) i = ((i + j : Nat) : Int) ∧ (zs.take (j + 1)).filter (fun z => !p z.1) = zs.take j
  | [], i => .inl ⟨rfl, rfl⟩
  | x :: l, i => by
    rw [List.map_cons]
    unfold idxFrom
    by_cases h : p x.1 = true
    · rw [if_pos h]
      exact .inr ⟨0, by simp, rfl, by simp [h]⟩
    · rw [if_neg h]
      have h' : p x.1 = false := by simpa using h
      rcases idxP p l (i + 1) with ⟨h1, h2⟩ | ⟨j, hj, h1, h2⟩
      · exact .inl ⟨h1, by simp [h', h2]⟩
      · exact .inr ⟨j + 1, by simp; omega, by rw [h1]; congr 1; omega, by simp only [List.take_succ_cons]; simp [h', h2]⟩
theorem zip_fst {α : Type} (l : List α) (n : Nat) : (l.zipIdx n).map (·.1) = l := by
  induction l generalizing n with
  | nil => rfl
  | cons x l ih => simp [List.zipIdx_cons, ih]
theorem filter_fst {α : Type} (q : α → Bool) (l : List α) (n : Nat) : (((l.zipIdx n).filter (fun z => q z.1)).map (·.1)) = l.filter q := by
  induction l generalizing n with
  | nil => rfl
  | cons x l ih =>
    rw [List.zipIdx_cons, List.filter_cons, List.filter_cons]
    by_cases h : q x = true
    · simp [h, ih]
    · simp [h, ih]
theorem tag_S {α : Type} {d : Kd α} {f : Nat → Nat} {e base : Nat} {ok : Nat → Prop} {w : World} {v : Value} {zs : List (α × Nat)} (h : (Kd.tag f d).R e w base ok v zs) (hn : (zs.map (·.2)).Nodup) : Kd.S d e w base ok v (zs.map (·.1)) := by
  obtain ⟨h0, inner, ho, hr⟩ := h
  refine ⟨fun b => (zs.map (·.2)).idxOf (f b), h0, inner, by rw [List.length_zipIdx, List.length_map]; exact ho, by rw [List.length_zipIdx, List.length_map]; exact hr.1, fun j p hj => ?_⟩
  rw [List.getElem?_zipIdx, Nat.zero_add] at hj
  obtain ⟨q, hq, rfl⟩ := Option.map_eq_some_iff.1 hj
  rw [List.getElem?_map] at hq
  obtain ⟨z, hz, rfl⟩ := Option.map_eq_some_iff.1 hq
  refine d.M_mono (fun k hk => ⟨hk.1, ?_⟩) (hr.2 j z hz)
  have hk2 : f k = z.2 := hk.2
  have hlt : j < (zs.map (·.2)).length := by rw [List.length_map]; exact (List.getElem?_eq_some_iff.1 hz).1
  have hj2 : (zs.map (·.2))[j] = z.2 := by
    rw [List.getElem_map]
    exact congrArg (·.2) (List.getElem?_eq_some_iff.1 hz).2
  show (zs.map (·.2)).idxOf (f k) = j
  rw [hk2, ← hj2]
  exact hn.idxOf_getElem j hlt
theorem snd_nodup {α : Type} (q : α → Bool) (l : List α) : (((l.zipIdx).filter (fun z => q z.1)).map (·.2)).Nodup := by
  have h1 : ((l.zipIdx).map (·.2)).Nodup := by
    rw [show (l.zipIdx).map (·.2) = List.range' 0 l.length from by rw [show (fun z : α × Nat => z.2) = Prod.snd from rfl, List.zipIdx_map_snd]]
    exact List.nodup_range'
  exact h1.sublist (List.Sublist.map _ List.filter_sublist)
theorem set_take' {α : Type} (ys : List α) (i : Nat) (x : α) (h : i < ys.length) : (ys.set i x).take (i + 1) = ys.take i ++ [x] := by
  rw [List.take_set, List.take_succ_eq_append_getElem h, List.set_append_right _ _ (by rw [List.length_take]; omega)]
  simp [Nat.min_eq_left (Nat.le_of_lt h)]
theorem take_stepP (p : S29 → Bool) (l : List (S29 × Nat)) (j : Nat) (x : S29 × Nat) (h : l.drop j = x :: l.drop (j + 1)) : (l.take (j + 1)).filter (fun z => !p z.1) = (l.take j).filter (fun z => !p z.1) ++ (if p x.1 = true then [] else [x]) := by
  have hlt : j < l.length := by
    rcases Nat.lt_or_ge j l.length with h1 | h1
    · exact h1
    · rw [List.drop_eq_nil_of_le h1] at h; cases h
  have hx : l[j] = x := by rw [List.drop_eq_getElem_cons hlt] at h; exact (List.cons.inj h).1
  rw [List.take_succ_eq_append_getElem hlt, hx, List.filter_append]
  by_cases hp : p x.1 = true <;> simp [hp]
theorem elem_tag' {f : Nat → Nat} {W : World} {base g n cp j : Nat} {ok : Nat → Prop} {zs : List (S29 × Nat)} {x : S29} {t : Nat} (HO : (Kd.tag f k29).R 29 W base ok (.slice (some ⟨g, 0, none⟩) n cp) zs) (hjm : j < n) (HX : zs.getD j (z29, 0) = (x, t)) :
    ∃ A2 c2, W.cell? ⟨g, j * 3, none⟩ = some (.int .i64 x.f0) ∧ W.cell? ⟨g, j * 3 + 1, none⟩ = some (.int .i64 x.f1) ∧ W.cell? ⟨g, j * 3 + 2, none⟩ = some (.slice A2 x.f2.length c2) ∧ (Kd.int .u8).R 5 W base (fun k => (ok k ∧ k ≠ g) ∧ f k = t) (.slice A2 x.f2.length c2) x.f2 := by
  obtain ⟨cs, hcl, hM, hcell, _⟩ := Kd.R_elem HO (z29, 0) (j : Int) (by omega) (by omega)
  rw [Int.toNat_natCast, HX] at hM
  rw [Int.toNat_natCast] at hcell
  have hM' : k29.M W base (fun k => (ok k ∧ k ≠ g) ∧ f k = t) x cs := hM
  obtain ⟨v2, rfl, hR2⟩ := k29_openM hM'
  obtain ⟨A2, c2, rfl⟩ := Kd.R_slice hR2
  exact ⟨A2, c2, hcell 0 _ rfl, hcell 1 _ rfl, hcell 2 _ rfl, hR2⟩

set_option maxHeartbeats 8000000 in
set_option maxRecDepth 100000 in
theorem deleteFunc_calls (v : Value) (l : List S29) (tg : Nat → Nat) (base : Nat) (ok : Nat → Prop) (f : Nat) (caps : Array Value) (p : S29 → Bool) (w : World)
    (ho : (Kd.tag tg k29).R 29 w base ok v l.zipIdx) (fg : Func) (hfg : Try.prog.funcs[f]? = some fg) (hb : fg.body.isSome = true) (hn : (fg.name == "runtime.NumGoroutine") = false)
    (hg : ∀ x ∈ l, ∀ A n c w', w.grownBy w' v.ownBlock → Calls Try.prog f (#[packV x (.slice A n c)] ++ caps) w' fun e w'' => e = .returned (.bool (p x)) ∧ Below w'.heap.size w' w'') :
    Calls Try.prog 25 #[v, .func (.func f) #[] caps] w fun e w' => ∃ v', e = .returned v' ∧ (Kd.tag tg k29).R 29 w' base ok v' (l.zipIdx.filter fun z => !p z.1) ∧ w.grownBy w' v.ownBlock := by
  obtain ⟨A, c, rfl, hlc, hC⟩ := Kd.R_reads (Kd.S_R ⟨tg, ho⟩)
  have HI := Aside0.mk (indexFunc_calls A c l f caps p w hC hlc fg hfg hb hn (fun x hx A n c w' hw' => hg x hx A n c w' (grown_of_below hw' _)))
  have hle : l.length ≤ 9223372036854775807 := hC.2.1
  have hcf := fun args w => enters_ hfg hn hb args w
  have HO := Aside0.mk ho
  have HG := Aside0.mk hg
  have HLZ := Aside0.mk (show l.zipIdx.length = l.length from List.length_zipIdx)
  clear hC ho hg hfg hb hn
  have hcase := idxP p l.zipIdx 0
  rw [zip_fst] at hcase
  rcases hcase with ⟨h1, h2⟩ | ⟨i0, hi0, h1, h2⟩
  · rw [h1] at HI
    have HF := Aside0.mk h2
    clear h1 h2
    go_enter Try.func25, Try.ntmps25
    go_wp2_with fail
    refine HI.out.mono ?_
    rintro e w1 ⟨rfl, hb1⟩
    have HB1 := Aside0.mk hb1
    clear hb1
    go_wp2
    go_ret
    exact ⟨_, rfl, by rw [HF.out]; exact Kd.R_below HO.out HB1.out, grown_of_below HB1.out _⟩
  · rw [HLZ.out] at hi0
    rw [h1, Nat.zero_add] at HI
    have HF := Aside0.mk h2
    have b1 : ((i0 : Int) == -1) = false := by rw [beq_eq_false_iff_ne]; omega
    clear h1 h2
    obtain ⟨g, cap, hv, hgb, hgl, _⟩ := Kd.R_form HO.out (by rw [HLZ.out]; omega)
    rw [HLZ.out] at hv
    injection hv with hA _ hcc
    subst hA; subst hcc
    go_enter Try.func25, Try.ntmps25
    go_wp2_with fail
    refine HI.out.mono ?_
    rintro e w1 ⟨rfl, hb1⟩
    have HB1 := Aside0.mk hb1
    clear hb1
    go_wp2_with fail
    go_loopw [5, 6] (fun v5 v6 w' => ∃ (i j : Nat) (ys : List (S29 × Nat)), v5 = .int .i64 i ∧ v6 = .int .i64 j ∧ i < j ∧ j ≤ l.length ∧ Aside0 (ys.length = l.length) ∧ Aside0 (ys.take i = (l.zipIdx.take j).filter (fun z => !p z.1)) ∧ Aside0 (ys.drop j = l.zipIdx.drop j) ∧
        Aside0 ((Kd.tag tg k29).R 29 w' base ok (.slice (some ⟨g, 0, none⟩) l.length c) ys) ∧ Aside0 (w.grownBy w' (some g))) (fun _ v6 _ => l.length - (intOf v6).toNat)
    case atStart => exact ⟨i0, i0 + 1, l.zipIdx, rfl, by go_num, by omega, by omega, HLZ, ⟨HF.out.symm⟩, ⟨rfl⟩, ⟨Kd.R_below HO.out HB1.out⟩, ⟨grown_of_below HB1.out _⟩⟩
    case round =>
      obtain ⟨i, j, ys, rfl, rfl, hij, hj, HYL, HYT, HYD, HYR, HYG⟩ := hrel
      by_cases hlt : j < l.length
      · obtain ⟨x, hxl, hxd, hxy⟩ : ∃ x, x ∈ l ∧ l.zipIdx.drop j = (x, j) :: l.zipIdx.drop (j + 1) ∧ ys.getD j (z29, 0) = (x, j) := by
          have hzl : j < l.zipIdx.length := by rw [HLZ.out]; exact hlt
          have hze : l.zipIdx[j] = (l[j], j) := by rw [List.getElem_zipIdx, Nat.zero_add]
          refine ⟨l[j], List.getElem_mem hlt, by rw [← hze]; exact List.drop_eq_getElem_cons hzl, ?_⟩
          have hy : j < ys.length := by rw [HYL.out]; exact hlt
          have := HYD.out
          rw [List.drop_eq_getElem_cons hzl, List.drop_eq_getElem_cons hy, hze] at this
          rw [mem_getElem ys j hy]
          exact (List.cons.inj this).1
        obtain ⟨A2, c2, hx0, hx1, hx2, hR2⟩ := elem_tag' HYR.out hlt hxy
        have HXL := Aside0.mk hxl
        have HXD := Aside0.mk hxd
        clear hxl hxd hxy
        have HG1 := Aside0.mk (World.grownBy.trans HYG.out (World.grownBy_alloc wr (.cells #[.int .i64 x.f0, .int .i64 x.f1, .slice A2 x.f2.length c2] 29) (some g)))
        have HR1 := Aside0.mk (Kd.R_alloc HYR.out (.cells #[.int .i64 x.f0, .int .i64 x.f1, .slice A2 x.f2.length c2] 29))
        have HE1 := Aside0.mk (Kd.R_alloc hR2 (.cells #[.int .i64 x.f0, .int .i64 x.f1, .slice A2 x.f2.length c2] 29))
        clear hR2
        go_wp2_with fail
        refine (HG.out x HXL.out A2 x.f2.length c2 _ HG1.out).mono ?_
        rintro e w2 ⟨rfl, hb2⟩
        have HR2 := Aside0.mk (Kd.R_below HR1.out hb2)
        have HE2 := Aside0.mk (Kd.R_below HE1.out hb2)
        have HG2 := Aside0.mk (World.grownBy.trans HG1.out (grown_of_below hb2 (some g)))
        have hz0 : w2.cell? ⟨wr.heap.size, 0, none⟩ = some (.int .i64 x.f0) := (hb2.cell (by simp)).trans (by simp)
        have hz1 : w2.cell? ⟨wr.heap.size, 1, none⟩ = some (.int .i64 x.f1) := (hb2.cell (by simp)).trans (by simp)
        have hz2 : w2.cell? ⟨wr.heap.size, 2, none⟩ = some (.slice A2 x.f2.length c2) := (hb2.cell (by simp)).trans (by simp)
        clear hb2 HR1 HE1 HG1 HYR HYG hx0 hx1 hx2
        by_cases hp : p x = true
        · have HP := Aside0.mk hp
          have hp1 : p x = true := hp
          clear hp
          go_wp2
          go_roundw
          case rel => exact ⟨i, j + 1, ys, rfl, by go_num, by omega, by omega, HYL, ⟨by rw [HYT.out, take_stepP p l.zipIdx j (x, j) HXD.out, HP.out]; simp⟩, ⟨by rw [← List.drop_drop, HYD.out, List.drop_drop]⟩, HR2, HG2⟩
          case measure => simp [intOf]; omega
        · have hp1 : p x = false := by simpa using hp
          have HP := Aside0.mk hp1
          clear hp
          obtain ⟨cs, hcl, hM, hcell, hfr⟩ := Kd.R_elem HR2.out (z29, 0) (i : Int) (by omega) (by omega)
          rw [Int.toNat_natCast] at hM hcell hfr
          have hcl3 : cs.length = (Kd.tag tg k29).sz := hcl
          have HCL := Aside0.mk hcl3
          have HCC := Aside0.mk hcell
          clear hM hcell hfr hcl hcl3
          have HMM : (Kd.tag tg k29).M w2 base (fun k => ok k ∧ k ≠ g) (x, j) [.int .i64 x.f0, .int .i64 x.f1, .slice A2 x.f2.length c2] := k29_mkM w2 base _ x HE2.out
          have HMA := Aside0.mk HMM
          clear HMM
          have hseg : ∀ q ∈ [Value.int .i64 x.f0, .int .i64 x.f1, .slice A2 x.f2.length c2], q.oneCell' = true := by simp [Value.oneCell']
          have hcat : cs.take 0 ++ [Value.int .i64 x.f0, .int .i64 x.f1, .slice A2 x.f2.length c2] ++ cs.drop (0 + 3) = [Value.int .i64 x.f0, .int .i64 x.f1, .slice A2 x.f2.length c2] := by
            rw [List.take_zero, List.nil_append, List.drop_eq_nil_of_le (by rw [HCL.out]; exact Nat.le_refl 3), List.append_nil]
          have HCAT := Aside0.mk hcat
          clear hcat
          have HSEG := Aside0.mk hseg
          clear hseg
          go_wp2_with (refine gate_ (.store 29 (.tmp 33) (.tmp 32)) rfl ?_; refine Kd.R_store (Kd.tag tg k29) (w0 := w2) base rfl rfl 29 (.tmp 33) (.tmp 32) rfl 29 (g := g) (n := l.length) (cap := c) (o' := i * 3) (i : Int) 0 ys (x, j) _ [.int .i64 x.f0, .int .i64 x.f1, .slice A2 x.f2.length c2] cs ok (fun k => ok k ∧ k ≠ g) rfl rfl rfl rfl (by kernel_rfl) HSEG.out HR2.out (by omega) (by omega) HCL.out (by rw [Int.toNat_natCast]; exact HCC.out) (by show 0 + 3 ≤ 3; omega) (HCAT.out.symm ▸ HMA.out) (fun _ h => h) (Below.refl _ _) ?_; intro w3 hr3 hb3 hg3; rw [Int.toNat_natCast] at hr3; have HR3 := Aside0.mk hr3; have HG3 := Aside0.mk (World.grownBy.trans HG2.out hg3); clear hr3 hb3 hg3)
          go_roundw
          case rel => exact ⟨i + 1, j + 1, ys.set i (x, j), by go_num, by go_num, by omega, by omega, ⟨by rw [List.length_set]; exact HYL.out⟩, ⟨by rw [set_take' ys i (x, j) (by rw [HYL.out]; omega), HYT.out, take_stepP p l.zipIdx j (x, j) HXD.out, HP.out]; rfl⟩, ⟨by rw [List.drop_set_of_lt (by omega), ← List.drop_drop, HYD.out, List.drop_drop]⟩, HR3, HG3⟩
          case measure => simp [intOf]; omega
      · have hjl : j = l.length := by omega
        subst hjl
        obtain ⟨cur, hh, hcs, -, -⟩ := R_row HYR.out
        have hcs3 : cur.size = c * 3 := hcs
        have hRT := Kd.R_take HYR.out (m := i) (by rw [HYL.out]; omega)
        have hzl : (Builtin.zeroCells (Value.agg #[.int .i64 0, .int .i64 0, .slice none 0 0]).cells (l.length - i)).toList.length = (l.length - i) * 3 := by rw [Array.length_toList, zero29_len]
        have HR4 := R_spare hRT (Builtin.zeroCells (Value.agg #[.int .i64 0, .int .i64 0, .slice none 0 0]).cells (l.length - i)).toList (by rw [hzl]; show i * 3 + (l.length - i) * 3 ≤ c * 3; omega)
        have hclr := run_clear (P := Try.prog) wr 22 0 29 Try.underlying22 (.agg #[.int .i64 0, .int .i64 0, .slice none 0 0]) (by kernel_rfl) g (i * 3) (l.length - i) (c - i) (by omega) cur hh
          (by rw [← Array.length_toList, hzl, hcs3]; omega) (zero29_one _)
        have hi1 : (i : Int) ≤ l.length := by omega
        have hic : (i : Int) ≤ c := by omega
        change (Kd.tag tg k29).R 29 (wr.setCells g (i * 3) (Builtin.zeroCells (Value.agg #[.int .i64 0, .int .i64 0, .slice none 0 0]).cells (l.length - i)).toList) base ok (.slice (some ⟨g, 0, none⟩) i c) (ys.take i) ∧ wr.grownBy (wr.setCells g (i * 3) (Builtin.zeroCells (Value.agg #[.int .i64 0, .int .i64 0, .slice none 0 0]).cells (l.length - i)).toList) (some g) at HR4
        clear hzl hh hcs hcs3 hRT
        generalize hwe : wr.setCells g (i * 3) (Builtin.zeroCells (Value.agg #[.int .i64 0, .int .i64 0, .slice none 0 0]).cells (l.length - i)).toList = w5 at *
        clear hwe
        have HR5 := Aside0.mk HR4.1
        have HG5 := Aside0.mk (World.grownBy.trans HYG.out HR4.2)
        have HF5 := Aside0.mk (HYT.out.trans (by rw [← HLZ.out, List.take_length]))
        clear HR4
        go_wp2
        go_ret
        exact ⟨_, rfl, by rw [← HF5.out]; exact HR5.out, HG5.out⟩

/-- net.Cut's closure -/
theorem cut1_calls (x : S29) (tt : Int) (A : Option Addr) (n c g : Nat) (w : World) (hm : w.heap[g]? = some (.cells #[.int .i64 tt] 3 (0, 0))) :
    Calls Try.prog 26 #[packV x (.slice A n c), .pointer (some ⟨g, 0, none⟩)] w fun e w' => e = .returned (.bool (x.f1 == tt)) ∧ Below w.heap.size w w' := by
  have hg0 : w.cell? ⟨g, 0, none⟩ = some (.int .i64 tt) := (blk_cell hm 0).trans rfl
  have hlt : g < w.heap.size := World.block_lt_of_cell? w _ hg0
  unfold packV
  go_enter Try.func26, Try.ntmps26
  go_wp2
  go_ret
  exact ⟨rfl, (Below.refl _ _).alloc (Nat.le_refl _) _⟩

/-- the blocks of Cut's result and of its closure -/
structure T3 (w W : World) (tt : Int) (g3 g4 : Nat) : Prop where
  b3 : W.heap[g3]? = some (.cells #[.int .i64 tt] 3 (0, 0))
  b4 : W.heap[g4]? = some (.cells #[.int .i64 0, .slice none 0 0] 24 (0, 0))
  hb : Below w.heap.size w W
  h3 : w.heap.size ≤ g3
  h34 : g3 < g4
theorem T3.below {w W W1 : World} {tt : Int} {g3 g4 : Nat} (h : T3 w W tt g3 g4) (hb1 : Below W.heap.size W W1) : T3 w W1 tt g3 g4 := ⟨blk_b h.b3 hb1, blk_b h.b4 hb1, below_step h.hb hb1, h.h3, h.h34⟩
theorem T3.grown {w W W1 : World} {tt : Int} {g3 g4 g : Nat} (h : T3 w W tt g3 g4) (hg1 : W.grownBy W1 (some g)) (hg : g4 < g) : T3 w W1 tt g3 g4 :=
  ⟨blk_g h.b3 hg1 (by have := h.h34; omega), blk_g h.b4 hg1 (by omega), below_g h.hb hg1 h.hb.size (by have := h.h3; have := h.h34; omega), h.h3, h.h34⟩
theorem T3.lt {w W : World} {tt : Int} {g3 g4 : Nat} (h : T3 w W tt g3 g4) : g4 < W.heap.size := blk_lt h.b4
theorem grown_own {W W1 : World} {v : Value} (hg : W.grownBy W1 v.ownBlock) (k : Nat) (hk : k < W.heap.size) (hne : some k ≠ v.ownBlock) : W1.heap[k]? = W.heap[k]? := hg.block k hk hne
theorem T3.grownR {w W W1 : World} {tt : Int} {g3 g4 : Nat} {v : Value} (h : T3 w W tt g3 g4) (hg1 : W.grownBy W1 v.ownBlock) (hv : ∀ k, v.ownBlock = some k → g4 < k) : T3 w W1 tt g3 g4 := by
  have h34 := h.h34
  have h3 := h.h3
  exact ⟨(grown_own hg1 g3 (blk_lt h.b3) (fun e => by have := hv g3 e.symm; omega)).trans h.b3, (grown_own hg1 g4 (blk_lt h.b4) (fun e => by have := hv g4 e.symm; omega)).trans h.b4, pw_below_grown h.hb _ h.hb.size hg1 (fun k hk => by have := hv k hk; omega), h3, h34⟩

set_option maxHeartbeats 8000000 in
set_option maxRecDepth 100000 in
theorem cut_calls (k : Nat) (a0 : Int) (A : Option Addr) (c : Nat) (l l' : List S29) (tt n' : Int) (w : World) (hr : Kd.C k29 w A l.length l) (hc : l.length ≤ c) (h : net_copied.f k a0 l = some (n', l')) :
    Calls Try.prog 19 #[.agg #[.int .i64 a0, .slice A l.length c], .int .i64 tt] w fun e w' => ∃ v1_ : Value, e = .returned (.agg #[.int .i64 n', v1_]) ∧ Kd.S k29 29 w' w.heap.size (fun _ => True) v1_ (l'.filter fun x => !(x.f1 == tt)) ∧ Below w.heap.size w w' := by
  have HR := Aside0.mk hr
  have HC := Aside0.mk hc
  have HK := Aside0.mk h
  clear hr hc h
  go_enter Try.func19, Try.ntmps19
  go_wp2_with (first
    | ((with_reducible refine gate_dst (N := 2) rfl ?_); refine box_event ?hg (N := 2) ?hd (cs := #[.int .i64 a0, .slice A l.length c]) (t := 24) ?hr ?_; (case hd => rfl); (case hg => rfl); (case hr => first | (go_simp; done) | (go_simp; rfl)); intro g2 e2 w1 b2 hb1; have B2 := Aside0.mk b2; have HB := Aside0.mk hb1; clear b2 hb1 e2)
    | ((with_reducible refine gate_dst (N := 3) rfl ?_); refine box_event ?hg (N := 3) ?hd (cs := #[.int .i64 tt]) (t := 3) ?hr ?_; (case hd => rfl); (case hg => rfl); (case hr => first | (go_simp; done) | (go_simp; rfl)); intro g3 e3 w2 b3 hb1; have n1 := Aside0.mk (blk_b B2.out hb1); have n2 := Aside0.mk (below_step HB.out hb1); have L3 := Aside0.mk (show w.heap.size ≤ g3 by rw [e3]; exact HB.out.size); have B3 := Aside0.mk b3; clear b3 hb1 e3 B2 HB; have B2 := n1; have HB := n2; clear n1 n2)
    | ((with_reducible refine gate_dst (N := 4) rfl ?_); refine box_event ?hg (N := 4) ?hd (cs := #[.int .i64 0, .slice none 0 0]) (t := 24) ?hr ?_; (case hd => rfl); (case hg => rfl); (case hr => first | (go_simp; done) | (go_simp; rfl)); intro g4 e4 w3 b4 hb1; have T := Aside0.mk (show T3 w w3 tt g3 g4 from ⟨blk_b B3.out hb1, b4, below_step HB.out hb1, L3.out, by rw [e4]; exact blk_lt B3.out⟩); have n1 := blk_b B2.out hb1; have hz0 : w3.cell? ⟨g2, 0, none⟩ = some (.int .i64 a0) := (blk_cell n1 0).trans rfl; have hz1 : w3.cell? ⟨g2, 1, none⟩ = some (.slice A l.length c) := (blk_cell n1 1).trans rfl; clear b4 hb1 e4 B2 HB B3 L3 n1)
    | fail)
  refine (net_copied.calls k a0 A c l n' l' w3 (Kd.C_below HR.out T.out.hb) HC.out HK.out).mono ?_
  rintro e w4 ⟨v1, rfl, hs, hb1⟩
  have LT := Aside0.mk (T.out.below hb1).lt
  obtain ⟨f, hR⟩ := Kd.S_lower (Kd.S_mono (Kd.S_bound hs) (ok' := fun k => g4 < k ∧ k < w4.heap.size) (fun k hk => ⟨by have := T.out.lt; omega, hk.2.2.1⟩)) T.out.hb.size
  obtain ⟨A1, c1, hv1⟩ := Kd.R_slice hR
  rw [List.length_zipIdx] at hv1
  subst hv1
  have HO := Aside0.mk hR
  have HV := Aside0.mk (fun k hk => hR.1 k hk)
  have n1 := Aside0.mk (T.out.below hb1)
  clear T hs hb1 hz0 hz1 hR
  have T := n1
  clear n1
  go_wp2_with (first
    | ((with_reducible refine gate_dst (N := 5) rfl ?_); refine box_event ?hg (N := 5) ?hd (cs := #[.int .i64 0, .slice none 0 0]) (t := 24) ?hr ?_; (case hd => rfl); (case hg => rfl); (case hr => first | (go_simp; done) | (go_simp; rfl)); intro g7 e7 w5 b7 hb1; have n1 := Aside0.mk (T.out.below hb1); have n2 := Aside0.mk (Kd.R_below HO.out hb1); have G7 := Aside0.mk (show w4.heap.size ≤ g7 from Nat.le_of_eq e7.symm); have B7 := Aside0.mk b7; clear T HO b7 hb1 e7; have T := n1; have HO := n2; clear n1 n2)
    | ((with_reducible refine gate_ (.store 24 (.tmp 5) (.tmp 7)) rfl ?_); refine put_event (g := g7) (e := 24) rfl rfl 24 (.tmp 5) (.tmp 7) rfl rfl (.agg #[.int .i64 n', .slice A1 l'.length c1]) rfl (cs' := #[.int .i64 n', .slice A1 l'.length c1]) rfl (by kernel_rfl) (by simp [Value.oneCell']) B7.out rfl ?_; intro w6 b7 hg1; have n1 := Aside0.mk (T.out.grown hg1 (by have := G7.out; have := LT.out; omega)); have n2 := Aside0.mk (Kd.R_grown HO.out hg1 (fun k hk he => by have := Option.some.inj he; have := G7.out; omega)); clear B7 T HO hg1; have B7 := Aside0.mk b7; have T := n1; have HO := n2; clear n1 n2 b7; have hz0 : w6.cell? ⟨g7, 0, none⟩ = some (.int .i64 n') := (blk_cell B7.out 0).trans rfl; have hz1 : w6.cell? ⟨g7, 1, none⟩ = some (.slice A1 l'.length c1) := (blk_cell B7.out 1).trans rfl)
    | fail)
  refine (deleteFunc_calls (.slice A1 l'.length c1) l' f w.heap.size _ 26 #[.pointer (some ⟨g3, 0, none⟩)] (fun x => x.f1 == tt) w6 HO.out Try.f26 Try.func26 (by kernel_rfl) (by kernel_rfl)
    (fun x hx A n c w' hg => cut1_calls x tt A n c g3 w' (T.out.grownR hg (fun k hk => (HV.out k hk).1)).b3)).mono ?_
  rintro e w7 ⟨v2, rfl, hr7, hg1⟩
  have hvb : ∀ k, (Value.slice A1 l'.length c1).ownBlock = some k → g4 < k ∧ k < w4.heap.size := fun k hk => HV.out k hk
  have n1 := Aside0.mk (T.out.grownR hg1 (fun k hk => (hvb k hk).1))
  have n4 := Aside0.mk ((grown_own hg1 g7 (blk_lt B7.out) (fun he => by have := hvb g7 he.symm; have := G7.out; omega)).trans B7.out)
  clear T HO B7 hz0 hz1 hg1
  have HO := Aside0.mk hr7
  have hlen2 := hr7
  obtain ⟨A3, c3, hv2⟩ := Kd.R_slice hr7
  clear hr7 hlen2
  generalize (List.filter (fun z => !(z.1.f1 == tt)) l'.zipIdx).length = n3 at hv2
  subst hv2
  have T := n1
  have B7 := n4
  clear n1 n4
  go_wp2_with (first
    | ((with_reducible refine gate_ (.store 22 (.tmp 12) (.tmp 11)) rfl ?_); refine put_field (g := g7) (j := 1) (e := 24) rfl rfl 22 (.tmp 12) (.tmp 11) rfl rfl (.slice A3 n3 c3) rfl rfl (by kernel_rfl) rfl B7.out (by simp) ?_; intro w10 b7 hg1; have n1 := Aside0.mk (T.out.grown hg1 (by have := G7.out; have := LT.out; omega)); have n2 := Aside0.mk (Kd.R_grown HO.out hg1 (fun k hk he => by have := Option.some.inj he; have := G7.out; omega)); clear B7 T HO hg1; have B7 : Aside0 (w10.heap[g7]? = some (.cells #[.int .i64 n', .slice A3 n3 c3] 24 (0, 0))) := Aside0.mk (by simpa using b7); have T := n1; have HO := n2; clear n1 n2 b7; have hz0 : w10.cell? ⟨g7, 0, none⟩ = some (.int .i64 n') := (blk_cell B7.out 0).trans rfl; have hz1 : w10.cell? ⟨g7, 1, none⟩ = some (.slice A3 n3 c3) := (blk_cell B7.out 1).trans rfl)
    | ((with_reducible refine gate_ (.store 24 (.tmp 4) (.tmp 13)) rfl ?_); refine put_event (g := g4) (e := 24) rfl rfl 24 (.tmp 4) (.tmp 13) rfl rfl (.agg #[.int .i64 n', .slice A3 n3 c3]) rfl (cs' := #[.int .i64 n', .slice A3 n3 c3]) rfl (by kernel_rfl) (by simp [Value.oneCell']) T.out.b4 rfl ?_; intro w11 b4 hg1; have B4 := Aside0.mk b4; have n2 := Aside0.mk (Kd.R_grown HO.out hg1 (fun k hk he => by have := Option.some.inj he; omega)); have n3_ := Aside0.mk (below_g T.out.hb hg1 T.out.hb.size (by have := T.out.h3; have := T.out.h34; omega)); clear HO hg1 b4; have HO := n2; have HB := n3_; clear n2 n3_)
    | fail)
  refine bodyPost_ret (results_cell_row rfl _ _ g4 24 #[.int .i64 n', .slice A3 n3 c3] (0, 0) _ rfl B4.out Try.underlying24 rfl (by kernel_rfl)) rfl ?_
  have hS := tag_S HO.out (snd_nodup (fun x => !(x.f1 == tt)) l')
  rw [filter_fst (fun x => !(x.f1 == tt)) l' 0] at hS
  exact ⟨_, rfl, Kd.S_mono hS (fun _ _ => trivial), HB.out⟩

def net_Cut.f (k : Nat) (a0_0 : Int) (l0_1 : List (S29)) (a1 : Int) : Option (Int × (List (S29))) := (net_copied.f k a0_0 l0_1).bind fun r => some (r.1, r.2.filter fun x => !(x.f1 == a1))
theorem net_Cut.mono : ∀ a0 a1 a2 k, LeO (net_Cut.f k a0 a1 a2) (net_Cut.f (k + 1) a0 a1 a2) := by
  intro a0 a1 a2 k
  unfold net_Cut.f
  exact LeO.bind (net_copied.mono _ _ _) (fun _ => LeO.refl _)
theorem net_Cut.calls (k : Nat) (a0_0 : Int) (A0_1 : Option Addr) (c0_1 : Nat) (l0_1 : List (S29)) (a1 : Int) (r1 : Int) (r2 : List (S29)) (w : World) (hr0_1 : Kd.C k29 w A0_1 l0_1.length l0_1) (hc0_1 : l0_1.length ≤ c0_1) (h : net_Cut.f k a0_0 l0_1 a1 = some (r1, r2)) :
    Calls Try.prog 19 #[.agg #[.int .i64 a0_0, .slice A0_1 l0_1.length c0_1], .int .i64 a1] w fun e w' => ∃ v1_ : Value, e = .returned (.agg #[.int .i64 r1, v1_]) ∧ Kd.S k29 29 w' w.heap.size (fun _ => True) v1_ r2 ∧ Below w.heap.size w w' := by
  unfold net_Cut.f at h
  obtain ⟨⟨n', l'⟩, hcp, h⟩ := Option.bind_eq_some_iff.mp h
  simp only [Option.some.injEq, Prod.mk.injEq] at h
  obtain ⟨rfl, rfl⟩ := h
  exact cut_calls k a0_0 A0_1 c0_1 l0_1 l' a1 _ w hr0_1 hc0_1 hcp

theorem lit_byte (W : World) (g : Nat) (x : Int) (fr : Nat × Nat) (h : W.heap[g]? = some (.cells #[.int .u8 x] 5 fr)) : Kd.C (Kd.int .u8) W (some ⟨g, 0, none⟩) 1 [x] := by
  refine ⟨rfl, by simp, fun _ => ⟨_, rfl, fun j p hj => ?_⟩⟩
  match j, hj with
  | 0, hj =>
    obtain rfl : x = p := by simpa using hj
    refine ⟨[.int .u8 x], rfl, rfl, fun i u hu => ?_⟩
    match i, hu with
    | 0, hu => show W.cell? ((⟨g, 0, none⟩ : Addr).add (0 * (Kd.int .u8).sz + 0)) = some u; rw [add_plain, Nat.zero_mul, cell_of_row W g _ _ 5 fr h]; simpa using hu
    | i + 1, hu => simp at hu
  | j + 1, hj => simp at hj
theorem C_nil29 (W : World) : Kd.C k29 W none ([] : List S29).length [] := ⟨rfl, by simp, fun h => absurd h (Nat.lt_irrefl 0)⟩

theorem elem2 {W : World} {A : Option Addr} {c base : Nat} {ok : Nat → Prop} {x0 x1 x2 : S29} (h : Kd.R k29 29 W base ok (.slice A [x0, x1, x2].length c) [x0, x1, x2]) :
    ∃ g A7 c7, A = some ⟨g, 0, none⟩ ∧ W.cell? ⟨g, 6, none⟩ = some (.int .i64 x2.f0) ∧ W.cell? ⟨g, 6 + 2, none⟩ = some (.slice A7 x2.f2.length c7) ∧ Kd.C (Kd.int .u8) W A7 x2.f2.length x2.f2 := by
  obtain ⟨g, cp, hv, _⟩ := Kd.R_form h (by simp)
  injection hv with hv _ _
  subst hv
  obtain ⟨ad, A7, c7, e7, ha0, _, ha2, _, hC7⟩ := at_T29 (Kd.R_reads' h).2.2 2 (by decide) (by simp)
  obtain rfl := Option.some.inj e7
  rw [add_plain] at ha0 ha2
  exact ⟨g, A7, c7, rfl, ha0, ha2, hC7⟩

theorem fld (W : World) (n : Int) (A : Option Addr) (m c : Nat) : (Instr.field 24 (.agg #[.int .i64 n, .slice A m c]) 1).run Try.prog W = .ok (.slice A m c) W := by
  simp [Instr.field, run_underlying Try.underlying24, asAgg, part]
set_option maxHeartbeats 8000000 in
set_option maxRecDepth 100000 in
theorem awake_calls (w : World) : Calls Try.prog 7 #[] w fun e w' => e = .returned (.bool true) ∧ Below w.heap.size w w' := by
  have HS1 := Aside0.mk (show net_Send.f 9 0 [] 1 [97] = some (1, [⟨0, 1, [97]⟩]) by kernel_rfl)
  have HS2 := Aside0.mk (show net_Send.f 9 1 [⟨0, 1, [97]⟩] 2 [98] = some (2, [⟨0, 1, [97]⟩, ⟨1, 2, [98]⟩]) by kernel_rfl)
  have HS3 := Aside0.mk (show net_Copy.f 9 2 [⟨0, 1, [97]⟩, ⟨1, 2, [98]⟩] 0 = some (3, [⟨0, 1, [97]⟩, ⟨1, 2, [98]⟩, ⟨2, 1, [97]⟩]) by kernel_rfl)
  have HS4 := Aside0.mk (show net_Take.f 9 3 [⟨0, 1, [97]⟩, ⟨1, 2, [98]⟩, ⟨2, 1, [97]⟩] 4 = some (1, 2, [98], 3, [⟨0, 1, [97]⟩, ⟨2, 1, [97]⟩], true) by kernel_rfl)
  have HS5 := Aside0.mk (show net_Cut.f 9 3 [⟨0, 1, [97]⟩, ⟨1, 2, [98]⟩, ⟨2, 1, [97]⟩] 1 = some (3, [⟨1, 2, [98]⟩]) by kernel_rfl)
  have HB := Aside0.mk (Below.refl w.heap.size w)
  have hcb := Go.Lib.run_convert_bytes_const (P := Try.prog) w 25 5 #[.int .u8 97] 1 1 Try.underlying25 Try.underlying5
  go_enter Try.func7, Try.ntmps7
  go_wp2_with fail
  have HA := Aside0.mk (lit_byte (w.alloc (.cells #[.int .u8 97] 5 (1, 2))) w.heap.size 97 _ (heap_alloc_new w _))
  replace HB := Aside0.mk (below_alloc HB.out (.cells #[.int .u8 97] 5 (1, 2)))
  generalize w.alloc (.cells #[.int .u8 97] 5 (1, 2)) = w1 at *
  refine (net_Send.calls 9 0 none 0 [] 1 _ 1 [97] 1 _ w1 (C_nil29 w1) (Nat.le_refl _) HA.out (Nat.le_refl _) HS1.out).mono ?_
  rintro e w2 ⟨v, rfl, hs, hb⟩
  replace HB := Aside0.mk (below_step HB.out hb)
  obtain ⟨A1, c1, rfl, hc1, hC1⟩ := Kd.S_reads hs
  have HC1 := Aside0.mk hC1
  clear hs hb hC1 HA hcb
  have hcb := Go.Lib.run_convert_bytes_const (P := Try.prog) w2 25 5 #[.int .u8 98] 1 1 Try.underlying25 Try.underlying5
  go_wp2_with fail
  have HA := Aside0.mk (lit_byte (w2.alloc (.cells #[.int .u8 98] 5 (1, 2))) w2.heap.size 98 _ (heap_alloc_new w2 _))
  replace HB := Aside0.mk (below_alloc HB.out (.cells #[.int .u8 98] 5 (1, 2)))
  replace HC1 := Aside0.mk (Kd.C_alloc HC1.out (.cells #[.int .u8 98] 5 (1, 2)))
  generalize w2.alloc (.cells #[.int .u8 98] 5 (1, 2)) = w3 at *
  refine (net_Send.calls 9 1 A1 c1 [⟨0, 1, [97]⟩] 2 _ 1 [98] 2 _ w3 HC1.out hc1 HA.out (Nat.le_refl _) HS2.out).mono ?_
  rintro e w4 ⟨v, rfl, hs, hb⟩
  replace HB := Aside0.mk (below_step HB.out hb)
  obtain ⟨A2, c2, rfl, hc2, hC2⟩ := Kd.S_reads hs
  have HC2 := Aside0.mk hC2
  clear hs hb hC2 HA HC1 hcb
  go_wp2_with fail
  refine (net_Copy.calls 9 2 A2 c2 [⟨0, 1, [97]⟩, ⟨1, 2, [98]⟩] 0 3 _ w4 HC2.out hc2 HS3.out).mono ?_
  rintro e w5 ⟨v, rfl, hs, hb⟩
  replace HB := Aside0.mk (below_step HB.out hb)
  obtain ⟨A3, c3, rfl, hc3, _⟩ := Kd.S_reads hs
  have HC3 := Aside0.mk (Kd.R_mono (Kd.R_bound (Kd.S_R hs)) (ok' := fun k => k < w5.heap.size) (fun k hk => hk.2.2.1))
  clear hs hb HC2
  go_wp2_with (first
    | ((with_reducible refine gate_dst (N := 1) rfl ?_); refine box_event ?hg (N := 1) ?hd (cs := #[.int .i64 0, .slice none 0 0]) (t := 24) ?hr ?_; (case hd => rfl); (case hg => rfl); (case hr => first | (go_simp; done) | (go_simp; rfl)); intro g1 e1 w6 b1 hb1; have B1 := Aside0.mk b1; have L1 := Aside0.mk (show w.heap.size ≤ g1 by rw [e1]; exact HB.out.size); have E1 := Aside0.mk e1; have n1 := Aside0.mk (below_step HB.out hb1); have n2 := Aside0.mk (Kd.R_below HC3.out hb1); clear b1 hb1 e1 HB HC3; have HB := n1; have HC3 := n2; clear n1 n2)
    | ((with_reducible refine gate_ (.store 24 (.tmp 1) (.tmp 12)) rfl ?_); refine put_event (g := g1) (e := 24) rfl rfl 24 (.tmp 1) (.tmp 12) rfl rfl (.agg #[.int .i64 3, .slice A3 3 c3]) rfl (cs' := #[.int .i64 3, .slice A3 3 c3]) rfl (by kernel_rfl) (by simp [Value.oneCell']) B1.out rfl ?_; intro w7 b1 hg1; have n1 := Aside0.mk (below_g HB.out hg1 HB.out.size L1.out); have n2 := Aside0.mk (Kd.R_grown HC3.out hg1 (fun k hk he => by have := Option.some.inj he; have := E1.out; omega)); clear B1 HB HC3 hg1; have B1 := Aside0.mk b1; have HB := n1; have HC3 := n2; clear n1 n2 b1; have hz0 : w7.cell? ⟨g1, 0, none⟩ = some (.int .i64 3) := (blk_cell B1.out 0).trans rfl; have hz1 : w7.cell? ⟨g1, 1, none⟩ = some (.slice A3 3 c3) := (blk_cell B1.out 1).trans rfl)
    | fail)
  refine (net_Take.calls 9 3 A3 c3 [⟨0, 1, [97]⟩, ⟨1, 2, [98]⟩, ⟨2, 1, [97]⟩] 4 1 2 [98] 3 [⟨0, 1, [97]⟩, ⟨2, 1, [97]⟩] true w7 (Kd.R_reads' HC3.out).2.2 hc3 HS4.out).mono ?_
  rintro e w8 ⟨v2, v4, rfl, hr2, hs4, hb⟩
  have n1 := Aside0.mk (blk_b B1.out hb)
  have n2 := Aside0.mk (Kd.R_below HC3.out hb)
  have n3 := Aside0.mk (below_step HB.out hb)
  obtain ⟨A5, c5, rfl⟩ := Kd.R_slice hr2
  obtain ⟨A6, c6, rfl⟩ := Kd.S_slice hs4
  have HP := Aside0.mk (Kd.R_bound hr2)
  have LT := Aside0.mk (show w7.heap.size ≤ w8.heap.size from hb.size)
  clear B1 HC3 HB hz0 hz1 hb hr2 hs4
  have B1 := n1
  have HC3 := n2
  have HB := n3
  clear n1 n2 n3
  go_wp2_with (first
    | ((with_reducible refine gate_dst (N := 2) rfl ?_); refine box_event ?hg (N := 2) ?hd (cs := #[.int .i64 0, .int .i64 0, .slice none 0 0]) (t := 29) ?hr ?_; (case hd => rfl); (case hg => rfl); (case hr => first | (go_simp; done) | (go_simp; rfl)); intro g2 e2 w9 b2 hb1; have B2 := Aside0.mk b2; have L2 := Aside0.mk (show w.heap.size ≤ g2 by rw [e2]; exact HB.out.size); have E2 := Aside0.mk (show g1 < g2 by rw [e2]; exact blk_lt B1.out); have n1 := Aside0.mk (below_step HB.out hb1); have n2 := Aside0.mk (Kd.R_below HC3.out hb1); have n3 := Aside0.mk (blk_b B1.out hb1); have n4 := Aside0.mk (Kd.R_below HP.out hb1); have G2 := Aside0.mk (show w8.heap.size ≤ g2 from Nat.le_of_eq e2.symm); clear b2 hb1 e2 HB HC3 B1 HP; have HB := n1; have HC3 := n2; have B1 := n3; have HP := n4; clear n1 n2 n3 n4)
    | ((with_reducible refine gate_dst (N := 3) rfl ?_); refine box_event ?hg (N := 3) ?hd (cs := #[.int .i64 0, .slice none 0 0]) (t := 24) ?hr ?_; (case hd => rfl); (case hg => rfl); (case hr => first | (go_simp; done) | (go_simp; rfl)); intro g3 e3 w10 b3 hb1; have B3 := Aside0.mk b3; have L3 := Aside0.mk (show w.heap.size ≤ g3 by rw [e3]; exact HB.out.size); have E3 := Aside0.mk (show g2 < g3 by rw [e3]; exact blk_lt B2.out); have n1 := Aside0.mk (below_step HB.out hb1); have n2 := Aside0.mk (Kd.R_below HC3.out hb1); have n3 := Aside0.mk (blk_b B1.out hb1); have n4 := Aside0.mk (Kd.R_below HP.out hb1); have n5 := Aside0.mk (blk_b B2.out hb1); clear b3 hb1 e3 HB HC3 B1 HP B2; have HB := n1; have HC3 := n2; have B1 := n3; have HP := n4; have B2 := n5; clear n1 n2 n3 n4 n5)
    | ((with_reducible refine gate_ (.store 29 (.tmp 2) (.tmp 16)) rfl ?_); refine put_event (g := g2) (e := 29) rfl rfl 29 (.tmp 2) (.tmp 16) rfl rfl (.agg #[.int .i64 1, .int .i64 2, .slice A5 1 c5]) rfl (cs' := #[.int .i64 1, .int .i64 2, .slice A5 1 c5]) rfl (by kernel_rfl) (by simp [Value.oneCell']) B2.out rfl ?_; intro w11 b2 hg1; have n1 := Aside0.mk (below_g HB.out hg1 HB.out.size L2.out); have n2 := Aside0.mk (Kd.R_grown HC3.out hg1 (fun k hk he => by have := Option.some.inj he; have := E1.out; have := E2.out; omega)); have n3 := Aside0.mk (blk_g B1.out hg1 (by have := E2.out; omega)); have n4 := Aside0.mk (Kd.R_grown HP.out hg1 (fun k hk he => by have := Option.some.inj he; have := hk.2.2.1; have := G2.out; omega)); have n5 := Aside0.mk (blk_g B3.out hg1 (by have := E3.out; omega)); clear HB HC3 B1 B2 B3 HP hg1; have HB := n1; have HC3 := n2; have B1 := n3; have HP := n4; have B3 := n5; have B2 := Aside0.mk b2; clear n1 n2 n3 n4 n5 b2)
    | ((with_reducible refine gate_ (.store 24 (.tmp 3) (.tmp 17)) rfl ?_); refine put_event (g := g3) (e := 24) rfl rfl 24 (.tmp 3) (.tmp 17) rfl rfl (.agg #[.int .i64 3, .slice A6 2 c6]) rfl (cs' := #[.int .i64 3, .slice A6 2 c6]) rfl (by kernel_rfl) (by simp [Value.oneCell']) B3.out rfl ?_; intro w12 b3 hg1; have n1 := Aside0.mk (below_g HB.out hg1 HB.out.size L3.out); have n2 := Aside0.mk (Kd.R_grown HC3.out hg1 (fun k hk he => by have := Option.some.inj he; have := E1.out; have := E2.out; have := E3.out; omega)); have n3 := Aside0.mk (blk_g B1.out hg1 (by have := E2.out; have := E3.out; omega)); have n4 := Aside0.mk (Kd.R_grown HP.out hg1 (fun k hk he => by have := Option.some.inj he; have := hk.2.2.1; have := G2.out; have := E3.out; omega)); have n5 := Aside0.mk (blk_g B2.out hg1 (by have := E3.out; omega)); clear HB HC3 B1 B2 B3 HP hg1; have HB := n1; have HC3 := n2; have B1 := n3; have HP := n4; have B2 := n5; have B3 := Aside0.mk b3; clear n1 n2 n3 n4 n5 b3; have hz0 : w12.cell? ⟨g1, 0, none⟩ = some (.int .i64 3) := (blk_cell B1.out 0).trans rfl; have hz1 : w12.cell? ⟨g1, 1, none⟩ = some (.slice A3 3 c3) := (blk_cell B1.out 1).trans rfl; have hy0 : w12.cell? ⟨g2, 0, none⟩ = some (.int .i64 1) := (blk_cell B2.out 0).trans rfl; have hy1 : w12.cell? ⟨g2, 1, none⟩ = some (.int .i64 2) := (blk_cell B2.out 1).trans rfl; have hy2 : w12.cell? ⟨g2, 2, none⟩ = some (.slice A5 1 c5) := (blk_cell B2.out 2).trans rfl; have hx0 : w12.cell? ⟨g3, 0, none⟩ = some (.int .i64 3) := (blk_cell B3.out 0).trans rfl; have hx1 : w12.cell? ⟨g3, 1, none⟩ = some (.slice A6 2 c6) := (blk_cell B3.out 1).trans rfl; obtain ⟨g0, A7, c7, e7, ha0, ha2, hC7⟩ := elem2 HC3.out; subst e7; have hcv1 := Kd.C_string (P := Try.prog) (A := A7) (c := c7) (dst := 9) Try.underlying25 Try.underlying5 Try.underlying9 (show (Kd.int .u8).C w12 A7 1 [97] from hC7); have hcv2 := Kd.C_string (P := Try.prog) (A := A5) (c := c5) (dst := 9) Try.underlying25 Try.underlying5 Try.underlying9 (show (Kd.int .u8).C w12 A5 1 [98] from (Kd.R_reads' HP.out).2.2); rw [show strOfNums [97] = { data := #[97] } by rfl] at hcv1; rw [show strOfNums [98] = { data := #[98] } by rfl] at hcv2; clear hC7)
    | fail)
  refine (net_Cut.calls 9 3 _ c3 [⟨0, 1, [97]⟩, ⟨1, 2, [98]⟩, ⟨2, 1, [97]⟩] 1 3 _ w12 (Kd.R_reads' HC3.out).2.2 hc3 HS5.out).mono ?_
  rintro e w13 ⟨v7, rfl, hs7, hb⟩
  have n3 := Aside0.mk (below_step HB.out hb)
  obtain ⟨A8, c8, rfl⟩ := Kd.S_slice hs7
  clear HB hb hs7 HC3 HP B1 B2 B3 hcv1 hcv2
  have hfl := fld w13 3 A8 1 c8
  go_wp2
  go_ret
  exact ⟨rfl, n3.out⟩

def lockgatelaw11_awake.f : Option Bool := some true
theorem lockgatelaw11_awake.calls (r : Bool) (w : World) (h : lockgatelaw11_awake.f = some r) : Calls Try.prog 7 #[] w fun e w' => e = .returned (.bool r) ∧ Below w.heap.size w w' := by
  obtain rfl := Option.some.inj h
  exact awake_calls w

end Go.Proofs.Ytaphejpphlcchaa.PNet
