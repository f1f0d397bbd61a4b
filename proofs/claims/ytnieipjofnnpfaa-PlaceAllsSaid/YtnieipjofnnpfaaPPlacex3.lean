-- Written for this claim by the session's own driver of the kit's printer (mprint.py).
import Derived.Test.YtnieipjofnnpfaaPPlacex0
import Derived.Test.YtnieipjofnnpfaaPPlacex2
namespace Go.Proofs.Ytnieipjofnnpfaa.PPlace
open Go.RowKit Go.Proofs.YtnieipjofnnpfaaW.PrintWords Go.Proofs.YtnieipjofnnpfaaW.PrintLast Go.Proofs.YtnieipjofnnpfaaW.PrintMore
attribute [local go_sem] max2_int min2_int max_two min_two max_three min_three max_four min_four   -- for this text's walks alone
set_option linter.unusedVariables false
set_option linter.unusedSimpArgs false

theorem idx_cases (p : S24 → Bool) : ∀ (l : List S24) (i : Nat), (idxFrom p l i = -1 ∧ l.filter (fun x => !p x) = l) ∨ ∃ j : Nat, j < l.length ∧ idxFrom p l i = ((i + j : Nat) : Int) ∧ (l.take (j + 1)).filter (fun x => !p x) = l.take j
  | [], i => .inl ⟨rfl, rfl⟩
  | x :: l, i => by
    unfold idxFrom
    by_cases h : p x = true
    · rw [if_pos h]
      exact .inr ⟨0, by simp, rfl, by simp [h]⟩
    · rw [if_neg h]
      have h' : p x = false := by simpa using h
      rcases idx_cases p l (i + 1) with ⟨h1, h2⟩ | ⟨j, hj, h1, h2⟩
      · exact .inl ⟨h1, by simp [h', h2]⟩
      · exact .inr ⟨j + 1, by simp; omega, by rw [h1]; congr 1; omega, by simp only [List.take_succ_cons]; simp [h', h2]⟩

theorem rd_get (l : List S24) (i : Nat) (h : i < l.length) : l.getD i z24 = l[i] := by rw [List.getD_eq_getElem?_getD, List.getElem?_eq_getElem h]; rfl

theorem run_clear {P : Program} (w : World) (t ty e : TypeId) (ht : P.underlying t = some (.slice e)) (zv : Value) (hz : (zeroValue e).run P w = .ok zv w) (g o n c : Nat) (hn : 0 < n) (cur : Array Value)
    (hh : w.heap[g]? = some (.cells cur e (0, 0))) (hfit : o + (Builtin.zeroCells zv.cells n).size ≤ cur.size) (h1 : ∀ u ∈ (Builtin.zeroCells zv.cells n).toList, u.oneCell' = true) :
    (Builtin.clear_ #[t] ty #[.slice (some ⟨g, o, none⟩) n c]).run P w = .ok (.tuple #[]) (w.setCells g o (Builtin.zeroCells zv.cells n).toList) := by
  have hst := run_storeCells_cells (P := P) g o (Builtin.zeroCells zv.cells n).toList 0 w (fun j hj => by rw [cell_of_row w g _ cur e (0, 0) hh]; simp; simp at hj; omega) (fun j _ => blk_frozen hh _) h1
  simp only [Nat.add_zero] at hst
  obtain ⟨m, rfl⟩ : ∃ m, n = m + 1 := ⟨n - 1, by omega⟩
  simp [Builtin.clear_, run_underlying ht, hz, hst]

theorem R_clear {α : Type} {d : Kd α} {e base g n cap : Nat} {ok : Nat → Prop} {W : World} {xs : List α} (h : d.R e W base ok (.slice (some ⟨g, 0, none⟩) n cap) xs) (i : Nat) (hi : i ≤ xs.length) (vs : List Value) (hvs : i * d.sz + vs.length ≤ n * d.sz) :
    d.R e (W.setCells g (i * d.sz) vs) base ok (.slice (some ⟨g, 0, none⟩) i cap) (xs.take i) ∧ W.grownBy (W.setCells g (i * d.sz) vs) (some g) := by
  have hn : n = xs.length := (Kd.R_reads' h).1
  obtain ⟨_, _, ho0, _⟩ := id h
  have h' := Kd.R_take h hi
  obtain ⟨hok, inner, ho, hr⟩ := h'
  obtain ⟨hs1, hs2, hs3, hs4⟩ := setCells_same g vs (i * d.sz) W
  have hG : W.grownBy (W.setCells g (i * d.sz) vs) (some g) := ⟨hs1, hs2, hs3, by omega, fun k _ hk => setCells_far vs _ k (fun he => hk (by rw [he]))⟩
  refine ⟨⟨hok, inner, ?_, ?_⟩, hG⟩
  · obtain ⟨ho1, ho2⟩ := ho
    refine ⟨ho1, ?_⟩
    rcases ho2 with ⟨hv, _⟩ | ⟨g', cap', cur, hv, hb, hh, hnc, hcm, hcs, htk⟩
    · cases hv
    injection hv with ha _ hc
    injection ha with ha
    injection ha with hg
    subst hg; subst hc
    have hfit : i * d.sz + vs.length ≤ cur.size := by
      rcases ho0.2 with ⟨hv0, _⟩ | ⟨g0, cap0, cur0, hv0, _, hh0, hnc0, _, hcs0, _⟩
      · cases hv0
      injection hv0 with ha0 _ hc0
      injection ha0 with ha0
      injection ha0 with hg0
      subst hg0; subst hc0
      have : n * d.sz ≤ cap * d.sz := Nat.mul_le_mul_right _ (by rw [hn]; exact hnc0)
      omega
    obtain ⟨cur', h3, h4, h5⟩ := setCells_row vs (i * d.sz) W cur hh hfit
    have hil : (xs.take i).length = i := by rw [List.length_take]; omega
    rw [hil] at htk hnc ⊢
    refine .inr ⟨g, cap, cur', rfl, hb, h3, hnc, hcm, by rw [h4, hcs], ?_⟩
    rw [h5, List.append_assoc, List.take_append_of_le_length (by rw [List.length_take, Array.length_toList]; omega), List.take_take, Nat.min_self, htk]
  · exact hr.imp_ (fun _ _ hp => d.M_move (fun k hk => setCells_far vs _ k (fun he => hk.2 (by simp [Value.ownBlock, he]))) hp)

theorem take_step (p : S24 → Bool) (l : List S24) (j : Nat) (x : S24) (h : l.drop j = x :: l.drop (j + 1)) : (l.take (j + 1)).filter (fun x => !p x) = (l.take j).filter (fun x => !p x) ++ (if p x = true then [] else [x]) := by
  have hlt : j < l.length := by
    rcases Nat.lt_or_ge j l.length with h1 | h1
    · exact h1
    · rw [List.drop_eq_nil_of_le h1] at h; cases h
  have hx : l[j] = x := by rw [List.drop_eq_getElem_cons hlt] at h; exact (List.cons.inj h).1
  rw [List.take_succ_eq_append_getElem hlt, hx, List.filter_append]
  by_cases hp : p x = true <;> simp [hp]

theorem set_take (ys : List S24) (i : Nat) (x : S24) (h : i < ys.length) : (ys.set i x).take (i + 1) = ys.take i ++ [x] := by
  rw [List.take_set, List.take_succ_eq_append_getElem h, List.set_append_right _ _ (by rw [List.length_take]; omega)]
  simp [Nat.min_eq_left (Nat.le_of_lt h)]

theorem set_drop (ys : List S24) (i j : Nat) (x : S24) (h : i < j) : (ys.set i x).drop j = ys.drop j := List.drop_set_of_lt h

set_option maxHeartbeats 8000000 in
set_option maxRecDepth 100000 in
theorem deleteFunc_calls (v : Value) (l : List S24) (base : Nat) (ok : Nat → Prop) (f : Nat) (caps : Array Value) (p : S24 → Bool) (w : World)
    (ho : Kd.R k24 24 w base ok v l) (fg : Func) (hfg : Try.prog.funcs[f]? = some fg) (hb : fg.body.isSome = true) (hn : (fg.name == "runtime.NumGoroutine") = false)
    (hg : ∀ x ∈ l, ∀ w', w.grownBy w' v.ownBlock → Calls Try.prog f (#[memV x] ++ caps) w' fun e w'' => e = .returned (.bool (p x)) ∧ Below w'.heap.size w' w'') :
    Calls Try.prog 22 #[v, .func (.func f) #[] caps] w fun e w' => ∃ v', e = .returned v' ∧ Kd.R k24 24 w' base ok v' (l.filter fun x => !p x) ∧ w.grownBy w' v.ownBlock := by
  obtain ⟨A, c, rfl, hlc, hC⟩ := Kd.R_reads ho
  have HI := Aside0.mk (indexFunc_calls A c l f caps p w hC hlc fg hfg hb hn (fun x hx w' hw' => hg x hx w' (grown_of_below hw' _)))
  have hle : l.length ≤ 9223372036854775807 := hC.2.1
  have hcf := fun args w => enters_ hfg hn hb args w
  have HO := Aside0.mk ho
  have HG := Aside0.mk hg
  clear hC ho hg hfg hb hn
  rcases idx_cases p l 0 with ⟨h1, h2⟩ | ⟨i0, hi0, h1, h2⟩
  · rw [h1] at HI
    have HF := Aside0.mk h2
    clear h1 h2
    go_enter Try.func22, Try.ntmps22
    go_wp2_with fail
    refine HI.out.mono ?_
    rintro e w1 ⟨rfl, hb1⟩
    have HB1 := Aside0.mk hb1
    clear hb1
    go_wp2
    go_ret
    exact ⟨_, rfl, by rw [HF.out]; exact Kd.R_below HO.out HB1.out, grown_of_below HB1.out _⟩
  · rw [h1, Nat.zero_add] at HI
    have HF := Aside0.mk h2
    have b1 : ((i0 : Int) == -1) = false := by rw [beq_eq_false_iff_ne]; omega
    clear h1 h2
    obtain ⟨g, cap, hv, hgb, hgl, _⟩ := Kd.R_form HO.out (by omega)
    injection hv with hA _ hcc
    subst hA; subst hcc
    go_enter Try.func22, Try.ntmps22
    go_wp2_with fail
    refine HI.out.mono ?_
    rintro e w1 ⟨rfl, hb1⟩
    have HB1 := Aside0.mk hb1
    clear hb1
    go_wp2_with fail
    go_loopw [5, 6] (fun v5 v6 w' => ∃ (i j : Nat) (ys : List S24), v5 = .int .i64 i ∧ v6 = .int .i64 j ∧ i < j ∧ j ≤ l.length ∧ Aside0 (ys.length = l.length) ∧ Aside0 (ys.take i = (l.take j).filter (fun x => !p x)) ∧ Aside0 (ys.drop j = l.drop j) ∧
        Aside0 (Kd.R k24 24 w' base ok (.slice (some ⟨g, 0, none⟩) l.length c) ys) ∧ Aside0 (w.grownBy w' (some g))) (fun _ v6 _ => l.length - (intOf v6).toNat)
    case atStart => exact ⟨i0, i0 + 1, l, rfl, by go_num, by omega, by omega, ⟨rfl⟩, ⟨HF.out.symm⟩, ⟨rfl⟩, ⟨Kd.R_below HO.out HB1.out⟩, ⟨grown_of_below HB1.out _⟩⟩
    case round =>
      obtain ⟨i, j, ys, rfl, rfl, hij, hj, HYL, HYT, HYD, HYR, HYG⟩ := hrel
      by_cases hlt : j < l.length
      · obtain ⟨x, hxl, hxd, hxy⟩ : ∃ x, x ∈ l ∧ l.drop j = x :: l.drop (j + 1) ∧ ys.getD j z24 = x := by
          refine ⟨l[j], List.getElem_mem hlt, List.drop_eq_getElem_cons hlt, ?_⟩
          have hy : j < ys.length := by rw [HYL.out]; exact hlt
          have := HYD.out
          rw [List.drop_eq_getElem_cons hlt, List.drop_eq_getElem_cons hy] at this
          rw [rd_get ys j hy]
          exact (List.cons.inj this).1
        obtain ⟨cs, hcl, hM, hcell, hfr⟩ := Kd.R_elem HYR.out z24 (j : Int) (by omega) (by omega)
        rw [Int.toNat_natCast] at hM hcell hfr
        rw [hxy] at hM
        obtain rfl := k24_openM hM
        have hx0 : wr.cell? ⟨g, j * 2, none⟩ = some (.int .i64 x.f0) := hcell 0 _ rfl
        have hx1 : wr.cell? ⟨g, j * 2 + 1, none⟩ = some (.int .i64 x.f1) := hcell 1 _ rfl
        have HXL := Aside0.mk hxl
        have HXD := Aside0.mk hxd
        clear hxl hxd hxy hcl hM hcell hfr
        have HG1 := Aside0.mk (World.grownBy.trans HYG.out (World.grownBy_alloc wr (.cells #[.int .i64 x.f0, .int .i64 x.f1] 24) (some g)))
        have HR1 := Aside0.mk (Kd.R_alloc HYR.out (.cells #[.int .i64 x.f0, .int .i64 x.f1] 24))
        go_wp2_with fail
        refine (HG.out x HXL.out _ HG1.out).mono ?_
        rintro e w2 ⟨rfl, hb2⟩
        have HR2 := Aside0.mk (Kd.R_below HR1.out hb2)
        have HG2 := Aside0.mk (World.grownBy.trans HG1.out (grown_of_below hb2 (some g)))
        have hz0 : w2.cell? ⟨wr.heap.size, 0, none⟩ = some (.int .i64 x.f0) := (hb2.cell (by simp)).trans (by simp)
        have hz1 : w2.cell? ⟨wr.heap.size, 1, none⟩ = some (.int .i64 x.f1) := (hb2.cell (by simp)).trans (by simp)
        clear hb2 HR1 HG1 HYR HYG hx0 hx1
        by_cases hp : p x = true
        · have HP := Aside0.mk hp
          have hp1 : p x = true := hp
          clear hp
          go_wp2
          go_roundw
          case rel => exact ⟨i, j + 1, ys, rfl, by go_num, by omega, by omega, HYL, ⟨by rw [HYT.out, take_step p l j x HXD.out, HP.out]; simp⟩, ⟨by rw [← List.drop_drop, HYD.out, List.drop_drop]⟩, HR2, HG2⟩
          case measure => simp [intOf]; omega
        · have hp1 : p x = false := by simpa using hp
          have HP := Aside0.mk hp1
          clear hp
          obtain ⟨cs, hcl, hM, hcell, hfr⟩ := Kd.R_elem HR2.out z24 (i : Int) (by omega) (by omega)
          rw [Int.toNat_natCast] at hM hcell hfr
          obtain rfl := k24_openM hM
          have HCL := Aside0.mk hcl
          have HCC := Aside0.mk hcell
          clear hM hcell hfr hcl
          go_wp2_with (refine gate_ (.store 24 (.tmp 33) (.tmp 32)) rfl ?_; refine Kd.R_store k24 (w0 := w2) base rfl rfl 24 (.tmp 33) (.tmp 32) rfl 24 (g := g) (n := l.length) (cap := c) (o' := i * 2) (i : Int) 0 ys x _ [.int .i64 x.f0, .int .i64 x.f1] _ ok (fun _ => False) rfl rfl rfl rfl (by kernel_rfl) (by simp [Value.oneCell']) HR2.out (by omega) (by omega) HCL.out (by rw [Int.toNat_natCast]; exact HCC.out) (by show 0 + 2 ≤ 2; omega) (k24_mkM _ _ _ _) (fun _ h => h.elim) (Below.refl _ _) ?_; intro w3 hr3 hb3 hg3; rw [Int.toNat_natCast] at hr3; have HR3 := Aside0.mk hr3; have HG3 := Aside0.mk (World.grownBy.trans HG2.out hg3); clear hr3 hb3 hg3)
          go_roundw
          case rel => exact ⟨i + 1, j + 1, ys.set i x, by go_num, by go_num, by omega, by omega, ⟨by rw [List.length_set]; exact HYL.out⟩, ⟨by rw [set_take ys i x (by rw [HYL.out]; omega), HYT.out, take_step p l j x HXD.out, HP.out]; rfl⟩, ⟨by rw [set_drop ys i (j + 1) x (by omega), ← List.drop_drop, HYD.out, List.drop_drop]⟩, HR3, HG3⟩
          case measure => simp [intOf]; omega
      · have hjl : j = l.length := by omega
        subst hjl
        obtain ⟨_, _, ⟨_, ho2⟩, _⟩ := id HYR.out
        obtain ⟨cur, hh, hcs⟩ : ∃ cur, wr.heap[g]? = some (.cells cur 24 (0, 0)) ∧ cur.size = c * 2 := by
          rcases ho2 with ⟨hv, _⟩ | ⟨g', cap', cur, hv, _, hh, _, _, hcs, _⟩
          · cases hv
          injection hv with ha _ hc
          injection ha with ha
          injection ha with hg
          subst hg; subst hc
          exact ⟨cur, hh, hcs⟩
        have hzl : (Builtin.zeroCells (Value.agg #[.int .i64 0, .int .i64 0]).cells (l.length - i)).toList.length = (l.length - i) * 2 := by simp [Builtin.zeroCells, Value.cells]
        have hclr := run_clear (P := Try.prog) wr 22 0 24 Try.underlying22 (.agg #[.int .i64 0, .int .i64 0]) (by kernel_rfl) g (i * 2) (l.length - i) (c - i) (by omega) cur hh
          (by rw [← Array.length_toList, hzl]; omega) (by
            intro u hu
            simp only [Builtin.zeroCells, Array.toList_map, List.mem_map] at hu
            obtain ⟨q, _, rfl⟩ := hu
            rcases Nat.mod_two_eq_zero_or_one q with h | h <;> simp [Value.cells, h, Value.oneCell'])
        have HR4 := (R_clear HYR.out i (by rw [HYL.out]; omega) (Builtin.zeroCells (Value.agg #[.int .i64 0, .int .i64 0]).cells (l.length - i)).toList (by rw [hzl]; show i * 2 + (l.length - i) * 2 ≤ l.length * 2; omega))
        have hi1 : (i : Int) ≤ l.length := by omega
        have hic : (i : Int) ≤ c := by omega
        change Kd.R k24 24 (wr.setCells g (i * 2) (Builtin.zeroCells (Value.agg #[.int .i64 0, .int .i64 0]).cells (l.length - i)).toList) base ok (.slice (some ⟨g, 0, none⟩) i c) (ys.take i) ∧ wr.grownBy (wr.setCells g (i * 2) (Builtin.zeroCells (Value.agg #[.int .i64 0, .int .i64 0]).cells (l.length - i)).toList) (some g) at HR4
        clear hzl hh hcs ho2
        generalize hwe : wr.setCells g (i * 2) (Builtin.zeroCells (Value.agg #[.int .i64 0, .int .i64 0]).cells (l.length - i)).toList = w5 at *
        clear hwe
        have HR5 := Aside0.mk HR4.1
        have HG5 := Aside0.mk (World.grownBy.trans HYG.out HR4.2)
        have HF5 := Aside0.mk (HYT.out.trans (by rw [List.take_length]))
        clear HR4
        go_wp2
        go_ret
        exact ⟨_, rfl, by rw [← HF5.out]; exact HR5.out, HG5.out⟩

/-- place.Both's closure: no place in up -/
theorem both1_calls (x : S24) (A : Option Addr) (c : Nat) (up : List S24) (g : Nat) (w : World) (hm : w.heap[g]? = some (.cells #[.slice A up.length c] 22 (0, 0))) (hr : Kd.C k24 w A up.length up) (hc : up.length ≤ c) (r : Int) (k : Nat) (hx : view_Index.f k up x.f0 x.f1 = some r) :
    Calls Try.prog 23 #[memV x, .pointer (some ⟨g, 0, none⟩)] w fun e w' => e = .returned (.bool (decide (r < 0))) ∧ Below w.heap.size w w' := by
  have hg0 : w.cell? ⟨g, 0, none⟩ = some (.slice A up.length c) := (blk_cell hm 0).trans rfl
  have hlt : g < w.heap.size := World.block_lt_of_cell? w _ hg0
  unfold memV
  have HV := Aside0.mk (view_Index.calls k A c up x.f0 x.f1 r (w.alloc (.cells #[.int .i64 x.f0, .int .i64 x.f1] 24)) (Kd.C_below hr (below_alloc (Below.refl _ _) _)) hc hx)
  clear hr hx
  go_enter Try.func23, Try.ntmps23
  go_wp2_with fail
  refine HV.out.mono ?_
  rintro e w1 ⟨rfl, hb1⟩
  have HB1 := Aside0.mk (below_then (below_alloc (Below.refl w.heap.size w) _) (by simp) hb1)
  clear hb1
  go_wp2
  go_ret
  exact ⟨rfl, HB1.out⟩

/-- p: no place in up -/
theorem both_calls (A : Option Addr) (c : Nat) (l : List S24) (B : Option Addr) (d : Nat) (up : List S24) (w : World) (hr : Kd.C k24 w A l.length l) (hc : l.length ≤ c) (hru : Kd.C k24 w B up.length up) (hcu : up.length ≤ d) (hl : l.length < 8796093022208)
    (k : Nat) (r : S24 → Int) (hx : ∀ x ∈ l, view_Index.f k up x.f0 x.f1 = some (r x)) :
    Calls Try.prog 12 #[.slice A l.length c, .slice B up.length d] w fun e w' => ∃ v, e = .returned v ∧ Kd.R k24 24 w' w.heap.size (fun _ => True) v (l.filter fun x => !decide (r x < 0)) ∧ Below w.heap.size w w' := by
  have HC := Aside0.mk (clone_calls A c l (w.alloc (.cells #[.slice B up.length d] 22)) (Kd.C_below hr (below_alloc (Below.refl _ _) _)) hc hl)
  have HU := Aside0.mk hru
  have HCU := Aside0.mk hcu
  have HX := Aside0.mk hx
  clear hr hc hru hcu hl hx
  go_enter Try.func12, Try.ntmps12
  go_wp2_with fail
  refine HC.out.mono ?_
  rintro e w1 ⟨v, rfl, hr1, hb1⟩
  have hR1 : Kd.R k24 24 w1 w.heap.size (fun _ => True) v l := Kd.R_lower hr1 (by simp)
  have hbb : w1.heap[w.heap.size]? = some (.cells #[.slice B up.length d] 22 (0, 0)) := (hb1.block _ (by simp)).trans (heap_alloc_new w _)
  have hne : v.ownBlock ≠ some w.heap.size := fun h => by have := Kd.R_base hr1 _ h; simp at this; omega
  have HB1 := Aside0.mk (below_then (below_alloc (Below.refl w.heap.size w) _) (by simp) hb1)
  have HN := Aside0.mk (fun k h => Kd.R_base hR1 k h)
  have HD := Aside0.mk (deleteFunc_calls v l w.heap.size (fun _ => True) 23 #[.pointer (some ⟨w.heap.size, 0, none⟩)] (fun x => decide (r x < 0)) w1 hR1 Try.f23 Try.func23 (by kernel_rfl) (by kernel_rfl)
    (fun x hxl w' hg => both1_calls x B d up w.heap.size w' ((hg.block _ (by have := hb1.size; simp at this; omega) (fun h => hne h.symm)).trans hbb) (Kd.C_below HU.out (pw_below_grown HB1.out _ HB1.out.size hg HN.out)) HCU.out (r x) k (HX.out x hxl)))
  clear hr1 hb1 hR1 hbb hne
  go_wp2_with fail
  refine HD.out.mono ?_
  rintro e w2 ⟨v2, rfl, hr2, hg2⟩
  have HR2 := Aside0.mk hr2
  have HB2 := Aside0.mk (pw_below_grown HB1.out _ HB1.out.size hg2 HN.out)
  clear hr2 hg2
  go_wp2
  go_ret
  exact ⟨_, rfl, HR2.out, HB2.out⟩

theorem rd_get' (l : List S24) (i : Nat) (h : i < l.length) : rd_T24 l (i : Int) = l[i] := by
  unfold rd_T24; rw [Int.toNat_natCast, List.getD_eq_getElem?_getD, List.getElem?_eq_getElem h]; rfl

/-- the test of slices.Index -/
def same (a b : Int) (x : S24) : Bool := a == x.f0 && (b == x.f1)

theorem index_l (l : List S24) (a b : Int) (hl : l.length ≤ 9223372036854775807) : ∀ (d k i : Nat), d = l.length - i → i ≤ l.length → d < k →
    api_Member_30.l0 k l (l.length : Int) (i : Int) a b = some (idxFrom (same a b) (l.drop i) i) := by
  intro d
  induction d with
  | zero =>
    intro k i hd hi hk
    obtain ⟨k, rfl⟩ : ∃ m, k = m + 1 := ⟨k - 1, by omega⟩
    simp only [api_Member_30.l0]
    rw [if_neg (by omega), List.drop_eq_nil_of_le (by omega)]
    rfl
  | succ d ih =>
    intro k i hd hi hk
    obtain ⟨k, rfl⟩ : ∃ m, k = m + 1 := ⟨k - 1, by omega⟩
    have hlt : i < l.length := by omega
    have hw : wrap64 ((i : Int) + 1) = ((i + 1 : Nat) : Int) := by unfold wrap64; omega
    simp only [api_Member_30.l0]
    rw [if_pos (by omega), if_pos (by omega), if_pos (by omega), hw, rd_get' l i hlt, List.drop_eq_getElem_cons hlt]
    unfold idxFrom
    change (if same a b l[i] = true then _ else _) = _
    by_cases h : same a b l[i] = true
    · rw [if_pos h, if_pos h]
    · rw [if_neg h, if_neg h, ih k (i + 1) (by omega) (by omega) (by omega)]

theorem index_f (l : List S24) (a b : Int) (hl : l.length ≤ 9223372036854775807) (k : Nat) (hk : l.length < k) : view_Index.f k l a b = some (idxFrom (same a b) l 0) := by
  have := index_l l a b hl l.length k 0 (by omega) (by omega) hk
  unfold view_Index.f api_Member_30.f
  rw [show ((0 : Nat) : Int) = 0 from rfl, List.drop_zero] at this
  rw [this]
  rfl

/-- a member's place in a chain, or -1 -/
def idxOf (l : List S24) (x : S24) : Int := idxFrom (same x.f0 x.f1) l 0
def place_Both.f (l0 : List (S24)) (l1 : List (S24)) : Option (List (S24)) := if l0.length < 8796093022000 then some (l0.filter fun x => !decide (idxOf l1 x < 0)) else none
theorem place_Both.calls (A0 : Option Addr) (c0 : Nat) (l0 : List (S24)) (A1 : Option Addr) (c1 : Nat) (l1 : List (S24)) (r : List (S24)) (w : World) (hr0 : Kd.C k24 w A0 l0.length l0) (hc0 : l0.length ≤ c0) (hr1 : Kd.C k24 w A1 l1.length l1) (hc1 : l1.length ≤ c1) (h : place_Both.f l0 l1 = some r) :
    Calls Try.prog 12 #[.slice A0 l0.length c0, .slice A1 l1.length c1] w fun e w' => ∃ v0_ : Value, e = .returned (v0_) ∧ Kd.R k24 24 w' w.heap.size (fun _ => True) v0_ r ∧ Below w.heap.size w w' := by
  unfold place_Both.f at h
  split at h
  · obtain rfl := Option.some.inj h
    exact both_calls A0 c0 l0 A1 c1 l1 w hr0 hc0 hr1 hc1 (by omega) (l1.length + 1) (idxOf l1) (fun x _ => index_f l1 x.f0 x.f1 hr1.2.1 (l1.length + 1) (by omega))
  · cases h

-- NOT PRINTED: function 31 (api_Member_31)

-- NOT PRINTED: function 25 (api_Member_25)

theorem zeros_one (m : Nat) : ∀ u ∈ (Builtin.zeroCells (Value.agg #[.int .i64 0, .int .i64 0]).cells m).toList, u.oneCell' = true := by
  intro u hu
  simp only [Builtin.zeroCells, Array.toList_map, List.mem_map] at hu
  obtain ⟨q, _, rfl⟩ := hu
  rcases Nat.mod_two_eq_zero_or_one q with h | h <;> simp [Value.cells, h, Value.oneCell']

set_option maxHeartbeats 8000000 in
set_option maxRecDepth 100000 in
theorem grow_calls (n : Nat) (hn : 0 < n) (hb : n < 8796093022208) (w : World) :
    Calls Try.prog 31 #[.slice none 0 0, .int .i64 n] w fun e w' => ∃ v, e = .returned v ∧ Kd.R k24 24 w' w.heap.size (fun _ => True) v [] ∧ Below w.heap.size w w' := by
  obtain ⟨i0, hi, hzz⟩ := Option.map_eq_some_iff.1 info24'
  simp only [Prod.mk.injEq] at hzz
  obtain ⟨hz0, hz1, hz2⟩ := hzz
  obtain ⟨v', w1, hrun, hown, hg, hat⟩ := run_append_zeros (P := Try.prog) w w.heap.size 22 3 22 24 i0 (.agg #[(.int .i64 0), (.int .i64 0)]) 2 16 Try.underlying22 Try.underlying3 hi hz0 hz1 hz2 rfl (by decide) (by decide)
    (.slice none 0 0) 0 [] (World.ownsRow_nil _ _ _ _) .i64 n (zeros_one n) (by omega) (Nat.le_refl _)
  have hB : Below w.heap.size w w1 := (Below.refl _ _).grown hg (Nat.le_refl _) (fun k h => by simp [Value.ownBlock] at h)
  obtain ⟨g, cap, rfl, hR⟩ : ∃ g cap, v' = .slice (some ⟨g, 0, none⟩) n cap ∧ Kd.R k24 24 w1 w.heap.size (fun _ => True) (.slice (some ⟨g, 0, none⟩) 0 cap) [] := by
    rcases hown.2 with ⟨_, h0⟩ | ⟨g, cap, cur, hv, hbg, hh, hnc, hcm, hcs, ht⟩
    · omega
    · rw [Nat.zero_add] at hv
      exact ⟨g, cap, hv, fun _ _ => trivial, [], ⟨by simp, .inr ⟨g, cap, cur, rfl, hbg, hh, Nat.zero_le _, hcm, hcs, by simp⟩⟩, by simp, fun j p hj => by simp at hj⟩
  have HR := Aside0.mk hR
  have HB := Aside0.mk hB
  have HRUN := Aside0.mk hrun
  clear hrun
  have hlt : decide (0 < (n : Int)) = true := by simp; omega
  have hge : decide ((n : Int) < 0) = false := by simp
  clear hR hB hg hown hat hi hz0 hz1 hz2
  go_enter Try.func31, Try.ntmps31
  go_wp2_with (at_builtin; refine Kd.event_run rfl (v := .slice (some ⟨g, 0, none⟩) n cap) (w1 := w1) (by simp [execOp, resolve, invoke, builtin, Act.eval, HRUN.out]) ?_)
  go_ret
  exact ⟨_, rfl, HR.out, HB.out⟩

theorem row_at {w : World} {A : Option Addr} {lss : List (List S24)} (h : Kd.C (Kd.slice 24 k24) w A lss.length lss) (k : Nat) (hk : k < lss.length) :
    ∃ ad B d l, A = some ad ∧ lss[k] = l ∧ lss.take (k + 1) = lss.take k ++ [l] ∧ w.cell? (ad.add k) = some (.slice B l.length d) ∧ l.length ≤ d ∧ Kd.C k24 w B l.length l := by
  obtain ⟨ad, c, e, _, hK, hcell⟩ := Kd.C_get h [] (k : Int) (by omega) (by omega)
  rw [Int.toNat_natCast] at hK hcell
  rw [List.getD_eq_getElem?_getD, List.getElem?_eq_getElem hk, Option.getD_some] at hK
  obtain ⟨B, d, rfl, hd, hC⟩ := hK
  exact ⟨ad, B, d, _, e, rfl, List.take_succ_eq_append_getElem hk, by have := hcell 0 _ rfl; rwa [show k * (Kd.slice 24 k24).sz + 0 = k from Nat.mul_one k] at this, hd, hC⟩

theorem flat_take (lss : List (List S24)) (k : Nat) : (lss.take k).flatten.length ≤ lss.flatten.length := by
  have : lss.flatten = (lss.take k).flatten ++ (lss.drop k).flatten := by rw [← List.flatten_append, List.take_append_drop]
  rw [this, List.length_append]
  omega

/-- how many members the first k lists hold -/
def tot (lss : List (List S24)) (k : Nat) : Nat := (lss.take k).flatten.length

set_option maxHeartbeats 8000000 in
set_option maxRecDepth 100000 in
theorem concat_calls (A : Option Addr) (c : Nat) (lss : List (List S24)) (w : World) (hr : Kd.C (Kd.slice 24 k24) w A lss.length lss) (ht : lss.flatten.length < 8796093022208) (hp : 0 < lss.flatten.length) :
    Calls Try.prog 25 #[.slice A lss.length c] w fun e w' => ∃ v, e = .returned v ∧ Kd.R k24 24 w' w.heap.size (fun _ => True) v lss.flatten ∧ Below w.heap.size w w' := by
  have HR := Aside0.mk hr
  have hle : lss.length ≤ 9223372036854775807 := hr.2.1
  have HT := Aside0.mk ht
  have HP := Aside0.mk hp
  have HF := Aside0.mk (flat_take lss)
  clear hr ht hp
  go_enter Try.func25, Try.ntmps25
  go_wp2
  go_loop [3, 11] (fun v3 v11 => ∃ k : Nat, k ≤ lss.length ∧ v11 = .int .i64 k ∧ v3 = .int .i64 (tot lss k : Nat)) (fun _ v11 => lss.length - (intOf v11).toNat)
  case atStart => exact ⟨0, Nat.zero_le _, rfl, rfl⟩
  case round =>
    obtain ⟨k, hk, rfl, rfl⟩ := hrel
    by_cases hlt : k < lss.length
    · obtain ⟨ad, B, d, l, rfl, _, htk, hcell, hd, hC⟩ := row_at HR.out k hlt
      have hs : tot lss (k + 1) = tot lss k + l.length := by unfold tot; rw [htk, List.flatten_append, List.length_append]; simp
      have h1 : tot lss (k + 1) ≤ _ := HF.out (k + 1)
      have h2 := HT.out
      generalize tot lss k = s at *
      have hs1 : s + l.length < 8796093022208 := by omega
      have HS := Aside0.mk hs
      clear hs h1 h2 htk hC
      go_wp2
      all_goals
        go_round
        case rel => exact ⟨k + 1, by omega, by go_num, by rw [HS.out, Int.natCast_add]⟩
        case measure => simp [intOf]; omega
    · have hkl : k = lss.length := by omega
      subst hkl
      have hfl : tot lss lss.length = lss.flatten.length := by unfold tot; rw [List.take_length]
      have HG := Aside0.mk (grow_calls (tot lss lss.length) (by rw [hfl]; exact HP.out) (by rw [hfl]; exact HT.out) w)
      clear hfl
      go_wp2_with fail
      refine HG.out.mono ?_
      rintro e w1 ⟨v, rfl, hr1, hb1⟩
      have HR1 := Aside0.mk hr1
      have HB1 := Aside0.mk hb1
      clear hr1 hb1 HG
      go_wp2
      go_loopw [6, 27] (fun v6 v27 w' => ∃ k : Nat, k ≤ lss.length ∧ v27 = .int .i64 k ∧ Aside0 (Kd.R k24 24 w' w.heap.size (fun _ => True) v6 (lss.take k).flatten) ∧ Aside0 (Below w.heap.size w w')) (fun _ v27 _ => lss.length - (intOf v27).toNat)
      case atStart => exact ⟨0, Nat.zero_le _, rfl, HR1, HB1⟩
      case round =>
        clear HR1 HB1
        obtain ⟨k, hk, rfl, HR2, HB2⟩ := hrel
        by_cases hlt : k < lss.length
        · obtain ⟨ad, B, d, l, rfl, _, htk, hcell, hd, hC⟩ := row_at HR.out k hlt
          replace hcell := (HB2.out.cell (World.block_lt_of_cell? w _ hcell)).trans hcell
          have hfl : (lss.take (k + 1)).flatten = (lss.take k).flatten ++ l := by rw [htk, List.flatten_append]; simp
          have hll : (lss.take k).flatten.length + l.length < 8796093022208 := by
            have h1 := HF.out (k + 1)
            have h2 := HT.out
            rw [hfl, List.length_append] at h1
            omega
          have HFL := Aside0.mk hfl
          have HLL := Aside0.mk hll
          have HC := Aside0.mk (Kd.C_below hC HB2.out)
          clear hfl hll hC htk
          generalize hfk : (lss.take k).flatten = xs at *
          clear hfk
          go_wp2_with (at_builtin; refine Kd.R_append_rows k24 (w0 := w) w.heap.size rfl (.tmp 31) (.tmp 32) 22 24 (.agg #[(.int .i64 0), (.int .i64 0)]) 16 rfl Try.underlying22 info24' rfl (by decide) (by omega) _ xs l _ _ _ (fun _ => True) (fun _ => False) rfl rfl HR2.out HC.out (fun _ _ h => h) (fun _ h => h.elim) (fun _ _ => trivial) HB2.out HB2.out.size (by have := HLL.out; omega) ?_; intro v1 w3 ho hb1 hg1 hat1; have HO1 := Aside0.mk ho; have HB1 := Aside0.mk hb1; clear ho hb1 hg1 hat1)
          go_roundw
          case rel => exact ⟨k + 1, by omega, by go_num, ⟨by rw [HFL.out]; exact HO1.out⟩, HB1⟩
          case measure => simp [intOf]; omega
        · have hkl : k = lss.length := by omega
          subst hkl
          go_wp2
          go_ret
          exact ⟨_, rfl, by have := HR2.out; rwa [List.take_length] at this, HB2.out⟩

theorem rows3 (w1 : World) (x : S24) (A B : Option Addr) (c n d : Nat) (l : List S24) (dn : Nat) (hdn : (l.drop (n + 1)).length = dn) (hc : l.length ≤ c) (hn : n < l.length) (hd : l.length - (n + 1) ≤ d) (hA : Kd.C k24 w1 A l.length l) (hB : Kd.C k24 w1 B (l.drop (n + 1)).length (l.drop (n + 1))) :
    Kd.C (Kd.slice 24 k24) ((w1.alloc (.cells #[.int .i64 x.f0, .int .i64 x.f1] 24)).alloc (.cells #[.slice (some ⟨w1.heap.size, 0, none⟩) 1 1, .slice A n c, .slice B dn d] 22)).drew (some ⟨w1.heap.size + 1, 0, none⟩) [[x], l.take n, l.drop (n + 1)].length [[x], l.take n, l.drop (n + 1)] := by
  have hb : Below w1.heap.size w1 ((w1.alloc (.cells #[.int .i64 x.f0, .int .i64 x.f1] 24)).alloc (.cells #[.slice (some ⟨w1.heap.size, 0, none⟩) 1 1, .slice A n c, .slice B dn d] 22)).drew :=
    below_drew (below_alloc (below_alloc (Below.refl w1.heap.size w1) _) _)
  have hg : ((w1.alloc (.cells #[.int .i64 x.f0, .int .i64 x.f1] 24)).alloc (.cells #[.slice (some ⟨w1.heap.size, 0, none⟩) 1 1, .slice A n c, .slice B dn d] 22)).drew.heap[w1.heap.size + 1]? = some (.cells #[.slice (some ⟨w1.heap.size, 0, none⟩) 1 1, .slice A n c, .slice B dn d] 22 (0, 0)) := by
    have := heap_alloc_new (w1.alloc (.cells #[.int .i64 x.f0, .int .i64 x.f1] 24)) (.cells #[.slice (some ⟨w1.heap.size, 0, none⟩) 1 1, .slice A n c, .slice B dn d] 22)
    have e : (w1.alloc (.cells #[.int .i64 x.f0, .int .i64 x.f1] 24)).heap.size = w1.heap.size + 1 := by simp
    rw [e] at this
    exact this
  have hx : ((w1.alloc (.cells #[.int .i64 x.f0, .int .i64 x.f1] 24)).alloc (.cells #[.slice (some ⟨w1.heap.size, 0, none⟩) 1 1, .slice A n c, .slice B dn d] 22)).drew.heap[w1.heap.size]? = some (.cells #[.int .i64 x.f0, .int .i64 x.f1] 24 (0, 0)) := by
    have h1 := heap_alloc_new w1 (.cells #[.int .i64 x.f0, .int .i64 x.f1] 24)
    have h2 := heap_alloc_old (w1.alloc (.cells #[.int .i64 x.f0, .int .i64 x.f1] 24)) (.cells #[.slice (some ⟨w1.heap.size, 0, none⟩) 1 1, .slice A n c, .slice B dn d] 22) (r := w1.heap.size) (by simp)
    exact h2.trans h1
  generalize ((w1.alloc (.cells #[.int .i64 x.f0, .int .i64 x.f1] 24)).alloc (.cells #[.slice (some ⟨w1.heap.size, 0, none⟩) 1 1, .slice A n c, .slice B dn d] 22)).drew = W at hb hg hx
  have hln : (l.take n).length = n := by rw [List.length_take]; omega
  have hA' := Kd.C_take (Kd.C_below hA hb) (Nat.le_of_lt hn)
  have hB' := Kd.C_below hB hb
  refine ⟨rfl, by simp, fun _ => ⟨_, rfl, fun j p hj => ?_⟩⟩
  match j, hj with
  | 0, hj =>
    obtain rfl : [x] = p := by simpa using hj
    refine ⟨[.slice (some ⟨w1.heap.size, 0, none⟩) 1 1], rfl, ⟨some ⟨w1.heap.size, 0, none⟩, 1, rfl, Nat.le_refl _, rfl, by simp, fun _ => ⟨_, rfl, fun j q hq => ?_⟩⟩, fun i u hu => ?_⟩
    · match j, hq with
      | 0, hq =>
        obtain rfl : x = q := by simpa using hq
        refine ⟨[.int .i64 x.f0, .int .i64 x.f1], rfl, k24_mk _ _, fun i u hu => ?_⟩
        rw [add_plain, cell_of_row W w1.heap.size _ _ 24 (0, 0) hx]
        match i, hu with
        | 0, hu => simpa using hu
        | 1, hu => simpa using hu
        | i + 2, hu => simp at hu
      | j + 1, hq => simp at hq
    · match i, hu with
      | 0, hu => rw [add_plain, cell_of_row W (w1.heap.size + 1) _ _ 22 (0, 0) hg]; simpa using hu
      | i + 1, hu => simp at hu
  | 1, hj =>
    obtain rfl : l.take n = p := by simpa using hj
    refine ⟨[.slice A n c], rfl, ⟨A, c, by rw [hln], by omega, hA'⟩, fun i u hu => ?_⟩
    match i, hu with
    | 0, hu => show W.cell? ((⟨w1.heap.size + 1, 0, none⟩ : Addr).add 1) = some u; rw [add_plain, cell_of_row W (w1.heap.size + 1) _ _ 22 (0, 0) hg]; simpa using hu
    | i + 1, hu => simp at hu
  | 2, hj =>
    obtain rfl : l.drop (n + 1) = p := by simpa using hj
    refine ⟨[.slice B dn d], rfl, ⟨B, d, by rw [hdn], by rw [List.length_drop]; exact hd, hB'⟩, fun i u hu => ?_⟩
    match i, hu with
    | 0, hu => show W.cell? ((⟨w1.heap.size + 1, 0, none⟩ : Addr).add 2) = some u; rw [add_plain, cell_of_row W (w1.heap.size + 1) _ _ 22 (0, 0) hg]; simpa using hu
    | i + 1, hu => simp at hu
  | j + 3, hj => simp at hj

def leadL (l : List S24) (x : S24) (r : Int) : List S24 := if r < 0 then l else x :: (l.take r.toNat ++ l.drop (r.toNat + 1))

set_option maxHeartbeats 8000000 in
set_option maxRecDepth 100000 in
theorem lead_calls (k : Nat) (A : Option Addr) (c : Nat) (l : List S24) (x : S24) (r : Int) (w : World) (hr : Kd.C k24 w A l.length l) (hc : l.length ≤ c) (hb : l.length < 8796093022000)
    (hx : view_Index.f k l x.f0 x.f1 = some r) (hrl : r < l.length) :
    Calls Try.prog 14 #[.slice A l.length c, memV x] w fun e w' => ∃ v, e = .returned v ∧ Kd.R k24 24 w' w.heap.size (fun _ => True) v (leadL l x r) ∧ Below w.heap.size w w' := by
  have HR := Aside0.mk hr
  have HC := Aside0.mk hc
  have HL := Aside0.mk hb
  have HV := Aside0.mk (view_Index.calls k A c l x.f0 x.f1 r (w.alloc (.cells #[.int .i64 x.f0, .int .i64 x.f1] 24)) (Kd.C_below hr (below_alloc (Below.refl _ _) _)) hc hx)
  clear hr hb hx
  unfold memV
  by_cases h : r < 0
  · have HE := Aside0.mk (show leadL l x r = l by unfold leadL; rw [if_pos h])
    have h1 : decide (r < 0) = true := decide_eq_true h
    clear h
    go_enter Try.func14, Try.ntmps14
    go_wp2_with fail
    refine HV.out.mono ?_
    rintro e w1 ⟨rfl, hb1⟩
    have HB1 := Aside0.mk (below_then (below_alloc (Below.refl w.heap.size w) _) (by simp) hb1)
    clear hb1
    go_wp2_with fail
    refine (clone_calls A c l w1 (Kd.C_below HR.out HB1.out) HC.out (by have := HL.out; omega)).mono ?_
    rintro e w2 ⟨v, rfl, hr2, hb2⟩
    have HB2 := Aside0.mk (below_then HB1.out HB1.out.size hb2)
    have HR2 := Aside0.mk (Kd.R_lower hr2 HB1.out.size)
    clear hr2 hb2
    go_wp2
    go_ret
    exact ⟨_, rfl, by rw [HE.out]; exact HR2.out, HB2.out⟩
  · have HE := Aside0.mk (show leadL l x r = x :: (l.take r.toNat ++ l.drop (r.toNat + 1)) by unfold leadL; rw [if_neg h])
    have h1 : decide (r < 0) = false := decide_eq_false h
    obtain ⟨n, rfl⟩ := Int.eq_ofNat_of_zero_le (show 0 ≤ r by omega)
    rw [Int.toNat_natCast] at HE
    have hle : l.length ≤ 9223372036854775807 := HR.out.2.1
    have hn1 : n < l.length := by omega
    have hn2 : (n : Int) ≤ c := by omega
    have hn3 : (n : Int) + 1 ≤ l.length := by omega
    obtain ⟨i0, hi, hzz⟩ := Option.map_eq_some_iff.1 info24'
    simp only [Prod.mk.injEq] at hzz
    obtain ⟨B, hcut, hBC⟩ : ∃ B, (∀ W : World, (Instr.slice 22 (.slice A l.length c) (some (.int .i64 ((n : Int) + 1))) none none).run Try.prog W = .ok (.slice B (l.drop (n + 1)).length (c - (n + 1))) W) ∧ ∀ W, Kd.C k24 W A l.length l → Kd.C k24 W B (l.drop (n + 1)).length (l.drop (n + 1)) :=
      ⟨_, fun W => by
        have := cut_from (P := Try.prog) 22 24 .i64 Try.underlying22 hi 2 hzz.2.1 A l.length c ((n : Int) + 1) (by omega) (by omega) W
        rw [show ((n : Int) + 1).toNat = n + 1 by omega] at this
        rw [this, List.length_drop]
        rfl, fun W hW => Kd.C_drop hW (by omega) HC.out⟩
    have hsum : IntKind.i64.wrap ((n : Int) + 1) = (n : Int) + 1 := IntWalk.i64_in _ (by omega) 
    clear h hrl hi hzz
    generalize hdl : (l.drop (n + 1)).length = dn at hcut
    have HDL := Aside0.mk hdl
    clear hdl
    go_enter Try.func14, Try.ntmps14
    go_wp2_with fail
    refine HV.out.mono ?_
    rintro e w1 ⟨rfl, hb1⟩
    have hz0 : w1.cell? ⟨w.heap.size, 0, none⟩ = some (.int .i64 x.f0) := (hb1.cell (by simp)).trans (by simp)
    have hz1 : w1.cell? ⟨w.heap.size, 1, none⟩ = some (.int .i64 x.f1) := (hb1.cell (by simp)).trans (by simp)
    have HB1 := Aside0.mk (below_then (below_alloc (Below.refl w.heap.size w) _) (by simp) hb1)
    clear hb1
    go_wp2_with fail
    have HK := Aside0.mk (below_drew (below_alloc (below_alloc (Below.refl w1.heap.size w1) (.cells #[.int .i64 x.f0, .int .i64 x.f1] 24)) (.cells #[.slice (some ⟨w1.heap.size, 0, none⟩) 1 1, .slice A n c, .slice B dn (c - (n + 1))] 22)))
    have HLT := Aside0.mk (show w.heap.size < w1.heap.size from World.block_lt_of_cell? w1 _ hz0)
    have HB3 := Aside0.mk (below_drew (below_alloc (below_alloc HB1.out (.cells #[.int .i64 x.f0, .int .i64 x.f1] 24)) (.cells #[.slice (some ⟨w1.heap.size, 0, none⟩) 1 1, .slice A n c, .slice B dn (c - (n + 1))] 22)))
    have HCC := Aside0.mk (rows3 w1 x A B c n (c - (n + 1)) l dn HDL.out HC.out hn1 (by have := HC.out; omega) (Kd.C_below HR.out HB1.out) (hBC w1 (Kd.C_below HR.out HB1.out)))
    go_region_held3 (fun w' => w'.cell? ⟨w.heap.size, 0, none⟩ = some (.int .i64 x.f0) ∧ w'.cell? ⟨w.heap.size, 1, none⟩ = some (.int .i64 x.f1)) (go_keep) (first | (go_at_call 25; refine (concat_calls _ 3 [[x], l.take n, l.drop (n + 1)] _ HCC.out (by simp; have := HL.out; omega) (by simp)).mono ?_; rintro e w2 ⟨v, rfl, hr2, hb2⟩; have HB4 := Aside0.mk (below_then HB3.out HB3.out.size hb2); have HR4 := Aside0.mk (Kd.R_lower hr2 HB3.out.size); have hk0 : w2.cell? ⟨w.heap.size, 0, none⟩ = some (.int .i64 x.f0) := (hb2.cell (by have := HLT.out; simp; omega)).trans ((HK.out.cell (p := ⟨w.heap.size, 0, none⟩) HLT.out).trans hz0); have hk1 : w2.cell? ⟨w.heap.size, 1, none⟩ = some (.int .i64 x.f1) := (hb2.cell (by have := HLT.out; simp; omega)).trans ((HK.out.cell (p := ⟨w.heap.size, 1, none⟩) HLT.out).trans hz1); clear hr2 hb2))
    go_wp2
    go_ret
    exact ⟨_, rfl, by rw [HE.out]; simpa using HR4.out, HB4.out⟩

theorem idxFrom_lt (p : S24 → Bool) (l : List S24) : idxFrom p l 0 < l.length := by
  rcases idx_cases p l 0 with ⟨h, _⟩ | ⟨j, hj, h, _⟩
  · rw [h]; omega
  · rw [h]; omega
def place_Lead.f (l0 : List (S24)) (a1_0 : Int) (a1_1 : Int) : Option (List (S24)) := if l0.length < 8796093022000 then some (leadL l0 ⟨a1_0, a1_1⟩ (idxOf l0 ⟨a1_0, a1_1⟩)) else none
theorem place_Lead.calls (A0 : Option Addr) (c0 : Nat) (l0 : List (S24)) (a1_0 : Int) (a1_1 : Int) (r : List (S24)) (w : World) (hr0 : Kd.C k24 w A0 l0.length l0) (hc0 : l0.length ≤ c0) (h : place_Lead.f l0 a1_0 a1_1 = some r) :
    Calls Try.prog 14 #[.slice A0 l0.length c0, .agg #[.int .i64 a1_0, .int .i64 a1_1]] w fun e w' => ∃ v0_ : Value, e = .returned (v0_) ∧ Kd.R k24 24 w' w.heap.size (fun _ => True) v0_ r ∧ Below w.heap.size w w' := by
  unfold place_Lead.f at h
  split at h
  · obtain rfl := Option.some.inj h
    exact lead_calls (l0.length + 1) A0 c0 l0 ⟨a1_0, a1_1⟩ _ w hr0 hc0 (by omega) (index_f l0 a1_0 a1_1 hr0.2.1 (l0.length + 1) (by omega)) (idxFrom_lt _ l0)
  · cases h

/-! ### lockgatelaw17_node: function 18 -/
def lockgatelaw17_node.f (a0 : Int) : Option (Int × Int) := some (a0, 1)
set_option maxHeartbeats 8000000 in
set_option maxRecDepth 100000 in
theorem lockgatelaw17_node.calls (a0 : Int) (r1 : Int) (r2 : Int) (w : World) (h : lockgatelaw17_node.f a0 = some (r1, r2)) :
    Calls Try.prog 18 #[.int .i64 a0] w fun e w' => e = .returned (.agg #[.int .i64 r1, .int .i64 r2]) ∧ Below w.heap.size w w' := by
  have hu24 := Try.underlying24
  have HB := Aside0.mk (Below.refl w.heap.size w)
  have H : (some (a0, 1)) = some (r1, r2) := h
  clear h
  simp only [Option.some.injEq, Prod.mk.injEq] at H
  obtain ⟨rfl, rfl⟩ := H
  go_enter Try.func18, Try.ntmps18
  go_wp2_with (first | ((with_reducible refine gate_dst (N := 2) rfl ?_); refine box_event ?hg (N := 2) ?hd (cs := #[.int .i64 0, .int .i64 0]) (t := 24) ?hr ?_; (case hd => rfl); (case hg => rfl); (case hr => first | (go_simp; done) | (go_simp; rfl)); intro gb117 hg w2 hbox hb; have n0_ := Aside0.mk (below_step (by repeat (first | (with_reducible first | exact HB.out | apply below_alloc | apply pw_below_drewN | apply below_drew1) | exact HB.out)) hb); have n1_ := Aside0.mk (hbox); have n2_ := Aside0.mk ((by rw [hg]; exact (below_size (by repeat (first | (with_reducible first | exact HB.out | apply below_alloc | apply pw_below_drewN | apply below_drew1) | exact HB.out))) : w.heap.size ≤ gb117)); have n3_ := Aside0.mk ((by rw [hg]; exact (below_size (by repeat (first | (with_reducible first | exact HB.out | apply below_alloc | apply pw_below_drewN | apply below_drew1) | exact HB.out))) : w.heap.size ≤ gb117)); clear HB; have HB := n0_; have BK117 := n1_; have GW117 := n2_; have GE117 := n3_; clear n0_ n1_ n2_ n3_; clear hb hbox hg; have hcz3_0 : w2.cell? ⟨gb117, 0, none⟩ = some (.int .i64 0) := (blk_cell BK117.out 0).trans rfl; have hcz3_1 : w2.cell? ⟨gb117, 1, none⟩ = some (.int .i64 0) := (blk_cell BK117.out 1).trans rfl; have hfz3_0 := blk_frozen BK117.out 0; have hfz3_1 := blk_frozen BK117.out 1))
  refine bodyPost_ret (results_cell_row rfl _ _ gb117 24 #[.int .i64 a0, .int .i64 1] (0, 0) _ rfl (by (with_reducible repeat (first | refine blk_drewN ?_ _ | refine blk_drew ?_ | refine blk_alloc ?_ _)); refine blk_put (cs := #[.int .i64 a0, .int .i64 0]) ?_ 1 _ rfl; (with_reducible repeat (first | refine blk_drewN ?_ _ | refine blk_drew ?_ | refine blk_alloc ?_ _)); refine blk_put (cs := #[.int .i64 0, .int .i64 0]) ?_ 0 _ rfl; (with_reducible repeat (first | refine blk_drewN ?_ _ | refine blk_drew ?_ | refine blk_alloc ?_ _)); exact BK117.out) Try.underlying24 rfl (by kernel_rfl)) rfl ?_
  exact ⟨by first | rfl | (simp [errW_none, errW_some] <;> rfl) | (simp [*, errW_none, errW_some] <;> rfl), by repeat (first | (with_reducible first | exact HB.out | apply below_alloc | apply pw_below_drewN | apply below_drew1 | refine below_set ?_ GE117.out) | exact HB.out)⟩

def cellsOf2 (xs : List S24) : List Value := xs.flatMap fun x => [.int .i64 x.f0, .int .i64 x.f1]
theorem cellsOf2_at : ∀ (xs : List S24) (j : Nat) (p : S24), xs[j]? = some p → (cellsOf2 xs)[j * 2 + 0]? = some (.int .i64 p.f0) ∧ (cellsOf2 xs)[j * 2 + 1]? = some (.int .i64 p.f1)
  | [], j, p, h => by simp at h
  | x :: xs, 0, p, h => by
    obtain rfl : x = p := by simpa using h
    exact ⟨rfl, rfl⟩
  | x :: xs, j + 1, p, h => by
    have := cellsOf2_at xs j p (by simpa using h)
    have e : cellsOf2 (x :: xs) = .int .i64 x.f0 :: .int .i64 x.f1 :: cellsOf2 xs := rfl
    rw [e, show (j + 1) * 2 + 0 = (j * 2 + 0) + 1 + 1 by omega, show (j + 1) * 2 + 1 = (j * 2 + 1) + 1 + 1 by omega]
    simpa using this
/-- a literal row, read -/
theorem lit_reads (W : World) (g : Nat) (xs : List S24) (h : W.heap[g]? = some (.cells (cellsOf2 xs).toArray 24 (0, 0))) (hl : xs.length ≤ 9223372036854775807) : Kd.C k24 W (some ⟨g, 0, none⟩) xs.length xs := by
  refine ⟨rfl, hl, fun _ => ⟨_, rfl, fun j p hj => ⟨_, rfl, k24_mk _ _, fun i u hu => ?_⟩⟩⟩
  obtain ⟨h0, h1⟩ := cellsOf2_at xs j p hj
  match i, hu with
  | 0, hu => show W.cell? ((⟨g, 0, none⟩ : Addr).add (j * 2 + 0)) = some u; rw [add_plain, cell_of_row W g _ _ 24 (0, 0) h, ← hu]; simpa using h0
  | 1, hu => show W.cell? ((⟨g, 0, none⟩ : Addr).add (j * 2 + 1)) = some u; rw [add_plain, cell_of_row W g _ _ 24 (0, 0) h, ← hu]; simpa using h1
  | i + 2, hu => simp at hu
theorem node_fn (n : Int) (w : World) : Calls Try.prog 18 #[.int .i64 n] w fun e w' => e = .returned (.agg #[.int .i64 n, .int .i64 1]) ∧ Below w.heap.size w w' := lockgatelaw17_node.calls n n 1 w rfl
set_option maxHeartbeats 8000000 in
set_option maxRecDepth 100000 in
theorem awake_calls (w : World) : Calls Try.prog 7 #[] w fun e w' => e = .returned (.bool true) ∧ Below w.heap.size w w' := by
  have hch : place_Chain.f 9 1 [⟨3, 1⟩] [⟨2, 1⟩, ⟨3, 1⟩, ⟨4, 1⟩] 2 = some [⟨3, 1⟩, ⟨4, 1⟩] := by kernel_rfl
  have hs1 : lockgateref16_Same.f 9 [⟨3, 1⟩, ⟨4, 1⟩] [⟨3, 1⟩, ⟨4, 1⟩] = some true := by kernel_rfl
  have hs2 : lockgateref16_Same.f 9 [⟨4, 1⟩, ⟨3, 1⟩] [⟨4, 1⟩, ⟨3, 1⟩] = some true := by kernel_rfl
  have HCH := Aside0.mk hch
  have HS1 := Aside0.mk hs1
  have HS2 := Aside0.mk hs2
  have HLE := Aside0.mk (show place_Lead.f [⟨3, 1⟩, ⟨4, 1⟩] 4 1 = some [⟨4, 1⟩, ⟨3, 1⟩] by kernel_rfl)
  have HBO := Aside0.mk (show place_Both.f [⟨3, 1⟩, ⟨4, 1⟩] [] = some [] by kernel_rfl)
  clear hch hs1 hs2
  have HB := Aside0.mk (Below.refl w.heap.size w)
  go_enter Try.func7, Try.ntmps7
  go_wp2_with fail
  refine (node_fn 3 _).mono ?_
  rintro e w1 ⟨rfl, hb⟩
  replace HB := Aside0.mk (below_then HB.out HB.out.size hb); clear hb
  go_wp2_with fail
  have hr1 := lit_reads (w1.alloc (.cells #[.int .i64 3, .int .i64 1] 24)) w1.heap.size [⟨3, 1⟩] (heap_alloc_new w1 _) (by simp)
  have HR1 := Aside0.mk hr1
  replace HB := Aside0.mk (below_alloc HB.out (.cells #[.int .i64 3, .int .i64 1] 24)); clear hr1
  generalize w1.alloc (.cells #[.int .i64 3, .int .i64 1] 24) = W1 at *
  generalize w1.heap.size = g1 at *
  refine (node_fn 2 _).mono ?_
  rintro e w2 ⟨rfl, hb⟩
  replace HB := Aside0.mk (below_then HB.out HB.out.size hb); replace HR1 := Aside0.mk (Kd.C_below HR1.out hb); clear hb
  go_wp2_with fail
  refine (node_fn 3 _).mono ?_
  rintro e w3 ⟨rfl, hb⟩
  replace HB := Aside0.mk (below_then HB.out HB.out.size hb); replace HR1 := Aside0.mk (Kd.C_below HR1.out hb); clear hb
  go_wp2_with fail
  refine (node_fn 4 _).mono ?_
  rintro e w4 ⟨rfl, hb⟩
  replace HB := Aside0.mk (below_then HB.out HB.out.size hb); replace HR1 := Aside0.mk (Kd.C_below HR1.out hb); clear hb
  go_wp2_with fail
  have HR2 := Aside0.mk (lit_reads (w4.alloc (.cells #[.int .i64 2, .int .i64 1, .int .i64 3, .int .i64 1, .int .i64 4, .int .i64 1] 24)) w4.heap.size [⟨2, 1⟩, ⟨3, 1⟩, ⟨4, 1⟩] (heap_alloc_new w4 _) (by simp))
  replace HB := Aside0.mk (below_alloc HB.out (.cells #[.int .i64 2, .int .i64 1, .int .i64 3, .int .i64 1, .int .i64 4, .int .i64 1] 24))
  replace HR1 := Aside0.mk (Kd.C_alloc HR1.out (.cells #[.int .i64 2, .int .i64 1, .int .i64 3, .int .i64 1, .int .i64 4, .int .i64 1] 24))
  generalize w4.alloc (.cells #[.int .i64 2, .int .i64 1, .int .i64 3, .int .i64 1, .int .i64 4, .int .i64 1] 24) = W4 at *
  generalize w4.heap.size = g2 at *
  refine (place_Chain.calls 9 1 _ 1 [⟨3, 1⟩] _ 3 [⟨2, 1⟩, ⟨3, 1⟩, ⟨4, 1⟩] 2 _ _ HR1.out (Nat.le_refl _) HR2.out (Nat.le_refl _) HCH.out).mono ?_
  rintro e w5 ⟨v, rfl, hr, hb⟩
  replace HB := Aside0.mk (below_then HB.out HB.out.size hb)
  obtain ⟨A, c, rfl, hc, hC⟩ := Kd.R_reads hr
  have HC := Aside0.mk hC
  clear hb hr HR1 HR2 hC
  go_wp2_with fail
  refine (node_fn 3 _).mono ?_
  rintro e w6 ⟨rfl, hb⟩
  replace HB := Aside0.mk (below_then HB.out HB.out.size hb); replace HC := Aside0.mk (Kd.C_below HC.out hb); clear hb
  go_wp2_with fail
  refine (node_fn 4 _).mono ?_
  rintro e w7 ⟨rfl, hb⟩
  replace HB := Aside0.mk (below_then HB.out HB.out.size hb); replace HC := Aside0.mk (Kd.C_below HC.out hb); clear hb
  go_wp2_with fail
  have HR3 := Aside0.mk (lit_reads (w7.alloc (.cells #[.int .i64 3, .int .i64 1, .int .i64 4, .int .i64 1] 24)) w7.heap.size [⟨3, 1⟩, ⟨4, 1⟩] (heap_alloc_new w7 _) (by simp))
  replace HB := Aside0.mk (below_alloc HB.out (.cells #[.int .i64 3, .int .i64 1, .int .i64 4, .int .i64 1] 24))
  replace HC := Aside0.mk (Kd.C_alloc HC.out (.cells #[.int .i64 3, .int .i64 1, .int .i64 4, .int .i64 1] 24))
  generalize w7.alloc (.cells #[.int .i64 3, .int .i64 1, .int .i64 4, .int .i64 1] 24) = W7 at *
  generalize w7.heap.size = g3 at *
  refine (lockgateref16_Same.calls 9 _ _ [⟨3, 1⟩, ⟨4, 1⟩] _ 2 [⟨3, 1⟩, ⟨4, 1⟩] _ _ HC.out hc HR3.out (Nat.le_refl _) HS1.out).mono ?_
  rintro e w8 ⟨rfl, hb⟩
  replace HB := Aside0.mk (below_then HB.out HB.out.size hb.below); replace HC := Aside0.mk (Kd.C_below HC.out hb.below); clear hb HR3
  go_wp2_with fail
  refine (node_fn 4 _).mono ?_
  rintro e w9 ⟨rfl, hb⟩
  replace HB := Aside0.mk (below_then HB.out HB.out.size hb); replace HC := Aside0.mk (Kd.C_below HC.out hb); clear hb
  go_wp2_with fail
  refine (place_Lead.calls _ _ [⟨3, 1⟩, ⟨4, 1⟩] 4 1 _ _ HC.out hc HLE.out).mono ?_
  rintro e w10 ⟨v, rfl, hr, hb⟩
  replace HB := Aside0.mk (below_then HB.out HB.out.size hb); replace HC := Aside0.mk (Kd.C_below HC.out hb)
  obtain ⟨A2, c2, rfl, hc2, hC2⟩ := Kd.R_reads hr
  have HC2 := Aside0.mk hC2
  clear hb hr hC2
  go_wp2_with fail
  refine (node_fn 4 _).mono ?_
  rintro e w11 ⟨rfl, hb⟩
  replace HB := Aside0.mk (below_then HB.out HB.out.size hb); replace HC := Aside0.mk (Kd.C_below HC.out hb); replace HC2 := Aside0.mk (Kd.C_below HC2.out hb); clear hb
  go_wp2_with fail
  refine (node_fn 3 _).mono ?_
  rintro e w12 ⟨rfl, hb⟩
  replace HB := Aside0.mk (below_then HB.out HB.out.size hb); replace HC := Aside0.mk (Kd.C_below HC.out hb); replace HC2 := Aside0.mk (Kd.C_below HC2.out hb); clear hb
  go_wp2_with fail
  have HR4 := Aside0.mk (lit_reads (w12.alloc (.cells #[.int .i64 4, .int .i64 1, .int .i64 3, .int .i64 1] 24)) w12.heap.size [⟨4, 1⟩, ⟨3, 1⟩] (heap_alloc_new w12 _) (by simp))
  replace HB := Aside0.mk (below_alloc HB.out (.cells #[.int .i64 4, .int .i64 1, .int .i64 3, .int .i64 1] 24))
  replace HC := Aside0.mk (Kd.C_alloc HC.out (.cells #[.int .i64 4, .int .i64 1, .int .i64 3, .int .i64 1] 24))
  replace HC2 := Aside0.mk (Kd.C_alloc HC2.out (.cells #[.int .i64 4, .int .i64 1, .int .i64 3, .int .i64 1] 24))
  generalize w12.alloc (.cells #[.int .i64 4, .int .i64 1, .int .i64 3, .int .i64 1] 24) = W12 at *
  generalize w12.heap.size = g4 at *
  refine (lockgateref16_Same.calls 9 _ _ [⟨4, 1⟩, ⟨3, 1⟩] _ 2 [⟨4, 1⟩, ⟨3, 1⟩] _ _ HC2.out hc2 HR4.out (Nat.le_refl _) HS2.out).mono ?_
  rintro e w13 ⟨rfl, hb⟩
  replace HB := Aside0.mk (below_then HB.out HB.out.size hb.below); replace HC := Aside0.mk (Kd.C_below HC.out hb.below); clear hb HR4 HC2
  go_wp2_with fail
  refine (place_Both.calls A c [⟨3, 1⟩, ⟨4, 1⟩] none 0 [] _ w13 HC.out hc ⟨rfl, by simp, fun h => absurd h (by simp)⟩ (Nat.le_refl _) HBO.out).mono ?_
  rintro e w14 ⟨v, rfl, hr, hb⟩
  replace HB := Aside0.mk (below_then HB.out HB.out.size hb)
  obtain ⟨A3, c3, rfl, _, _⟩ := Kd.R_reads hr
  clear hb hr
  go_wp2
  go_ret
  exact ⟨rfl, HB.out⟩
def lockgatelaw17_awake.f : Option Bool := some true
theorem lockgatelaw17_awake.calls (r : Bool) (w : World) (h : lockgatelaw17_awake.f = some r) : Calls Try.prog 7 #[] w fun e w' => e = .returned (.bool r) ∧ Below w.heap.size w w' := by
  obtain rfl := Option.some.inj h
  exact awake_calls w

end Go.Proofs.Ytnieipjofnnpfaa.PPlace
