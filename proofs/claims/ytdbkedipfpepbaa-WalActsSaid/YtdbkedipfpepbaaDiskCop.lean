/- The walks of state.do for Wipe and Front, and of state.copied. -/
import Derived.Test.YtdbkedipfpepbaaDiskDo
import Derived.WalkSpells
import Derived.WalkLawsBesides
import Derived.Laws.Slices
namespace Go.Proofs.Ytdbkedipfpepbaa.PWal
open Go.RowKit Go.Proofs.YtdbkedipfpepbaaW.PrintWords Go.Proofs.YtdbkedipfpepbaaW.PrintLast Go.Proofs.YtdbkedipfpepbaaW.PrintMore
set_option linter.unusedVariables false
set_option linter.unusedSimpArgs false
set_option maxHeartbeats 8000000 in
set_option maxRecDepth 100000 in
theorem do_wipe0 {p o : Nat} {cs : Array Value} {u cb : Value} (w : World) (hp : w.heap[p]? = some (.cells cs 58 (0, 0))) (hc : cs[o]? = some u) (h1 : cb.oneCell' = true) (h2 : cb.cells = #[cb]) :
    Calls Try.prog 34 #[.pointer (some ⟨p, o, none⟩), .agg #[.int .i64 1, .int .i64 0, cb]] w fun e w' => e = .returned (.tuple #[]) ∧ w'.heap[p]? = some (.cells (cs.setIfInBounds (o) (.slice none 0 0)) 58 (0, 0)) ∧ w.grownBy w' (some p) := by
  have HP := Aside0.mk hp
  have HC := Aside0.mk hc
  clear hp hc
  go_enter Try.func34, Try.ntmps34
  go_wp2_with (first
    | ((with_reducible refine gate_dst (N := 3) rfl ?_); refine box_event ?hg (N := 3) ?hd (cs := #[.int .i64 1, .int .i64 0, cb]) (t := 69) ?hr ?_; (case hd => rfl); (case hg => rfl); (case hr => simp [go_sem, h1, h2, Value.cells]); intro g3 e3 w1 b3 hb1; have B3 := Aside0.mk b3; have BB := Aside0.mk hb1; have hz0 : w1.cell? ⟨g3, 0, none⟩ = some (.int .i64 1) := (blk_cell b3 0).trans rfl; clear b3 hb1 e3)
    | fail)
  have hz1 : w1.cell? ⟨g3, 1, none⟩ = some (.int .i64 0) := (blk_cell B3.out 1).trans rfl
  have hpb := Aside0.mk (blkK BB.out HP.out)
  have hzp : w1.cell? ⟨p, o, none⟩ = some u := (blk_cell hpb.out (o)).trans HC.out
  have hfp : w1.frozen? ⟨p, o, none⟩ = false := blk_frozen hpb.out (o)
  have Ne : g3 ≠ p := blk_ne B3.out hpb.out (by decide)
  go_region
  go_wp2
  go_end0
  have hgr := World.grownBy.trans (grown_of_below BB.out (some p)) (grown_set (j := o) (u := .slice none 0 0))
  exact ⟨rfl, blk_set hpb.out (o) _, ⟨hgr.os, hgr.tape, hgr.output, hgr.size, hgr.block⟩⟩
set_option maxHeartbeats 8000000 in
set_option maxRecDepth 100000 in
theorem do_wipe1 {p o : Nat} {cs : Array Value} {u cb : Value} (w : World) (hp : w.heap[p]? = some (.cells cs 58 (0, 0))) (hc : cs[o + 1]? = some u) (h1 : cb.oneCell' = true) (h2 : cb.cells = #[cb]) :
    Calls Try.prog 34 #[.pointer (some ⟨p, o, none⟩), .agg #[.int .i64 1, .int .i64 1, cb]] w fun e w' => e = .returned (.tuple #[]) ∧ w'.heap[p]? = some (.cells (cs.setIfInBounds (o + 1) (.slice none 0 0)) 58 (0, 0)) ∧ w.grownBy w' (some p) := by
  have HP := Aside0.mk hp
  have HC := Aside0.mk hc
  clear hp hc
  go_enter Try.func34, Try.ntmps34
  go_wp2_with (first
    | ((with_reducible refine gate_dst (N := 3) rfl ?_); refine box_event ?hg (N := 3) ?hd (cs := #[.int .i64 1, .int .i64 1, cb]) (t := 69) ?hr ?_; (case hd => rfl); (case hg => rfl); (case hr => simp [go_sem, h1, h2, Value.cells]); intro g3 e3 w1 b3 hb1; have B3 := Aside0.mk b3; have BB := Aside0.mk hb1; have hz0 : w1.cell? ⟨g3, 0, none⟩ = some (.int .i64 1) := (blk_cell b3 0).trans rfl; clear b3 hb1 e3)
    | fail)
  have hz1 : w1.cell? ⟨g3, 1, none⟩ = some (.int .i64 1) := (blk_cell B3.out 1).trans rfl
  have hpb := Aside0.mk (blkK BB.out HP.out)
  have hzp : w1.cell? ⟨p, o + 1, none⟩ = some u := (blk_cell hpb.out (o + 1)).trans HC.out
  have hfp : w1.frozen? ⟨p, o + 1, none⟩ = false := blk_frozen hpb.out (o + 1)
  have Ne : g3 ≠ p := blk_ne B3.out hpb.out (by decide)
  go_region
  go_wp2
  go_end0
  have hgr := World.grownBy.trans (grown_of_below BB.out (some p)) (grown_set (j := o + 1) (u := .slice none 0 0))
  exact ⟨rfl, blk_set hpb.out (o + 1) _, ⟨hgr.os, hgr.tape, hgr.output, hgr.size, hgr.block⟩⟩
set_option maxHeartbeats 8000000 in
set_option maxRecDepth 100000 in
theorem do_front {p o : Nat} {cs : Array Value} {u cb : Value} {a : Int} (w : World) (hp : w.heap[p]? = some (.cells cs 58 (0, 0))) (hc : cs[o + 2]? = some u) (h1 : cb.oneCell' = true) (h2 : cb.cells = #[cb]) :
    Calls Try.prog 34 #[.pointer (some ⟨p, o, none⟩), .agg #[.int .i64 2, .int .i64 a, cb]] w fun e w' => e = .returned (.tuple #[]) ∧ w'.heap[p]? = some (.cells (cs.setIfInBounds (o + 2) (.int .i64 a)) 58 (0, 0)) ∧ w.grownBy w' (some p) := by
  have HP := Aside0.mk hp
  have HC := Aside0.mk hc
  clear hp hc
  go_enter Try.func34, Try.ntmps34
  go_wp2_with (first
    | ((with_reducible refine gate_dst (N := 3) rfl ?_); refine box_event ?hg (N := 3) ?hd (cs := #[.int .i64 2, .int .i64 a, cb]) (t := 69) ?hr ?_; (case hd => rfl); (case hg => rfl); (case hr => simp [go_sem, h1, h2, Value.cells]); intro g3 e3 w1 b3 hb1; have B3 := Aside0.mk b3; have BB := Aside0.mk hb1; have hz0 : w1.cell? ⟨g3, 0, none⟩ = some (.int .i64 2) := (blk_cell b3 0).trans rfl; have hz1 : w1.cell? ⟨g3, 1, none⟩ = some (.int .i64 a) := (blk_cell b3 1).trans rfl; have hpb := Aside0.mk (blkK hb1 HP.out); have hzp : w1.cell? ⟨p, o + 2, none⟩ = some u := (blk_cell hpb.out (o + 2)).trans HC.out; have hfp : w1.frozen? ⟨p, o + 2, none⟩ = false := blk_frozen hpb.out (o + 2); have Ne : g3 ≠ p := blk_ne B3.out hpb.out (by decide); clear b3 hb1 e3)
    | fail)
  go_end0
  have hgr := World.grownBy.trans (grown_of_below BB.out (some p)) (grown_set (j := o + 2) (u := .int .i64 a))
  exact ⟨rfl, blk_set hpb.out (o + 2) _, hgr⟩
theorem own_empty {α : Type} (d : Kd α) (e : Nat) (W : World) (base : Nat) (ok : Nat → Prop) (hb : base ≤ W.heap.size) (hok : ok W.heap.size) :
    d.R e (W.alloc (.cells #[] e)) base ok (.slice (some ⟨W.heap.size, 0, none⟩) 0 0) [] := by
  refine ⟨fun k hk => ?_, [], ⟨by simp, .inr ⟨W.heap.size, 0, #[], rfl, hb, heap_alloc_new W _, Nat.le_refl _, by simp [maxLen], by simp, by simp⟩⟩, by simp, fun j p hj => by simp at hj⟩
  have : W.heap.size = k := by simpa [Value.ownBlock] using hk
  exact this ▸ hok
theorem infoU8' : (Try.prog.info? 5).map (fun i => (i.zero, i.size, i.bytes)) = some (some (.int .u8 0), 1, 1) := by kernel_rfl
set_option maxHeartbeats 8000000 in
set_option maxRecDepth 100000 in
theorem cloneB_calls (A : Option Addr) (c : Nat) (l : List Int) (w : World) (hr : Kd.C (Kd.int .u8) w A l.length l) (hc : l.length ≤ c) (hb : l.length < 140737488355328) :
    Calls Try.prog 30 #[.slice A l.length c] w fun e w' => ∃ v, e = .returned v ∧ Kd.R (Kd.int .u8) 5 w' w.heap.size (fun _ => True) v l ∧ Below w.heap.size w w' := by
  have HR := Aside0.mk hr
  have HL := Aside0.mk hb
  have HC := Aside0.mk hc
  have hq := Lib.run_eql_slice_nil (P := Try.prog)
  clear hr hb hc
  cases A with
  | none =>
    have HN := Aside0.mk (show l = [] by
      rcases Nat.eq_zero_or_pos l.length with h0 | h0
      · exact List.eq_nil_of_length_eq_zero h0
      · obtain ⟨ad, h, _⟩ := HR.out.2.2 h0; cases h)
    go_enter Try.func30, Try.ntmps30
    go_wp2
    go_ret
    exact ⟨_, rfl, by rw [HN.out]; exact Kd.R_nil _ _ _ _ _, Below.refl _ _⟩
  | some ad =>
    have HO := Aside0.mk (own_empty (Kd.int .u8) 5 w w.heap.size (fun _ => True) (Nat.le_refl _) trivial)
    have HB := Aside0.mk (below_alloc (Below.refl w.heap.size w) (.cells #[] 5))
    go_enter Try.func30, Try.ntmps30
    go_wp2_with (at_builtin; refine Kd.R_append_rows (Kd.int .u8) (w0 := w) w.heap.size rfl (.tmp 5) (.tmp 6) 28 5 (.int .u8 0) 1 rfl Try.underlying28 infoU8' rfl (by decide) (by omega) (.slice (some ⟨w.heap.size, 0, none⟩) 0 0) ([] : List Int) l _ _ _ (fun _ => True) (fun _ => False) rfl rfl HO.out (Kd.C_below HR.out HB.out) (fun _ _ h => h) (fun _ h => h.elim) (fun _ _ => trivial) HB.out (below_size HB.out) (by have := HL.out; simp; omega) ?_; intro v1 w1 ho hb1 hg1 hat1; have HO1 := Aside0.mk ho; have HB1 := Aside0.mk hb1; clear ho hb1 hg1 hat1)
    go_ret
    exact ⟨_, rfl, HO1.out, HB1.out⟩
def slices_Clone_bytes.f (l0 : List Int) : Option (List Int) := if l0.length < 140737488355328 then some l0 else none
theorem slices_Clone_bytes.calls (A0 : Option Addr) (c0 : Nat) (l0 : List Int) (r : List Int) (w : World) (hr0 : Kd.C (Kd.int .u8) w A0 l0.length l0) (hc0 : l0.length ≤ c0) (h : slices_Clone_bytes.f l0 = some r) :
    Calls Try.prog 30 #[.slice A0 l0.length c0] w fun e w' => ∃ v0_ : Value, e = .returned (v0_) ∧ Kd.R (Kd.int .u8) 5 w' w.heap.size (fun _ => True) v0_ r ∧ Below w.heap.size w w' := by
  unfold slices_Clone_bytes.f at h
  split at h
  · obtain rfl := Option.some.inj h
    exact cloneB_calls A0 c0 l0 w hr0 hc0 (by omega)
  · cases h
/-- slices.Clone, of bytes of a disk -/
theorem clone_calls {B : Nat} {A : Option Addr} {n c : Nat} {xs : List Int} (w : World) (h : BS B w (.slice A n c) xs) (hl : xs.length ≤ 1000000000) :
    Calls Try.prog 30 #[.slice A n c] w fun e w' => ∃ A' c', e = .returned (.slice A' n c') ∧ BS w.heap.size w' (.slice A' n c') xs ∧ Below w.heap.size w w' := by
  obtain ⟨A1, c1, e, hc, hC⟩ := h.reads
  injection e with e1 e2 e3
  subst e1; subst e2; subst e3
  refine (cloneB_calls _ _ xs w hC hc (by omega)).mono ?_
  rintro e w' ⟨v, rfl, hR, hb⟩
  have hBS := BS.ofR hR (by omega)
  obtain ⟨A', c', rfl, _⟩ := id hBS
  exact ⟨A', c', rfl, hBS, hb⟩
def copied_R.T : Bool × List (List Nat × List Nat) := (true, [([], []), ([0], [0]), ([1], [1]), ([2], [2]), ([3], [3]), ([4], [4]), ([], []), ([6], [6]), ([7], [7]), ([8], [8]), ([9], [9]), ([10, 5], [10]), ([5, 11], [5, 11]), ([], []), ([13], [13]), ([14], [14]), ([15], [15]), ([12, 16], [12, 16]), ([17, 11, 0, 1, 2, 3, 4, 5, 6, 7, 8, 9, 10, 11, 12, 13, 14, 15, 16, 17], [17])])
def copied_R.B : List Nat := [0, 1, 3, 7, 15, 31, 0, 64, 192, 448, 960, 2047, 4095, 0, 8192, 24576, 57344, 131071, 262143]
theorem copied_R.tab : rtab .any (opsOf Try.f35 1) = copied_R.T := by kernel_rfl
theorem copied_R.bits : waitsOk copied_R.T.2 copied_R.B = true := by kernel_rfl
set_option maxHeartbeats 8000000 in
set_option maxRecDepth 100000 in
theorem copied_calls {B p o : Nat} {cs : Array Value} {A0 A1 : Option Addr} {n0 c0 n1 c1 : Nat} {f : Int} {xs ys : List Int} (w : World) (hp : w.heap[p]? = some (.cells cs 58 (0, 0))) (h0 : cs[o]? = some (.slice A0 n0 c0)) (h1 : cs[o + 1]? = some (.slice A1 n1 c1)) (h2 : cs[o + 2]? = some (.int .i64 f)) (hx : BS B w (.slice A0 n0 c0) xs) (hy : BS B w (.slice A1 n1 c1) ys) (lx : xs.length ≤ 1000000000) (ly : ys.length ≤ 1000000000) :
    Calls Try.prog 35 #[.pointer (some ⟨p, o, none⟩)] w fun e w' => ∃ B0 d0 B1 d1, e = .returned (.agg #[.slice B0 n0 d0, .slice B1 n1 d1, .int .i64 f]) ∧ BS w.heap.size w' (.slice B0 n0 d0) xs ∧ BS w.heap.size w' (.slice B1 n1 d1) ys ∧ Below w.heap.size w w' := by
  have HP := Aside0.mk hp
  have HX0 := Aside0.mk hx
  have HX1 := Aside0.mk hy
  have HL0 := Aside0.mk lx
  have HL1 := Aside0.mk ly
  have HC0 := Aside0.mk h0
  have HC1 := Aside0.mk h1
  have HC2 := Aside0.mk h2
  clear hp hx hy lx ly h0 h1 h2
  go_enter Try.func35, Try.ntmps35
  go_wp2_with (first
    | ((with_reducible refine gate_dst (N := 2) rfl ?_); refine box_event ?hg (N := 2) ?hd (cs := #[.slice none 0 0, .slice none 0 0, .int .i64 0]) (t := 55) ?hr ?_; (case hd => rfl); (case hg => rfl); (case hr => first | (go_simp; done) | (go_simp; rfl)); intro g2 e2 w1 b2 hb1; have HG := Aside0.mk b2; have BB := Aside0.mk hb1; have Lg := Aside0.mk (show w.heap.size ≤ g2 from Nat.le_of_eq e2.symm); clear b2 hb1 e2)
    | fail)
  have hpb := Aside0.mk (blkK BB.out HP.out)
  have hg2 := Aside0.mk (show w1.drew.heap[g2]? = some (.cells #[.slice none 0 0, .slice none 0 0, .int .i64 0] 55 (0, 0)) from HG.out)
  refine start_ (n := 19) (S := fun w' => w'.cell? ⟨p, o, none⟩ = some (.slice A0 n0 c0) ∧ w'.cell? ⟨p, o + 1, none⟩ = some (.slice A1 n1 c1) ∧ w'.cell? ⟨p, o + 2, none⟩ = some (.int .i64 f)) (ds := [18]) #[false, false, false, false, false, false, false, false, false, false, false, false, false, false, false, false, false, false, false] (by kernel_rfl) rfl rfl ⟨(blk_cell hpb.out o).trans HC0.out, (blk_cell hpb.out (o + 1)).trans HC1.out, (blk_cell hpb.out (o + 2)).trans HC2.out⟩ (fun hHeld => ?_); refine with_tabW copied_R.tab copied_R.bits (fun HT_ HW_ => ?_)
  have BBd := Aside0.mk (below_drew BB.out)
  have hpd := Aside0.mk (show w1.drew.heap[p]? = some (.cells cs 58 (0, 0)) from hpb.out)
  clear BB hpb HG
  have BB := BBd
  have hpb := hpd
  clear BBd hpd
  generalize w1.drew = w2 at BB hpb hg2 hHeld ⊢
  refine pure_ (i := 0) (N := some 3) (v := ?_) (a' := ?_) #[true, false, false, false, false, false, false, false, false, false, false, false, false, false, false, false, false, false, false] rfl rfl (any_of HT_.out (by kernel_rfl)) (fun _ _ _ h => h) (Or.inl ⟨by rfl, ?_⟩) ?_ ?_
  rotate_left
  · intro w'
    go_simp
    with_reducible rfl
  rotate_left
  · simp only [Act.put, List.setIfInBounds_toArray, List.set_cons_zero, List.set_cons_succ, i64_w, i32_w]
    rfl
  refine pure_ (i := 1) (N := some 4) (v := ?_) (a' := ?_) #[true, true, false, false, false, false, false, false, false, false, false, false, false, false, false, false, false, false, false] rfl rfl (any_of HT_.out (by kernel_rfl)) (fun _ _ _ h => h) (Or.inl ⟨by rfl, ?_⟩) ?_ ?_
  rotate_left
  · intro w'
    go_simp
    with_reducible rfl
  rotate_left
  · simp only [Act.put, List.setIfInBounds_toArray, List.set_cons_zero, List.set_cons_succ, i64_w, i32_w]
    rfl
  refine pure_ (i := 2) (N := some 5) (v := ?_) (a' := ?_) #[true, true, true, false, false, false, false, false, false, false, false, false, false, false, false, false, false, false, false] rfl rfl (any_of HT_.out (by kernel_rfl)) (fun _ _ _ h => h) (Or.inl ⟨by rfl, ?_⟩) ?_ ?_
  rotate_left
  · intro w'
    go_simp
    with_reducible rfl
  rotate_left
  · simp only [Act.put, List.setIfInBounds_toArray, List.set_cons_zero, List.set_cons_succ, i64_w, i32_w]
    rfl
  refine pure_ (i := 3) (N := some 6) (v := ?_) (a' := ?_) #[true, true, true, true, false, false, false, false, false, false, false, false, false, false, false, false, false, false, false] rfl rfl (any_of HT_.out (by kernel_rfl)) (fun _ _ _ h => h) (Or.inl ⟨by rfl, ?_⟩) ?_ ?_
  rotate_left
  · intro w'
    go_simp
    with_reducible rfl
  rotate_left
  · simp only [Act.put, List.setIfInBounds_toArray, List.set_cons_zero, List.set_cons_succ, i64_w, i32_w]
    rfl
  refine pure_ (i := 6) (N := some 9) (v := ?_) (a' := ?_) #[true, true, true, true, false, false, true, false, false, false, false, false, false, false, false, false, false, false, false] rfl rfl (any_of HT_.out (by kernel_rfl)) (fun _ _ _ h => h) (Or.inl ⟨by rfl, ?_⟩) ?_ ?_
  rotate_left
  · intro w'
    go_simp
    with_reducible rfl
  rotate_left
  · simp only [Act.put, List.setIfInBounds_toArray, List.set_cons_zero, List.set_cons_succ, i64_w, i32_w]
    rfl
  refine pure_ (i := 7) (N := some 10) (v := ?_) (a' := ?_) #[true, true, true, true, false, false, true, true, false, false, false, false, false, false, false, false, false, false, false] rfl rfl (any_of HT_.out (by kernel_rfl)) (fun _ _ _ h => h) (Or.inl ⟨by rfl, ?_⟩) ?_ ?_
  rotate_left
  · intro w'
    go_simp
    with_reducible rfl
  rotate_left
  · simp only [Act.put, List.setIfInBounds_toArray, List.set_cons_zero, List.set_cons_succ, i64_w, i32_w]
    rfl
  refine pure_ (i := 8) (N := some 11) (v := ?_) (a' := ?_) #[true, true, true, true, false, false, true, true, true, false, false, false, false, false, false, false, false, false, false] rfl rfl (any_of HT_.out (by kernel_rfl)) (fun _ _ _ h => h) (Or.inl ⟨by rfl, ?_⟩) ?_ ?_
  rotate_left
  · intro w'
    go_simp
    with_reducible rfl
  rotate_left
  · simp only [Act.put, List.setIfInBounds_toArray, List.set_cons_zero, List.set_cons_succ, i64_w, i32_w]
    rfl
  refine pure_ (i := 9) (N := some 12) (v := ?_) (a' := ?_) #[true, true, true, true, false, false, true, true, true, true, false, false, false, false, false, false, false, false, false] rfl rfl (any_of HT_.out (by kernel_rfl)) (fun _ _ _ h => h) (Or.inl ⟨by rfl, ?_⟩) ?_ ?_
  rotate_left
  · intro w'
    go_simp
    with_reducible rfl
  rotate_left
  · simp only [Act.put, List.setIfInBounds_toArray, List.set_cons_zero, List.set_cons_succ, i64_w, i32_w]
    rfl
  refine pure_ (i := 13) (N := some 16) (v := ?_) (a' := ?_) #[true, true, true, true, false, false, true, true, true, true, false, false, false, true, false, false, false, false, false] rfl rfl (any_of HT_.out (by kernel_rfl)) (fun _ _ _ h => h) (Or.inl ⟨by rfl, ?_⟩) ?_ ?_
  rotate_left
  · intro w'
    go_simp
    with_reducible rfl
  rotate_left
  · simp only [Act.put, List.setIfInBounds_toArray, List.set_cons_zero, List.set_cons_succ, i64_w, i32_w]
    rfl
  refine pure_ (i := 14) (N := some 17) (v := ?_) (a' := ?_) #[true, true, true, true, false, false, true, true, true, true, false, false, false, true, true, false, false, false, false] rfl rfl (any_of HT_.out (by kernel_rfl)) (fun _ _ _ h => h) (Or.inl ⟨by rfl, ?_⟩) ?_ ?_
  rotate_left
  · intro w'
    go_simp
    with_reducible rfl
  rotate_left
  · simp only [Act.put, List.setIfInBounds_toArray, List.set_cons_zero, List.set_cons_succ, i64_w, i32_w]
    rfl
  refine pure_ (i := 15) (N := some 18) (v := ?_) (a' := ?_) #[true, true, true, true, false, false, true, true, true, true, false, false, false, true, true, true, false, false, false] rfl rfl (any_of HT_.out (by kernel_rfl)) (fun _ _ _ h => h) (Or.inl ⟨by rfl, ?_⟩) ?_ ?_
  rotate_left
  · intro w'
    go_simp
    with_reducible rfl
  rotate_left
  · simp only [Act.put, List.setIfInBounds_toArray, List.set_cons_zero, List.set_cons_succ, i64_w, i32_w]
    rfl
  refine take_ (i := 4) (N := some 7) (v := ?_) (a' := ?_) #[true, true, true, true, true, false, true, true, true, true, false, false, false, true, true, true, false, false, false] rfl rfl (take_ofW HT_.out HW_.out (by kernel_rfl)) (fun _ _ _ h => h) (Or.inl ⟨by rfl, ?_⟩) hHeld ?_ ?_
  rotate_left
  · rintro w' ⟨s0, s1, s2⟩
    go_simp
    with_reducible rfl
  rotate_left
  · simp only [Act.put, List.setIfInBounds_toArray, List.set_cons_zero, List.set_cons_succ, i64_w, i32_w]
    rfl
  refine take_ (i := 10) (N := some 13) (v := ?_) (a' := ?_) #[true, true, true, true, true, false, true, true, true, true, true, false, false, true, true, true, false, false, false] rfl rfl (take_ofW HT_.out HW_.out (by kernel_rfl)) (fun _ _ _ h => h) (Or.inl ⟨by rfl, ?_⟩) hHeld ?_ ?_
  rotate_left
  · rintro w' ⟨s0, s1, s2⟩
    go_simp
    with_reducible rfl
  rotate_left
  · simp only [Act.put, List.setIfInBounds_toArray, List.set_cons_zero, List.set_cons_succ, i64_w, i32_w]
    rfl
  refine take_ (i := 16) (N := some 19) (v := ?_) (a' := ?_) #[true, true, true, true, true, false, true, true, true, true, true, false, false, true, true, true, true, false, false] rfl rfl (take_ofW HT_.out HW_.out (by kernel_rfl)) (fun _ _ _ h => h) (Or.inl ⟨by rfl, ?_⟩) hHeld ?_ ?_
  rotate_left
  · rintro w' ⟨s0, s1, s2⟩
    go_simp
    with_reducible rfl
  rotate_left
  · simp only [Act.put, List.setIfInBounds_toArray, List.set_cons_zero, List.set_cons_succ, i64_w, i32_w]
    rfl
  refine one_ (i := 5) (N := some 8) #[true, true, true, true, true, true, true, true, true, true, true, false, false, true, true, true, true, false, false] rfl rfl (one_of HT_.out (by kernel_rfl)) (by decide) (fun K hK => ?_)
  refine goes_ Try.func30 (by kernel_rfl) rfl #[.slice A0 n0 c0] (by rfl) rfl rfl (by (try simp only [List.map_toArray, List.map_cons, List.map_nil]); first | done | rfl) ?_
  refine (clone_calls w2 (HX0.out.keep (Keeps.below BB.out)) HL0.out).mono ?_
  rintro e w3 ⟨B0, d0, rfl, hbs, hb⟩
  refine ⟨_, rfl, ?_⟩
  have n1 := Aside0.mk (below_step BB.out hb)
  have n2 := Aside0.mk (blkK hb hpb.out)
  have n3 := Aside0.mk (blkK hb hg2.out)
  have NV0 := Aside0.mk (hbs.lower BB.out.size)
  clear BB hpb hg2 hbs hb
  have BB := n1
  have hpb := n2
  have hg2 := n3
  clear n1 n2 n3
  refine hK.out _ _ ⟨(blk_cell hpb.out o).trans HC0.out, (blk_cell hpb.out (o + 1)).trans HC1.out, (blk_cell hpb.out (o + 2)).trans HC2.out⟩ (fun hHeld2 => ?_)
  clear hHeld
  have hHeld := hHeld2
  clear hHeld2
  clear hK K
  refine norm_ (a' := ?_) ?_ ?_
  rotate_left
  · show Act.put _ (some 8) _ = _
    simp only [Act.put, List.setIfInBounds_toArray, List.set_cons_zero, List.set_cons_succ, i64_w, i32_w]
    rfl
  refine one_ (i := 11) (N := some 14) #[true, true, true, true, true, true, true, true, true, true, true, true, false, true, true, true, true, false, false] rfl rfl (one_of HT_.out (by kernel_rfl)) (by decide) (fun K hK => ?_)
  refine goes_ Try.func30 (by kernel_rfl) rfl #[.slice A1 n1 c1] (by rfl) rfl rfl (by (try simp only [List.map_toArray, List.map_cons, List.map_nil]); first | done | rfl) ?_
  refine (clone_calls w3 (HX1.out.keep (Keeps.below BB.out)) HL1.out).mono ?_
  rintro e w4 ⟨B1, d1, rfl, hbs, hb⟩
  refine ⟨_, rfl, ?_⟩
  have n1 := Aside0.mk (below_step BB.out hb)
  have n2 := Aside0.mk (blkK hb hpb.out)
  have n3 := Aside0.mk (blkK hb hg2.out)
  have NV1 := Aside0.mk (hbs.lower BB.out.size)
  have n4 := Aside0.mk (NV0.out.keep (Keeps.below hb))
  clear NV0
  have NV0 := n4
  clear n4
  clear BB hpb hg2 hbs hb
  have BB := n1
  have hpb := n2
  have hg2 := n3
  clear n1 n2 n3
  refine hK.out _ _ ⟨(blk_cell hpb.out o).trans HC0.out, (blk_cell hpb.out (o + 1)).trans HC1.out, (blk_cell hpb.out (o + 2)).trans HC2.out⟩ (fun hHeld2 => ?_)
  clear hHeld
  have hHeld := hHeld2
  clear hHeld2
  clear hK K
  refine norm_ (a' := ?_) ?_ ?_
  rotate_left
  · show Act.put _ (some 14) _ = _
    simp only [Act.put, List.setIfInBounds_toArray, List.set_cons_zero, List.set_cons_succ, i64_w, i32_w]
    rfl
  refine pure_ (i := 12) (N := some 15) (v := ?_) (a' := ?_) #[true, true, true, true, true, true, true, true, true, true, true, true, true, true, true, true, true, false, false] rfl rfl (any_of HT_.out (by kernel_rfl)) (fun _ _ _ h => h) (Or.inl ⟨by rfl, ?_⟩) ?_ ?_
  rotate_left
  · intro w'
    go_simp
    with_reducible rfl
  rotate_left
  · simp only [Act.put, List.setIfInBounds_toArray, List.set_cons_zero, List.set_cons_succ, i64_w, i32_w]
    rfl
  refine pure_ (i := 17) (N := some 20) (v := ?_) (a' := ?_) #[true, true, true, true, true, true, true, true, true, true, true, true, true, true, true, true, true, true, false] rfl rfl (any_of HT_.out (by kernel_rfl)) (fun _ _ _ h => h) (Or.inl ⟨by rfl, ?_⟩) ?_ ?_
  rotate_left
  · intro w'
    go_simp
    with_reducible rfl
  rotate_left
  · simp only [Act.put, List.setIfInBounds_toArray, List.set_cons_zero, List.set_cons_succ, i64_w, i32_w]
    rfl
  refine last_ (i := 18) (N := none) #[true, true, true, true, true, true, true, true, true, true, true, true, true, true, true, true, true, true, true] rfl rfl (one_of HT_.out (by kernel_rfl)) (by decide) (fun K hK => ?_)
  have z0 : w4.cell? ⟨g2, 0, none⟩ = some (.slice none 0 0) := (blk_cell hg2.out 0).trans rfl
  have z1 : w4.cell? ⟨g2, 1, none⟩ = some (.slice none 0 0) := (blk_cell hg2.out 1).trans rfl
  have z2 : w4.cell? ⟨g2, 2, none⟩ = some (.int .i64 0) := (blk_cell hg2.out 2).trans rfl
  have y0 := blk_frozen hg2.out 0
  have y1 := blk_frozen hg2.out 1
  have y2 := blk_frozen hg2.out 2
  refine skip_ (w1 := ?_) (by rfl) rfl ?_ ?_
  rotate_left
  · go_simp
    rfl
  refine hK.out _ _ ?_
  clear hK K
  refine done_ (done_of HT_.out (by kernel_rfl)) ?_
  go_wp2
  have hfin := Aside0.mk (blk_set (blk_set (blk_set hg2.out 0 (.slice B0 n0 d0)) 1 (.slice B1 n1 d1)) 2 (.int .i64 f))
  refine bodyPost_ret (results_cell_row rfl _ _ g2 55 #[.slice B0 n0 d0, .slice B1 n1 d1, .int .i64 f] (0, 0) _ rfl hfin.out Try.underlying55 rfl (by kernel_rfl)) rfl ?_
  have hk := Keeps.trans (Keeps.trans (Keeps.grown (t := 5) (grown_set (j := 0) (u := .slice B0 n0 d0)) hg2.out (by decide)) (Keeps.grown (grown_set (j := 1) (u := .slice B1 n1 d1)) (blk_set hg2.out 0 _) (by decide))) (Keeps.grown (grown_set (j := 2) (u := .int .i64 f)) (blk_set (blk_set hg2.out 0 _) 1 _) (by decide))
  exact ⟨_, _, _, _, rfl, NV0.out.keep hk, NV1.out.keep hk, below_set (below_set (below_set BB.out Lg.out) Lg.out) Lg.out⟩
end Go.Proofs.Ytdbkedipfpepbaa.PWal
