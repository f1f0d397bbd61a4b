/- What is held, in memory; and the walks of the reference's Do. -/
import Derived.Test.YtdbkedipfpepbaaWalOpened
namespace Go.Proofs.Ytdbkedipfpepbaa.PWal
open Go.RowKit Go.Proofs.YtdbkedipfpepbaaW.PrintWords Go.Proofs.YtdbkedipfpepbaaW.PrintLast Go.Proofs.YtdbkedipfpepbaaW.PrintMore Go.FrameMath
set_option linter.unusedVariables false
set_option linter.unusedSimpArgs false
def do8_R3.T : Bool × List (List Nat × List Nat) := (true, [([], []), ([], []), ([1], [1]), ([0, 2], [0, 2]), ([], []), ([4], [4]), ([5], [5]), ([3, 6, 3], [3, 6]), ([0, 1, 2, 3, 4, 5, 6, 7], []), ([8, 7, 7, 0, 1, 2, 3, 4, 5, 6, 7], [7, 8])])
def do8_R3.B : List Nat := [0, 0, 2, 7, 0, 16, 48, 127, 255, 511]
theorem do8_R3.tab : rtab .any (opsOf Try.f12 3) = do8_R3.T := by kernel_rfl
theorem do8_R3.bits : waitsOk do8_R3.T.2 do8_R3.B = true := by kernel_rfl
/-- a row of slices of one's own: its cells -/
def RW (B : Nat) (W : World) (v : Value) (rows : List (List Value)) : Prop := (Kd.raw 1).R 28 W B (fun _ => True) v rows
theorem RW.keep {B : Nat} {W W' : World} {v : Value} {rows : List (List Value)} (h : RW B W v rows) (hk : Keeps 28 W W') : RW B W' v rows := by
  refine Kd.R_mono (Kd.R_step (Kd.R_tight rfl h) (fun k ho hlt => ?_)) (fun _ _ => trivial)
  obtain ⟨cs, hc⟩ := Kd.R_typed h k ho.symm
  exact (hk k cs hc).trans hc.symm
theorem RW.nil (B : Nat) (W : World) : RW B W (.slice none 0 0) [] := Kd.R_nil _ _ _ _ _
theorem RW.keepT {B : Nat} {W W' : World} {v : Value} {rows : List (List Value)} {t : TypeId} (h : RW B W v rows) (hg : W.grownBy W' v.ownBlock) (ht : t ≠ 28) : Keeps t W W' := fun g cs hc =>
  (hg.block g (blk_lt hc) (fun he => by
    obtain ⟨cs', hc'⟩ := Kd.R_typed h g he.symm
    exact blk_ne hc hc' ht rfl)).trans hc
theorem RW.part {B : Nat} {W W' : World} {v u : Value} {rows : List (List Value)} (h : RW B W v rows) (hg : W.grownBy W' u.ownBlock) (hd : ∀ k, v.ownBlock = some k → u.ownBlock ≠ some k) : RW B W' v rows :=
  Kd.R_mono (Kd.R_step (Kd.R_tight rfl h) (fun k ho hlt => hg.block k hlt (fun he => hd k ho.symm he.symm))) (fun _ _ => trivial)
theorem reps1 {R : List Value → List Value → Prop} (c : Value) (h : R [c] [c]) : Reps R 1 [[c]] [c] := by
  refine ⟨rfl, fun j p hj => ?_⟩
  match j, hj with
  | 0, hj =>
    obtain rfl : [c] = p := by simpa using hj
    exact h
  | j + 1, hj => simp at hj
/-- the rows' slices are read as these -/
def EL (W : World) (rows : List (List Value)) (recs : List (List Int)) : Prop := rows.length = recs.length ∧ ∀ (j : Nat) (r : List Int) (c : List Value), recs[j]? = some r → rows[j]? = some c → (Kd.slice 5 (Kd.int .u8)).K W r c
theorem EL.nil (W : World) : EL W [] [] := ⟨rfl, fun j r c h _ => by simp at h⟩
theorem EL.below {W W' : World} {rows : List (List Value)} {recs : List (List Int)} (h : EL W rows recs) (hb : Below W.heap.size W W') : EL W' rows recs := ⟨h.1, fun j r c h1 h2 => (Kd.slice 5 (Kd.int .u8)).K_below hb (h.2 j r c h1 h2)⟩
theorem EL.add {W : World} {rows : List (List Value)} {recs : List (List Int)} {c : List Value} {r : List Int} (h : EL W rows recs) (hc : (Kd.slice 5 (Kd.int .u8)).K W r c) : EL W (rows ++ [c]) (recs ++ [r]) := by
  refine ⟨by rw [List.length_append, List.length_append, h.1]; rfl, fun j r' c' h1 h2 => ?_⟩
  rcases Nat.lt_trichotomy j recs.length with hj | rfl | hj
  · rw [List.getElem?_append_left hj] at h1
    rw [List.getElem?_append_left (by rw [h.1]; exact hj)] at h2
    exact h.2 j r' c' h1 h2
  · rw [List.getElem?_append_right (Nat.le_refl _)] at h1
    rw [List.getElem?_append_right (by rw [h.1]; exact Nat.le_refl _), h.1] at h2
    simp only [Nat.sub_self, List.getElem?_cons_zero, Option.some.injEq] at h1 h2
    subst h1; subst h2
    exact hc
  · rw [List.getElem?_eq_none (by simp; omega)] at h1
    cases h1
theorem RW.reads {B : Nat} {W : World} {v : Value} {rows : List (List Value)} {recs : List (List Int)} (h : RW B W v rows) (he : EL W rows recs) : ∃ A c, v = .slice A recs.length c ∧ recs.length ≤ c ∧ Kd.C (Kd.slice 5 (Kd.int .u8)) W A recs.length recs := by
  obtain ⟨A, c, hv, hc, hC⟩ := Kd.R_reads h
  rw [he.1] at hv hc
  refine ⟨A, c, hv, hc, rfl, by have := hC.2.1; rw [he.1] at this; exact this, fun hn => ?_⟩
  obtain ⟨ad, hA, hr⟩ := hC.2.2 (by rw [he.1]; exact hn)
  refine ⟨ad, hA, fun j p hj => ?_⟩
  obtain ⟨hjl, _⟩ := List.getElem?_eq_some_iff.1 hj
  obtain ⟨c', h1, h2, h3⟩ := hr j _ (List.getElem?_eq_getElem (by rw [he.1]; exact hjl))
  obtain ⟨rfl, _, _⟩ := h2
  exact ⟨_, h1, he.2 j p _ hj (List.getElem?_eq_getElem (by rw [he.1]; exact hjl)), h3⟩
variable {A0 A1 A2 : Option Addr} {n0 c0 n1 c1 n2 c2 : Nat} {s k x y : Int}
set_option maxHeartbeats 8000000 in
set_option maxRecDepth 100000 in
theorem Do_flush (w : World) (hm : Int.tmod k 6 = 2) :
    Calls Try.prog 12 #[.agg #[.slice A0 n0 c0, .slice A1 n1 c1, .int .i64 s], .agg #[.int .u8 k, .slice A2 n2 c2, .int .i64 x, .int .i64 y]] w fun e w' => e = .returned (.agg #[.slice A0 n0 c0, .slice A1 n1 c1, .int .i64 (n1 : Int)]) ∧ Below w.heap.size w w' := by
  go_enter Try.func12, Try.ntmps12
  go_wp2_with (first
  | ((with_reducible refine gate_dst (N := 2) rfl ?_); refine box_event ?hg (N := 2) ?hd (cs := #[.slice A0 n0 c0, .slice A1 n1 c1, .int .i64 s]) (t := 34) ?hr ?_; (case hd => rfl); (case hg => rfl); (case hr => first | (go_simp; done) | (go_simp; rfl)); intro g2 e2 w1 b2 hb; have B21 := Aside0.mk b2; have HG2 := Aside0.mk (show w.heap.size ≤ g2 by have h1 := e2; omega); have HB1 := Aside0.mk hb; clear b2 hb e2)
  | ((with_reducible refine gate_dst (N := 3) rfl ?_); refine box_event ?hg (N := 3) ?hd (cs := #[.int .u8 k, .slice A2 n2 c2, .int .i64 x, .int .i64 y]) (t := 36) ?hr ?_; (case hd => rfl); (case hg => rfl); (case hr => first | (go_simp; done) | (go_simp; rfl)); intro g3 e3 w2 b3 hb; have B32 := Aside0.mk b3; have B22 := Aside0.mk (blkK hb B21.out); have HB2 := Aside0.mk (below_step HB1.out hb); clear b3 hb e3)
  | ((with_reducible refine gate_dst (N := 4) rfl ?_); refine box_event ?hg (N := 4) ?hd (cs := #[.slice none 0 0, .slice none 0 0, .int .i64 0]) (t := 34) ?hr ?_; (case hd => rfl); (case hg => rfl); (case hr => first | (go_simp; done) | (go_simp; rfl)); intro g4 e4 w3 b4 hb; have B43 := Aside0.mk b4; have E4 := Aside0.mk e4; have B23 := Aside0.mk (blkK hb B22.out); have B33 := Aside0.mk (blkK hb B32.out); have HB3 := Aside0.mk (below_step HB2.out hb); have HG4 := Aside0.mk (show w.heap.size ≤ g4 by have h1 := E4.out; have h2 := HB2.out.size; omega); have z30 : w3.cell? ⟨g3, 0, none⟩ = some (.int .u8 k) := (blk_cell B33.out 0).trans rfl; have z31 : w3.cell? ⟨g3, 1, none⟩ = some (.slice A2 n2 c2) := (blk_cell B33.out 1).trans rfl; have z20 : w3.cell? ⟨g2, 0, none⟩ = some (.slice A0 n0 c0) := (blk_cell B23.out 0).trans rfl; have z21 : w3.cell? ⟨g2, 1, none⟩ = some (.slice A1 n1 c1) := (blk_cell B23.out 1).trans rfl; have z22 : w3.cell? ⟨g2, 2, none⟩ = some (.int .i64 s) := (blk_cell B23.out 2).trans rfl; have f22 := blk_frozen B23.out 2; have N24 := Aside0.mk (show g2 ≠ g4 by have h1 := E4.out; have h2 := blk_lt B22.out; omega); clear b4 hb e4)
  | ((with_reducible refine gate_ (.store 3 (.tmp 25) (.tmp 24)) rfl ?_); refine put_field (g := g2) (j := 2) (e := 34) rfl rfl 3 (.tmp 25) (.tmp 24) rfl rfl (.int .i64 (n1 : Int)) rfl rfl (by kernel_rfl) (by simp [Value.oneCell']) B23.out (by simp) ?_; intro w4 b2 hg; have B24 := Aside0.mk (show w4.heap[g2]? = some (.cells #[.slice A0 n0 c0, .slice A1 n1 c1, .int .i64 (n1 : Int)] 34 (0, 0)) from b2); have B44 := Aside0.mk ((hg.block g4 (blk_lt B43.out) (fun he => N24.out (Option.some.inj he).symm)).trans B43.out); have HB4 := Aside0.mk (Below.grown HB3.out hg HB3.out.size (fun k hk => by cases hk; exact HG2.out)); have y20 : w4.cell? ⟨g2, 0, none⟩ = some (.slice A0 n0 c0) := (blk_cell B24.out 0).trans rfl; have y21 : w4.cell? ⟨g2, 1, none⟩ = some (.slice A1 n1 c1) := (blk_cell B24.out 1).trans rfl; have y22 : w4.cell? ⟨g2, 2, none⟩ = some (.int .i64 (n1 : Int)) := (blk_cell B24.out 2).trans rfl; clear b2 hg)
  | ((with_reducible refine gate_ (.store 34 (.tmp 4) (.tmp 31)) rfl ?_); refine put_event (g := g4) (e := 34) rfl rfl 34 (.tmp 4) (.tmp 31) rfl rfl (.agg #[(.slice A0 n0 c0), (.slice A1 n1 c1), (.int .i64 (n1 : Int))]) rfl (cs' := #[(.slice A0 n0 c0), (.slice A1 n1 c1), (.int .i64 (n1 : Int))]) rfl (by kernel_rfl) (by simp [Value.oneCell']) B44.out rfl ?_; intro wz b4 hg; have B4z := Aside0.mk b4; have HBz := Aside0.mk (Below.grown HB4.out hg HB4.out.size (fun k hk => by cases hk; exact HG4.out)); have z40 : wz.cell? ⟨g4, 0, none⟩ = some ((.slice A0 n0 c0)) := (blk_cell B4z.out 0).trans rfl; have z41 : wz.cell? ⟨g4, 1, none⟩ = some ((.slice A1 n1 c1)) := (blk_cell B4z.out 1).trans rfl; have z42 : wz.cell? ⟨g4, 2, none⟩ = some ((.int .i64 (n1 : Int))) := (blk_cell B4z.out 2).trans rfl; clear b4 hg)
  | fail)
  refine bodyPost_ret (results_cell_row rfl _ _ g4 34 #[(.slice A0 n0 c0), (.slice A1 n1 c1), (.int .i64 (n1 : Int))] (0, 0) _ rfl B4z.out Try.underlying34 rfl (by kernel_rfl)) rfl ?_
  exact ⟨rfl, HBz.out⟩
set_option maxHeartbeats 8000000 in
set_option maxRecDepth 100000 in
theorem Do_save (w : World) (hm : Int.tmod k 6 = 3) :
    Calls Try.prog 12 #[.agg #[.slice A0 n0 c0, .slice A1 n1 c1, .int .i64 s], .agg #[.int .u8 k, .slice A2 n2 c2, .int .i64 x, .int .i64 y]] w fun e w' => e = .returned (.agg #[.slice A2 n2 c2, .slice none 0 0, .int .i64 0]) ∧ Below w.heap.size w w' := by
  go_enter Try.func12, Try.ntmps12
  go_wp2_with (first
  | ((with_reducible refine gate_dst (N := 2) rfl ?_); refine box_event ?hg (N := 2) ?hd (cs := #[.slice A0 n0 c0, .slice A1 n1 c1, .int .i64 s]) (t := 34) ?hr ?_; (case hd => rfl); (case hg => rfl); (case hr => first | (go_simp; done) | (go_simp; rfl)); intro g2 e2 w1 b2 hb; have B21 := Aside0.mk b2; have HG2 := Aside0.mk (show w.heap.size ≤ g2 by have h1 := e2; omega); have HB1 := Aside0.mk hb; clear b2 hb e2)
  | ((with_reducible refine gate_dst (N := 3) rfl ?_); refine box_event ?hg (N := 3) ?hd (cs := #[.int .u8 k, .slice A2 n2 c2, .int .i64 x, .int .i64 y]) (t := 36) ?hr ?_; (case hd => rfl); (case hg => rfl); (case hr => first | (go_simp; done) | (go_simp; rfl)); intro g3 e3 w2 b3 hb; have B32 := Aside0.mk b3; have B22 := Aside0.mk (blkK hb B21.out); have HB2 := Aside0.mk (below_step HB1.out hb); clear b3 hb e3)
  | ((with_reducible refine gate_dst (N := 4) rfl ?_); refine box_event ?hg (N := 4) ?hd (cs := #[.slice none 0 0, .slice none 0 0, .int .i64 0]) (t := 34) ?hr ?_; (case hd => rfl); (case hg => rfl); (case hr => first | (go_simp; done) | (go_simp; rfl)); intro g4 e4 w3 b4 hb; have B43 := Aside0.mk b4; have E4 := Aside0.mk e4; have B23 := Aside0.mk (blkK hb B22.out); have B33 := Aside0.mk (blkK hb B32.out); have HB3 := Aside0.mk (below_step HB2.out hb); have HG4 := Aside0.mk (show w.heap.size ≤ g4 by have h1 := E4.out; have h2 := HB2.out.size; omega); have z30 : w3.cell? ⟨g3, 0, none⟩ = some (.int .u8 k) := (blk_cell B33.out 0).trans rfl; have z31 : w3.cell? ⟨g3, 1, none⟩ = some (.slice A2 n2 c2) := (blk_cell B33.out 1).trans rfl; have z20 : w3.cell? ⟨g2, 0, none⟩ = some (.slice A0 n0 c0) := (blk_cell B23.out 0).trans rfl; have z21 : w3.cell? ⟨g2, 1, none⟩ = some (.slice A1 n1 c1) := (blk_cell B23.out 1).trans rfl; have z22 : w3.cell? ⟨g2, 2, none⟩ = some (.int .i64 s) := (blk_cell B23.out 2).trans rfl; have f22 := blk_frozen B23.out 2; have N24 := Aside0.mk (show g2 ≠ g4 by have h1 := E4.out; have h2 := blk_lt B22.out; omega); clear b4 hb e4)
  | ((with_reducible refine gate_ (.store 34 (.tmp 4) (.tmp 30)) rfl ?_); refine put_event (g := g4) (e := 34) rfl rfl 34 (.tmp 4) (.tmp 30) rfl rfl (.agg #[(.slice A2 n2 c2), (.slice none 0 0), (.int .i64 0)]) rfl (cs' := #[(.slice A2 n2 c2), (.slice none 0 0), (.int .i64 0)]) rfl (by kernel_rfl) (by simp [Value.oneCell']) B43.out rfl ?_; intro wz b4 hg; have B4z := Aside0.mk b4; have HBz := Aside0.mk (Below.grown HB3.out hg HB3.out.size (fun k hk => by cases hk; exact HG4.out)); have z40 : wz.cell? ⟨g4, 0, none⟩ = some ((.slice A2 n2 c2)) := (blk_cell B4z.out 0).trans rfl; have z41 : wz.cell? ⟨g4, 1, none⟩ = some ((.slice none 0 0)) := (blk_cell B4z.out 1).trans rfl; have z42 : wz.cell? ⟨g4, 2, none⟩ = some ((.int .i64 0)) := (blk_cell B4z.out 2).trans rfl; clear b4 hg)
  | fail)
  refine bodyPost_ret (results_cell_row rfl _ _ g4 34 #[(.slice A2 n2 c2), (.slice none 0 0), (.int .i64 0)] (0, 0) _ rfl B4z.out Try.underlying34 rfl (by kernel_rfl)) rfl ?_
  exact ⟨rfl, HBz.out⟩
set_option maxHeartbeats 8000000 in
set_option maxRecDepth 100000 in
theorem Do_add {rows : List (List Value)} {m : Int} {B : Nat} (w : World) (hm : Int.tmod k 6 = m) (h1 : decide (m ≤ 1) = true) (h2 : (m == 2) = false) (h3 : (m == 3) = false) (hR : RW B w (.slice A1 rows.length c1) rows) (hl : rows.length ≤ 10000) :
    Calls Try.prog 12 #[.agg #[.slice A0 n0 c0, .slice A1 rows.length c1, .int .i64 s], .agg #[.int .u8 k, .slice A2 n2 c2, .int .i64 x, .int .i64 y]] w fun e w' => ∃ A c, e = .returned (.agg #[.slice A0 n0 c0, .slice A (rows ++ [[Value.slice A2 n2 c2]]).length c, .int .i64 s]) ∧ RW w.heap.size w' (.slice A (rows ++ [[Value.slice A2 n2 c2]]).length c) (rows ++ [[.slice A2 n2 c2]]) ∧ Below w.heap.size w w' := by
  have HR := Aside0.mk hR
  have HLEN := Aside0.mk hl
  clear hR hl
  go_enter Try.func12, Try.ntmps12
  go_wp2_with (first
  | ((with_reducible refine gate_dst (N := 2) rfl ?_); refine box_event ?hg (N := 2) ?hd (cs := #[.slice A0 n0 c0, .slice A1 rows.length c1, .int .i64 s]) (t := 34) ?hr ?_; (case hd => rfl); (case hg => rfl); (case hr => first | (go_simp; done) | (go_simp; rfl)); intro g2 e2 w1 b2 hb; have B21 := Aside0.mk b2; have HG2 := Aside0.mk (show w.heap.size ≤ g2 by have h1 := e2; omega); have HB1 := Aside0.mk hb; clear b2 hb e2)
  | ((with_reducible refine gate_dst (N := 3) rfl ?_); refine box_event ?hg (N := 3) ?hd (cs := #[.int .u8 k, .slice A2 n2 c2, .int .i64 x, .int .i64 y]) (t := 36) ?hr ?_; (case hd => rfl); (case hg => rfl); (case hr => first | (go_simp; done) | (go_simp; rfl)); intro g3 e3 w2 b3 hb; have B32 := Aside0.mk b3; have B22 := Aside0.mk (blkK hb B21.out); have HB2 := Aside0.mk (below_step HB1.out hb); clear b3 hb e3)
  | ((with_reducible refine gate_dst (N := 4) rfl ?_); refine box_event ?hg (N := 4) ?hd (cs := #[.slice none 0 0, .slice none 0 0, .int .i64 0]) (t := 34) ?hr ?_; (case hd => rfl); (case hg => rfl); (case hr => first | (go_simp; done) | (go_simp; rfl)); intro g4 e4 w3 b4 hb; have B43 := Aside0.mk b4; have E4 := Aside0.mk e4; have B23 := Aside0.mk (blkK hb B22.out); have B33 := Aside0.mk (blkK hb B32.out); have HB3 := Aside0.mk (below_step HB2.out hb); have HG4 := Aside0.mk (show w.heap.size ≤ g4 by have h1 := E4.out; have h2 := HB2.out.size; omega); have z30 : w3.cell? ⟨g3, 0, none⟩ = some (.int .u8 k) := (blk_cell B33.out 0).trans rfl; have z31 : w3.cell? ⟨g3, 1, none⟩ = some (.slice A2 n2 c2) := (blk_cell B33.out 1).trans rfl; have z20 : w3.cell? ⟨g2, 0, none⟩ = some (.slice A0 n0 c0) := (blk_cell B23.out 0).trans rfl; have z21 : w3.cell? ⟨g2, 1, none⟩ = some (.slice A1 rows.length c1) := (blk_cell B23.out 1).trans rfl; have z22 : w3.cell? ⟨g2, 2, none⟩ = some (.int .i64 s) := (blk_cell B23.out 2).trans rfl; have f22 := blk_frozen B23.out 2; have N24 := Aside0.mk (show g2 ≠ g4 by have h1 := E4.out; have h2 := blk_lt B22.out; omega); clear b4 hb e4)
  | fail)
  clear z20 z21 z22 z30 z31 f22
  refine start_ (n := 10) (S := fun w' => w'.cell? ⟨g2, 1, none⟩ = some (.slice A1 rows.length c1) ∧ w'.cell? ⟨g3, 1, none⟩ = some (.slice A2 n2 c2)) (ds := [9]) #[false, false, false, false, false, false, false, false, false, false] (by kernel_rfl) rfl rfl ⟨(blk_cell B23.out 1).trans rfl, (blk_cell B33.out 1).trans rfl⟩ (fun hHeld => ?_); refine with_tabW do8_R3.tab do8_R3.bits (fun HT_ HW_ => ?_)
  have hb := below_drew (Below.refl w3.heap.size w3)
  have HB4 := Aside0.mk (below_step HB3.out hb)
  have B24 := Aside0.mk (blkK hb B23.out)
  have B34 := Aside0.mk (blkK hb B33.out)
  have B44 := Aside0.mk (blkK hb B43.out)
  clear hb
  generalize w3.drew = w4 at HB4 B24 B34 B44 hHeld ⊢
  refine pure_ (i := 1) (N := some 12) (v := ?_) (a' := ?_) #[false, true, false, false, false, false, false, false, false, false] rfl rfl (any_of HT_.out (by kernel_rfl)) (fun _ _ _ h => h) (Or.inl ⟨by rfl, ?_⟩) ?_ ?_
  rotate_left
  · intro w'
    go_simp
    with_reducible rfl
  rotate_left
  · simp only [Act.put, List.setIfInBounds_toArray, List.set_cons_zero, List.set_cons_succ, i64_w, i32_w]
    rfl
  refine pure_ (i := 4) (N := some 15) (v := ?_) (a' := ?_) #[false, true, false, false, true, false, false, false, false, false] rfl rfl (any_of HT_.out (by kernel_rfl)) (fun _ _ _ h => h) (Or.inl ⟨by rfl, ?_⟩) ?_ ?_
  rotate_left
  · intro w'
    go_simp
    with_reducible rfl
  rotate_left
  · simp only [Act.put, List.setIfInBounds_toArray, List.set_cons_zero, List.set_cons_succ, i64_w, i32_w]
    rfl
  refine take_ (i := 2) (N := some 13) (v := ?_) (a' := ?_) #[false, true, true, false, true, false, false, false, false, false] rfl rfl (take_ofW HT_.out HW_.out (by kernel_rfl)) (fun _ _ _ h => h) (Or.inl ⟨by rfl, ?_⟩) hHeld ?_ ?_
  rotate_left
  · rintro w' ⟨s0, s1⟩
    go_simp
    with_reducible rfl
  rotate_left
  · simp only [Act.put, List.setIfInBounds_toArray, List.set_cons_zero, List.set_cons_succ, i64_w, i32_w]
    rfl
  refine take_ (i := 5) (N := some 16) (v := ?_) (a' := ?_) #[false, true, true, false, true, true, false, false, false, false] rfl rfl (take_ofW HT_.out HW_.out (by kernel_rfl)) (fun _ _ _ h => h) (Or.inl ⟨by rfl, ?_⟩) hHeld ?_ ?_
  rotate_left
  · rintro w' ⟨s0, s1⟩
    go_simp
    with_reducible rfl
  rotate_left
  · simp only [Act.put, List.setIfInBounds_toArray, List.set_cons_zero, List.set_cons_succ, i64_w, i32_w]
    rfl
  refine two_ (i := 0) (j := 6) (Ni := some 11) (Nj := some 17) #[true, true, true, false, true, true, false, false, false, false] #[false, true, true, false, true, true, true, false, false, false] rfl rfl rfl rfl (two_of HT_.out (by kernel_rfl)) (by decide) (by decide) (fun K hK => ?_) (fun K hK => ?_)
  · refine Kd.R_lit_step (Kd.raw 1) _ 28 ?hg (N := 11) ?hd (xs := ([] : List (List Value))) (inner := []) (ok := fun _ => True) (okp := fun _ => False) ?hr ?hp (fun _ hk => hk.elim) trivial (Below.refl _ _) (Nat.le_refl _) (by simp) ?_
    (case hd => rfl)
    (case hg => rfl)
    (case hr => first | (go_simp; done) | (go_simp; rfl))
    (case hp => exact Reps.none _ _)
    intro v11 w5 ho hb _ hat
    have HB5 := Aside0.mk (below_step HB4.out hb)
    have B25 := Aside0.mk (blkK hb B24.out)
    have B35 := Aside0.mk (blkK hb B34.out)
    have B45 := Aside0.mk (blkK hb B44.out)
    have R11_5 := Aside0.mk (show RW w.heap.size w5 v11 [] from Kd.R_lower ho HB4.out.size)
    clear ho hb hat
    refine hK.out _ _ ⟨(blk_cell B25.out 1).trans rfl, (blk_cell B35.out 1).trans rfl⟩ (fun hHeld => ?_)
    clear hK K
    refine norm_ (a' := ?_) ?_ ?_
    rotate_left
    · show Act.put _ (some 11) _ = _
      simp only [Act.put, List.setIfInBounds_toArray, List.set_cons_zero, List.set_cons_succ, i64_w, i32_w]
      rfl
    refine two_ (i := 3) (j := 6) (Ni := some 14) (Nj := some 17) #[true, true, true, true, true, true, false, false, false, false] #[true, true, true, false, true, true, true, false, false, false] rfl rfl rfl rfl (two_of HT_.out (by kernel_rfl)) (by decide) (by decide) (fun K hK => ?_) (fun K hK => ?_)
    · have hC := (Kd.R_reads' (Kd.R_below HR.out HB5.out)).2.2
      refine Kd.R_append_rows_step (Kd.raw 1) (Rr := (Kd.raw 1).K w5) (w0 := w5) w.heap.size rfl (.tmp 11) (.tmp 13) 29 28 (.slice none 0 0) 24 rfl Try.underlying29 info28 rfl (by decide) (by omega) v11 [] rows _ _ _ (fun _ => True) (fun _ => False) rfl rfl R11_5.out hC (fun _ _ h => h) (fun _ h => h.elim) (fun _ _ => trivial) (Below.refl _ _) HB5.out.size (by have := HLEN.out; simp; omega) ?_
      intro v14 w6 ho hb hg hat
      rw [List.nil_append] at ho
      have HB6 := Aside0.mk (HB5.out.trans hb)
      have B26 := Aside0.mk (R11_5.out.keepT hg (by decide) _ _ B25.out)
      have B36 := Aside0.mk (R11_5.out.keepT hg (by decide) _ _ B35.out)
      have B46 := Aside0.mk (R11_5.out.keepT hg (by decide) _ _ B45.out)
      have R14_6 := Aside0.mk (show RW w.heap.size w6 v14 rows from ho)
      clear ho hb hat hg hC
      refine hK.out _ _ ⟨(blk_cell B26.out 1).trans rfl, (blk_cell B36.out 1).trans rfl⟩ (fun hHeld => ?_)
      clear hK K
      refine norm_ (a' := ?_) ?_ ?_
      rotate_left
      · show Act.put _ (some 14) _ = _
        simp only [Act.put, List.setIfInBounds_toArray, List.set_cons_zero, List.set_cons_succ, i64_w, i32_w]
        rfl
      refine one_ (i := 6) (N := some 17) #[true, true, true, true, true, true, true, false, false, false] rfl rfl (one_of HT_.out (by kernel_rfl)) (by decide) (fun K hK => ?_)
      refine Kd.R_lit_step (Kd.raw 1) _ 28 ?hg (N := 17) ?hd (xs := ([[.slice A2 n2 c2]] : List (List Value))) (inner := [.slice A2 n2 c2]) (ok := fun _ => True) (okp := fun _ => False) ?hr ?hp (fun _ hk => hk.elim) trivial (Below.refl _ _) (Nat.le_refl _) (by simp) ?_
      (case hd => rfl)
      (case hg => rfl)
      (case hr => first | (go_simp; done) | (go_simp; rfl))
      (case hp => exact reps1 _ ⟨rfl, rfl, by simp [Value.oneCell']⟩)
      intro v17 w7 ho hb _ hat
      have HB7 := Aside0.mk (below_step HB6.out hb)
      have B27 := Aside0.mk (blkK hb B26.out)
      have B37 := Aside0.mk (blkK hb B36.out)
      have B47 := Aside0.mk (blkK hb B46.out)
      have R17_7 := Aside0.mk (show RW w.heap.size w7 v17 [[.slice A2 n2 c2]] from Kd.R_lower ho HB6.out.size)
      have R14_7 := Aside0.mk (R14_6.out.keep (Keeps.below hb))
      clear ho hb hat
      refine hK.out _ _ ⟨(blk_cell B27.out 1).trans rfl, (blk_cell B37.out 1).trans rfl⟩ (fun hHeld => ?_)
      clear hK K
      refine norm_ (a' := ?_) ?_ ?_
      rotate_left
      · show Act.put _ (some 17) _ = _
        simp only [Act.put, List.setIfInBounds_toArray, List.set_cons_zero, List.set_cons_succ, i64_w, i32_w]
        rfl
      refine one_ (i := 7) (N := some 18) #[true, true, true, true, true, true, true, true, false, false] rfl rfl (one_of HT_.out (by kernel_rfl)) (by decide) (fun K hK => ?_)
      obtain ⟨A17, c17, rfl, _, hC⟩ := Kd.R_reads R17_7.out
      refine Kd.R_append_rows_step (Kd.raw 1) (Rr := (Kd.raw 1).K w7) (w0 := w7) w.heap.size rfl (.tmp 14) (.tmp 17) 29 28 (.slice none 0 0) 24 rfl Try.underlying29 info28 rfl (by decide) (by omega) v14 rows [[.slice A2 n2 c2]] _ _ _ (fun _ => True) (fun _ => False) rfl rfl R14_7.out hC (fun _ _ h => h) (fun _ h => h.elim) (fun _ _ => trivial) (Below.refl _ _) HB7.out.size (by have := HLEN.out; simp; omega) ?_
      intro v18 w8 ho hb hg hat
      have HB8 := Aside0.mk (HB7.out.trans hb)
      have B28 := Aside0.mk (R14_7.out.keepT hg (by decide) _ _ B27.out)
      have B38 := Aside0.mk (R14_7.out.keepT hg (by decide) _ _ B37.out)
      have B48 := Aside0.mk (R14_7.out.keepT hg (by decide) _ _ B47.out)
      have R18_8 := Aside0.mk (show RW w.heap.size w8 v18 (rows ++ [[.slice A2 n2 c2]]) from ho)
      obtain ⟨A18, c18, n18, hn18, rfl⟩ : ∃ A c n, n = (rows ++ [[Value.slice A2 n2 c2]]).length ∧ v18 = .slice A n c := by obtain ⟨A, c, e⟩ := Kd.R_slice ho; exact ⟨A, c, _, rfl, e⟩
      have HN18 := Aside0.mk hn18
      clear hn18
      clear ho hb hat hg hC
      refine hK.out _ _ ⟨(blk_cell B28.out 1).trans rfl, (blk_cell B38.out 1).trans rfl⟩ (fun hHeld => ?_)
      clear hK K
      refine norm_ (a' := ?_) ?_ ?_
      rotate_left
      · show Act.put _ (some 18) _ = _
        simp only [Act.put, List.setIfInBounds_toArray, List.set_cons_zero, List.set_cons_succ, i64_w, i32_w]
        rfl
      refine pure_ (i := 8) (N := some 19) (v := ?_) (a' := ?_) #[true, true, true, true, true, true, true, true, true, false] rfl rfl (any_of HT_.out (by kernel_rfl)) (fun _ _ _ h => h) (Or.inl ⟨by rfl, ?_⟩) ?_ ?_
      rotate_left
      · intro w'
        go_simp
        with_reducible rfl
      rotate_left
      · simp only [Act.put, List.setIfInBounds_toArray, List.set_cons_zero, List.set_cons_succ, i64_w, i32_w]
        rfl
      refine last_ (i := 9) (N := none) #[true, true, true, true, true, true, true, true, true, true] rfl rfl (one_of HT_.out (by kernel_rfl)) (by decide) (fun K hK => ?_)
      have q1 : w8.cell? ⟨g2, 1, none⟩ = some (.slice A1 rows.length c1) := (blk_cell B28.out 1).trans rfl
      have f1 := blk_frozen B28.out 1
      refine skip_ (w1 := ?_) (by rfl) rfl ?_ ?_
      rotate_left
      · go_simp
        rfl
      have B29 := Aside0.mk (show (w8.setCell ⟨g2, 1, none⟩ (.slice A18 n18 c18)).heap[g2]? = some (.cells #[.slice A0 n0 c0, (.slice A18 n18 c18), .int .i64 s] 34 (0, 0)) from blk_set B28.out 1 _)
      have hgr : w8.grownBy (w8.setCell ⟨g2, 1, none⟩ (.slice A18 n18 c18)) (some g2) := grown_set
      have B49 := Aside0.mk (show (w8.setCell ⟨g2, 1, none⟩ (.slice A18 n18 c18)).heap[g4]? = _ from (hgr.block g4 (blk_lt B48.out) (fun he => N24.out (Option.some.inj he).symm)).trans B48.out)
      have HB9 := Aside0.mk (HB8.out.setCell (p := ⟨g2, 1, none⟩) HG2.out (.slice A18 n18 c18))
      have R18_9 := Aside0.mk (R18_8.out.keep (Keeps.grown hgr B28.out (by decide)))
      clear q1 f1 hgr
      generalize w8.setCell ⟨g2, 1, none⟩ (.slice A18 n18 c18) = w9 at B29 B49 HB9 R18_9 ⊢
      refine hK.out _ _ ?_
      clear hK K
      refine done_ (done_of HT_.out (by kernel_rfl)) ?_
      have z20 : w9.cell? ⟨g2, 0, none⟩ = some (.slice A0 n0 c0) := (blk_cell B29.out 0).trans rfl
      have z21 : w9.cell? ⟨g2, 1, none⟩ = some (.slice A18 n18 c18) := (blk_cell B29.out 1).trans rfl
      have z22 : w9.cell? ⟨g2, 2, none⟩ = some (.int .i64 s) := (blk_cell B29.out 2).trans rfl
      go_wp2_with (first
        | ((with_reducible refine gate_ (.store 34 (.tmp 4) (.tmp 31)) rfl ?_); refine put_event (g := g4) (e := 34) rfl rfl 34 (.tmp 4) (.tmp 31) rfl rfl (.agg #[(.slice A0 n0 c0), (.slice A18 n18 c18), (.int .i64 s)]) rfl (cs' := #[(.slice A0 n0 c0), (.slice A18 n18 c18), (.int .i64 s)]) rfl (by kernel_rfl) (by simp [Value.oneCell']) B49.out rfl ?_; intro wz b4 hg; have B4z := Aside0.mk b4; have HBz := Aside0.mk (Below.grown HB9.out hg HB9.out.size (fun k hk => by cases hk; exact HG4.out)); have RZ := Aside0.mk (R18_9.out.keep (Keeps.grown hg B49.out (by decide))); have z40 : wz.cell? ⟨g4, 0, none⟩ = some ((.slice A0 n0 c0)) := (blk_cell B4z.out 0).trans rfl; have z41 : wz.cell? ⟨g4, 1, none⟩ = some ((.slice A18 n18 c18)) := (blk_cell B4z.out 1).trans rfl; have z42 : wz.cell? ⟨g4, 2, none⟩ = some ((.int .i64 s)) := (blk_cell B4z.out 2).trans rfl; clear b4 hg)
        | fail)
      refine bodyPost_ret (results_cell_row rfl _ _ g4 34 #[(.slice A0 n0 c0), (.slice A18 n18 c18), (.int .i64 s)] (0, 0) _ rfl B4z.out Try.underlying34 rfl (by kernel_rfl)) rfl ?_
      exact ⟨A18, c18, by rw [HN18.out], by rw [← HN18.out]; exact RZ.out, HBz.out⟩
    · refine Kd.R_lit_step (Kd.raw 1) _ 28 ?hg (N := 17) ?hd (xs := ([[.slice A2 n2 c2]] : List (List Value))) (inner := [.slice A2 n2 c2]) (ok := fun _ => True) (okp := fun _ => False) ?hr ?hp (fun _ hk => hk.elim) trivial (Below.refl _ _) (Nat.le_refl _) (by simp) ?_
      (case hd => rfl)
      (case hg => rfl)
      (case hr => first | (go_simp; done) | (go_simp; rfl))
      (case hp => exact reps1 _ ⟨rfl, rfl, by simp [Value.oneCell']⟩)
      intro v17 w6 ho hb _ hat
      have HB6 := Aside0.mk (below_step HB5.out hb)
      have B26 := Aside0.mk (blkK hb B25.out)
      have B36 := Aside0.mk (blkK hb B35.out)
      have B46 := Aside0.mk (blkK hb B45.out)
      have R17_6 := Aside0.mk (show RW w.heap.size w6 v17 [[.slice A2 n2 c2]] from Kd.R_lower ho HB5.out.size)
      have D := Aside0.mk (show ∀ k, v17.ownBlock = some k → v11.ownBlock ≠ some k from fun k hk he => by obtain ⟨b, h17, hle⟩ := hat; have e := Option.some.inj (h17.symm.trans hk); have h1 := Kd.R_lt R11_5.out k he; omega)
      have R11_6 := Aside0.mk (R11_5.out.keep (Keeps.below hb))
      clear ho hb hat
      refine hK.out _ _ ⟨(blk_cell B26.out 1).trans rfl, (blk_cell B36.out 1).trans rfl⟩ (fun hHeld => ?_)
      clear hK K
      refine norm_ (a' := ?_) ?_ ?_
      rotate_left
      · show Act.put _ (some 17) _ = _
        simp only [Act.put, List.setIfInBounds_toArray, List.set_cons_zero, List.set_cons_succ, i64_w, i32_w]
        rfl
      refine one_ (i := 3) (N := some 14) #[true, true, true, true, true, true, true, false, false, false] rfl rfl (one_of HT_.out (by kernel_rfl)) (by decide) (fun K hK => ?_)
      have hC := (Kd.R_reads' (Kd.R_below HR.out HB6.out)).2.2
      refine Kd.R_append_rows_step (Kd.raw 1) (Rr := (Kd.raw 1).K w6) (w0 := w6) w.heap.size rfl (.tmp 11) (.tmp 13) 29 28 (.slice none 0 0) 24 rfl Try.underlying29 info28 rfl (by decide) (by omega) v11 [] rows _ _ _ (fun _ => True) (fun _ => False) rfl rfl R11_6.out hC (fun _ _ h => h) (fun _ h => h.elim) (fun _ _ => trivial) (Below.refl _ _) HB6.out.size (by have := HLEN.out; simp; omega) ?_
      intro v14 w7 ho hb hg hat
      rw [List.nil_append] at ho
      have HB7 := Aside0.mk (HB6.out.trans hb)
      have B27 := Aside0.mk (R11_6.out.keepT hg (by decide) _ _ B26.out)
      have B37 := Aside0.mk (R11_6.out.keepT hg (by decide) _ _ B36.out)
      have B47 := Aside0.mk (R11_6.out.keepT hg (by decide) _ _ B46.out)
      have R14_7 := Aside0.mk (show RW w.heap.size w7 v14 rows from ho)
      have R17_7 := Aside0.mk (R17_6.out.part hg D.out)
      clear ho hb hat hg hC
      refine hK.out _ _ ⟨(blk_cell B27.out 1).trans rfl, (blk_cell B37.out 1).trans rfl⟩ (fun hHeld => ?_)
      clear hK K
      refine norm_ (a' := ?_) ?_ ?_
      rotate_left
      · show Act.put _ (some 14) _ = _
        simp only [Act.put, List.setIfInBounds_toArray, List.set_cons_zero, List.set_cons_succ, i64_w, i32_w]
        rfl
      refine one_ (i := 7) (N := some 18) #[true, true, true, true, true, true, true, true, false, false] rfl rfl (one_of HT_.out (by kernel_rfl)) (by decide) (fun K hK => ?_)
      obtain ⟨A17, c17, rfl, _, hC⟩ := Kd.R_reads R17_7.out
      refine Kd.R_append_rows_step (Kd.raw 1) (Rr := (Kd.raw 1).K w7) (w0 := w7) w.heap.size rfl (.tmp 14) (.tmp 17) 29 28 (.slice none 0 0) 24 rfl Try.underlying29 info28 rfl (by decide) (by omega) v14 rows [[.slice A2 n2 c2]] _ _ _ (fun _ => True) (fun _ => False) rfl rfl R14_7.out hC (fun _ _ h => h) (fun _ h => h.elim) (fun _ _ => trivial) (Below.refl _ _) HB7.out.size (by have := HLEN.out; simp; omega) ?_
      intro v18 w8 ho hb hg hat
      have HB8 := Aside0.mk (HB7.out.trans hb)
      have B28 := Aside0.mk (R14_7.out.keepT hg (by decide) _ _ B27.out)
      have B38 := Aside0.mk (R14_7.out.keepT hg (by decide) _ _ B37.out)
      have B48 := Aside0.mk (R14_7.out.keepT hg (by decide) _ _ B47.out)
      have R18_8 := Aside0.mk (show RW w.heap.size w8 v18 (rows ++ [[.slice A2 n2 c2]]) from ho)
      obtain ⟨A18, c18, n18, hn18, rfl⟩ : ∃ A c n, n = (rows ++ [[Value.slice A2 n2 c2]]).length ∧ v18 = .slice A n c := by obtain ⟨A, c, e⟩ := Kd.R_slice ho; exact ⟨A, c, _, rfl, e⟩
      have HN18 := Aside0.mk hn18
      clear hn18
      clear ho hb hat hg hC
      refine hK.out _ _ ⟨(blk_cell B28.out 1).trans rfl, (blk_cell B38.out 1).trans rfl⟩ (fun hHeld => ?_)
      clear hK K
      refine norm_ (a' := ?_) ?_ ?_
      rotate_left
      · show Act.put _ (some 18) _ = _
        simp only [Act.put, List.setIfInBounds_toArray, List.set_cons_zero, List.set_cons_succ, i64_w, i32_w]
        rfl
      refine pure_ (i := 8) (N := some 19) (v := ?_) (a' := ?_) #[true, true, true, true, true, true, true, true, true, false] rfl rfl (any_of HT_.out (by kernel_rfl)) (fun _ _ _ h => h) (Or.inl ⟨by rfl, ?_⟩) ?_ ?_
      rotate_left
      · intro w'
        go_simp
        with_reducible rfl
      rotate_left
      · simp only [Act.put, List.setIfInBounds_toArray, List.set_cons_zero, List.set_cons_succ, i64_w, i32_w]
        rfl
      refine last_ (i := 9) (N := none) #[true, true, true, true, true, true, true, true, true, true] rfl rfl (one_of HT_.out (by kernel_rfl)) (by decide) (fun K hK => ?_)
      have q1 : w8.cell? ⟨g2, 1, none⟩ = some (.slice A1 rows.length c1) := (blk_cell B28.out 1).trans rfl
      have f1 := blk_frozen B28.out 1
      refine skip_ (w1 := ?_) (by rfl) rfl ?_ ?_
      rotate_left
      · go_simp
        rfl
      have B29 := Aside0.mk (show (w8.setCell ⟨g2, 1, none⟩ (.slice A18 n18 c18)).heap[g2]? = some (.cells #[.slice A0 n0 c0, (.slice A18 n18 c18), .int .i64 s] 34 (0, 0)) from blk_set B28.out 1 _)
      have hgr : w8.grownBy (w8.setCell ⟨g2, 1, none⟩ (.slice A18 n18 c18)) (some g2) := grown_set
      have B49 := Aside0.mk (show (w8.setCell ⟨g2, 1, none⟩ (.slice A18 n18 c18)).heap[g4]? = _ from (hgr.block g4 (blk_lt B48.out) (fun he => N24.out (Option.some.inj he).symm)).trans B48.out)
      have HB9 := Aside0.mk (HB8.out.setCell (p := ⟨g2, 1, none⟩) HG2.out (.slice A18 n18 c18))
      have R18_9 := Aside0.mk (R18_8.out.keep (Keeps.grown hgr B28.out (by decide)))
      clear q1 f1 hgr
      generalize w8.setCell ⟨g2, 1, none⟩ (.slice A18 n18 c18) = w9 at B29 B49 HB9 R18_9 ⊢
      refine hK.out _ _ ?_
      clear hK K
      refine done_ (done_of HT_.out (by kernel_rfl)) ?_
      have z20 : w9.cell? ⟨g2, 0, none⟩ = some (.slice A0 n0 c0) := (blk_cell B29.out 0).trans rfl
      have z21 : w9.cell? ⟨g2, 1, none⟩ = some (.slice A18 n18 c18) := (blk_cell B29.out 1).trans rfl
      have z22 : w9.cell? ⟨g2, 2, none⟩ = some (.int .i64 s) := (blk_cell B29.out 2).trans rfl
      go_wp2_with (first
        | ((with_reducible refine gate_ (.store 34 (.tmp 4) (.tmp 31)) rfl ?_); refine put_event (g := g4) (e := 34) rfl rfl 34 (.tmp 4) (.tmp 31) rfl rfl (.agg #[(.slice A0 n0 c0), (.slice A18 n18 c18), (.int .i64 s)]) rfl (cs' := #[(.slice A0 n0 c0), (.slice A18 n18 c18), (.int .i64 s)]) rfl (by kernel_rfl) (by simp [Value.oneCell']) B49.out rfl ?_; intro wz b4 hg; have B4z := Aside0.mk b4; have HBz := Aside0.mk (Below.grown HB9.out hg HB9.out.size (fun k hk => by cases hk; exact HG4.out)); have RZ := Aside0.mk (R18_9.out.keep (Keeps.grown hg B49.out (by decide))); have z40 : wz.cell? ⟨g4, 0, none⟩ = some ((.slice A0 n0 c0)) := (blk_cell B4z.out 0).trans rfl; have z41 : wz.cell? ⟨g4, 1, none⟩ = some ((.slice A18 n18 c18)) := (blk_cell B4z.out 1).trans rfl; have z42 : wz.cell? ⟨g4, 2, none⟩ = some ((.int .i64 s)) := (blk_cell B4z.out 2).trans rfl; clear b4 hg)
        | fail)
      refine bodyPost_ret (results_cell_row rfl _ _ g4 34 #[(.slice A0 n0 c0), (.slice A18 n18 c18), (.int .i64 s)] (0, 0) _ rfl B4z.out Try.underlying34 rfl (by kernel_rfl)) rfl ?_
      exact ⟨A18, c18, by rw [HN18.out], by rw [← HN18.out]; exact RZ.out, HBz.out⟩
  · refine Kd.R_lit_step (Kd.raw 1) _ 28 ?hg (N := 17) ?hd (xs := ([[.slice A2 n2 c2]] : List (List Value))) (inner := [.slice A2 n2 c2]) (ok := fun _ => True) (okp := fun _ => False) ?hr ?hp (fun _ hk => hk.elim) trivial (Below.refl _ _) (Nat.le_refl _) (by simp) ?_
    (case hd => rfl)
    (case hg => rfl)
    (case hr => first | (go_simp; done) | (go_simp; rfl))
    (case hp => exact reps1 _ ⟨rfl, rfl, by simp [Value.oneCell']⟩)
    intro v17 w5 ho hb _ hat
    have HB5 := Aside0.mk (below_step HB4.out hb)
    have B25 := Aside0.mk (blkK hb B24.out)
    have B35 := Aside0.mk (blkK hb B34.out)
    have B45 := Aside0.mk (blkK hb B44.out)
    have R17_5 := Aside0.mk (show RW w.heap.size w5 v17 [[.slice A2 n2 c2]] from Kd.R_lower ho HB4.out.size)
    clear ho hb hat
    refine hK.out _ _ ⟨(blk_cell B25.out 1).trans rfl, (blk_cell B35.out 1).trans rfl⟩ (fun hHeld => ?_)
    clear hK K
    refine norm_ (a' := ?_) ?_ ?_
    rotate_left
    · show Act.put _ (some 17) _ = _
      simp only [Act.put, List.setIfInBounds_toArray, List.set_cons_zero, List.set_cons_succ, i64_w, i32_w]
      rfl
    refine one_ (i := 0) (N := some 11) #[true, true, true, false, true, true, true, false, false, false] rfl rfl (one_of HT_.out (by kernel_rfl)) (by decide) (fun K hK => ?_)
    refine Kd.R_lit_step (Kd.raw 1) _ 28 ?hg (N := 11) ?hd (xs := ([] : List (List Value))) (inner := []) (ok := fun _ => True) (okp := fun _ => False) ?hr ?hp (fun _ hk => hk.elim) trivial (Below.refl _ _) (Nat.le_refl _) (by simp) ?_
    (case hd => rfl)
    (case hg => rfl)
    (case hr => first | (go_simp; done) | (go_simp; rfl))
    (case hp => exact Reps.none _ _)
    intro v11 w6 ho hb _ hat
    have HB6 := Aside0.mk (below_step HB5.out hb)
    have B26 := Aside0.mk (blkK hb B25.out)
    have B36 := Aside0.mk (blkK hb B35.out)
    have B46 := Aside0.mk (blkK hb B45.out)
    have R11_6 := Aside0.mk (show RW w.heap.size w6 v11 [] from Kd.R_lower ho HB5.out.size)
    have D := Aside0.mk (show ∀ k, v17.ownBlock = some k → v11.ownBlock ≠ some k from fun k hk he => by obtain ⟨b, h11, hle⟩ := hat; have h1 := Kd.R_lt R17_5.out k hk; rw [h11] at he; cases he; omega)
    have R17_6 := Aside0.mk (R17_5.out.keep (Keeps.below hb))
    clear ho hb hat
    refine hK.out _ _ ⟨(blk_cell B26.out 1).trans rfl, (blk_cell B36.out 1).trans rfl⟩ (fun hHeld => ?_)
    clear hK K
    refine norm_ (a' := ?_) ?_ ?_
    rotate_left
    · show Act.put _ (some 11) _ = _
      simp only [Act.put, List.setIfInBounds_toArray, List.set_cons_zero, List.set_cons_succ, i64_w, i32_w]
      rfl
    refine one_ (i := 3) (N := some 14) #[true, true, true, true, true, true, true, false, false, false] rfl rfl (one_of HT_.out (by kernel_rfl)) (by decide) (fun K hK => ?_)
    have hC := (Kd.R_reads' (Kd.R_below HR.out HB6.out)).2.2
    refine Kd.R_append_rows_step (Kd.raw 1) (Rr := (Kd.raw 1).K w6) (w0 := w6) w.heap.size rfl (.tmp 11) (.tmp 13) 29 28 (.slice none 0 0) 24 rfl Try.underlying29 info28 rfl (by decide) (by omega) v11 [] rows _ _ _ (fun _ => True) (fun _ => False) rfl rfl R11_6.out hC (fun _ _ h => h) (fun _ h => h.elim) (fun _ _ => trivial) (Below.refl _ _) HB6.out.size (by have := HLEN.out; simp; omega) ?_
    intro v14 w7 ho hb hg hat
    rw [List.nil_append] at ho
    have HB7 := Aside0.mk (HB6.out.trans hb)
    have B27 := Aside0.mk (R11_6.out.keepT hg (by decide) _ _ B26.out)
    have B37 := Aside0.mk (R11_6.out.keepT hg (by decide) _ _ B36.out)
    have B47 := Aside0.mk (R11_6.out.keepT hg (by decide) _ _ B46.out)
    have R14_7 := Aside0.mk (show RW w.heap.size w7 v14 rows from ho)
    have R17_7 := Aside0.mk (R17_6.out.part hg D.out)
    clear ho hb hat hg hC
    refine hK.out _ _ ⟨(blk_cell B27.out 1).trans rfl, (blk_cell B37.out 1).trans rfl⟩ (fun hHeld => ?_)
    clear hK K
    refine norm_ (a' := ?_) ?_ ?_
    rotate_left
    · show Act.put _ (some 14) _ = _
      simp only [Act.put, List.setIfInBounds_toArray, List.set_cons_zero, List.set_cons_succ, i64_w, i32_w]
      rfl
    refine one_ (i := 7) (N := some 18) #[true, true, true, true, true, true, true, true, false, false] rfl rfl (one_of HT_.out (by kernel_rfl)) (by decide) (fun K hK => ?_)
    obtain ⟨A17, c17, rfl, _, hC⟩ := Kd.R_reads R17_7.out
    refine Kd.R_append_rows_step (Kd.raw 1) (Rr := (Kd.raw 1).K w7) (w0 := w7) w.heap.size rfl (.tmp 14) (.tmp 17) 29 28 (.slice none 0 0) 24 rfl Try.underlying29 info28 rfl (by decide) (by omega) v14 rows [[.slice A2 n2 c2]] _ _ _ (fun _ => True) (fun _ => False) rfl rfl R14_7.out hC (fun _ _ h => h) (fun _ h => h.elim) (fun _ _ => trivial) (Below.refl _ _) HB7.out.size (by have := HLEN.out; simp; omega) ?_
    intro v18 w8 ho hb hg hat
    have HB8 := Aside0.mk (HB7.out.trans hb)
    have B28 := Aside0.mk (R14_7.out.keepT hg (by decide) _ _ B27.out)
    have B38 := Aside0.mk (R14_7.out.keepT hg (by decide) _ _ B37.out)
    have B48 := Aside0.mk (R14_7.out.keepT hg (by decide) _ _ B47.out)
    have R18_8 := Aside0.mk (show RW w.heap.size w8 v18 (rows ++ [[.slice A2 n2 c2]]) from ho)
    obtain ⟨A18, c18, n18, hn18, rfl⟩ : ∃ A c n, n = (rows ++ [[Value.slice A2 n2 c2]]).length ∧ v18 = .slice A n c := by obtain ⟨A, c, e⟩ := Kd.R_slice ho; exact ⟨A, c, _, rfl, e⟩
    have HN18 := Aside0.mk hn18
    clear hn18
    clear ho hb hat hg hC
    refine hK.out _ _ ⟨(blk_cell B28.out 1).trans rfl, (blk_cell B38.out 1).trans rfl⟩ (fun hHeld => ?_)
    clear hK K
    refine norm_ (a' := ?_) ?_ ?_
    rotate_left
    · show Act.put _ (some 18) _ = _
      simp only [Act.put, List.setIfInBounds_toArray, List.set_cons_zero, List.set_cons_succ, i64_w, i32_w]
      rfl
    refine pure_ (i := 8) (N := some 19) (v := ?_) (a' := ?_) #[true, true, true, true, true, true, true, true, true, false] rfl rfl (any_of HT_.out (by kernel_rfl)) (fun _ _ _ h => h) (Or.inl ⟨by rfl, ?_⟩) ?_ ?_
    rotate_left
    · intro w'
      go_simp
      with_reducible rfl
    rotate_left
    · simp only [Act.put, List.setIfInBounds_toArray, List.set_cons_zero, List.set_cons_succ, i64_w, i32_w]
      rfl
    refine last_ (i := 9) (N := none) #[true, true, true, true, true, true, true, true, true, true] rfl rfl (one_of HT_.out (by kernel_rfl)) (by decide) (fun K hK => ?_)
    have q1 : w8.cell? ⟨g2, 1, none⟩ = some (.slice A1 rows.length c1) := (blk_cell B28.out 1).trans rfl
    have f1 := blk_frozen B28.out 1
    refine skip_ (w1 := ?_) (by rfl) rfl ?_ ?_
    rotate_left
    · go_simp
      rfl
    have B29 := Aside0.mk (show (w8.setCell ⟨g2, 1, none⟩ (.slice A18 n18 c18)).heap[g2]? = some (.cells #[.slice A0 n0 c0, (.slice A18 n18 c18), .int .i64 s] 34 (0, 0)) from blk_set B28.out 1 _)
    have hgr : w8.grownBy (w8.setCell ⟨g2, 1, none⟩ (.slice A18 n18 c18)) (some g2) := grown_set
    have B49 := Aside0.mk (show (w8.setCell ⟨g2, 1, none⟩ (.slice A18 n18 c18)).heap[g4]? = _ from (hgr.block g4 (blk_lt B48.out) (fun he => N24.out (Option.some.inj he).symm)).trans B48.out)
    have HB9 := Aside0.mk (HB8.out.setCell (p := ⟨g2, 1, none⟩) HG2.out (.slice A18 n18 c18))
    have R18_9 := Aside0.mk (R18_8.out.keep (Keeps.grown hgr B28.out (by decide)))
    clear q1 f1 hgr
    generalize w8.setCell ⟨g2, 1, none⟩ (.slice A18 n18 c18) = w9 at B29 B49 HB9 R18_9 ⊢
    refine hK.out _ _ ?_
    clear hK K
    refine done_ (done_of HT_.out (by kernel_rfl)) ?_
    have z20 : w9.cell? ⟨g2, 0, none⟩ = some (.slice A0 n0 c0) := (blk_cell B29.out 0).trans rfl
    have z21 : w9.cell? ⟨g2, 1, none⟩ = some (.slice A18 n18 c18) := (blk_cell B29.out 1).trans rfl
    have z22 : w9.cell? ⟨g2, 2, none⟩ = some (.int .i64 s) := (blk_cell B29.out 2).trans rfl
    go_wp2_with (first
      | ((with_reducible refine gate_ (.store 34 (.tmp 4) (.tmp 31)) rfl ?_); refine put_event (g := g4) (e := 34) rfl rfl 34 (.tmp 4) (.tmp 31) rfl rfl (.agg #[(.slice A0 n0 c0), (.slice A18 n18 c18), (.int .i64 s)]) rfl (cs' := #[(.slice A0 n0 c0), (.slice A18 n18 c18), (.int .i64 s)]) rfl (by kernel_rfl) (by simp [Value.oneCell']) B49.out rfl ?_; intro wz b4 hg; have B4z := Aside0.mk b4; have HBz := Aside0.mk (Below.grown HB9.out hg HB9.out.size (fun k hk => by cases hk; exact HG4.out)); have RZ := Aside0.mk (R18_9.out.keep (Keeps.grown hg B49.out (by decide))); have z40 : wz.cell? ⟨g4, 0, none⟩ = some ((.slice A0 n0 c0)) := (blk_cell B4z.out 0).trans rfl; have z41 : wz.cell? ⟨g4, 1, none⟩ = some ((.slice A18 n18 c18)) := (blk_cell B4z.out 1).trans rfl; have z42 : wz.cell? ⟨g4, 2, none⟩ = some ((.int .i64 s)) := (blk_cell B4z.out 2).trans rfl; clear b4 hg)
      | fail)
    refine bodyPost_ret (results_cell_row rfl _ _ g4 34 #[(.slice A0 n0 c0), (.slice A18 n18 c18), (.int .i64 s)] (0, 0) _ rfl B4z.out Try.underlying34 rfl (by kernel_rfl)) rfl ?_
    exact ⟨A18, c18, by rw [HN18.out], by rw [← HN18.out]; exact RZ.out, HBz.out⟩
end Go.Proofs.Ytdbkedipfpepbaa.PWal
