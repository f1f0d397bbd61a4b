/- The walks of the reference's Play; a struct stored in a region that draws its order; the pure facts of WalActs. -/
import Derived.Test.YtdbkedipfpepbaaWalDo
namespace Go.Proofs.Ytdbkedipfpepbaa.PWal
open Go.RowKit Go.Proofs.YtdbkedipfpepbaaW.PrintWords Go.Proofs.YtdbkedipfpepbaaW.PrintLast Go.Proofs.YtdbkedipfpepbaaW.PrintMore Go.FrameMath
set_option linter.unusedVariables false
set_option linter.unusedSimpArgs false
variable {B p q M : Nat} {t u : St} {l : List Chg} {front : Int} {rs : List (List Int)} {A : Option Addr} {c : Nat} {k x y : Int} {r : List Int}
set_option maxHeartbeats 8000000 in
set_option maxRecDepth 100000 in
theorem Play_flush (w : World) (hL : LG B w p q t u l front rs) (hO : Ok M (UP t u l)) (hN : M ≤ 500000000) (hm : Int.tmod k 6 = 2) :
    Calls Try.prog 11 #[.pointer (some ⟨q, 0, none⟩), .agg #[.int .u8 k, .slice A r.length c, .int .i64 x, .int .i64 y]] w fun e w' => e = .returned (.int .i64 0) ∧ LG B w' p q u u [] front rs ∧ Ok M (UP u u []) ∧ Below B w w' ∧ KL w w' := by
  have HL := Aside0.mk hL
  have HO := Aside0.mk hO
  have HN := Aside0.mk hN
  clear hN
  clear hL hO
  go_enter Try.func11, Try.ntmps11
  go_wp2_with (first
    | ((with_reducible refine gate_dst (N := 3) rfl ?_); refine box_event ?hg (N := 3) ?hd (cs := #[.int .u8 k, .slice A r.length c, .int .i64 x, .int .i64 y]) (t := 36) ?hr ?_; (case hd => rfl); (case hg => rfl); (case hr => first | (go_simp; done) | (go_simp; rfl)); intro g3 e3 w1 b3 hb; have HL1 := Aside0.mk (HL.out.below hb); have HB1 := Aside0.mk hb; have z0 : w1.cell? ⟨g3, 0, none⟩ = some (.int .u8 k) := (blk_cell b3 0).trans rfl; have z1 : w1.cell? ⟨g3, 1, none⟩ = some (.slice A r.length c) := (blk_cell b3 1).trans rfl; clear b3 hb e3)
    | (go_at_call 22; (with_reducible refine (Flush_calls w1 HL1.out HO.out HN.out).mono ?_); rintro e w2 ⟨rfl, h1, h2, hb, hk⟩)
    | fail)
  go_ret
  exact ⟨rfl, h1, h2, Below.trans (Below.mono HB1.out HL.out.rep.base) hb, KL.trans (KT.below HB1.out).kl hk⟩
set_option maxHeartbeats 8000000 in
set_option maxRecDepth 100000 in
theorem Play_save (w : World) (hL : LG B w p q t u l front rs) (hO : Ok M (UP t u l)) (hN : M + r.length + 15 ≤ 500000000) (hC : Kd.C (Kd.int .u8) w A r.length r) (hc : r.length ≤ c) (hb : Byt r) (hl : r.length ≤ 3000) (hm : Int.tmod k 6 = 3) :
    Calls Try.prog 11 #[.pointer (some ⟨q, 0, none⟩), .agg #[.int .u8 k, .slice A r.length c, .int .i64 x, .int .i64 y]] w fun e w' => e = .returned (.int .i64 0) ∧ LG B w' p q (turnSt u (1 - front) (frame r)) (turnSt u (1 - front) (frame r)) [] (1 - front) [r] ∧ Ok (M + r.length + 15) (UP (turnSt u (1 - front) (frame r)) (turnSt u (1 - front) (frame r)) []) ∧ Below B w w' ∧ KL w w' := by
  have HL := Aside0.mk hL
  have HO := Aside0.mk hO
  have HN := Aside0.mk hN
  have HC := Aside0.mk hC
  have HCC := Aside0.mk hc
  have HBY := Aside0.mk hb
  have HLE := Aside0.mk hl
  clear hN hC hc hb hl
  clear hL hO
  go_enter Try.func11, Try.ntmps11
  go_wp2_with (first
    | ((with_reducible refine gate_dst (N := 3) rfl ?_); refine box_event ?hg (N := 3) ?hd (cs := #[.int .u8 k, .slice A r.length c, .int .i64 x, .int .i64 y]) (t := 36) ?hr ?_; (case hd => rfl); (case hg => rfl); (case hr => first | (go_simp; done) | (go_simp; rfl)); intro g3 e3 w1 b3 hb; have HL1 := Aside0.mk (HL.out.below hb); have HB1 := Aside0.mk hb; have z0 : w1.cell? ⟨g3, 0, none⟩ = some (.int .u8 k) := (blk_cell b3 0).trans rfl; have z1 : w1.cell? ⟨g3, 1, none⟩ = some (.slice A r.length c) := (blk_cell b3 1).trans rfl; clear b3 hb e3)
    | (go_at_call 18; (with_reducible refine (Save_calls (b := r) w1 HL1.out HO.out HN.out (Kd.C_below HC.out HB1.out) HCC.out HBY.out HLE.out).mono ?_); rintro e w2 ⟨rfl, h1, h2, hb, hk⟩)
    | fail)
  go_ret
  exact ⟨rfl, h1, h2, Below.trans (Below.mono HB1.out HL.out.rep.base) hb, KL.trans (KT.below HB1.out).kl hk⟩
set_option maxHeartbeats 8000000 in
set_option maxRecDepth 100000 in
theorem Play_add (w : World) (hL : LG B w p q t u l front rs) (hO : Ok M (UP t u l)) (hN : M + (addB rs r).length + 1 ≤ 500000000) (hC : Kd.C (Kd.int .u8) w A r.length r) (hc : r.length ≤ c) (hb : Byt r) (hl : r.length ≤ 3000) (ht : (flat (added rs r)).length ≤ 100000) {m : Int} (hm : Int.tmod k 6 = m) (d2 : (m == 2) = false) (d3 : (m == 3) = false) :
    Calls Try.prog 11 #[.pointer (some ⟨q, 0, none⟩), .agg #[.int .u8 k, .slice A r.length c, .int .i64 x, .int .i64 y]] w fun e w' => e = .returned (.int .i64 0) ∧ LG B w' p q t (doSt u (0, front, addB rs r)) (l ++ [(0, front, addB rs r)]) front (added rs r) ∧ Ok (M + (addB rs r).length + 1) (UP t (doSt u (0, front, addB rs r)) (l ++ [(0, front, addB rs r)])) ∧ Below B w w' ∧ KL w w' := by
  have HL := Aside0.mk hL
  have HO := Aside0.mk hO
  have HN := Aside0.mk hN
  have HC := Aside0.mk hC
  have HCC := Aside0.mk hc
  have HBY := Aside0.mk hb
  have HLE := Aside0.mk hl
  have HT := Aside0.mk ht
  clear hN hC hc hb hl ht
  clear hL hO
  go_enter Try.func11, Try.ntmps11
  go_wp2_with (first
    | ((with_reducible refine gate_dst (N := 3) rfl ?_); refine box_event ?hg (N := 3) ?hd (cs := #[.int .u8 k, .slice A r.length c, .int .i64 x, .int .i64 y]) (t := 36) ?hr ?_; (case hd => rfl); (case hg => rfl); (case hr => first | (go_simp; done) | (go_simp; rfl)); intro g3 e3 w1 b3 hb; have HL1 := Aside0.mk (HL.out.below hb); have HB1 := Aside0.mk hb; have z0 : w1.cell? ⟨g3, 0, none⟩ = some (.int .u8 k) := (blk_cell b3 0).trans rfl; have z1 : w1.cell? ⟨g3, 1, none⟩ = some (.slice A r.length c) := (blk_cell b3 1).trans rfl; clear b3 hb e3)
    | (go_at_call 19; (with_reducible refine (Add_calls (r := r) w1 HL1.out HO.out HN.out (Kd.C_below HC.out HB1.out) HCC.out HBY.out HLE.out HT.out).mono ?_); rintro e w2 ⟨rfl, h1, h2, hb, hk⟩)
    | fail)
  go_ret
  exact ⟨rfl, h1, h2, Below.trans (Below.mono HB1.out HL.out.rep.base) hb, KL.trans (KT.below HB1.out).kl hk⟩
section
variable {W W' : World} {g : Nat}
theorem cellB {a : Addr} {v : Value} (hb : Below W.heap.size W W') (hc : W.cell? a = some v) : W'.cell? a = some v := (hb.cell (World.block_lt_of_cell? W a hc)).trans hc
/-- a struct stored at the front of a block, as one run -/
theorem store_run {P : Program} {o : Oper} {a : Act} (t : TypeId) (q x : Operand) (ho : o.op = .store t q x) {cs cs' : Array Value} {e : TypeId} (haddr : a.eval q = .pointer (some ⟨g, 0, none⟩)) (u : Value) (hx : a.eval x = u) (hu : u.cells = cs')
    (ht : (P.info? t).map (·.size) = some cs'.toList.length) (h1 : ∀ r ∈ cs'.toList, r.oneCell' = true) (hb : W.heap[g]? = some (.cells cs e (0, 0))) (hsz : cs'.toList.length = cs.size) :
    ∃ W', (execOp a.eval o).run P W = .ok .skip W' ∧ W'.heap[g]? = some (.cells cs' e (0, 0)) ∧ W.grownBy W' (some g) := by
  have hrun : (Instr.storeAt t (.pointer (some ⟨g, 0, none⟩)) u).run P W = .ok () (W.setCells g 0 cs'.toList) := run_store_run t u cs'.toList hb (by rw [hu]) ht (by omega) h1
  obtain ⟨cur', h3, h4, h5⟩ := setCells_row cs'.toList 0 W cs hb (by omega)
  obtain ⟨s1, s2, s3, s4⟩ := setCells_same g cs'.toList 0 W
  have hcur : cur' = cs' := by
    apply Array.ext'
    rw [h5, List.take_zero, List.nil_append, List.drop_eq_nil_of_le (by rw [Array.length_toList]; omega), List.append_nil]
  subst hcur
  refine ⟨_, ?_, h3, ⟨s1, s2, s3, by rw [s4]; exact Nat.le_refl _, fun k _ hk => setCells_far _ _ k (fun he => hk (by rw [he]))⟩⟩
  unfold execOp
  simp only [ho, haddr, hx, Sem.run_bind, Sem.run_pure, Result.andThen_ok, hrun]
theorem put_step {P : Program} {ops : Array Oper} {Q : Exit → Act → World → Prop} {oi : Oper} {a : Act} {K : Act → World → Prop} (hw : Region.wanted oi (yielded ops a.tmps) = true) (hN : oi.dst = none) (t : TypeId) (q x : Operand) (ho : oi.op = .store t q x) {cs cs' : Array Value} {e : TypeId} (haddr : a.eval q = .pointer (some ⟨g, 0, none⟩)) (u : Value) (hx : a.eval x = u) (hu : u.cells = cs')
    (ht : (P.info? t).map (·.size) = some cs'.toList.length) (h1 : ∀ r ∈ cs'.toList, r.oneCell' = true) (hb : W.heap[g]? = some (.cells cs e (0, 0))) (hsz : cs'.toList.length = cs.size)
    (h : ∀ W', W'.heap[g]? = some (.cells cs' e (0, 0)) → W.grownBy W' (some g) → K a W') : if Region.wanted oi (yielded ops a.tmps) = true then Oper.wp P oi a W K Q else K (a.put none undef) W := by
  obtain ⟨W', hr, hb', hg⟩ := store_run (P := P) (o := oi) t q x ho haddr u hx hu ht h1 hb hsz
  exact skip_ hw hN hr (h W' hb' hg)
end
/-! ### the pure facts -/
theorem rdT_get (l : List S36) (i : Nat) (h : i < l.length) : rd_T36 l (i : Int) = l[i] := by
  unfold rd_T36
  rw [Int.toNat_natCast, List.getD_eq_getElem?_getD, List.getElem?_eq_getElem h]
  rfl
theorem few8_l (m : List S36) (hm : m.length ≤ 25) : ∀ (d k i : Nat), d = m.length - i → i ≤ m.length → d < k →
    ∃ b, lockgateref08_Few.l0 k m (i : Int) = some b ∧ (b = true → ∀ x ∈ m.drop i, x.f1.length ≤ 200) := by
  intro d
  induction d with
  | zero =>
    intro k i hd hi hk
    obtain ⟨k, rfl⟩ : ∃ q, k = q + 1 := ⟨k - 1, by omega⟩
    rw [lockgateref08_Few.l0, if_neg (by omega)]
    refine ⟨_, rfl, fun _ x hx => ?_⟩
    rw [List.drop_eq_nil_of_le (by omega)] at hx
    cases hx
  | succ d ih =>
    intro k i hd hi hk
    obtain ⟨k, rfl⟩ : ∃ q, k = q + 1 := ⟨k - 1, by omega⟩
    have h1 : i < m.length := by omega
    rw [lockgateref08_Few.l0, if_pos (by omega), if_pos (by omega), rdT_get m i h1]
    by_cases hb : (m[i].f1.length : Int) > 200
    · rw [if_pos hb]; exact ⟨false, rfl, fun h => by cases h⟩
    · rw [if_neg hb, FramePure.w1 i (by omega)]
      obtain ⟨b, e, h⟩ := ih k (i + 1) (by omega) (by omega) (by omega)
      refine ⟨b, e, fun hb2 x hx => ?_⟩
      rw [List.drop_eq_getElem_cons h1] at hx
      rcases List.mem_cons.1 hx with rfl | hx
      · omega
      · exact h hb2 x hx
theorem few8_f (m : List S36) (k : Nat) (hk : 100 < k) : ∃ b, lockgateref08_Few.f k m = some b ∧ (b = true → m.length ≤ 25 ∧ ∀ x ∈ m, x.f1.length ≤ 200) := by
  unfold lockgateref08_Few.f
  by_cases h : (m.length : Int) > 25
  · rw [if_pos h]; exact ⟨false, rfl, fun h => by cases h⟩
  · rw [if_neg h]
    obtain ⟨b, h1, h2⟩ := few8_l m (by omega) m.length k 0 (by omega) (by omega) (by omega)
    exact ⟨b, h1, fun hb => ⟨by omega, fun x hx => h2 hb x (by rwa [List.drop_zero])⟩⟩
theorem row8_l (K O : Nat) (hK : 3300 ≤ K) (hO : O = 100000000) (pic : List Int) (recs : List (List Int)) (s : Int) (hr : recs.length ≤ 1000) (hs : ∀ r ∈ recs, r.length ≤ 3000) : ∀ (d k i : Nat) (o : List Int), d = recs.length - i → i ≤ recs.length → d + K < k → o.length + 4000 * d < O →
    lockgateref08_Row.l0 k o (i : Int) pic recs s = some (o ++ flat (recs.drop i)) := by
  intro d
  induction d with
  | zero =>
    intro k i o hd hi hk ho
    obtain ⟨k, rfl⟩ : ∃ q, k = q + 1 := ⟨k - 1, by omega⟩
    rw [lockgateref08_Row.l0, if_neg (by omega), List.drop_eq_nil_of_le (by omega), show flat [] = [] from rfl, List.append_nil]
  | succ d ih =>
    intro k i o hd hi hk ho
    obtain ⟨k, rfl⟩ : ∃ q, k = q + 1 := ⟨k - 1, by omega⟩
    have h1 : i < recs.length := by omega
    have h2 := hs _ (List.getElem_mem h1)
    have h3 := frame_length recs[i]
    rw [lockgateref08_Row.l0, if_pos (by omega), if_pos (by omega), FramePure.rdL recs i h1, FramePure.frame_f _ (by omega) k (by omega), Option.bind_some, if_pos (by omega), FramePure.w1 i (by omega), ih k (i + 1) _ (by omega) (by omega) (by omega) (by rw [List.length_append]; omega), List.drop_eq_getElem_cons h1, flat_cons, List.append_assoc]
theorem row8_f (pic : List Int) (recs : List (List Int)) (s : Int) (hp : pic.length ≤ 3000) (hr : recs.length ≤ 1000) (hs : ∀ r ∈ recs, r.length ≤ 3000) : lockgateref08_Row.f 5000 pic recs s = some (flat (pic :: recs)) := by
  unfold lockgateref08_Row.f
  rw [FramePure.frame_f _ (by omega) 5000 (by omega), Option.bind_some]
  have := row8_l 3300 _ (Nat.le_refl _) rfl pic recs s hr hs recs.length 5000 0 (frame pic) (by omega) (by omega) (by omega) (by rw [frame_length]; omega)
  rw [List.drop_zero] at this
  rw [flat_cons]
  exact this
theorem same03_f (b : List Int) (h : b.length ≤ 100000) : lockgateref03_Same.f 200000 b b = some true := by
  rw [FramePure.same_f b b (by omega) 200000 (by omega)]
  simp
theorem mod6 (k : Int) (h0 : 0 ≤ k) : Int.tmod k 6 = 0 ∨ Int.tmod k 6 = 1 ∨ Int.tmod k 6 = 2 ∨ Int.tmod k 6 = 3 ∨ Int.tmod k 6 = 4 ∨ Int.tmod k 6 = 5 := by
  rw [Int.tmod_eq_emod_of_nonneg h0]
  omega
theorem added_old {pic : List Int} {recs : List (List Int)} {r : List Int} : added (pic :: recs) r = pic :: (recs ++ [r]) := by unfold added; rw [if_neg (by simp)]; rfl
theorem added_new {r : List Int} : added [] r = [[], r] := rfl
theorem addB_len (rs : List (List Int)) (r : List Int) : (addB rs r).length ≤ 24 + r.length := by
  unfold addB
  by_cases h : rs = []
  · rw [if_pos h, List.length_append, frame_length, frame_length, List.length_nil]; omega
  · rw [if_neg h, frame_length]; omega
theorem added_len (rs : List (List Int)) (r : List Int) : (flat (added rs r)).length ≤ (flat rs).length + 24 + r.length := by
  rw [← added_flat, List.length_append]
  have := addB_len rs r
  omega
/-! ### a log, and what is held -/
theorem LG.other {B : Nat} {W W' : World} {p q g : Nat} {t u : St} {l : List Chg} {front : Int} {rs : List (List Int)} {cs : Array Value} {ty : TypeId} (h : LG B W p q t u l front rs) (hg : W.grownBy W' (some g)) (hc : W.heap[g]? = some (.cells cs ty (0, 0))) (h5 : (5 : TypeId) ≠ ty) (h58 : (58 : TypeId) ≠ ty) (h69 : (69 : TypeId) ≠ ty) (h60 : (60 : TypeId) ≠ ty) : LG B W' p q t u l front rs :=
  ⟨h.rep.other36 hg hc h5 h58 h69, Keeps.grown hg hc h60 _ _ h.blk, h.hq, h.st⟩
/-- the variable h at g: what is held -/
structure HA (B : Nat) (W0 W : World) (g : Nat) (pic : List Int) (recs : List (List Int)) (rows : List (List Value)) (A0 : Option Addr) (c0 : Nat) (A1 : Option Addr) (c1 : Nat) (s : Int) : Prop where
  bk : W.heap[g]? = some (.cells #[.slice A0 pic.length c0, .slice A1 recs.length c1, .int .i64 s] 34 (0, 0))
  pc : Kd.C (Kd.int .u8) W0 A0 pic.length pic
  pl : pic.length ≤ c0
  rw : RW B W (.slice A1 recs.length c1) rows
  el : EL W0 rows recs
  hg : B ≤ g
theorem HA.kl {B : Nat} {W0 W W' : World} {g : Nat} {pic : List Int} {recs : List (List Int)} {rows : List (List Value)} {A0 A1 : Option Addr} {c0 c1 : Nat} {s : Int} (h : HA B W0 W g pic recs rows A0 c0 A1 c1 s) (hk : KL W W') : HA B W0 W' g pic recs rows A0 c0 A1 c1 s :=
  ⟨hk 34 (by decide) (by decide) (by decide) _ _ h.bk, h.pc, h.pl, h.rw.keep (hk 28 (by decide) (by decide) (by decide)), h.el, h.hg⟩
theorem HA.below {B : Nat} {W0 W W' : World} {g : Nat} {pic : List Int} {recs : List (List Int)} {rows : List (List Value)} {A0 A1 : Option Addr} {c0 c1 : Nat} {s : Int} (h : HA B W0 W g pic recs rows A0 c0 A1 c1 s) (hb : Below W.heap.size W W') : HA B W0 W' g pic recs rows A0 c0 A1 c1 s := h.kl (KT.below hb).kl
/-- its slices, read -/
theorem HA.reads {B : Nat} {W0 W : World} {g : Nat} {pic : List Int} {recs : List (List Int)} {rows : List (List Value)} {A0 A1 : Option Addr} {c0 c1 : Nat} {s : Int} (h : HA B W0 W g pic recs rows A0 c0 A1 c1 s) (hb : Below W0.heap.size W0 W) : recs.length ≤ c1 ∧ Kd.C (Kd.slice 5 (Kd.int .u8)) W A1 recs.length recs ∧ Kd.C (Kd.int .u8) W A0 pic.length pic := by
  obtain ⟨A, c, e, hc, hC⟩ := h.rw.reads (h.el.below hb)
  injection e with e1 e2 e3
  subst e1; subst e3
  exact ⟨hc, hC, Kd.C_below h.pc hb⟩
/-- empty, and what the log has -/
def SH (em : Bool) (rs : List (List Int)) (pic : List Int) (recs : List (List Int)) : Prop := (em = true ∧ rs = [] ∧ pic = [] ∧ recs = []) ∨ (em = false ∧ rs = pic :: recs)
theorem Do_addH {W0 : World} {B0 : Nat} {recs : List (List Int)} {rows : List (List Value)} {A0 A1 A2 : Option Addr} {n0 c0 c1 n2 c2 : Nat} {s k x y m : Int} (w : World) (hm : Int.tmod k 6 = m) (h1 : decide (m ≤ 1) = true) (h2 : (m == 2) = false) (h3 : (m == 3) = false) (hR : RW B0 w (.slice A1 recs.length c1) rows) (he : EL W0 rows recs) (hl : recs.length ≤ 1000) (rn : List (List Int)) (hrn : rn.length = recs.length + 1) :
    Calls Try.prog 12 #[.agg #[.slice A0 n0 c0, .slice A1 recs.length c1, .int .i64 s], .agg #[.int .u8 k, .slice A2 n2 c2, .int .i64 x, .int .i64 y]] w fun e w' => ∃ A c, e = .returned (.agg #[.slice A0 n0 c0, .slice A rn.length c, .int .i64 s]) ∧ RW w.heap.size w' (.slice A rn.length c) (rows ++ [[.slice A2 n2 c2]]) ∧ Below w.heap.size w w' := by
  have e : recs.length = rows.length := he.1.symm
  rw [e] at hR ⊢
  refine (Do_add w hm h1 h2 h3 hR (by omega)).mono ?_
  rintro e' w' ⟨A, c, h4, h5, h6⟩
  have e2 : (rows ++ [[Value.slice A2 n2 c2]]).length = rn.length := by rw [List.length_append, hrn, e]; rfl
  rw [e2] at h4 h5
  exact ⟨A, c, h4, h5, h6⟩
theorem SH.add {em : Bool} {rs recs : List (List Int)} {pic : List Int} (h : SH em rs pic recs) (r : List Int) : added rs r = pic :: (recs ++ [r]) := by
  rcases h with ⟨_, rfl, rfl, rfl⟩ | ⟨_, rfl⟩
  · rfl
  · exact added_old
theorem LG.first {B : Nat} {W : World} {p q : Nat} {t u : St} {l : List Chg} {front : Int} {rs : List (List Int)} (h : LG B W p q t u l front rs) : (if (UP t u l).down = true then (0 : Int) else (UP t u l).now.2.2) = front := by
  rw [show (UP t u l).down = false from rfl, if_neg (by decide)]
  exact h.st.at_
theorem LG.read {B : Nat} {W : World} {p q : Nat} {t u : St} {l : List Chg} {front : Int} {rs : List (List Int)} (h : LG B W p q t u l front rs) : readB (UP t u l) front = flat rs := (readUP h.st.fr).trans h.st.ar
theorem Read_nil {B M : Nat} {p q : Nat} {t u : St} {l : List Chg} {front : Int} (w : World) (hL : LG B w p q t u l front []) (hO : Ok M (UP t u l)) (hN : M ≤ 500000000) :
    Calls Try.prog 14 #[.pointer (some ⟨p, 0, none⟩), .int .i64 front] w fun e w' => ∃ A c, e = .returned (.tuple #[.slice A 0 c, .int .i64 0]) ∧ Below w.heap.size w w' :=
  (Read_T w hL.rep hO hN front (bs := []) (mayUP hL.st.fr) hL.read).mono fun e w' h => by obtain ⟨A, c, h1, _, h3⟩ := h; exact ⟨A, c, h1, h3⟩
theorem Size_nil {B : Nat} {p q : Nat} {t u : St} {l : List Chg} {front : Int} (w : World) (hL : LG B w p q t u l front []) : Calls Try.prog 15 #[.pointer (some ⟨q, 0, none⟩)] w fun e w' => e = .returned (.int .i64 0) ∧ w' = w := Size_calls w hL
theorem Same_nil {A0 A1 : Option Addr} {c0 c1 : Nat} {s : Int} {pic : List Int} {recs : List (List Int)} (w : World) (hp : pic = []) (hq : recs = []) (h0 : pic.length ≤ c0) (h1 : Kd.C (Kd.int .u8) w A0 pic.length pic) (h2 : recs.length ≤ c1) (h3 : Kd.C (Kd.slice 5 (Kd.int .u8)) w A1 recs.length recs) :
    Calls Try.prog 10 #[.slice none 0 0, .slice none 0 0, .agg #[.slice A0 pic.length c0, .slice A1 recs.length c1, .int .i64 s]] w fun e w' => e = .returned (.bool true) ∧ Below w.heap.size w w' := by
  have hf := same8_f [] [] s (by simp) (by simp) (by simp)
  have h := lockgateref08_Same.calls 200000 (fun k => k < w.heap.size) none 0 [] none 0 [] (fun k => k < w.heap.size) A0 c0 pic A1 c1 recs s true w (Kd.V_mk (Nat.le_refl _) (okx (Kd.C_nil _ _))) (Kd.C_nil _ _) (Nat.le_refl _) (Kd.V_mk h0 (okx h1)) h3 h2 (by rw [hp, hq]; exact hf)
  exact h
/-- the loop's state ahead of act i -/
structure AS (B : Nat) (W0 W : World) (g i q M : Nat) (t u : St) (l : List Chg) (front : Int) (rs : List (List Int)) (em : Bool) (pic : List Int) (recs : List (List Int)) (rows : List (List Value)) (A0 : Option Addr) (c0 : Nat) (A1 : Option Addr) (c1 : Nat) (s : Int) : Prop where
  lg : LG B W B q t u l front rs
  ok : Ok M (UP t u l)
  hm : M ≤ 6000 * i
  fl : (flat rs).length ≤ 224 * i
  rl : recs.length ≤ i
  ha : HA B W0 W g pic recs rows A0 c0 A1 c1 s
  sh : SH em rs pic recs
  be : Below B W0 W
end Go.Proofs.Ytdbkedipfpepbaa.PWal
