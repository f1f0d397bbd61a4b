/- The document's crash: what it computes, and its walk. -/
import Derived.Test.YtpagajgpcmonkaaDiskRefKinds
import Derived.Test.YtpagajgpcmonkaaDiskCrash
namespace Go.Proofs.Ytpagajgpcmonkaa.PDisk
open Go.RowKit Go.Proofs.YtpagajgpcmonkaaW.PrintWords Go.Proofs.YtpagajgpcmonkaaW.PrintLast Go.Proofs.YtpagajgpcmonkaaW.PrintMore
set_option linter.unusedVariables false
set_option linter.unusedSimpArgs false
/-- the acts that last, of a crash -/
def keptS (keep torn : Int) : List S39 → Int → List S39
  | [], _ => []
  | c :: l, i => if i < keep then c :: keptS keep torn l (i + 1) else if c.f0 = 0 ∧ 0 < torn then [if torn < (c.f2.length : Int) then ⟨c.f0, c.f1, c.f2.take torn.toNat, c.f3, c.f4⟩ else c] else []
def lockgateref07_crash.f (k : Nat) (l0_0 : List S39) (l0_1 : List S39) (a0_2 : Int) (a0_3 a0_4 : Bool) (a1 a2 : Int) : Option (List S39 × List S39 × Int × Bool × Bool) :=
  if l0_0.length + l0_1.length ≤ 1000000 then some (l0_0 ++ keptS a1 a2 l0_1 0, [], 0, false, false) else none
theorem lockgateref07_crash.mono : ∀ a0 a1 a2 a3 a4 a5 a6 k, LeO (lockgateref07_crash.f k a0 a1 a2 a3 a4 a5 a6) (lockgateref07_crash.f (k + 1) a0 a1 a2 a3 a4 a5 a6) := fun _ _ _ _ _ _ _ _ => LeO.refl _
/-- what a row of one's own may hold: what came in, and new memory, but these blocks -/
def SX (P : Nat → Prop) (B g3 g6 g7 : Nat) : Nat → Prop := fun k => (P k ∨ B ≤ k) ∧ k ≠ g3 ∧ k ≠ g6 ∧ k ≠ g7
/-- the state of crash's loop -/
structure CR (P : Nat → Prop) (B : Nat) (W : World) (g3 g6 g7 : Nat) (ca cb : Array Value) (u v : Value) (xs : List S39) : Prop where
  b3 : W.heap[g3]? = some (.cells ca 36 (0, 0))
  b6 : W.heap[g6]? = some (.cells cb 36 (0, 0))
  b7 : W.heap[g7]? = some (.cells #[u, .slice none 0 0, .int .i64 0, .bool false, .bool false] 36 (0, 0))
  l3 : B ≤ g3
  l6 : B ≤ g6
  l7 : B ≤ g7
  n37 : g3 ≠ g7
  n67 : g6 ≠ g7
  row : Kd.N k39 39 W B (SX P B g3 g6 g7) v xs
variable {P : Nat → Prop} {B g3 g6 g7 : Nat} {ca cb : Array Value} {u v v' : Value} {xs xs' : List S39} {W W' : World}
theorem CR.below (h : CR P B W g3 g6 g7 ca cb u v xs) (hb : Below W.heap.size W W') : CR P B W' g3 g6 g7 ca cb u v xs :=
  ⟨(hb.block g3 (blk_lt h.b3)).trans h.b3, (hb.block g6 (blk_lt h.b6)).trans h.b6, (hb.block g7 (blk_lt h.b7)).trans h.b7, h.l3, h.l6, h.l7, h.n37, h.n67, Kd.N_below h.row hb⟩
theorem CR.own (h : CR P B W g3 g6 g7 ca cb u v xs) (k : Nat) (hk : v.ownBlock = some k) : B ≤ k ∧ k < W.heap.size ∧ k ≠ g3 ∧ k ≠ g6 ∧ k ≠ g7 :=
  ⟨Kd.N_base h.row k hk, Kd.N_lt h.row k hk, (h.row.1 k hk).2⟩
theorem CR.grew (h : CR P B W g3 g6 g7 ca cb u v xs) (hg : W.grownBy W' v.ownBlock) (hr : Kd.N k39 39 W' B (SX P B g3 g6 g7) v' xs') : CR P B W' g3 g6 g7 ca cb u v' xs' :=
  ⟨(hg.block g3 (blk_lt h.b3) (fun he => (h.own g3 he.symm).2.2.1 rfl)).trans h.b3, (hg.block g6 (blk_lt h.b6) (fun he => (h.own g6 he.symm).2.2.2.1 rfl)).trans h.b6, (hg.block g7 (blk_lt h.b7) (fun he => (h.own g7 he.symm).2.2.2.2 rfl)).trans h.b7, h.l3, h.l6, h.l7, h.n37, h.n67, hr⟩
theorem CR.put (h : CR P B W g3 g6 g7 ca cb u v xs) : CR P B (W.setCell ⟨g7, 0, none⟩ v) g3 g6 g7 ca cb v v xs :=
  ⟨blk_far (p := ⟨g7, 0, none⟩) h.b3 h.n37 v, blk_far (p := ⟨g7, 0, none⟩) h.b6 h.n67 v, blk_set h.b7 0 v, h.l3, h.l6, h.l7, h.n37, h.n67, Kd.N_far h.row (p := ⟨g7, 0, none⟩) (fun k hk => hk.2.2.2) v⟩
theorem CR.fresh (h : CR P B W g3 g6 g7 ca cb u v xs) : ∀ k, W.heap.size ≤ k → SX P B g3 g6 g7 k ∧ some k ≠ v.ownBlock := fun k hk => by
  have h3 := blk_lt h.b3
  have h6 := blk_lt h.b6
  have h7 := blk_lt h.b7
  have := h.l3
  exact ⟨⟨.inr (by omega), by omega, by omega, by omega⟩, fun he => by have := (h.own k he.symm).2.1; omega⟩
theorem CR.old (h : CR P B W g3 g6 g7 ca cb u v xs) : ∀ k, (P k ∧ k < B) → SX P B g3 g6 g7 k ∧ some k ≠ v.ownBlock := fun k hk => by
  have h3 := h.l3
  have h6 := h.l6
  have h7 := h.l7
  exact ⟨⟨.inl hk.1, by omega, by omega, by omega⟩, fun he => by have := (h.own k he.symm).1; omega⟩
theorem atF_T39 {ok : Nat → Prop} {A : Option Addr} {n : Nat} {l : List S39} (h : Kd.F k39 W ok A n l) (i : Nat) (hn : n = l.length) (hi : i < l.length) :
    ∃ ad A2 c2, A = some ad ∧ W.cell? (ad.add (i * 5)) = some (.int .u8 (l[i]).f0) ∧ W.cell? ⟨(ad.add (i * 5)).block, (ad.add (i * 5)).off + 1, none⟩ = some (.int .i64 (l[i]).f1) ∧ W.cell? ⟨(ad.add (i * 5)).block, (ad.add (i * 5)).off + 2, none⟩ = some (.slice A2 (l[i]).f2.length c2) ∧ W.cell? ⟨(ad.add (i * 5)).block, (ad.add (i * 5)).off + 3, none⟩ = some (.int .i64 (l[i]).f3) ∧ W.cell? ⟨(ad.add (i * 5)).block, (ad.add (i * 5)).off + 4, none⟩ = some (.int .i64 (l[i]).f4) ∧ (l[i]).f2.length ≤ c2 ∧ Kd.F (Kd.int .u8) W ok A2 (l[i]).f2.length (l[i]).f2 := by
  obtain ⟨ad, c, e, _, hK, hc0, _⟩ := Kd.F_get h z39 (i : Int) (by omega) (by omega)
  have hg : l.getD (i : Int).toNat z39 = l[i] := by rw [Int.toNat_natCast, List.getD_eq_getElem?_getD, List.getElem?_eq_getElem hi]; rfl
  rw [hg] at hK
  have hc : ∀ j u, c[j]? = some u → W.cell? (ad.add (i * 5 + j)) = some u := by rw [Int.toNat_natCast] at hc0; exact hc0
  obtain ⟨A2, c2, rfl, l2, g2⟩ := k39_openF hK
  exact ⟨ad, A2, c2, e, hc 0 _ rfl, by rw [← add_field _ _ 1 (by omega)]; exact hc 1 _ rfl, by rw [← add_field _ _ 2 (by omega)]; exact hc 2 _ rfl, by rw [← add_field _ _ 3 (by omega)]; exact hc 3 _ rfl, by rw [← add_field _ _ 4 (by omega)]; exact hc 4 _ rfl, l2, g2⟩
theorem CR.putb {P : Nat → Prop} {B : Nat} {W W' : World} {g3 g6 g7 : Nat} {ca cb : Array Value} {u v : Value} {xs : List S39} (h : CR P B W g3 g6 g7 ca cb u v xs) (b : W'.heap[g7]? = some (.cells #[v, .slice none 0 0, .int .i64 0, .bool false, .bool false] 36 (0, 0))) (hg : W.grownBy W' (some g7)) : CR P B W' g3 g6 g7 ca cb v v xs :=
  ⟨blk_grown h.b3 hg (fun he => h.n37 (Option.some.inj he)), blk_grown h.b6 hg (fun he => h.n67 (Option.some.inj he)), b, h.l3, h.l6, h.l7, h.n37, h.n67, Kd.N_grown h.row hg (fun k hk he => hk.2.2.2 (Option.some.inj he))⟩
theorem cutF {W : World} {ok : Nat → Prop} {A2 : Option Addr} {c2 m : Nat} {x : S39} (hl : x.f2.length ≤ c2) (hm : m ≤ x.f2.length) (h : Kd.F (Kd.int .u8) W ok A2 x.f2.length x.f2) : Kd.FK k39 W ok ⟨x.f0, x.f1, x.f2.take m, x.f3, x.f4⟩ [.int .u8 x.f0, .int .i64 x.f1, .slice A2 m c2, .int .i64 x.f3, .int .i64 x.f4] := by
  have hlen : (x.f2.take m).length = m := by rw [List.length_take]; omega
  have h1 : Kd.FK k39 W ok ⟨x.f0, x.f1, x.f2.take m, x.f3, x.f4⟩ [.int .u8 x.f0, .int .i64 x.f1, .slice A2 (x.f2.take m).length c2, .int .i64 x.f3, .int .i64 x.f4] :=
    k39_mkF W ok ⟨x.f0, x.f1, x.f2.take m, x.f3, x.f4⟩ (by show (x.f2.take m).length ≤ c2; omega) (Kd.F_take h hm)
  rw [hlen] at h1
  exact h1
theorem below_none {W W' : World} (hg : W.grownBy W' none) : Below W.heap.size W W' := ⟨hg.os, hg.tape, hg.output, hg.size, fun k hk => hg.block k hk (by simp)⟩
theorem crash_done {P P0 P1 : Nat → Prop} {w W W' : World} {g3 g6 g7 : Nat} {ca cb : Array Value} {u v : Value} {xs : List S39} (h : CR P w.heap.size W g3 g6 g7 ca cb u v xs) (hP : P = fun k => P0 k ∨ P1 k) (hg : W.grownBy W' (some g6)) : Kd.V k39 39 W' w.heap.size (fun k_ => ((P0 k_ ∨ P1 k_) ∨ w.heap.size ≤ k_)) v xs :=
  Kd.N_V (Kd.N_mono (Kd.N_grown h.row hg (fun k hk he => hk.2.2.1 (Option.some.inj he))) (fun k hk => by have := hk.1; rw [hP] at this; exact this))
theorem keptS_on {keep torn : Int} {l : List S39} {i : Nat} (hi : i < l.length) (hk : (i : Int) < keep) (h : keptS keep torn l 0 = l.take i ++ keptS keep torn (l.drop i) i) : keptS keep torn l 0 = l.take (i + 1) ++ keptS keep torn (l.drop (i + 1)) ((i + 1 : Nat) : Int) := by
  rw [h, List.drop_eq_getElem_cons hi, keptS, if_pos hk, List.take_succ_eq_append_getElem hi, List.append_assoc]
  rfl
theorem keptS_end {keep torn : Int} {l : List S39} (h : keptS keep torn l 0 = l.take l.length ++ keptS keep torn (l.drop l.length) (l.length : Nat)) : keptS keep torn l 0 = l := by
  rw [h, List.drop_length, List.take_length]; simp [keptS]
theorem keptS_stop {keep torn : Int} {l : List S39} {i : Nat} (hi : i < l.length) (hk : ¬ (i : Int) < keep) (h : keptS keep torn l 0 = l.take i ++ keptS keep torn (l.drop i) i) :
    keptS keep torn l 0 = l.take i ++ if (l[i]).f0 = 0 ∧ 0 < torn then [if torn < ((l[i]).f2.length : Int) then ⟨(l[i]).f0, (l[i]).f1, (l[i]).f2.take torn.toNat, (l[i]).f3, (l[i]).f4⟩ else l[i]] else [] := by
  rw [h, List.drop_eq_getElem_cons hi, keptS, if_neg hk]
set_option maxHeartbeats 16000000 in
set_option maxRecDepth 100000 in
theorem lockgateref07_crash.calls (k : Nat) (P0_0_ : Nat → Prop) (A0_0 : Option Addr) (c0_0 : Nat) (l0_0 : List (S39)) (P0_1_ : Nat → Prop) (A0_1 : Option Addr) (c0_1 : Nat) (l0_1 : List (S39)) (a0_2 : Int) (a0_3 : Bool) (a0_4 : Bool) (a1 : Int) (a2 : Int) (r1 : List (S39)) (r2 : List (S39)) (r3 : Int) (r4 : Bool) (r5 : Bool) (w : World) (hs0_0 : Kd.V k39 39 w w.heap.size (fun k_ => P0_0_ k_) (.slice A0_0 l0_0.length c0_0) l0_0) (hs0_1 : Kd.V k39 39 w w.heap.size (fun k_ => P0_1_ k_) (.slice A0_1 l0_1.length c0_1) l0_1) (h : lockgateref07_crash.f k l0_0 l0_1 a0_2 a0_3 a0_4 a1 a2 = some (r1, r2, r3, r4, r5)) :
    Calls Try.prog 32 #[.agg #[.slice A0_0 l0_0.length c0_0, .slice A0_1 l0_1.length c0_1, .int .i64 a0_2, .bool a0_3, .bool a0_4], .int .i64 a1, .int .i64 a2] w fun e w' => ∃ v0_ v1_ : Value, e = .returned (.agg #[v0_, v1_, .int .i64 r3, .bool r4, .bool r5]) ∧ Kd.V k39 39 w' w.heap.size (fun k_ => ((P0_0_ k_ ∨ P0_1_ k_) ∨ w.heap.size ≤ k_)) v0_ r1 ∧ Kd.V k39 39 w' w.heap.size (fun k_ => ((P0_0_ k_ ∨ P0_1_ k_) ∨ w.heap.size ≤ k_)) v1_ r2 ∧ Below w.heap.size w w' := by
  unfold lockgateref07_crash.f at h
  split at h
  case isFalse => cases h
  case isTrue hlen =>
  injection h with h
  injection h with h1 h; injection h with h2 h; injection h with h3 h; injection h with h4 h5
  subst h2; subst h3; subst h4; subst h5
  obtain ⟨P, hP⟩ : ∃ P : Nat → Prop, P = fun k => P0_0_ k ∨ P0_1_ k := ⟨_, rfl⟩
  have HV0 := Aside0.mk (Kd.V_mono (Kd.V_bound hs0_0) (ok' := fun k => P k ∧ k < w.heap.size) (fun k hk => ⟨by rw [hP]; exact .inl hk.1, hk.2⟩))
  have HV1 := Aside0.mk (Kd.V_mono (Kd.V_bound hs0_1) (ok' := fun k => P k ∧ k < w.heap.size) (fun k hk => ⟨by rw [hP]; exact .inr hk.1, hk.2⟩))
  have HH := Aside0.mk h1
  have HP := Aside0.mk hP
  clear hs0_0 hs0_1 h1 hP
  have LEN := Aside0.mk hlen
  go_enter Try.func32, Try.ntmps32
  go_wp2_with (first
    | ((with_reducible refine gate_dst (N := 3) rfl ?_); refine box_event ?hg (N := 3) ?hd (cs := #[.slice A0_0 l0_0.length c0_0, .slice A0_1 l0_1.length c0_1, .int .i64 a0_2, .bool a0_3, .bool a0_4]) (t := 36) ?hr ?_; (case hd => rfl); (case hg => rfl); (case hr => first | (go_simp; done) | (go_simp; rfl)); intro g3 e3 w1 b3 hb1; have B3 := Aside0.mk b3; have E3 := Aside0.mk e3; have BB1 := Aside0.mk hb1; clear b3 hb1 e3)
    | ((with_reducible refine gate_dst (N := 6) rfl ?_); refine box_event ?hg (N := 6) ?hd (cs := #[.slice none 0 0, .slice none 0 0, .int .i64 0, .bool false, .bool false]) (t := 36) ?hr ?_; (case hd => rfl); (case hg => rfl); (case hr => first | (go_simp; done) | (go_simp; rfl)); intro g6 e6 w2 b6 hb2; have B6 := Aside0.mk b6; have E6 := Aside0.mk e6; have B32 := Aside0.mk (blkK hb2 B3.out); have BB2 := Aside0.mk (below_step BB1.out hb2); have z30 : w2.cell? ⟨g3, 0, none⟩ = some (.slice A0_0 l0_0.length c0_0) := (blk_cell B32.out 0).trans rfl; clear b6 hb2 e6)
    | ((with_reducible refine gate_dst (N := 10) rfl ?_); refine Kd.N_lit k39 _ 39 ?hg (N' := 10) ?hd (xs := ([] : List S39)) (inner := []) (w0 := w) (ok := fun k => (P k ∨ w.heap.size ≤ k) ∧ k ≠ g3 ∧ k ≠ g6) (okp := fun k => (P k ∨ w.heap.size ≤ k) ∧ k ≠ g3 ∧ k ≠ g6) ?hr (Reps.none _ _) (fun _ hk => hk) ⟨.inr BB2.out.size, by have := blk_lt B32.out; omega, by have := blk_lt B6.out; omega⟩ BB2.out BB2.out.size (by simp) ?_; (case hd => rfl); (case hg => rfl); (case hr => first | (go_simp; done) | (go_simp; rfl)); intro v10 w3 ho hb hg hat; obtain ⟨A10, c10, e10⟩ := Kd.N_slice ho; subst e10; have HN3 := Aside0.mk ho; have BB3 := Aside0.mk hb; have B33 := Aside0.mk (blk_grown B32.out hg (by simp)); have B63 := Aside0.mk (blk_grown B6.out hg (by simp)); have z30 : w3.cell? ⟨g3, 0, none⟩ = some (.slice A0_0 l0_0.length c0_0) := (blk_cell B33.out 0).trans rfl; clear ho hb hg hat)
    | (at_builtin; refine Kd.N_append_rows k39 (w0 := w) w.heap.size rfl (.tmp 10) (.tmp 12) 33 39 (.agg #[(.int .u8 0), (.int .i64 0), (.slice none 0 0), (.int .i64 0), (.int .i64 0)]) 56 rfl Try.underlying33 info39 rfl (by decide) (by omega) _ ([] : List S39) l0_0 _ _ _ (fun k => (P k ∨ w.heap.size ≤ k) ∧ k ≠ g3 ∧ k ≠ g6) (fun k => P k ∧ k < w.heap.size) rfl rfl HN3.out (Kd.V_F (Kd.V_below HV0.out BB3.out)) (fun k hk => ⟨⟨.inl hk.1, by have := E3.out; omega, by have := E6.out; have := BB1.out.size; omega⟩, fun he => by have := Kd.N_base HN3.out k he.symm; omega⟩) (fun k hk => ⟨.inr (Nat.le_trans BB3.out.size hk), by have := blk_lt B33.out; omega, by have := blk_lt B63.out; omega⟩) BB3.out BB3.out.size (by have := LEN.out; simp; omega) ?_; intro v13 w4 ho hb hg hat; obtain ⟨A13, c13, e13⟩ := Kd.N_slice ho; subst e13; have HN4 := Aside0.mk (Kd.N_bound ho); have BB4 := Aside0.mk hb; have B34 := Aside0.mk (blk_grown B33.out hg (fun he => (HN3.out.1 g3 he.symm).2.1 rfl)); have B64 := Aside0.mk (blk_grown B63.out hg (fun he => (HN3.out.1 g6 he.symm).2.2 rfl)); clear ho hb hg hat)
    | ((with_reducible refine gate_dst (N := 7) rfl ?_); refine box_event ?hg (N := 7) ?hd (cs := #[.slice none 0 0, .slice none 0 0, .int .i64 0, .bool false, .bool false]) (t := 36) ?hr ?_; (case hd => rfl); (case hg => rfl); (case hr => first | (go_simp; done) | (go_simp; rfl)); intro g7 e7 w5 b7 hb5; have B7 := Aside0.mk b7; have E7 := Aside0.mk e7; have B35 := Aside0.mk (blkK hb5 B34.out); have B65 := Aside0.mk (blkK hb5 B64.out); have HN5 := Aside0.mk (Kd.N_below HN4.out hb5); have BB5 := Aside0.mk (below_step BB4.out hb5); clear b7 hb5 e7)
    | ((with_reducible refine gate_ (.store 36 (.tmp 7) (.tmp 14)) rfl ?_); refine put_event (g := g7) (e := 36) rfl rfl 36 (.tmp 7) (.tmp 14) rfl rfl (.agg #[.slice A13 ([] ++ l0_0).length c13, .slice none 0 0, .int .i64 0, .bool false, .bool false]) rfl (cs' := #[.slice A13 ([] ++ l0_0).length c13, .slice none 0 0, .int .i64 0, .bool false, .bool false]) rfl (by kernel_rfl) (by simp [Value.oneCell']) B7.out rfl ?_; intro w6 b7 hg; have N37 := Aside0.mk (show g3 ≠ g7 from by have := blk_lt B34.out; have := E7.out; omega); have N67 := Aside0.mk (show g6 ≠ g7 from by have := blk_lt B64.out; have := E7.out; omega); have L7 := Aside0.mk (show w.heap.size ≤ g7 by have := BB4.out.size; have := E7.out; omega); have HC := Aside0.mk (show CR P w.heap.size w6 g3 g6 g7 #[.slice A0_0 l0_0.length c0_0, .slice A0_1 l0_1.length c0_1, .int .i64 a0_2, .bool a0_3, .bool a0_4] #[.slice none 0 0, .slice none 0 0, .int .i64 0, .bool false, .bool false] (.slice A13 ([] ++ l0_0).length c13) (.slice A13 ([] ++ l0_0).length c13) ([] ++ l0_0) from ⟨blk_grown B35.out hg (fun he => N37.out (Option.some.inj he)), blk_grown B65.out hg (fun he => N67.out (Option.some.inj he)), b7, by have := E3.out; omega, by have := E6.out; have := BB1.out.size; omega, L7.out, N37.out, N67.out, Kd.N_mono (Kd.N_grown HN5.out hg (fun k hk he => by have := Option.some.inj he; have := hk.2; have := E7.out; omega)) (fun k hk => ⟨hk.1.1, hk.1.2.1, hk.1.2.2, by have := hk.2; have := E7.out; omega⟩)⟩); have BB6 := Aside0.mk (Below.grown BB5.out hg BB5.out.size (fun k hk => by cases hk; exact L7.out)); clear b7 hg HN3 HN4 HN5 B3 B6 B7 B32 B33 B34 B35 B63 B64 B65 BB1 BB2 BB3 BB4 BB5)
    | fail)
  go_loopw [8] (fun v8 W => ∃ (i : Nat) (A : Option Addr) (c : Nat) (al : List S39), v8 = .int .i64 i ∧ i ≤ l0_1.length ∧ Aside0 (al = l0_0 ++ l0_1.take i) ∧ Aside0 (CR P w.heap.size W g3 g6 g7 #[.slice A0_0 l0_0.length c0_0, .slice A0_1 l0_1.length c0_1, .int .i64 a0_2, .bool a0_3, .bool a0_4] #[.slice none 0 0, .slice none 0 0, .int .i64 0, .bool false, .bool false] (.slice A al.length c) (.slice A al.length c) al) ∧ Aside0 (Below w.heap.size w W) ∧ Aside0 (keptS a1 a2 l0_1 0 = l0_1.take i ++ keptS a1 a2 (l0_1.drop i) i)) (fun v8 _ => l0_1.length - (intOf v8).toNat)
  case atStart => exact ⟨0, A13, c13, [] ++ l0_0, rfl, Nat.zero_le _, ⟨by simp⟩, HC, BB6, ⟨by simp⟩⟩
  case round =>
    clear HC BB6
    obtain ⟨i, A, c, al, rfl, hi, HAL, HC, HB, HK⟩ := hrel
    have z31 : wr.cell? ⟨g3, 1, none⟩ = some (.slice A0_1 l0_1.length c0_1) := (blk_cell HC.out.b3 1).trans rfl
    have hi9 : i < 500000000 := by have := LEN.out; omega
    by_cases hlt : i < l0_1.length
    · obtain ⟨ad, A2, c2, e, h0, h1, h2, h3, h4, hl2, hF⟩ := atF_T39 (Kd.V_F (Kd.V_below HV1.out HB.out)) i rfl hlt
      subst e
      have HON := Aside0.mk (fun hk => keptS_on hlt hk HK.out)
      have HST := Aside0.mk (fun hk => keptS_stop hlt hk HK.out)
      have HTK := Aside0.mk (List.take_succ_eq_append_getElem hlt)
      have LT := Aside0.mk hlt
      have LAL := Aside0.mk (show al.length ≤ 1000000 by have := LEN.out; rw [HAL.out, List.length_append, List.length_take]; omega)
      generalize (l0_1[i]) = x at h0 h1 h2 h3 h4 hl2 hF HST HTK
      have HF := Aside0.mk hF
      have hl2' := hl2
      have hlt' : (i : Int) < (l0_1.length : Int) := by omega
      clear hF
      by_cases hk : (i : Int) < a1
      · have dk : decide (a1 ≤ (i : Int)) = false := decide_eq_false (by omega)
        have HKK := Aside0.mk hk
        go_wp2_with (first
          | ((with_reducible refine gate_dst (N := 9) rfl ?_); refine box_event ?hg (N := 9) ?hd (cs := #[.int .u8 0, .int .i64 0, .slice none 0 0, .int .i64 0, .int .i64 0]) (t := 39) ?hr ?_; (case hd => rfl); (case hg => rfl); (case hr => first | (go_simp; done) | (go_simp; rfl)); intro g9 e9 w1 b9 hb1; have B9 := Aside0.mk b9; have E9 := Aside0.mk (Nat.le_of_eq e9.symm); have BB1 := Aside0.mk hb1; clear b9 hb1 e9)
          | ((with_reducible refine gate_ (.store 39 (.tmp 9) (.tmp 26)) rfl ?_); refine put_event (g := g9) (e := 39) rfl rfl 39 (.tmp 9) (.tmp 26) rfl rfl (.agg #[.int .u8 x.f0, .int .i64 x.f1, .slice A2 x.f2.length c2, .int .i64 x.f3, .int .i64 x.f4]) rfl (cs' := #[.int .u8 x.f0, .int .i64 x.f1, .slice A2 x.f2.length c2, .int .i64 x.f3, .int .i64 x.f4]) rfl (by kernel_rfl) (by simp [Value.oneCell']) B9.out rfl ?_; intro w2 b9 hg; have B92 := Aside0.mk b9; have BB2 := Aside0.mk (Below.grown BB1.out hg BB1.out.size (fun k hk => by cases hk; exact E9.out)); have z90 : w2.cell? ⟨g9, 0, none⟩ = some (.int .u8 x.f0) := (blk_cell b9 0).trans rfl; have z91 : w2.cell? ⟨g9, 1, none⟩ = some (.int .i64 x.f1) := (blk_cell b9 1).trans rfl; have z92 : w2.cell? ⟨g9, 2, none⟩ = some (.slice A2 x.f2.length c2) := (blk_cell b9 2).trans rfl; have f92 := blk_frozen b9 2; have z93 : w2.cell? ⟨g9, 3, none⟩ = some (.int .i64 x.f3) := (blk_cell b9 3).trans rfl; have z94 : w2.cell? ⟨g9, 4, none⟩ = some (.int .i64 x.f4) := (blk_cell b9 4).trans rfl; have HC2 := Aside0.mk (HC.out.below BB2.out); have z70 : w2.cell? ⟨g7, 0, none⟩ = some (.slice A al.length c) := (blk_cell HC2.out.b7 0).trans rfl; clear b9 hg h0 h1 h2 h3 h4 z31)
          | ((with_reducible refine gate_dst (N := 57) rfl ?_); refine Kd.N_lit k39 w.heap.size 39 ?hg (N' := 57) ?hd (xs := [x]) (inner := [.int .u8 x.f0, .int .i64 x.f1, .slice A2 x.f2.length c2, .int .i64 x.f3, .int .i64 x.f4]) (w0 := w) (ok := fun k => SX P w.heap.size g3 g6 g7 k ∧ some k ≠ (Value.slice A al.length c).ownBlock) (okp := fun k => P k ∧ k < w.heap.size) ?hr ?hp HC2.out.old (HC2.out.fresh _ (Nat.le_refl _)) (below_step HB.out BB2.out) (below_size (below_step HB.out BB2.out)) (by simp) ?_; (case hd => rfl); (case hg => rfl); (case hr => first | (go_simp; done) | (go_simp; rfl)); (case hp => exact Reps.c5 (k39_mkF w2 _ x hl2' (Kd.F_below HF.out BB2.out)) (Reps.none _ _)); intro v57 w3 ho hb hg hat; obtain ⟨A57, c57, e57⟩ := Kd.N_slice ho; subst e57; have HN57 := Aside0.mk ho; have BB3 := Aside0.mk hb; have HC3 := Aside0.mk (HC2.out.below (below_none hg)); have z70 : w3.cell? ⟨g7, 0, none⟩ = some (.slice A al.length c) := (blk_cell HC3.out.b7 0).trans rfl; clear ho hb hg hat)
          | (at_builtin; refine Kd.N_append_rows k39 (w0 := w) w.heap.size rfl (.tmp 55) (.tmp 57) 33 39 (.agg #[(.int .u8 0), (.int .i64 0), (.slice none 0 0), (.int .i64 0), (.int .i64 0)]) 56 rfl Try.underlying33 info39 rfl (by decide) (by omega) (.slice A al.length c) al [x] _ _ _ (SX P w.heap.size g3 g6 g7) (fun k => SX P w.heap.size g3 g6 g7 k ∧ some k ≠ (Value.slice A al.length c).ownBlock) rfl rfl HC3.out.row (Kd.N_F HN57.out) (fun _ h => h) (fun k hk => (HC3.out.fresh k hk).1) BB3.out BB3.out.size (by have := LAL.out; simp; omega) ?_; intro v58 w4 ho hb hg hat; obtain ⟨al2, hal2⟩ : ∃ al2, al2 = al ++ [x] := ⟨_, rfl⟩; rw [← hal2] at ho; have HA2 := Aside0.mk hal2; clear hal2; obtain ⟨A58, c58, e58⟩ := Kd.N_slice ho; subst e58; have HC4 := Aside0.mk (HC3.out.grew hg ho); have BB4 := Aside0.mk hb; have z74 : w4.cell? ⟨g7, 0, none⟩ = some (.slice A al.length c) := (blk_cell HC4.out.b7 0).trans rfl; have f74 := blk_frozen HC4.out.b7 0; clear ho hb hg hat z70)
          | fail)
        have HC5 := Aside0.mk HC4.out.put
        have BB5 := Aside0.mk (below_set (g := g7) (j := 0) (v := .slice A58 al2.length c58) BB4.out HC4.out.l7)
        go_roundw
        case rel => exact ⟨i + 1, A58, c58, al2, by go_num, LT.out, ⟨by rw [HA2.out, HTK.out, HAL.out, List.append_assoc]⟩, HC5, BB5, ⟨HON.out HKK.out⟩⟩
        case measure => simp [intOf]; have := LT.out; omega
      · have dk : decide (a1 ≤ (i : Int)) = true := decide_eq_true (by omega)
        have HS1 := Aside0.mk (HST.out hk)
        clear HON HST
        by_cases hz : x.f0 = 0 ∧ 0 < a2
        · have dz0 : (x.f0 == 0) = true := by rw [hz.1]; rfl
          have dz1 : decide (0 < a2) = true := decide_eq_true hz.2
          have HS2 := Aside0.mk (HS1.out.trans (by rw [if_pos hz]))
          by_cases hc : a2 < (x.f2.length : Int)
          · obtain ⟨m, rfl⟩ := Int.eq_ofNat_of_zero_le (Int.le_of_lt hz.2)
            have HM := Aside0.mk (show m ≤ x.f2.length by omega)
            have dc : decide ((m : Int) < (x.f2.length : Int)) = true := decide_eq_true hc
            have HS3 := Aside0.mk (show keptS a1 (m : Int) l0_1 0 = l0_1.take i ++ [⟨x.f0, x.f1, x.f2.take m, x.f3, x.f4⟩] by rw [HS2.out, if_pos hc, Int.toNat_natCast])
            have hm0 : (0 : Int) ≤ (m : Int) := Int.natCast_nonneg m
            have hmc : (m : Int) ≤ (c2 : Int) := by omega
            have hmn : m ≤ c2 := by omega
            have dm1 : decide (0 < m) = true := decide_eq_true (by omega)
            have dm2 : decide (m < x.f2.length) = true := decide_eq_true (by omega)
            have dm3 : 0 < m := by omega
            clear HS1 HS2 hz
            go_wp2_with (first
              | ((with_reducible refine gate_dst (N := 9) rfl ?_); refine box_event ?hg (N := 9) ?hd (cs := #[.int .u8 0, .int .i64 0, .slice none 0 0, .int .i64 0, .int .i64 0]) (t := 39) ?hr ?_; (case hd => rfl); (case hg => rfl); (case hr => first | (go_simp; done) | (go_simp; rfl)); intro g9 e9 w1 b9 hb1; have B9 := Aside0.mk b9; have E9 := Aside0.mk (Nat.le_of_eq e9.symm); have BB1 := Aside0.mk hb1; clear b9 hb1 e9)
              | ((with_reducible refine gate_ (.store 39 (.tmp 9) (.tmp 26)) rfl ?_); refine put_event (g := g9) (e := 39) rfl rfl 39 (.tmp 9) (.tmp 26) rfl rfl (.agg #[.int .u8 x.f0, .int .i64 x.f1, .slice A2 x.f2.length c2, .int .i64 x.f3, .int .i64 x.f4]) rfl (cs' := #[.int .u8 x.f0, .int .i64 x.f1, .slice A2 x.f2.length c2, .int .i64 x.f3, .int .i64 x.f4]) rfl (by kernel_rfl) (by simp [Value.oneCell']) B9.out rfl ?_; intro w2 b9 hg; have B92 := Aside0.mk b9; have BB2 := Aside0.mk (Below.grown BB1.out hg BB1.out.size (fun k hk => by cases hk; exact E9.out)); have z90 : w2.cell? ⟨g9, 0, none⟩ = some (.int .u8 x.f0) := (blk_cell b9 0).trans rfl; have z91 : w2.cell? ⟨g9, 1, none⟩ = some (.int .i64 x.f1) := (blk_cell b9 1).trans rfl; have z92 : w2.cell? ⟨g9, 2, none⟩ = some (.slice A2 x.f2.length c2) := (blk_cell b9 2).trans rfl; have f92 := blk_frozen b9 2; have z93 : w2.cell? ⟨g9, 3, none⟩ = some (.int .i64 x.f3) := (blk_cell b9 3).trans rfl; have z94 : w2.cell? ⟨g9, 4, none⟩ = some (.int .i64 x.f4) := (blk_cell b9 4).trans rfl; have HC2 := Aside0.mk (HC.out.below BB2.out); have z70 : w2.cell? ⟨g7, 0, none⟩ = some (.slice A al.length c) := (blk_cell HC2.out.b7 0).trans rfl; clear b9 hg h0 h1 h2 h3 h4 z31)
              | ((with_reducible refine gate_ (.store 22 (.tmp 46) (.tmp 45)) rfl ?_); refine put_field (g := g9) (j := 2) (e := 39) rfl rfl 22 (.tmp 46) (.tmp 45) rfl rfl (.slice A2 m c2) rfl rfl (by kernel_rfl) (by simp [Value.oneCell']) B92.out (by simp) ?_; intro w2c b9 hg; have BB2c := Aside0.mk (Below.grown BB2.out hg BB2.out.size (fun k hk => by cases hk; exact E9.out)); have HC2c := Aside0.mk (HC.out.below BB2c.out); have z90 : w2c.cell? ⟨g9, 0, none⟩ = some (.int .u8 x.f0) := (blk_cell b9 0).trans rfl; have z91 : w2c.cell? ⟨g9, 1, none⟩ = some (.int .i64 x.f1) := (blk_cell b9 1).trans rfl; have z92 : w2c.cell? ⟨g9, 2, none⟩ = some (.slice A2 m c2) := (blk_cell b9 2).trans rfl; have z93 : w2c.cell? ⟨g9, 3, none⟩ = some (.int .i64 x.f3) := (blk_cell b9 3).trans rfl; have z94 : w2c.cell? ⟨g9, 4, none⟩ = some (.int .i64 x.f4) := (blk_cell b9 4).trans rfl; have z70 : w2c.cell? ⟨g7, 0, none⟩ = some (.slice A al.length c) := (blk_cell HC2c.out.b7 0).trans rfl; clear b9 hg)
              | ((with_reducible refine gate_dst (N := 50) rfl ?_); refine Kd.N_lit k39 w.heap.size 39 ?hg (N' := 50) ?hd (xs := [⟨x.f0, x.f1, x.f2.take m, x.f3, x.f4⟩]) (inner := [.int .u8 x.f0, .int .i64 x.f1, .slice A2 m c2, .int .i64 x.f3, .int .i64 x.f4]) (w0 := w) (ok := fun k => SX P w.heap.size g3 g6 g7 k ∧ some k ≠ (Value.slice A al.length c).ownBlock) (okp := fun k => P k ∧ k < w.heap.size) ?hr ?hp HC2c.out.old (HC2c.out.fresh _ (Nat.le_refl _)) (below_step HB.out BB2c.out) (below_size (below_step HB.out BB2c.out)) (by simp) ?_; (case hd => rfl); (case hg => rfl); (case hr => first | (go_simp; done) | (go_simp; rfl)); (case hp => exact Reps.c5 (cutF hl2' HM.out (Kd.F_below HF.out BB2c.out)) (Reps.none _ _)); intro v57 w3 ho hb hg hat; obtain ⟨A57, c57, e57⟩ := Kd.N_slice ho; subst e57; have HN57 := Aside0.mk ho; have BB3 := Aside0.mk hb; have HC3 := Aside0.mk (HC2c.out.below (below_none hg)); have z70 : w3.cell? ⟨g7, 0, none⟩ = some (.slice A al.length c) := (blk_cell HC3.out.b7 0).trans rfl; clear ho hb hg hat)
              | (at_builtin; refine Kd.N_append_rows k39 (w0 := w) w.heap.size rfl (.tmp 48) (.tmp 50) 33 39 (.agg #[(.int .u8 0), (.int .i64 0), (.slice none 0 0), (.int .i64 0), (.int .i64 0)]) 56 rfl Try.underlying33 info39 rfl (by decide) (by omega) (.slice A al.length c) al [⟨x.f0, x.f1, x.f2.take m, x.f3, x.f4⟩] _ _ _ (SX P w.heap.size g3 g6 g7) (fun k => SX P w.heap.size g3 g6 g7 k ∧ some k ≠ (Value.slice A al.length c).ownBlock) rfl rfl HC3.out.row (Kd.N_F HN57.out) (fun _ h => h) (fun k hk => (HC3.out.fresh k hk).1) BB3.out BB3.out.size (by have := LAL.out; simp; omega) ?_; intro v58 w4 ho hb hg hat; obtain ⟨al2, hal2⟩ : ∃ al2, al2 = al ++ [⟨x.f0, x.f1, x.f2.take m, x.f3, x.f4⟩] := ⟨_, rfl⟩; rw [← hal2] at ho; have HA2 := Aside0.mk hal2; clear hal2; obtain ⟨A58, c58, e58⟩ := Kd.N_slice ho; subst e58; have HC4 := Aside0.mk (HC3.out.grew hg ho); have BB4 := Aside0.mk hb; have z74 : w4.cell? ⟨g7, 0, none⟩ = some (.slice A al.length c) := (blk_cell HC4.out.b7 0).trans rfl; have f74 := blk_frozen HC4.out.b7 0; clear ho hb hg hat z70)
              | ((with_reducible refine gate_ (.store 33 (.tmp 52) (.tmp 51)) rfl ?_); refine put_field (g := g7) (j := 0) (e := 36) rfl rfl 33 (.tmp 52) (.tmp 51) rfl rfl (.slice A58 al2.length c58) rfl rfl (by kernel_rfl) (by simp [Value.oneCell']) HC4.out.b7 (by simp) ?_; intro w5 b75 hg5; have HC5 := Aside0.mk (HC4.out.putb b75 hg5); have BB5 := Aside0.mk (Below.grown BB4.out hg5 BB4.out.size (fun k hk => by cases hk; exact HC4.out.l7)); have z70 : w5.cell? ⟨g7, 0, none⟩ = some (.slice A58 al2.length c58) := (blk_cell HC5.out.b7 0).trans rfl; have z71 : w5.cell? ⟨g7, 1, none⟩ = some (.slice none 0 0) := (blk_cell HC5.out.b7 1).trans rfl; have z72 : w5.cell? ⟨g7, 2, none⟩ = some (.int .i64 0) := (blk_cell HC5.out.b7 2).trans rfl; have z73 : w5.cell? ⟨g7, 3, none⟩ = some (.bool false) := (blk_cell HC5.out.b7 3).trans rfl; have z75 : w5.cell? ⟨g7, 4, none⟩ = some (.bool false) := (blk_cell HC5.out.b7 4).trans rfl; clear b75 hg5 z74 f74)
              | ((with_reducible refine gate_ (.store 36 (.tmp 6) (.tmp 53)) rfl ?_); refine put_event (g := g6) (e := 36) rfl rfl 36 (.tmp 6) (.tmp 53) rfl rfl (.agg #[.slice A58 al2.length c58, .slice none 0 0, .int .i64 0, .bool false, .bool false]) rfl (cs' := #[.slice A58 al2.length c58, .slice none 0 0, .int .i64 0, .bool false, .bool false]) rfl (by kernel_rfl) (by simp [Value.oneCell']) HC5.out.b6 rfl ?_; intro w7 b6 hg7; have B67 := Aside0.mk b6; have HV7 := Aside0.mk (crash_done HC5.out HP.out hg7); have BB7 := Aside0.mk (Below.grown BB5.out hg7 BB5.out.size (fun k hk => by cases hk; exact HC5.out.l6)); clear b6 hg7)
              | fail)
            refine bodyPost_ret (results_cell_row rfl _ _ g6 36 #[.slice A58 al2.length c58, .slice none 0 0, .int .i64 0, .bool false, .bool false] (0, 0) _ rfl B67.out Try.underlying36 rfl (by kernel_rfl)) rfl ?_
            have hr1 : r1 = al2 := by rw [← HH.out, HS3.out, HA2.out, HAL.out, List.append_assoc]
            refine ⟨_, _, rfl, ?_, Kd.V_nil _ _ _ _ _, BB7.out⟩
            rw [hr1]; exact HV7.out
          · have dc : decide (a2 < (x.f2.length : Int)) = false := decide_eq_false hc
            have HS3 := Aside0.mk (show keptS a1 a2 l0_1 0 = l0_1.take i ++ [x] by rw [HS2.out, if_neg hc])
            clear HS1 HS2 hz
            go_wp2_with (first
              | ((with_reducible refine gate_dst (N := 9) rfl ?_); refine box_event ?hg (N := 9) ?hd (cs := #[.int .u8 0, .int .i64 0, .slice none 0 0, .int .i64 0, .int .i64 0]) (t := 39) ?hr ?_; (case hd => rfl); (case hg => rfl); (case hr => first | (go_simp; done) | (go_simp; rfl)); intro g9 e9 w1 b9 hb1; have B9 := Aside0.mk b9; have E9 := Aside0.mk (Nat.le_of_eq e9.symm); have BB1 := Aside0.mk hb1; clear b9 hb1 e9)
              | ((with_reducible refine gate_ (.store 39 (.tmp 9) (.tmp 26)) rfl ?_); refine put_event (g := g9) (e := 39) rfl rfl 39 (.tmp 9) (.tmp 26) rfl rfl (.agg #[.int .u8 x.f0, .int .i64 x.f1, .slice A2 x.f2.length c2, .int .i64 x.f3, .int .i64 x.f4]) rfl (cs' := #[.int .u8 x.f0, .int .i64 x.f1, .slice A2 x.f2.length c2, .int .i64 x.f3, .int .i64 x.f4]) rfl (by kernel_rfl) (by simp [Value.oneCell']) B9.out rfl ?_; intro w2 b9 hg; have B92 := Aside0.mk b9; have BB2 := Aside0.mk (Below.grown BB1.out hg BB1.out.size (fun k hk => by cases hk; exact E9.out)); have z90 : w2.cell? ⟨g9, 0, none⟩ = some (.int .u8 x.f0) := (blk_cell b9 0).trans rfl; have z91 : w2.cell? ⟨g9, 1, none⟩ = some (.int .i64 x.f1) := (blk_cell b9 1).trans rfl; have z92 : w2.cell? ⟨g9, 2, none⟩ = some (.slice A2 x.f2.length c2) := (blk_cell b9 2).trans rfl; have f92 := blk_frozen b9 2; have z93 : w2.cell? ⟨g9, 3, none⟩ = some (.int .i64 x.f3) := (blk_cell b9 3).trans rfl; have z94 : w2.cell? ⟨g9, 4, none⟩ = some (.int .i64 x.f4) := (blk_cell b9 4).trans rfl; have HC2 := Aside0.mk (HC.out.below BB2.out); have z70 : w2.cell? ⟨g7, 0, none⟩ = some (.slice A al.length c) := (blk_cell HC2.out.b7 0).trans rfl; clear b9 hg h0 h1 h2 h3 h4 z31)
              | ((with_reducible refine gate_dst (N := 50) rfl ?_); refine Kd.N_lit k39 w.heap.size 39 ?hg (N' := 50) ?hd (xs := [x]) (inner := [.int .u8 x.f0, .int .i64 x.f1, .slice A2 x.f2.length c2, .int .i64 x.f3, .int .i64 x.f4]) (w0 := w) (ok := fun k => SX P w.heap.size g3 g6 g7 k ∧ some k ≠ (Value.slice A al.length c).ownBlock) (okp := fun k => P k ∧ k < w.heap.size) ?hr ?hp HC2.out.old (HC2.out.fresh _ (Nat.le_refl _)) (below_step HB.out BB2.out) (below_size (below_step HB.out BB2.out)) (by simp) ?_; (case hd => rfl); (case hg => rfl); (case hr => first | (go_simp; done) | (go_simp; rfl)); (case hp => exact Reps.c5 (k39_mkF w2 _ x hl2' (Kd.F_below HF.out BB2.out)) (Reps.none _ _)); intro v57 w3 ho hb hg hat; obtain ⟨A57, c57, e57⟩ := Kd.N_slice ho; subst e57; have HN57 := Aside0.mk ho; have BB3 := Aside0.mk hb; have HC3 := Aside0.mk (HC2.out.below (below_none hg)); have z70 : w3.cell? ⟨g7, 0, none⟩ = some (.slice A al.length c) := (blk_cell HC3.out.b7 0).trans rfl; clear ho hb hg hat)
              | (at_builtin; refine Kd.N_append_rows k39 (w0 := w) w.heap.size rfl (.tmp 48) (.tmp 50) 33 39 (.agg #[(.int .u8 0), (.int .i64 0), (.slice none 0 0), (.int .i64 0), (.int .i64 0)]) 56 rfl Try.underlying33 info39 rfl (by decide) (by omega) (.slice A al.length c) al [x] _ _ _ (SX P w.heap.size g3 g6 g7) (fun k => SX P w.heap.size g3 g6 g7 k ∧ some k ≠ (Value.slice A al.length c).ownBlock) rfl rfl HC3.out.row (Kd.N_F HN57.out) (fun _ h => h) (fun k hk => (HC3.out.fresh k hk).1) BB3.out BB3.out.size (by have := LAL.out; simp; omega) ?_; intro v58 w4 ho hb hg hat; obtain ⟨al2, hal2⟩ : ∃ al2, al2 = al ++ [x] := ⟨_, rfl⟩; rw [← hal2] at ho; have HA2 := Aside0.mk hal2; clear hal2; obtain ⟨A58, c58, e58⟩ := Kd.N_slice ho; subst e58; have HC4 := Aside0.mk (HC3.out.grew hg ho); have BB4 := Aside0.mk hb; have z74 : w4.cell? ⟨g7, 0, none⟩ = some (.slice A al.length c) := (blk_cell HC4.out.b7 0).trans rfl; have f74 := blk_frozen HC4.out.b7 0; clear ho hb hg hat z70)
              | ((with_reducible refine gate_ (.store 33 (.tmp 52) (.tmp 51)) rfl ?_); refine put_field (g := g7) (j := 0) (e := 36) rfl rfl 33 (.tmp 52) (.tmp 51) rfl rfl (.slice A58 al2.length c58) rfl rfl (by kernel_rfl) (by simp [Value.oneCell']) HC4.out.b7 (by simp) ?_; intro w5 b75 hg5; have HC5 := Aside0.mk (HC4.out.putb b75 hg5); have BB5 := Aside0.mk (Below.grown BB4.out hg5 BB4.out.size (fun k hk => by cases hk; exact HC4.out.l7)); have z70 : w5.cell? ⟨g7, 0, none⟩ = some (.slice A58 al2.length c58) := (blk_cell HC5.out.b7 0).trans rfl; have z71 : w5.cell? ⟨g7, 1, none⟩ = some (.slice none 0 0) := (blk_cell HC5.out.b7 1).trans rfl; have z72 : w5.cell? ⟨g7, 2, none⟩ = some (.int .i64 0) := (blk_cell HC5.out.b7 2).trans rfl; have z73 : w5.cell? ⟨g7, 3, none⟩ = some (.bool false) := (blk_cell HC5.out.b7 3).trans rfl; have z75 : w5.cell? ⟨g7, 4, none⟩ = some (.bool false) := (blk_cell HC5.out.b7 4).trans rfl; clear b75 hg5 z74 f74)
              | ((with_reducible refine gate_ (.store 36 (.tmp 6) (.tmp 53)) rfl ?_); refine put_event (g := g6) (e := 36) rfl rfl 36 (.tmp 6) (.tmp 53) rfl rfl (.agg #[.slice A58 al2.length c58, .slice none 0 0, .int .i64 0, .bool false, .bool false]) rfl (cs' := #[.slice A58 al2.length c58, .slice none 0 0, .int .i64 0, .bool false, .bool false]) rfl (by kernel_rfl) (by simp [Value.oneCell']) HC5.out.b6 rfl ?_; intro w7 b6 hg7; have B67 := Aside0.mk b6; have HV7 := Aside0.mk (crash_done HC5.out HP.out hg7); have BB7 := Aside0.mk (Below.grown BB5.out hg7 BB5.out.size (fun k hk => by cases hk; exact HC5.out.l6)); clear b6 hg7)
              | fail)
            refine bodyPost_ret (results_cell_row rfl _ _ g6 36 #[.slice A58 al2.length c58, .slice none 0 0, .int .i64 0, .bool false, .bool false] (0, 0) _ rfl B67.out Try.underlying36 rfl (by kernel_rfl)) rfl ?_
            have hr1 : r1 = al2 := by rw [← HH.out, HS3.out, HA2.out, HAL.out, List.append_assoc]
            refine ⟨_, _, rfl, ?_, Kd.V_nil _ _ _ _ _, BB7.out⟩
            rw [hr1]; exact HV7.out
        · have HS3 := Aside0.mk (show keptS a1 a2 l0_1 0 = l0_1.take i by rw [HS1.out, if_neg hz, List.append_nil])
          clear HS1
          by_cases hz0 : x.f0 = 0
          · have dz0 : (x.f0 == 0) = true := by rw [hz0]; rfl
            have dz1 : decide (0 < a2) = false := decide_eq_false (fun h => hz ⟨hz0, h⟩)
            clear hz hz0
            go_wp2_with (first
              | ((with_reducible refine gate_dst (N := 9) rfl ?_); refine box_event ?hg (N := 9) ?hd (cs := #[.int .u8 0, .int .i64 0, .slice none 0 0, .int .i64 0, .int .i64 0]) (t := 39) ?hr ?_; (case hd => rfl); (case hg => rfl); (case hr => first | (go_simp; done) | (go_simp; rfl)); intro g9 e9 w1 b9 hb1; have B9 := Aside0.mk b9; have E9 := Aside0.mk (Nat.le_of_eq e9.symm); have BB1 := Aside0.mk hb1; clear b9 hb1 e9)
              | ((with_reducible refine gate_ (.store 39 (.tmp 9) (.tmp 26)) rfl ?_); refine put_event (g := g9) (e := 39) rfl rfl 39 (.tmp 9) (.tmp 26) rfl rfl (.agg #[.int .u8 x.f0, .int .i64 x.f1, .slice A2 x.f2.length c2, .int .i64 x.f3, .int .i64 x.f4]) rfl (cs' := #[.int .u8 x.f0, .int .i64 x.f1, .slice A2 x.f2.length c2, .int .i64 x.f3, .int .i64 x.f4]) rfl (by kernel_rfl) (by simp [Value.oneCell']) B9.out rfl ?_; intro w2 b9 hg; have B92 := Aside0.mk b9; have BB2 := Aside0.mk (Below.grown BB1.out hg BB1.out.size (fun k hk => by cases hk; exact E9.out)); have z90 : w2.cell? ⟨g9, 0, none⟩ = some (.int .u8 x.f0) := (blk_cell b9 0).trans rfl; have z91 : w2.cell? ⟨g9, 1, none⟩ = some (.int .i64 x.f1) := (blk_cell b9 1).trans rfl; have z92 : w2.cell? ⟨g9, 2, none⟩ = some (.slice A2 x.f2.length c2) := (blk_cell b9 2).trans rfl; have f92 := blk_frozen b9 2; have z93 : w2.cell? ⟨g9, 3, none⟩ = some (.int .i64 x.f3) := (blk_cell b9 3).trans rfl; have z94 : w2.cell? ⟨g9, 4, none⟩ = some (.int .i64 x.f4) := (blk_cell b9 4).trans rfl; have HC2 := Aside0.mk (HC.out.below BB2.out); have z70 : w2.cell? ⟨g7, 0, none⟩ = some (.slice A al.length c) := (blk_cell HC2.out.b7 0).trans rfl; have z71 : w2.cell? ⟨g7, 1, none⟩ = some (.slice none 0 0) := (blk_cell HC2.out.b7 1).trans rfl; have z72 : w2.cell? ⟨g7, 2, none⟩ = some (.int .i64 0) := (blk_cell HC2.out.b7 2).trans rfl; have z73 : w2.cell? ⟨g7, 3, none⟩ = some (.bool false) := (blk_cell HC2.out.b7 3).trans rfl; have z75 : w2.cell? ⟨g7, 4, none⟩ = some (.bool false) := (blk_cell HC2.out.b7 4).trans rfl; clear b9 hg h0 h1 h2 h3 h4 z31)
              | ((with_reducible refine gate_ (.store 36 (.tmp 6) (.tmp 53)) rfl ?_); refine put_event (g := g6) (e := 36) rfl rfl 36 (.tmp 6) (.tmp 53) rfl rfl (.agg #[.slice A al.length c, .slice none 0 0, .int .i64 0, .bool false, .bool false]) rfl (cs' := #[.slice A al.length c, .slice none 0 0, .int .i64 0, .bool false, .bool false]) rfl (by kernel_rfl) (by simp [Value.oneCell']) HC2.out.b6 rfl ?_; intro w7 b6 hg7; have B67 := Aside0.mk b6; have HV7 := Aside0.mk (crash_done HC2.out HP.out hg7); have BB7 := Aside0.mk (Below.grown (below_step HB.out BB2.out) hg7 (below_step HB.out BB2.out).size (fun k hk => by cases hk; exact HC2.out.l6)); clear b6 hg7)
              | fail)
            refine bodyPost_ret (results_cell_row rfl _ _ g6 36 #[.slice A al.length c, .slice none 0 0, .int .i64 0, .bool false, .bool false] (0, 0) _ rfl B67.out Try.underlying36 rfl (by kernel_rfl)) rfl ?_
            have hr1 : r1 = al := by rw [← HH.out, HS3.out, HAL.out]
            refine ⟨_, _, rfl, ?_, Kd.V_nil _ _ _ _ _, BB7.out⟩
            rw [hr1]; exact HV7.out
          · have dz0 : (x.f0 == 0) = false := beq_eq_false_iff_ne.mpr hz0
            clear hz hz0
            go_wp2_with (first
              | ((with_reducible refine gate_dst (N := 9) rfl ?_); refine box_event ?hg (N := 9) ?hd (cs := #[.int .u8 0, .int .i64 0, .slice none 0 0, .int .i64 0, .int .i64 0]) (t := 39) ?hr ?_; (case hd => rfl); (case hg => rfl); (case hr => first | (go_simp; done) | (go_simp; rfl)); intro g9 e9 w1 b9 hb1; have B9 := Aside0.mk b9; have E9 := Aside0.mk (Nat.le_of_eq e9.symm); have BB1 := Aside0.mk hb1; clear b9 hb1 e9)
              | ((with_reducible refine gate_ (.store 39 (.tmp 9) (.tmp 26)) rfl ?_); refine put_event (g := g9) (e := 39) rfl rfl 39 (.tmp 9) (.tmp 26) rfl rfl (.agg #[.int .u8 x.f0, .int .i64 x.f1, .slice A2 x.f2.length c2, .int .i64 x.f3, .int .i64 x.f4]) rfl (cs' := #[.int .u8 x.f0, .int .i64 x.f1, .slice A2 x.f2.length c2, .int .i64 x.f3, .int .i64 x.f4]) rfl (by kernel_rfl) (by simp [Value.oneCell']) B9.out rfl ?_; intro w2 b9 hg; have B92 := Aside0.mk b9; have BB2 := Aside0.mk (Below.grown BB1.out hg BB1.out.size (fun k hk => by cases hk; exact E9.out)); have z90 : w2.cell? ⟨g9, 0, none⟩ = some (.int .u8 x.f0) := (blk_cell b9 0).trans rfl; have z91 : w2.cell? ⟨g9, 1, none⟩ = some (.int .i64 x.f1) := (blk_cell b9 1).trans rfl; have z92 : w2.cell? ⟨g9, 2, none⟩ = some (.slice A2 x.f2.length c2) := (blk_cell b9 2).trans rfl; have f92 := blk_frozen b9 2; have z93 : w2.cell? ⟨g9, 3, none⟩ = some (.int .i64 x.f3) := (blk_cell b9 3).trans rfl; have z94 : w2.cell? ⟨g9, 4, none⟩ = some (.int .i64 x.f4) := (blk_cell b9 4).trans rfl; have HC2 := Aside0.mk (HC.out.below BB2.out); have z70 : w2.cell? ⟨g7, 0, none⟩ = some (.slice A al.length c) := (blk_cell HC2.out.b7 0).trans rfl; have z71 : w2.cell? ⟨g7, 1, none⟩ = some (.slice none 0 0) := (blk_cell HC2.out.b7 1).trans rfl; have z72 : w2.cell? ⟨g7, 2, none⟩ = some (.int .i64 0) := (blk_cell HC2.out.b7 2).trans rfl; have z73 : w2.cell? ⟨g7, 3, none⟩ = some (.bool false) := (blk_cell HC2.out.b7 3).trans rfl; have z75 : w2.cell? ⟨g7, 4, none⟩ = some (.bool false) := (blk_cell HC2.out.b7 4).trans rfl; clear b9 hg h0 h1 h2 h3 h4 z31)
              | ((with_reducible refine gate_ (.store 36 (.tmp 6) (.tmp 53)) rfl ?_); refine put_event (g := g6) (e := 36) rfl rfl 36 (.tmp 6) (.tmp 53) rfl rfl (.agg #[.slice A al.length c, .slice none 0 0, .int .i64 0, .bool false, .bool false]) rfl (cs' := #[.slice A al.length c, .slice none 0 0, .int .i64 0, .bool false, .bool false]) rfl (by kernel_rfl) (by simp [Value.oneCell']) HC2.out.b6 rfl ?_; intro w7 b6 hg7; have B67 := Aside0.mk b6; have HV7 := Aside0.mk (crash_done HC2.out HP.out hg7); have BB7 := Aside0.mk (Below.grown (below_step HB.out BB2.out) hg7 (below_step HB.out BB2.out).size (fun k hk => by cases hk; exact HC2.out.l6)); clear b6 hg7)
              | fail)
            refine bodyPost_ret (results_cell_row rfl _ _ g6 36 #[.slice A al.length c, .slice none 0 0, .int .i64 0, .bool false, .bool false] (0, 0) _ rfl B67.out Try.underlying36 rfl (by kernel_rfl)) rfl ?_
            have hr1 : r1 = al := by rw [← HH.out, HS3.out, HAL.out]
            refine ⟨_, _, rfl, ?_, Kd.V_nil _ _ _ _ _, BB7.out⟩
            rw [hr1]; exact HV7.out
    · have hk' : i = l0_1.length := by omega
      subst hk'
      have hlt' : ¬ ((l0_1.length : Int) < (l0_1.length : Int)) := by omega
      have HS3 := Aside0.mk (keptS_end HK.out)
      have z70 : wr.cell? ⟨g7, 0, none⟩ = some (.slice A al.length c) := (blk_cell HC.out.b7 0).trans rfl
      have z71 : wr.cell? ⟨g7, 1, none⟩ = some (.slice none 0 0) := (blk_cell HC.out.b7 1).trans rfl
      have z72 : wr.cell? ⟨g7, 2, none⟩ = some (.int .i64 0) := (blk_cell HC.out.b7 2).trans rfl
      have z73 : wr.cell? ⟨g7, 3, none⟩ = some (.bool false) := (blk_cell HC.out.b7 3).trans rfl
      have z75 : wr.cell? ⟨g7, 4, none⟩ = some (.bool false) := (blk_cell HC.out.b7 4).trans rfl
      go_wp2_with (first
        | ((with_reducible refine gate_ (.store 36 (.tmp 6) (.tmp 60)) rfl ?_); refine put_event (g := g6) (e := 36) rfl rfl 36 (.tmp 6) (.tmp 60) rfl rfl (.agg #[.slice A al.length c, .slice none 0 0, .int .i64 0, .bool false, .bool false]) rfl (cs' := #[.slice A al.length c, .slice none 0 0, .int .i64 0, .bool false, .bool false]) rfl (by kernel_rfl) (by simp [Value.oneCell']) HC.out.b6 rfl ?_; intro w7 b6 hg7; have B67 := Aside0.mk b6; have HV7 := Aside0.mk (crash_done HC.out HP.out hg7); have BB7 := Aside0.mk (Below.grown HB.out hg7 HB.out.size (fun k hk => by cases hk; exact HC.out.l6)); clear b6 hg7)
        | fail)
      refine bodyPost_ret (results_cell_row rfl _ _ g6 36 #[.slice A al.length c, .slice none 0 0, .int .i64 0, .bool false, .bool false] (0, 0) _ rfl B67.out Try.underlying36 rfl (by kernel_rfl)) rfl ?_
      have hr1 : r1 = al := by rw [← HH.out, HS3.out, HAL.out, List.take_length]
      refine ⟨_, _, rfl, ?_, Kd.V_nil _ _ _ _ _, BB7.out⟩
      rw [hr1]; exact HV7.out
end Go.Proofs.Ytpagajgpcmonkaa.PDisk
