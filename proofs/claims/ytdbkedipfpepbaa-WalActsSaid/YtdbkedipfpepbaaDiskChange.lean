/- The walk of Disk.change: what a change comes to. -/
import Derived.Test.YtdbkedipfpepbaaDiskCop
namespace Go.Proofs.Ytdbkedipfpepbaa.PWal
open Go.RowKit Go.Proofs.YtdbkedipfpepbaaW.PrintWords Go.Proofs.YtdbkedipfpepbaaW.PrintLast Go.Proofs.YtdbkedipfpepbaaW.PrintMore
set_option linter.unusedVariables false
set_option linter.unusedSimpArgs false
theorem set_same {cs : Array Value} {i : Nat} {v : Value} (h : cs[i]? = some v) : cs.setIfInBounds i v = cs := by
  apply Array.ext_getElem?
  intro j
  rw [Array.getElem?_setIfInBounds]
  split
  · rename_i hj; subst hj
    split
    · exact h.symm
    · rename_i h2; exact absurd (Array.getElem?_eq_some_iff.1 h).1 h2
  · rfl
theorem get_set_ne {cs : Array Value} {i j : Nat} {u v : Value} (h : cs[j]? = some v) (hne : i ≠ j) : (cs.setIfInBounds i u)[j]? = some v := by
  rw [Array.getElem?_setIfInBounds, if_neg hne]; exact h
/-- what a change does to a state -/
theorem do_stF {B p o : Nat} {cs : Array Value} {x0 x1 : Value} {t : St} (w : World) (k a : Int) {A2 : Option Addr} {m c2 : Nat} {bs : List Int} (hB : B ≤ w.heap.size) (hp : w.heap[p]? = some (.cells cs 58 (0, 0))) (h0 : cs[o]? = some x0) (h1 : cs[o + 1]? = some x1) (h2 : cs[o + 2]? = some (.int .i64 t.2.2))
    (hx : BS B w x0 t.1) (hy : BS B w x1 t.2.1) (hb : BS B w (.slice A2 m c2) bs) (hok : okC (k, a, bs)) (l0 : t.1.length + bs.length ≤ 1000000000) (l1 : t.2.1.length + bs.length ≤ 1000000000) :
    Calls Try.prog 34 #[.pointer (some ⟨p, o, none⟩), .agg #[.int .i64 k, .int .i64 a, .slice A2 m c2]] w fun e w' => e = .returned (.tuple #[]) ∧ ∃ y0 y1, w'.heap[p]? = some (.cells (((cs.setIfInBounds o y0).setIfInBounds (o + 1) y1).setIfInBounds (o + 2) (.int .i64 (doSt t (k, a, bs)).2.2)) 58 (0, 0)) ∧ BS B w' y0 (doSt t (k, a, bs)).1 ∧ BS B w' y1 (doSt t (k, a, bs)).2.1 ∧ w.grownBy w' (some p) ∧ (∀ k, y0.ownBlock = some k → x0.ownBlock = some k ∨ w.heap.size ≤ k) ∧ ∀ k, y1.ownBlock = some k → x1.ownBlock = some k ∨ w.heap.size ≤ k := by
  obtain ⟨A0, c0, rfl, _⟩ := id hx
  obtain ⟨A1, c1, rfl, _⟩ := id hy
  obtain ⟨hk, ha⟩ := hok
  dsimp only at hk ha
  have e0 : ∀ y, ((cs.setIfInBounds o y).setIfInBounds (o + 1) (.slice A1 t.2.1.length c1)).setIfInBounds (o + 2) (.int .i64 t.2.2) = cs.setIfInBounds o y := fun y => by
    rw [set_same (get_set_ne h1 (by omega)), set_same (get_set_ne h2 (by omega))]
  have e1 : ∀ y, ((cs.setIfInBounds o (.slice A0 t.1.length c0)).setIfInBounds (o + 1) y).setIfInBounds (o + 2) (.int .i64 t.2.2) = cs.setIfInBounds (o + 1) y := fun y => by
    rw [set_same h0, set_same (get_set_ne h2 (by omega))]
  have e2 : ∀ y, ((cs.setIfInBounds o (.slice A0 t.1.length c0)).setIfInBounds (o + 1) (.slice A1 t.2.1.length c1)).setIfInBounds (o + 2) y = cs.setIfInBounds (o + 2) y := fun y => by
    rw [set_same h0, set_same h1]
  rcases hk with rfl | rfl | rfl <;> rcases ha with rfl | rfl
  · refine (do_append0 w hB hp h0 hx hb l0).mono ?_
    rintro e w' ⟨he, v', hv, hp', hg, hfr⟩
    exact ⟨he, v', _, by rw [show (doSt t (0, 0, bs)).2.2 = t.2.2 from rfl, e0]; exact hp', hv, hy.keep (Keeps.grown hg hp (by decide)), hg, hfr, fun k hk => .inl hk⟩
  · refine (do_append1 w hB hp h1 hy hb l1).mono ?_
    rintro e w' ⟨he, v', hv, hp', hg, hfr⟩
    exact ⟨he, _, v', by rw [show (doSt t (0, 1, bs)).2.2 = t.2.2 from rfl, e1]; exact hp', hx.keep (Keeps.grown hg hp (by decide)), hv, hg, fun k hk => .inl hk, hfr⟩
  · refine (do_wipe0 w hp h0 rfl rfl).mono ?_
    rintro e w' ⟨he, hp', hg⟩
    exact ⟨he, _, _, by rw [show (doSt t (1, 0, bs)).2.2 = t.2.2 from rfl, e0]; exact hp', BS.nil _ _, hy.keep (Keeps.grown hg hp (by decide)), hg, (fun k hk => by cases hk), fun k hk => .inl hk⟩
  · refine (do_wipe1 w hp h1 rfl rfl).mono ?_
    rintro e w' ⟨he, hp', hg⟩
    exact ⟨he, _, _, by rw [show (doSt t (1, 1, bs)).2.2 = t.2.2 from rfl, e1]; exact hp', hx.keep (Keeps.grown hg hp (by decide)), BS.nil _ _, hg, fun k hk => .inl hk, (fun k hk => by cases hk)⟩
  · refine (do_front w hp h2 rfl rfl).mono ?_
    rintro e w' ⟨he, hp', hg⟩
    exact ⟨he, _, _, by rw [show (doSt t (2, 0, bs)).2.2 = 0 from rfl, e2]; exact hp', hx.keep (Keeps.grown hg hp (by decide)), hy.keep (Keeps.grown hg hp (by decide)), hg, fun k hk => .inl hk, fun k hk => .inl hk⟩
  · refine (do_front w hp h2 rfl rfl).mono ?_
    rintro e w' ⟨he, hp', hg⟩
    exact ⟨he, _, _, by rw [show (doSt t (2, 1, bs)).2.2 = 1 from rfl, e2]; exact hp', hx.keep (Keeps.grown hg hp (by decide)), hy.keep (Keeps.grown hg hp (by decide)), hg, fun k hk => .inl hk, fun k hk => .inl hk⟩
theorem do_st {B p o : Nat} {cs : Array Value} {x0 x1 : Value} {t : St} (w : World) (k a : Int) {A2 : Option Addr} {m c2 : Nat} {bs : List Int} (hB : B ≤ w.heap.size) (hp : w.heap[p]? = some (.cells cs 58 (0, 0))) (h0 : cs[o]? = some x0) (h1 : cs[o + 1]? = some x1) (h2 : cs[o + 2]? = some (.int .i64 t.2.2))
    (hx : BS B w x0 t.1) (hy : BS B w x1 t.2.1) (hb : BS B w (.slice A2 m c2) bs) (hok : okC (k, a, bs)) (l0 : t.1.length + bs.length ≤ 1000000000) (l1 : t.2.1.length + bs.length ≤ 1000000000) :
    Calls Try.prog 34 #[.pointer (some ⟨p, o, none⟩), .agg #[.int .i64 k, .int .i64 a, .slice A2 m c2]] w fun e w' => e = .returned (.tuple #[]) ∧ ∃ y0 y1, w'.heap[p]? = some (.cells (((cs.setIfInBounds o y0).setIfInBounds (o + 1) y1).setIfInBounds (o + 2) (.int .i64 (doSt t (k, a, bs)).2.2)) 58 (0, 0)) ∧ BS B w' y0 (doSt t (k, a, bs)).1 ∧ BS B w' y1 (doSt t (k, a, bs)).2.1 ∧ w.grownBy w' (some p) :=
  (do_stF w k a hB hp h0 h1 h2 hx hy hb hok l0 l1).mono fun e w' ⟨he, y0, y1, h1, h2, h3, h4, _⟩ => ⟨he, y0, y1, h1, h2, h3, h4⟩
theorem info62 : (Try.prog.info? 69).map (fun i => (i.zero, i.size, i.bytes)) = some (some (.agg #[.int .i64 0, .int .i64 0, .slice none 0 0]), 3, 40) := by kernel_rfl
/-- a change more behind the loose ones -/
theorem LS.snoc {B : Nat} {W W' : World} {v' : Value} {xs : List Chg} {c : Chg} {u : Value} {ys : List (Chg × Value)} (e : ys.map Prod.fst = xs) (hb : ∀ y ∈ ys, BS B W y.2 y.1.2.2) (hc : BS B W u c.2.2) (ho : W'.ownsRow B 69 3 v' (ys.length + 1) (ys.flatMap chgV ++ chgV (c, u))) (hk : Keeps 5 W W') : LS B W' v' (xs ++ [c]) := by
  refine ⟨ys ++ [(c, u)], by rw [List.map_append, e]; rfl, ?_, fun y hy => ?_⟩
  · rw [List.length_append, List.flatMap_append, List.length_singleton, List.flatMap_singleton]; exact ho
  · rcases List.mem_append.1 hy with hy | hy
    · exact (hb y hy).keep hk
    · rw [List.mem_singleton.1 hy]; exact hc.keep hk
theorem may_says {p : Nat} {v0 v1 u0 u1 lo : Value} {f g left : Int} {dn : Bool} (w : World) (n E : Int) (hE : (if n ≠ 0 ∧ n ≠ 1 then 1 else if dn = true then 4 else 0) = E) (hp : w.heap[p]? = some (.cells (dcells v0 v1 f u0 u1 g lo left dn) 58 (0, 0))) :
    Calls Try.prog 29 #[.pointer (some ⟨p, 0, none⟩), .int .i64 n] w fun e w' => e = .returned (.int .i64 E) ∧ Drawn0 w w' := hE ▸ may_calls w n hp
theorem ls_form {B : Nat} {W : World} {v : Value} {ys : List (Chg × Value)} {cells : List Value} (h : W.ownsRow B 69 3 v ys.length cells) : ∃ A c, v = .slice A ys.length c ∧ ∀ k, v.ownBlock = some k → B ≤ k ∧ k < W.heap.size ∧ ∃ cs, W.heap[k]? = some (.cells cs 69 (0, 0)) := by
  rcases h.2 with ⟨rfl, h0⟩ | ⟨g, cap, cur, rfl, hB, hg, _⟩
  · exact ⟨none, 0, by rw [h0], fun k hk => by simp [Value.ownBlock] at hk⟩
  · refine ⟨_, cap, rfl, fun k hk => ?_⟩
    have : g = k := by simpa [Value.ownBlock] using hk
    subst this
    exact ⟨hB, blk_lt hg, cur, hg⟩
theorem keeps_own {B t : Nat} {W W' : World} {v : Value} (hg : W.grownBy W' v.ownBlock) (ho : ∀ k, v.ownBlock = some k → B ≤ k ∧ k < W.heap.size ∧ ∃ cs, W.heap[k]? = some (.cells cs 69 (0, 0))) (ht : t ≠ 69) : Keeps t W W' := fun q cs hq => (hg.block q (blk_lt hq) (fun he => by
  obtain ⟨_, _, cs', hk⟩ := ho q he.symm
  exact blk_ne hq hk ht rfl)).trans hq
set_option maxHeartbeats 8000000 in
set_option maxRecDepth 100000 in
theorem change_no0 {B p : Nat} {s : AD} {v0 v1 u0 u1 lo : Value} (w : World) (hR : Rep0 B w p s v0 v1 u0 u1 lo) (k a : Int) (A2 : Option Addr) (m c2 : Nat) (hE : mayE s a ≠ 0) :
    Calls Try.prog 49 #[.pointer (some ⟨p, 0, none⟩), .agg #[.int .i64 k, .int .i64 a, .slice A2 m c2]] w fun e w' => e = .returned (.int .i64 (mayE s a)) ∧ Below w.heap.size w w' := by
  have HR := Aside0.mk hR
  obtain ⟨E, hE1⟩ : ∃ E, mayE s a = E := ⟨_, rfl⟩
  have HE := Aside0.mk (show (if a ≠ 0 ∧ a ≠ 1 then 1 else if s.down = true then 4 else 0) = E from hE1)
  rw [hE1]
  rw [hE1] at hE
  have hne : (E != 0) = true := bne_iff_ne.2 hE
  clear hR hE1 hE
  go_enter Try.func49, Try.ntmps49
  go_wp2_with (first
    | ((with_reducible refine gate_dst (N := 3) rfl ?_); refine box_event ?hg (N := 3) ?hd (cs := #[.int .i64 k, .int .i64 a, .slice A2 m c2]) (t := 69) ?hr ?_; (case hd => rfl); (case hg => rfl); (case hr => first | (go_simp; done) | (go_simp; rfl)); intro g3 e3 w1 b3 hb1; have BB := Aside0.mk hb1; have hz1 : w1.cell? ⟨g3, 1, none⟩ = some (.int .i64 a) := (blk_cell b3 1).trans rfl; have hpb := Aside0.mk (blkK hb1 HR.out.hp); clear b3 hb1 e3)
    | (go_at_call 29; (with_reducible refine (may_says w1 a E HE.out hpb.out).mono ?_); rintro e w' ⟨rfl, ⟨nd, rfl⟩⟩)
    | fail)
  go_ret
  exact ⟨rfl, by repeat (first | exact BB.out | apply pw_below_drewN)⟩
theorem change_no {X : Nat → Prop} {B p : Nat} {s : AD} (w : World) (hX : RepX X B w p s) (k a : Int) (A2 : Option Addr) (m c2 : Nat) (hE : mayE s a ≠ 0) :
    Calls Try.prog 49 #[.pointer (some ⟨p, 0, none⟩), .agg #[.int .i64 k, .int .i64 a, .slice A2 m c2]] w fun e w' => e = .returned (.int .i64 (mayE s a)) ∧ RepX X B w' p s ∧ Below B w w' ∧ Keeps 5 w w' := by
  obtain ⟨v0, v1, u0, u1, lo, hR⟩ := hX.rep
  refine (change_no0 w hR k a A2 m c2 hE).mono ?_
  rintro e w' ⟨he, hb⟩
  exact ⟨he, hX.below hb, hb.mono hX.rep.base, Keeps.below hb⟩
def change_R4.T : Bool × List (List Nat × List Nat) := (true, [([], []), ([0], [0]), ([1], [1]), ([], []), ([2, 3], [2, 3])])
def change_R4.B : List Nat := [0, 1, 3, 0, 15]
theorem change_R4.tab : rtab .any (opsOf Try.f49 4) = change_R4.T := by kernel_rfl
theorem change_R4.bits : waitsOk change_R4.T.2 change_R4.B = true := by kernel_rfl
def change_R5.T : Bool × List (List Nat × List Nat) := (true, [([], []), ([], []), ([1], [1]), ([2], [2]), ([3], [3]), ([], []), ([5], [5]), ([4, 6], [4, 6]), ([0, 0, 1, 2, 3, 4, 5, 6, 7], [0]), ([8, 0, 1, 2, 3, 4, 5, 6, 7], [8]), ([9, 7, 7, 0, 1, 2, 3, 4, 5, 6, 7], [7, 9])])
def change_R5.B : List Nat := [0, 0, 2, 6, 14, 0, 32, 126, 255, 511, 1023]
theorem change_R5.tab : rtab .any (opsOf Try.f49 5) = change_R5.T := by kernel_rfl
theorem change_R5.bits : waitsOk change_R5.T.2 change_R5.B = true := by kernel_rfl
theorem blk_g' {w w1 : World} {g g' : Nat} {o : Obj} (h : w.heap[g]? = some o) (hg : w.grownBy w1 (some g')) (hne : g ≠ g') : w1.heap[g]? = some o := (hg.block g (blk_lt h) (fun he => hne (Option.some.inj he))).trans h
theorem below_al (w : World) (o : Obj) : Below w.heap.size w (w.alloc o) := ⟨rfl, rfl, rfl, by simp, fun k hk => Below.heap_alloc w o k hk⟩
theorem owns_keep {B n : Nat} {W W' : World} {v : Value} {cells : List Value} (h : W.ownsRow B 69 3 v n cells) (hk : Keeps 69 W W') : W'.ownsRow B 69 3 v n cells := by
  refine ⟨h.1, ?_⟩
  rcases h.2 with h | ⟨g, cap, cur, rfl, hB, hg, r⟩
  · exact .inl h
  · exact .inr ⟨g, cap, cur, rfl, hB, hk g cur hg, r⟩
theorem owns_alloc {B n : Nat} {W : World} {v : Value} {cells : List Value} (h : W.ownsRow B 69 3 v n cells) (o : Obj) : (W.alloc o).ownsRow B 69 3 v n cells := owns_keep h (Keeps.below (below_al W o))
theorem owns_blocks {B n : Nat} {W : World} {v : Value} {cells : List Value} (h : W.ownsRow B 69 3 v n cells) : ∀ k, v.ownBlock = some k → B ≤ k ∧ k < W.heap.size ∧ ∃ cs, W.heap[k]? = some (.cells cs 69 (0, 0)) := by
  rcases h.2 with ⟨rfl, h0⟩ | ⟨g, cap, cur, rfl, hB, hg, _⟩
  · exact fun k hk => by simp [Value.ownBlock] at hk
  · intro k hk
    have : g = k := by simpa [Value.ownBlock] using hk
    subst this
    exact ⟨hB, blk_lt hg, cur, hg⟩
set_option maxHeartbeats 8000000 in
set_option maxRecDepth 100000 in
theorem change_yes0 {X : Nat → Prop} {B p N : Nat} {s : AD} {v0 v1 u0 u1 lo : Value} {ys : List (Chg × Value)} (w : World) (hR : Rep0 B w p s v0 v1 u0 u1 lo) (nx0 : Off X v0) (nx1 : Off X v1) (nx2 : Off X u0) (nx3 : Off X u1) (ey : ys.map Prod.fst = s.loose) (ho : w.ownsRow B 69 3 lo ys.length (ys.flatMap chgV)) (hysx : ∀ y ∈ ys, BS B w y.2 y.1.2.2 ∧ Off X y.2) (hXl : ∀ k, X k → k < w.heap.size) (hO : Ok N s) (hN : N ≤ 500000000) (k a : Int) {A2 : Option Addr} {m c2 : Nat} {bs : List Int} (hb : BS B w (.slice A2 m c2) bs) (hl : bs.length ≤ 100000000) (hnu : Off X (.slice A2 m c2)) (hok : okC (k, a, bs)) (hE : mayE s a = 0) :
    Calls Try.prog 49 #[.pointer (some ⟨p, 0, none⟩), .agg #[.int .i64 k, .int .i64 a, .slice A2 m c2]] w fun e w' => e = .returned (.int .i64 0) ∧ ∃ y0 y1 lo', ∃ ys' : List (Chg × Value), (Rep0 B w' p (s.change (k, a, bs)) v0 v1 y0 y1 lo' ∧ (Off X v0 ∧ Off X v1 ∧ Off X y0 ∧ Off X y1) ∧ ys'.map Prod.fst = (s.change (k, a, bs)).loose ∧ w'.ownsRow B 69 3 lo' ys'.length (ys'.flatMap chgV) ∧ ∀ y ∈ ys', BS B w' y.2 y.1.2.2 ∧ Off X y.2) ∧ Below B w w' ∧ Keeps 5 w w' ∧ FrameL lo p w w' ∧ ∀ k, lo'.ownBlock = some k → lo.ownBlock = some k ∨ w.heap.size ≤ k := by
  have HRB := Aside0.mk (Rep.base ⟨v0, v1, u0, u1, lo, hR⟩)
  have HXL := Aside0.mk hXl
  have HNU := Aside0.mk hnu
  clear hXl hnu
  have NX0 := Aside0.mk nx0
  have NX1 := Aside0.mk nx1
  have NX2 := Aside0.mk nx2
  have NX3 := Aside0.mk nx3
  have NXY := Aside0.mk (fun y hy => (hysx y hy).2)
  have hys := fun y hy => (hysx y hy).1
  clear hysx nx0 nx1 nx2 nx3
  obtain ⟨A6, c6, rfl, _⟩ := ls_form ho
  have HR := Aside0.mk hR
  have HE := Aside0.mk (show (if a ≠ 0 ∧ a ≠ 1 then 1 else if s.down = true then 4 else 0) = (0 : Int) from hE)
  have HME := Aside0.mk hE
  have HBS := Aside0.mk hb
  have HOK := Aside0.mk hok
  have HL0 := Aside0.mk (show s.now.1.length + bs.length ≤ 1000000000 by have := hO.n0; omega)
  have HL1 := Aside0.mk (show s.now.2.1.length + bs.length ≤ 1000000000 by have := hO.n1; omega)
  have HO := Aside0.mk ho
  have HYS := Aside0.mk hys
  have HEY := Aside0.mk ey
  have HYL := Aside0.mk (show ys.length ≤ 500000000 by have h1 := hO.l; rw [← ey, List.length_map] at h1; omega)
  have HF0 := Aside0.mk hO.f0
  have HF1 := Aside0.mk hO.f1
  obtain ⟨i62, hi62, hz62, hsz62, hby62⟩ := info_parts info62
  clear hR ho hys ey hE hb hl hok hO hN
  obtain ⟨lo, elo⟩ : ∃ lo, lo = Value.slice A6 ys.length c6 := ⟨_, rfl⟩
  rw [← elo] at HR
  have HELO := Aside0.mk elo
  clear elo
  go_enter Try.func49, Try.ntmps49
  go_wp2_with (first
    | ((with_reducible refine gate_dst (N := 3) rfl ?_); refine box_event ?hg (N := 3) ?hd (cs := #[.int .i64 k, .int .i64 a, .slice A2 m c2]) (t := 69) ?hr ?_; (case hd => rfl); (case hg => rfl); (case hr => first | (go_simp; done) | (go_simp; rfl)); intro g3 e3 w1 b3 hb1; have B3 := Aside0.mk b3; have BB := Aside0.mk hb1; have hz1 : w1.cell? ⟨g3, 1, none⟩ = some (.int .i64 a) := (blk_cell b3 1).trans rfl; have hpb := Aside0.mk (blkK hb1 HR.out.hp); have Ne := Aside0.mk (show g3 ≠ p from blk_ne b3 hpb.out (by decide)); clear b3 hb1 e3)
    | (go_at_call 29; (with_reducible refine (may_says w1 a 0 HE.out hpb.out).mono ?_); rintro e w' ⟨rfl, ⟨nd, rfl⟩⟩)
    | fail)
  have B3' := Aside0.mk (show (w1.drewN nd).heap[g3]? = some (.cells #[.int .i64 k, .int .i64 a, .slice A2 m c2] 69 (0, 0)) from B3.out)
  have BB' := Aside0.mk (pw_below_drewN BB.out nd)
  have hpb' := Aside0.mk (show (w1.drewN nd).heap[p]? = some (.cells (dcells v0 v1 s.safe.2.2 u0 u1 s.now.2.2 lo s.left s.down) 58 (0, 0)) from hpb.out)
  clear B3 BB hpb hz1
  have B3 := B3'
  have BB := BB'
  have hpb := hpb'
  clear B3' BB' hpb'
  generalize w1.drewN nd = w1' at B3 BB hpb ⊢
  refine start_ (n := 5) (S := fun w' => w'.cell? ⟨g3, 0, none⟩ = some (.int .i64 k) ∧ w'.cell? ⟨g3, 1, none⟩ = some (.int .i64 a) ∧ w'.cell? ⟨g3, 2, none⟩ = some (.slice A2 m c2)) (ds := [4]) #[false, false, false, false, false] (by kernel_rfl) rfl rfl ⟨(blk_cell B3.out 0).trans rfl, (blk_cell B3.out 1).trans rfl, (blk_cell B3.out 2).trans rfl⟩ (fun hHeld => ?_); refine with_tabW change_R4.tab change_R4.bits (fun HT_ HW_ => ?_)
  have B3d := Aside0.mk (show w1'.drew.heap[g3]? = some (.cells #[.int .i64 k, .int .i64 a, .slice A2 m c2] 69 (0, 0)) from B3.out)
  have BBd := Aside0.mk (below_drew BB.out)
  have hpd := Aside0.mk (show w1'.drew.heap[p]? = some (.cells (dcells v0 v1 s.safe.2.2 u0 u1 s.now.2.2 lo s.left s.down) 58 (0, 0)) from hpb.out)
  clear B3 BB hpb
  have B3 := B3d
  have BB := BBd
  have hpb := hpd
  clear B3d BBd hpd
  generalize w1'.drew = w2 at B3 BB hpb hHeld ⊢
  refine pure_ (i := 0) (N := some 13) (v := ?_) (a' := ?_) #[true, false, false, false, false] rfl rfl (any_of HT_.out (by kernel_rfl)) (fun _ _ _ h => h) (Or.inl ⟨by rfl, ?_⟩) ?_ ?_
  rotate_left
  · intro w'
    go_simp
    with_reducible rfl
  rotate_left
  · simp only [Act.put, List.setIfInBounds_toArray, List.set_cons_zero, List.set_cons_succ, i64_w, i32_w]
    rfl
  refine pure_ (i := 1) (N := some 14) (v := ?_) (a' := ?_) #[true, true, false, false, false] rfl rfl (any_of HT_.out (by kernel_rfl)) (fun _ _ _ h => h) (Or.inl ⟨by rfl, ?_⟩) ?_ ?_
  rotate_left
  · intro w'
    go_simp
    with_reducible rfl
  rotate_left
  · simp only [Act.put, List.setIfInBounds_toArray, List.set_cons_zero, List.set_cons_succ, i64_w, i32_w]
    rfl
  refine pure_ (i := 2) (N := some 15) (v := ?_) (a' := ?_) #[true, true, true, false, false] rfl rfl (any_of HT_.out (by kernel_rfl)) (fun _ _ _ h => h) (Or.inl ⟨by rfl, ?_⟩) ?_ ?_
  rotate_left
  · intro w'
    go_simp
    with_reducible rfl
  rotate_left
  · simp only [Act.put, List.setIfInBounds_toArray, List.set_cons_zero, List.set_cons_succ, i64_w, i32_w]
    rfl
  refine take_ (i := 3) (N := some 16) (v := ?_) (a' := ?_) #[true, true, true, true, false] rfl rfl (take_ofW HT_.out HW_.out (by kernel_rfl)) (fun _ _ _ h => h) (Or.inl ⟨by rfl, ?_⟩) hHeld ?_ ?_
  rotate_left
  · rintro w' ⟨s0, s1, s2⟩
    go_simp
    with_reducible rfl
  rotate_left
  · simp only [Act.put, List.setIfInBounds_toArray, List.set_cons_zero, List.set_cons_succ, i64_w, i32_w]
    rfl
  refine last_ (i := 4) (N := some 17) #[true, true, true, true, true] rfl rfl (one_of HT_.out (by kernel_rfl)) (by decide) (fun K hK => ?_)
  refine goes_ Try.func34 (by kernel_rfl) rfl #[.pointer (some ⟨p, 3, none⟩), .agg #[.int .i64 k, .int .i64 a, .slice A2 m c2]] (by rfl) rfl rfl (by (try simp only [List.map_toArray, List.map_cons, List.map_nil]); first | done | rfl) ?_
  refine (do_stF (B := B) (o := 3) (t := s.now) w2 k a (Nat.le_trans HRB.out BB.out.size) hpb.out rfl rfl rfl (HR.out.k0.keep (Keeps.below BB.out)) (HR.out.k1.keep (Keeps.below BB.out)) (HBS.out.keep (Keeps.below BB.out)) HOK.out HL0.out HL1.out).mono ?_
  rintro e w3 ⟨rfl, y0, y1, hp3, hy0, hy1, hg3, hfr0, hfr1⟩
  have FR0 := Aside0.mk (fun k hk => (hfr0 k hk).imp id (Nat.le_trans BB.out.size))
  have FR1 := Aside0.mk (fun k hk => (hfr1 k hk).imp id (Nat.le_trans BB.out.size))
  clear hfr0 hfr1
  refine ⟨_, rfl, ?_⟩
  have B33 := Aside0.mk (blk_g' B3.out hg3 Ne.out)
  have HY0 := Aside0.mk hy0
  have HY1 := Aside0.mk hy1
  have HP3 := Aside0.mk (show w3.heap[p]? = some (.cells (dcells v0 v1 s.safe.2.2 y0 y1 (doSt s.now (k, a, bs)).2.2 lo s.left s.down) 58 (0, 0)) from hp3)
  have HG3 := Aside0.mk hg3
  have K53 := Aside0.mk (Keeps.trans (Keeps.below BB.out) (Keeps.grown (t := 5) hg3 hpb.out (by decide)))
  have FL3 := Aside0.mk (FrameL.trans (lo := lo) (p := p) (FrameL.below BB.out) (FrameL.grown hg3))
  have K623 := Aside0.mk (Keeps.trans (Keeps.below BB.out) (Keeps.grown (t := 69) hg3 hpb.out (by decide)))
  have BB3 := Aside0.mk (Below.grown (Below.mono BB.out HRB.out) hg3 (Nat.le_trans HRB.out BB.out.size) (fun k hk => by cases hk; exact HR.out.hB))
  clear hp3 hy0 hy1 hg3 B3 hpb hHeld
  refine hK.out _ _ ?_
  clear hK K
  refine done_ (done_of HT_.out (by kernel_rfl)) ?_
  go_wp2_with fail
  have elo := HELO.out
  subst elo
  refine start_ (n := 11) (S := fun w' => w'.cell? ⟨p, 6, none⟩ = some (.slice A6 ys.length c6) ∧ w'.cell? ⟨g3, 0, none⟩ = some (.int .i64 k) ∧ w'.cell? ⟨g3, 1, none⟩ = some (.int .i64 a) ∧ w'.cell? ⟨g3, 2, none⟩ = some (.slice A2 m c2)) (ds := [7, 10]) #[false, false, false, false, false, false, false, false, false, false, false] (by kernel_rfl) rfl rfl ⟨(blk_cell HP3.out 6).trans rfl, (blk_cell B33.out 0).trans rfl, (blk_cell B33.out 1).trans rfl, (blk_cell B33.out 2).trans rfl⟩ (fun hHeld => ?_); refine with_tabW change_R5.tab change_R5.bits (fun HT_ HW_ => ?_)
  have HW5 := Aside0.mk (show w3.drew.heap[g3]? = some (.cells #[.int .i64 k, .int .i64 a, .slice A2 m c2] 69 (0, 0)) from B33.out)
  have HP5 := Aside0.mk (show w3.drew.heap[p]? = some (.cells (dcells v0 v1 s.safe.2.2 y0 y1 (doSt s.now (k, a, bs)).2.2 (.slice A6 ys.length c6) s.left s.down) 58 (0, 0)) from HP3.out)
  have HY05 := Aside0.mk (show BS B w3.drew y0 _ from HY0.out)
  have HY15 := Aside0.mk (show BS B w3.drew y1 _ from HY1.out)
  have K55 := Aside0.mk (show Keeps 5 w w3.drew from K53.out)
  have K625 := Aside0.mk (show Keeps 69 w w3.drew from K623.out)
  have BB5 := Aside0.mk (below_drew BB3.out)
  have FL5 := Aside0.mk (show FrameL (.slice A6 ys.length c6) p w w3.drew from FL3.out)
  clear FL3 B33 HP3 HY0 HY1 K53 K623 BB3 HG3
  generalize w3.drew = w4 at HW5 HP5 HY05 HY15 K55 K625 BB5 FL5 hHeld ⊢
  have HO4 := Aside0.mk (owns_keep HO.out K625.out)
  refine pure_ (i := 0) (N := some 18) (v := ?_) (a' := ?_) #[true, false, false, false, false, false, false, false, false, false, false] rfl rfl (any_of HT_.out (by kernel_rfl)) (fun _ _ _ h => h) (Or.inl ⟨by rfl, ?_⟩) ?_ ?_
  rotate_left
  · intro w'
    go_simp
    with_reducible rfl
  rotate_left
  · simp only [Act.put, List.setIfInBounds_toArray, List.set_cons_zero, List.set_cons_succ, i64_w, i32_w]
    rfl
  refine pure_ (i := 1) (N := some 19) (v := ?_) (a' := ?_) #[true, true, false, false, false, false, false, false, false, false, false] rfl rfl (any_of HT_.out (by kernel_rfl)) (fun _ _ _ h => h) (Or.inl ⟨by rfl, ?_⟩) ?_ ?_
  rotate_left
  · intro w'
    go_simp
    with_reducible rfl
  rotate_left
  · simp only [Act.put, List.setIfInBounds_toArray, List.set_cons_zero, List.set_cons_succ, i64_w, i32_w]
    rfl
  refine pure_ (i := 2) (N := some 20) (v := ?_) (a' := ?_) #[true, true, true, false, false, false, false, false, false, false, false] rfl rfl (any_of HT_.out (by kernel_rfl)) (fun _ _ _ h => h) (Or.inl ⟨by rfl, ?_⟩) ?_ ?_
  rotate_left
  · intro w'
    go_simp
    with_reducible rfl
  rotate_left
  · simp only [Act.put, List.setIfInBounds_toArray, List.set_cons_zero, List.set_cons_succ, i64_w, i32_w]
    rfl
  refine pure_ (i := 3) (N := some 21) (v := ?_) (a' := ?_) #[true, true, true, true, false, false, false, false, false, false, false] rfl rfl (any_of HT_.out (by kernel_rfl)) (fun _ _ _ h => h) (Or.inl ⟨by rfl, ?_⟩) ?_ ?_
  rotate_left
  · intro w'
    go_simp
    with_reducible rfl
  rotate_left
  · simp only [Act.put, List.setIfInBounds_toArray, List.set_cons_zero, List.set_cons_succ, i64_w, i32_w]
    rfl
  refine take_ (i := 4) (N := some 22) (v := ?_) (a' := ?_) #[true, true, true, true, true, false, false, false, false, false, false] rfl rfl (take_ofW HT_.out HW_.out (by kernel_rfl)) (fun _ _ _ h => h) (Or.inl ⟨by rfl, ?_⟩) hHeld ?_ ?_
  rotate_left
  · rintro w' ⟨s0, s1, s2, s3⟩
    go_simp
    with_reducible rfl
  rotate_left
  · simp only [Act.put, List.setIfInBounds_toArray, List.set_cons_zero, List.set_cons_succ, i64_w, i32_w]
    rfl
  refine take_ (i := 5) (N := some 23) (v := ?_) (a' := ?_) #[true, true, true, true, true, true, false, false, false, false, false] rfl rfl (take_ofW HT_.out HW_.out (by kernel_rfl)) (fun _ _ _ h => h) (Or.inl ⟨by rfl, ?_⟩) hHeld ?_ ?_
  rotate_left
  · rintro w' ⟨s0, s1, s2, s3⟩
    go_simp
    with_reducible rfl
  rotate_left
  · simp only [Act.put, List.setIfInBounds_toArray, List.set_cons_zero, List.set_cons_succ, i64_w, i32_w]
    rfl
  refine one_ (i := 6) (N := some 24) #[true, true, true, true, true, true, true, false, false, false, false] rfl rfl (one_of HT_.out (by kernel_rfl)) (by decide) (fun K hK => ?_)
  refine value_ (w1 := ?_) (v := ?_) (by rfl) rfl ?_ ?_
  rotate_left 2
  · go_simp
    constructor
    · rfl
    · rfl
  refine hK.out _ _ ⟨(blk_cell (blk_alloc HP5.out _) 6).trans rfl, (blk_cell (blk_alloc HW5.out _) 0).trans rfl, (blk_cell (blk_alloc HW5.out _) 1).trans rfl, (blk_cell (blk_alloc HW5.out _) 2).trans rfl⟩ (fun hHeld2 => ?_)
  clear hHeld
  have hHeld := hHeld2
  clear hHeld2
  clear hK K
  refine norm_ (a' := ?_) ?_ ?_
  rotate_left
  · show Act.put _ (some 24) _ = _
    simp only [Act.put, List.setIfInBounds_toArray, List.set_cons_zero, List.set_cons_succ, i64_w, i32_w]
    rfl
  refine last_ (i := 7) (N := some 25) #[true, true, true, true, true, true, true, true, false, false, false] rfl rfl (one_of HT_.out (by kernel_rfl)) (by decide) (fun K hK => ?_)
  refine step_append_lies _ (by rfl) _ _ _ (by rfl) B 69 i62 _ 3 40 Try.underlying56 hi62 hz62 hsz62 hby62 rfl (by omega) (.slice A6 ys.length c6) ys.length (ys.flatMap chgV) (by rfl) (owns_alloc HO4.out _) ⟨w4.heap.size, 0, none⟩ 1 1 [.int .i64 k, .int .i64 a, .slice A2 m c2] (by rfl) (by rfl) (World.news_of_block (cs := #[.int .i64 k, .int .i64 a, .slice A2 m c2]) (t := 69) (fr := (0, 0)) (heap_alloc_new w4 _)) (by simp [Value.oneCell']) (by omega) (by simp [maxLen]; have := HYL.out; omega) (by have := HYL.out; omega) (by have h1 := HRB.out; have h2 := BB5.out.size; simp; omega) _ rfl ?_
  intro g7 cap7 w7 hown7 hgrow7 hat7 hlt7
  have HF := Aside0.mk (ls_form HO4.out)
  have HO7 := Aside0.mk hown7
  have hal := grown_of_below (below_al w4 (.cells #[.int .i64 k, .int .i64 a, .slice A2 m c2] 69 (0, 0))) (none : Option Nat)
  have KA5 := Aside0.mk (Keeps.trans (Keeps.below (t := 5) (below_al w4 (.cells #[.int .i64 k, .int .i64 a, .slice A2 m c2] 69 (0, 0)))) (keeps_own hgrow7 (owns_blocks (owns_alloc HO4.out _)) (by decide)))
  have KA58 := Aside0.mk (Keeps.trans (Keeps.below (t := 58) (below_al w4 (.cells #[.int .i64 k, .int .i64 a, .slice A2 m c2] 69 (0, 0)))) (keeps_own hgrow7 (owns_blocks (owns_alloc HO4.out _)) (by decide)))
  have BB7 := Aside0.mk (Below.grown (Below.alloc BB5.out (Nat.le_trans HRB.out BB5.out.size) _) hgrow7 (by have h1 := HRB.out; have h2 := BB5.out.size; simp; omega) (fun k hk => (owns_blocks HO4.out k hk).1))
  have FL7 := Aside0.mk (FrameL.trans FL5.out (FrameL.trans (FrameL.below (below_al w4 (.cells #[.int .i64 k, .int .i64 a, .slice A2 m c2] 69 (0, 0)))) (FrameL.row hgrow7)))
  have LO7 := Aside0.mk (show ∀ q, (Value.slice (some ⟨g7, 0, none⟩) (ys.length + 1) cap7).ownBlock = some q → (Value.slice A6 ys.length c6).ownBlock = some q ∨ w.heap.size ≤ q from fun q hq => by
    obtain rfl : g7 = q := by simpa [Value.ownBlock] using hq
    rcases hat7 with h1 | h1
    · exact .inl h1
    · right; have h2 := FL5.out.1; have h3 := (below_al w4 (.cells #[.int .i64 k, .int .i64 a, .slice A2 m c2] 69 (0, 0))).size; omega)
  clear hown7 hgrow7 hat7 hlt7 hal hHeld
  have HP7 := Aside0.mk (KA58.out p _ HP5.out)
  refine hK.out _ _ ?_
  clear hK K
  refine norm_ (a' := ?_) ?_ ?_
  rotate_left
  · show Act.put _ (some 25) _ = _
    simp only [Act.put, List.setIfInBounds_toArray, List.set_cons_zero, List.set_cons_succ, i64_w, i32_w]
    rfl
  refine pure_ (i := 8) (N := some 26) (v := ?_) (a' := ?_) #[true, true, true, true, true, true, true, true, true, false, false] rfl rfl (any_of HT_.out (by kernel_rfl)) (fun _ _ _ h => h) (Or.inl ⟨by rfl, ?_⟩) ?_ ?_
  rotate_left
  · intro w'
    go_simp
    with_reducible rfl
  rotate_left
  · simp only [Act.put, List.setIfInBounds_toArray, List.set_cons_zero, List.set_cons_succ, i64_w, i32_w]
    rfl
  refine pure_ (i := 9) (N := some 27) (v := ?_) (a' := ?_) #[true, true, true, true, true, true, true, true, true, true, false] rfl rfl (any_of HT_.out (by kernel_rfl)) (fun _ _ _ h => h) (Or.inl ⟨by rfl, ?_⟩) ?_ ?_
  rotate_left
  · intro w'
    go_simp
    with_reducible rfl
  rotate_left
  · simp only [Act.put, List.setIfInBounds_toArray, List.set_cons_zero, List.set_cons_succ, i64_w, i32_w]
    rfl
  refine last_ (i := 10) (N := none) #[true, true, true, true, true, true, true, true, true, true, true] rfl rfl (one_of HT_.out (by kernel_rfl)) (by decide) (fun K hK => ?_)
  have hs6 : w7.cell? ⟨p, 6, none⟩ = some (.slice A6 ys.length c6) := (blk_cell HP7.out 6).trans rfl
  have hf6 := blk_frozen HP7.out 6
  refine skip_ (w1 := ?_) (by rfl) rfl ?_ ?_
  rotate_left
  · go_simp
    rfl
  refine hK.out _ _ ?_
  clear hK K
  refine done_ (done_of HT_.out (by kernel_rfl)) ?_
  have HP8 := Aside0.mk (show (w7.setCell ⟨p, 6, none⟩ (.slice (some ⟨g7, 0, none⟩) (ys.length + 1) cap7)).heap[p]? = some (.cells (dcells v0 v1 s.safe.2.2 y0 y1 (doSt s.now (k, a, bs)).2.2 (.slice (some ⟨g7, 0, none⟩) (ys.length + 1) cap7) s.left s.down) 58 (0, 0)) from blk_set HP7.out 6 _)
  have KS5 := Aside0.mk (Keeps.grown (t := 5) (grown_set (j := 6) (u := .slice (some ⟨g7, 0, none⟩) (ys.length + 1) cap7)) HP7.out (by decide))
  have KS62 := Aside0.mk (Keeps.grown (t := 69) (grown_set (j := 6) (u := .slice (some ⟨g7, 0, none⟩) (ys.length + 1) cap7)) HP7.out (by decide))
  have FL8 := Aside0.mk (FrameL.trans FL7.out (FrameL.grown (grown_set (W := w7) (k := p) (j := 6) (u := .slice (some ⟨g7, 0, none⟩) (ys.length + 1) cap7))))
  have BB8 := Aside0.mk (BB7.out.setCell (p := ⟨p, 6, none⟩) HR.out.hB (.slice (some ⟨g7, 0, none⟩) (ys.length + 1) cap7))
  generalize w7.setCell ⟨p, 6, none⟩ (.slice (some ⟨g7, 0, none⟩) (ys.length + 1) cap7) = w8 at HP8 KS5 KS62 BB8 FL8 ⊢
  go_wp2_with (first
    | (go_at_call 50; (with_reducible refine (count_calls w8 HP8.out HF0.out HF1.out).mono ?_); rintro e w9 ⟨rfl, hp9, hg9⟩)
    | fail)
  go_ret
  have K59 := Keeps.grown (t := 5) hg9 HP8.out (by decide)
  have K5 := Keeps.trans KA5.out (Keeps.trans KS5.out K59)
  have K5w := Keeps.trans K55.out K5
  have hch : s.change (k, a, bs) = { s with now := doSt s.now (k, a, bs), loose := s.loose ++ [(k, a, bs)] : AD }.count := by unfold AD.change; rw [if_pos HME.out]
  rw [hch]
  have hls := LS.snoc (W := w) (c := (k, a, bs)) HEY.out HYS.out HBS.out (owns_keep (owns_keep HO7.out KS62.out) (Keeps.grown (t := 69) hg9 HP8.out (by decide))) K5w
  have HOW := owns_keep (owns_keep HO7.out KS62.out) (Keeps.grown (t := 69) hg9 HP8.out (by decide))
  have nf : ∀ {u v : Value}, Off X u → (∀ k, v.ownBlock = some k → u.ownBlock = some k ∨ w.heap.size ≤ k) → Off X v := fun hu hf k hk hx => by
    rcases hf k hk with h1 | h1
    · exact hu k h1 hx
    · have := HXL.out k hx; omega
  refine ⟨rfl, y0, y1, _, ys ++ [((k, a, bs), .slice A2 m c2)], ⟨⟨HR.out.hB, hp9, HR.out.h0.keep K5w, HR.out.h1.keep K5w, HY05.out.keep K5, HY15.out.keep K5, hls⟩, ⟨NX0.out, NX1.out, nf NX2.out FR0.out, nf NX3.out FR1.out⟩, ?_, ?_, ?_⟩, Below.grown BB8.out hg9 (Nat.le_trans HRB.out BB8.out.size) (fun k hk => by cases hk; exact HR.out.hB), K5w, FrameL.trans FL8.out (FrameL.grown hg9), LO7.out⟩
  · rw [List.map_append, HEY.out]; rfl
  · rw [List.length_append, List.flatMap_append, List.flatMap_singleton]; exact HOW
  · intro y hy
    rcases List.mem_append.1 hy with hy | hy
    · exact ⟨(HYS.out y hy).keep K5w, NXY.out y hy⟩
    · rw [List.mem_singleton.1 hy]; exact ⟨HBS.out.keep K5w, HNU.out⟩
theorem change_yes {X : Nat → Prop} {B p N : Nat} {s : AD} (w : World) (hRX : RepX X B w p s) (hXl : ∀ k, X k → k < w.heap.size) (hO : Ok N s) (hN : N ≤ 500000000) (k a : Int) {A2 : Option Addr} {m c2 : Nat} {bs : List Int} (hb : BS B w (.slice A2 m c2) bs) (hl : bs.length ≤ 100000000) (hnu : Off X (.slice A2 m c2)) (hok : okC (k, a, bs)) (hE : mayE s a = 0) :
    Calls Try.prog 49 #[.pointer (some ⟨p, 0, none⟩), .agg #[.int .i64 k, .int .i64 a, .slice A2 m c2]] w fun e w' => e = .returned (.int .i64 0) ∧ RepX X B w' p (s.change (k, a, bs)) ∧ Below B w w' ∧ Keeps 5 w w' := by
  obtain ⟨v0, v1, u0, u1, lo, ys, hR, ⟨nx0, nx1, nx2, nx3⟩, ey, ho, hysx⟩ := hRX
  refine (change_yes0 w hR nx0 nx1 nx2 nx3 ey ho hysx hXl hO hN k a hb hl hnu hok hE).mono ?_
  rintro e w' ⟨he, y0, y1, lo', ys', h, hb, hk, _⟩
  exact ⟨he, ⟨v0, v1, y0, y1, lo', ys', h⟩, hb, hk⟩
theorem change_callsL {Y : Nat → Prop} {B p N : Nat} {s : AD} (w : World) (hR : RepL Y B w p s) (hY : ∀ k, Y k → k < w.heap.size) (hO : Ok N s) (hN : N ≤ 500000000) (k a : Int) {A2 : Option Addr} {m c2 : Nat} {bs : List Int} (hb : BS B w (.slice A2 m c2) bs) (hl : bs.length ≤ 100000000) (hk : k = 0 ∨ k = 1 ∨ k = 2) :
    Calls Try.prog 49 #[.pointer (some ⟨p, 0, none⟩), .agg #[.int .i64 k, .int .i64 a, .slice A2 m c2]] w fun e w' => e = .returned (.int .i64 (mayE s a)) ∧ RepL Y B w' p (s.change (k, a, bs)) ∧ Below B w w' ∧ Kp Y p w w' := by
  by_cases hE : mayE s a = 0
  · rw [hE]
    obtain ⟨v0, v1, u0, u1, lo, hR, hl0⟩ := hR
    obtain ⟨ys, ey, ho, hys⟩ := id hR.hl
    have no : ∀ v : Value, Off (fun _ => False) v := fun _ _ _ h => h
    refine (change_yes0 (X := fun _ => False) w hR (no _) (no _) (no _) (no _) ey ho (fun y hy => ⟨hys y hy, no _⟩) (fun _ h => h.elim) hO hN k a hb hl (no _) ⟨hk, ?_⟩ hE).mono ?_
    · unfold mayE at hE
      split at hE
      · omega
      · dsimp only; omega
    · rintro e w' ⟨he, y0, y1, lo', ys', h, hb, hk, hf, hlo⟩
      refine ⟨he, ⟨v0, v1, y0, y1, lo', h.1, fun q hq hy => ?_⟩, hb, hf.kp hl0 hY⟩
      rcases hlo q hq with h1 | h1
      · exact hl0 q h1 hy
      · have := hY q hy; omega
  · rw [show s.change (k, a, bs) = s by unfold AD.change; rw [if_neg hE]]
    obtain ⟨v0, v1, u0, u1, lo, hR, hl0⟩ := hR
    refine (change_no0 w hR k a A2 m c2 hE).mono ?_
    rintro e w' ⟨he, hb⟩
    exact ⟨he, RepL.below ⟨v0, v1, u0, u1, lo, hR, hl0⟩ hb, hb.mono (Rep.base ⟨v0, v1, u0, u1, lo, hR⟩), fun q hq _ => hb.block q (hY q hq)⟩
theorem change_callsX {X : Nat → Prop} {B p N : Nat} {s : AD} (w : World) (hR : RepX X B w p s) (hXl : ∀ k, X k → k < w.heap.size) (hO : Ok N s) (hN : N ≤ 500000000) (k a : Int) {A2 : Option Addr} {m c2 : Nat} {bs : List Int} (hb : BS B w (.slice A2 m c2) bs) (hl : bs.length ≤ 100000000) (hnu : Off X (.slice A2 m c2)) (hk : k = 0 ∨ k = 1 ∨ k = 2) :
    Calls Try.prog 49 #[.pointer (some ⟨p, 0, none⟩), .agg #[.int .i64 k, .int .i64 a, .slice A2 m c2]] w fun e w' => e = .returned (.int .i64 (mayE s a)) ∧ RepX X B w' p (s.change (k, a, bs)) ∧ Below B w w' ∧ Keeps 5 w w' := by
  by_cases hE : mayE s a = 0
  · rw [hE]
    refine change_yes w hR hXl hO hN k a hb hl hnu ⟨hk, ?_⟩ hE
    unfold mayE at hE
    split at hE
    · omega
    · dsimp only; omega
  · rw [show s.change (k, a, bs) = s by unfold AD.change; rw [if_neg hE]]
    exact change_no w hR k a A2 m c2 hE
theorem change_calls {B p N : Nat} {s : AD} (w : World) (hR : Rep B w p s) (hO : Ok N s) (hN : N ≤ 500000000) (k a : Int) {A2 : Option Addr} {m c2 : Nat} {bs : List Int} (hb : BS B w (.slice A2 m c2) bs) (hl : bs.length ≤ 100000000) (hk : k = 0 ∨ k = 1 ∨ k = 2) :
    Calls Try.prog 49 #[.pointer (some ⟨p, 0, none⟩), .agg #[.int .i64 k, .int .i64 a, .slice A2 m c2]] w fun e w' => e = .returned (.int .i64 (mayE s a)) ∧ Rep B w' p (s.change (k, a, bs)) ∧ Below B w w' ∧ Keeps 5 w w' :=
  (change_callsX w (hR.fresh (X := fun _ => False) (fun _ h => h.elim)) (fun _ h => h.elim) hO hN k a hb hl (fun _ _ h => h) hk).mono fun e w' h => ⟨h.1, h.2.1.rep, h.2.2⟩
end Go.Proofs.Ytdbkedipfpepbaa.PWal
