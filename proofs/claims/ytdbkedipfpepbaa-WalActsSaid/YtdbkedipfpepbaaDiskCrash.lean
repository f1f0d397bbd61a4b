/- The walk of Disk.Crash. -/
import Derived.Test.YtdbkedipfpepbaaDiskActs0
import Derived.Deep.DeepCutAuto
namespace Go.Proofs.Ytdbkedipfpepbaa.PWal
open Go.RowKit Go.Proofs.YtdbkedipfpepbaaW.PrintWords Go.Proofs.YtdbkedipfpepbaaW.PrintLast Go.Proofs.YtdbkedipfpepbaaW.PrintMore
attribute [local go_sem] max2_int min2_int max_two min_two max_three min_three max_four min_four
set_option linter.unusedVariables false
set_option linter.unusedSimpArgs false
section
variable {P : Program} {ops : Array Oper} {rest : List Oper} {o : Oper} {a : Act} {Q : Exit → Act → World → Prop} {W : World}
/-- a whole block is written -/
theorem put_event (hN : o.dst = none) (hgd : o.guard = none) (t : TypeId) (p x : Operand) (ho : o.op = .store t p x) {g : Nat} {cs cs' : Array Value} {e : TypeId} (haddr : a.eval p = .pointer (some ⟨g, 0, none⟩)) (u : Value) (hx : a.eval x = u) (hu : u.cells = cs')
    (ht : (P.info? t).map (·.size) = some cs'.toList.length) (h1 : ∀ q ∈ cs'.toList, q.oneCell' = true) (hb : W.heap[g]? = some (.cells cs e (0, 0))) (hsz : cs'.toList.length = cs.size)
    (h : ∀ W', W'.heap[g]? = some (.cells cs' e (0, 0)) → W.grownBy W' (some g) → wpList P ops Q rest a W') : wpList P ops Q (o :: rest) a W := by
  refine wpList_plain hgd fun K hK => ?_
  have hrun : (Instr.storeAt t (.pointer (some ⟨g, 0, none⟩)) u).run P W = .ok () (W.setCells g 0 cs'.toList) := run_store_run t u cs'.toList hb (by rw [hu]) ht (by omega) h1
  obtain ⟨cur', h3, h4, h5⟩ := setCells_row cs'.toList 0 W cs hb (by omega)
  obtain ⟨s1, s2, s3, s4⟩ := setCells_same g cs'.toList 0 W
  have hcur : cur' = cs' := by
    apply Array.ext'
    rw [h5, List.take_zero, List.nil_append, List.drop_eq_nil_of_le (by rw [Array.length_toList]; omega), List.append_nil]
  subst hcur
  unfold Oper.wp execOp
  simp only [ho, haddr, hx, Sem.run_bind, Sem.run_pure, Result.andThen_ok, hrun]
  show K (a.put o.dst undef) _
  rw [hN]
  exact hK a _ (h _ h3 ⟨s1, s2, s3, by rw [s4]; exact Nat.le_refl _, fun k _ hk => setCells_far _ _ k (fun he => hk (by rw [he]))⟩)
/-- one cell of a block is written -/
theorem put_field (hN : o.dst = none) (hgd : o.guard = none) (t : TypeId) (p x : Operand) (ho : o.op = .store t p x) {g j : Nat} {cs : Array Value} {e : TypeId} (haddr : a.eval p = .pointer (some ⟨g, j, none⟩)) (u : Value) (hx : a.eval x = u) (hu : u.cells = #[u])
    (ht : (P.info? t).map (·.size) = some 1) (h1 : u.oneCell' = true) (hb : W.heap[g]? = some (.cells cs e (0, 0))) (hj : j < cs.size)
    (h : ∀ W', W'.heap[g]? = some (.cells (cs.setIfInBounds j u) e (0, 0)) → W.grownBy W' (some g) → wpList P ops Q rest a W') : wpList P ops Q (o :: rest) a W := by
  refine wpList_plain hgd fun K hK => ?_
  have hrun : (Instr.storeAt t (.pointer (some ⟨g, j, none⟩)) u).run P W = .ok () (W.setCells g j [u]) := run_store_run t u [u] hb (by rw [hu]) ht (by simp; omega) (by simpa using h1)
  obtain ⟨s1, s2, s3, s4⟩ := setCells_same g [u] j W
  unfold Oper.wp execOp
  simp only [ho, haddr, hx, Sem.run_bind, Sem.run_pure, Result.andThen_ok, hrun]
  show K (a.put o.dst undef) _
  rw [hN]
  exact hK a _ (h _ (blk_set hb j u) ⟨s1, s2, s3, by rw [s4]; exact Nat.le_refl _, fun k _ hk => setCells_far _ _ k (fun he => hk (by rw [he]))⟩)
end
def crash_R4.T : Bool × List (List Nat × List Nat) := (true, [([], []), ([0], [0]), ([1], [1]), ([], []), ([2, 3], [2, 3])])
def crash_R4.B : List Nat := [0, 1, 3, 0, 15]
theorem crash_R4.tab : rtab .any (opsOf Try.f23 4) = crash_R4.T := by kernel_rfl
theorem crash_R4.bits : waitsOk crash_R4.T.2 crash_R4.B = true := by kernel_rfl
def crash_R7.T : Bool × List (List Nat × List Nat) := (true, [([], []), ([0], [0]), ([1], [1]), ([], []), ([2, 3], [2, 3])])
def crash_R7.B : List Nat := [0, 1, 3, 0, 15]
theorem crash_R7.tab : rtab .any (opsOf Try.f23 7) = crash_R7.T := by kernel_rfl
theorem crash_R7.bits : waitsOk crash_R7.T.2 crash_R7.B = true := by kernel_rfl
theorem grown_new {w W W' : World} {p g : Nat} (h : w.grownBy W (some p)) (hg : W.grownBy W' (some g)) (hge : w.heap.size ≤ g) : w.grownBy W' (some p) :=
  ⟨hg.os.trans h.os, hg.tape.trans h.tape, hg.output.trans h.output, Nat.le_trans h.size hg.size, fun k hk hne => (hg.block k (Nat.lt_of_lt_of_le hk h.size) (fun he => by have := Option.some.inj he; omega)).trans (h.block k hk hne)⟩
/-- the state of the loop -/
structure CL (B N : Nat) (w W : World) (p : Nat) (s : AD) (u0 u1 lo : Value) (keep torn : Int) (i : Nat) (t : St) (v0 v1 : Value) : Prop where
  hp : W.heap[p]? = some (.cells (dcells v0 v1 t.2.2 u0 u1 s.now.2.2 lo s.left s.down) 58 (0, 0))
  h0 : BS B W v0 t.1
  h1 : BS B W v1 t.2.1
  l0 : t.1.length + tot (s.loose.drop i) ≤ N
  l1 : t.2.1.length + tot (s.loose.drop i) ≤ N
  k5 : Keeps 5 w W
  k62 : Keeps 69 w W
  hb : Below B w W
  hg : w.grownBy W (some p)
  hf : (kept keep torn s.loose 0).foldl doSt s.safe = (kept keep torn (s.loose.drop i) (i : Int)).foldl doSt t
theorem CL.below {B N : Nat} {w W W' : World} {p : Nat} {s : AD} {u0 u1 lo : Value} {keep torn : Int} {i : Nat} {t : St} {v0 v1 : Value} (h : CL B N w W p s u0 u1 lo keep torn i t v0 v1) (hb : Below W.heap.size W W') (hB : B ≤ W.heap.size) : CL B N w W' p s u0 u1 lo keep torn i t v0 v1 :=
  ⟨(hb.block p (blk_lt h.hp)).trans h.hp, h.h0.keep (Keeps.below hb), h.h1.keep (Keeps.below hb), h.l0, h.l1, h.k5.trans (Keeps.below hb), h.k62.trans (Keeps.below hb), h.hb.trans (hb.mono hB), World.grownBy.trans h.hg (grown_of_below hb (some p)), h.hf⟩
theorem drop_tot {l : List Chg} {i : Nat} (hi : i < l.length) : tot (l.drop i) = (l[i]).2.2.length + tot (l.drop (i + 1)) := by
  rw [List.drop_eq_getElem_cons hi, tot]
theorem kept_at {keep torn : Int} {l : List Chg} {i : Nat} (hi : i < l.length) (t : St) : (kept keep torn (l.drop i) (i : Int)).foldl doSt t =
    if (i : Int) < keep then (kept keep torn (l.drop (i + 1)) ((i + 1 : Nat) : Int)).foldl doSt (doSt t l[i]) else if l[i].1 = 0 ∧ 0 < torn then doSt t (l[i].1, l[i].2.1, l[i].2.2.take torn.toNat) else t := by
  rw [List.drop_eq_getElem_cons hi, kept]
  split
  · rw [List.foldl_cons]; norm_cast
  · split <;> rfl
/-- what is done when the loop has ended -/
theorem crash_end {B : Nat} {w W : World} {p : Nat} {s : AD} {u0 u1 lo : Value} {t : St} {v0 v1 : Value} (hb : Below B w W) (hgt : w.grownBy W (some p)) (hp : W.heap[p]? = some (.cells (dcells v0 v1 t.2.2 u0 u1 s.now.2.2 lo s.left s.down) 58 (0, 0))) (hB : B ≤ p) (h0 : BS B W v0 t.1) (h1 : BS B W v1 t.2.1)
    {W1 : World} {B0 B1 : Option Addr} {d0 d1 : Nat} (x0 : BS W.heap.size W1 (.slice B0 t.1.length d0) t.1) (x1 : BS W.heap.size W1 (.slice B1 t.2.1.length d1) t.2.1) (hb1 : Below W.heap.size W W1) :
    (∀ Y, RepL Y B ((((((W1.setCell ⟨p, 3, none⟩ (.slice B0 t.1.length d0)).setCell ⟨p, 4, none⟩ (.slice B1 t.2.1.length d1)).setCell ⟨p, 5, none⟩ (.int .i64 t.2.2)).setCell ⟨p, 6, none⟩ (.slice none 0 0)).setCell ⟨p, 7, none⟩ (.int .i64 (-1))).setCell ⟨p, 8, none⟩ (.bool false)) p ⟨t, t, [], -1, false⟩) ∧
    Below B w ((((((W1.setCell ⟨p, 3, none⟩ (.slice B0 t.1.length d0)).setCell ⟨p, 4, none⟩ (.slice B1 t.2.1.length d1)).setCell ⟨p, 5, none⟩ (.int .i64 t.2.2)).setCell ⟨p, 6, none⟩ (.slice none 0 0)).setCell ⟨p, 7, none⟩ (.int .i64 (-1))).setCell ⟨p, 8, none⟩ (.bool false)) ∧
    w.grownBy ((((((W1.setCell ⟨p, 3, none⟩ (.slice B0 t.1.length d0)).setCell ⟨p, 4, none⟩ (.slice B1 t.2.1.length d1)).setCell ⟨p, 5, none⟩ (.int .i64 t.2.2)).setCell ⟨p, 6, none⟩ (.slice none 0 0)).setCell ⟨p, 7, none⟩ (.int .i64 (-1))).setCell ⟨p, 8, none⟩ (.bool false)) (some p) := by
  have hBW : B ≤ W.heap.size := Nat.le_of_lt (Nat.lt_of_le_of_lt hB (blk_lt hp))
  have hp1 := blkK hb1 hp
  have hfin := blk_set (blk_set (blk_set (blk_set (blk_set (blk_set hp1 3 (.slice B0 t.1.length d0)) 4 (.slice B1 t.2.1.length d1)) 5 (.int .i64 t.2.2)) 6 (.slice none 0 0)) 7 (.int .i64 (-1))) 8 (.bool false)
  have hg := World.grownBy.trans (World.grownBy.trans (World.grownBy.trans (World.grownBy.trans (World.grownBy.trans (grown_set (W := W1) (k := p) (j := 3) (u := .slice B0 t.1.length d0)) (grown_set (j := 4) (u := .slice B1 t.2.1.length d1))) (grown_set (j := 5) (u := .int .i64 t.2.2))) (grown_set (j := 6) (u := .slice none 0 0))) (grown_set (j := 7) (u := .int .i64 (-1)))) (grown_set (j := 8) (u := .bool false))
  have k := Keeps.grown (t := 5) hg hp1 (by decide)
  have k0 := Keeps.below (t := 5) hb1
  exact ⟨fun Y => ⟨v0, v1, _, _, _, ⟨hB, hfin, h0.keep (k0.trans k), h1.keep (k0.trans k), (x0.lower hBW).keep k, (x1.lower hBW).keep k, LS.nil _ _⟩, fun k hk => by cases hk⟩, Below.grown (hb.trans (hb1.mono hBW)) hg (Nat.le_trans hBW hb1.size) (fun k hk => by cases hk; exact hB), World.grownBy.trans (World.grownBy.trans hgt (grown_of_below hb1 (some p))) hg⟩
theorem CL.far {B N : Nat} {w W0 W W' : World} {p g : Nat} {s : AD} {u0 u1 lo : Value} {keep torn : Int} {i : Nat} {t : St} {v0 v1 : Value} {cs : Array Value} (h : CL B N w W p s u0 u1 lo keep torn i t v0 v1) (hg : W.grownBy W' (some g)) (h0 : CL B N w W0 p s u0 u1 lo keep torn i t v0 v1) (hge : W0.heap.size ≤ g) (hB : B ≤ w.heap.size) (hc : W.heap[g]? = some (.cells cs 69 (0, 0))) : CL B N w W' p s u0 u1 lo keep torn i t v0 v1 :=
  ⟨(hg.block p (blk_lt h.hp) (fun he => by have := Option.some.inj he; have := blk_lt h0.hp; omega)).trans h.hp, h.h0.keep (Keeps.grown hg hc (by decide)), h.h1.keep (Keeps.grown hg hc (by decide)), h.l0, h.l1, h.k5.trans (Keeps.grown hg hc (by decide)),
   fun q cs' hq => (hg.block q (blk_lt (h.k62 q cs' hq)) (fun he => by have := Option.some.inj he; have := blk_lt (h0.k62 q cs' hq); omega)).trans (h.k62 q cs' hq), Below.grown h.hb hg (Nat.le_trans hB h.hb.size) (fun k hk => by cases hk; exact Nat.le_trans (Nat.le_trans hB h0.hb.size) hge), grown_new h.hg hg (Nat.le_trans h0.hb.size hge), h.hf⟩
set_option maxHeartbeats 16000000 in
set_option maxRecDepth 100000 in
theorem Crash_L {B p N : Nat} {s : AD} (w : World) (hR : Rep B w p s) (hO : Ok N s) (hN : N ≤ 500000000) (keep torn : Int) :
    Calls Try.prog 23 #[.pointer (some ⟨p, 0, none⟩), .int .i64 keep, .int .i64 torn] w fun e w' => e = .returned (.tuple #[]) ∧ (∀ Y, RepL Y B w' p (s.crash keep torn)) ∧ Below B w w' ∧ w.grownBy w' (some p) := by
  have HRB := Aside0.mk hR.base
  obtain ⟨v0, v1, u0, u1, lo, hR⟩ := hR
  have HR := Aside0.mk hR
  have HO := Aside0.mk hO
  have HN := Aside0.mk hN
  have HBP := Aside0.mk hR.hB
  obtain ⟨A6, c6, elo, hlc⟩ := hR.hl.len
  subst elo
  obtain ⟨lo, elo⟩ : ∃ lo, lo = Value.slice A6 s.loose.length c6 := ⟨_, rfl⟩
  have h6 : w.cell? ⟨p, 6, none⟩ = some (.slice A6 s.loose.length c6) := (blk_cell hR.hp 6).trans rfl
  rw [← elo] at HR
  have HLL := Aside0.mk (elo ▸ HR.out.hl)
  have HCR : Aside0 (s.crash keep torn = ⟨(kept keep torn s.loose 0).foldl doSt s.safe, (kept keep torn s.loose 0).foldl doSt s.safe, [], -1, false⟩) := ⟨rfl⟩
  rw [HCR.out]
  have HC0 := Aside0.mk (show CL B N w w p s u0 u1 lo keep torn 0 s.safe v0 v1 from ⟨HR.out.hp, HR.out.h0, HR.out.h1, hO.s0, hO.s1, Keeps.refl _ _, Keeps.refl _ _, Below.refl _ _, grown_of_below (Below.refl _ _) _, rfl⟩)
  have HLE := Aside0.mk (show s.loose.length ≤ 500000000 by have := hO.l; omega)
  have HELO := Aside0.mk elo
  clear hR hO hN hlc elo HCR
  go_enter Try.func23, Try.ntmps23
  go_wp2
  go_loopw [13] (fun v13 w' => ∃ (i : Nat) (t : St) (x0 x1 : Value), v13 = .int .i64 i ∧ i ≤ s.loose.length ∧ Aside0 (CL B N w w' p s u0 u1 lo keep torn i t x0 x1)) (fun v13 _ => s.loose.length - (intOf v13).toNat)
  case atStart => exact ⟨0, s.safe, v0, v1, rfl, Nat.zero_le _, HC0⟩
  case round =>
    obtain ⟨i, t, x0, x1, rfl, hi, HC⟩ := hrel
    clear h6
    by_cases hlt : i < s.loose.length
    · have hls := (HLL.out.keep HC.out.k5 HC.out.k62)
      obtain ⟨ga, vb, eA, q0, q1, q2, hvb⟩ := LS.get hls i hlt
      subst eA
      have HKA := Aside0.mk (kept_at (keep := keep) (torn := torn) hlt t)
      have HTD := Aside0.mk (drop_tot hlt)
      have HOKC := Aside0.mk (HO.out.c _ (List.getElem_mem hlt))
      have LT := Aside0.mk hlt
      generalize (s.loose[i]) = cc at q0 q1 q2 hvb HKA HTD HOKC
      obtain ⟨ck, ca, cb⟩ := cc
      dsimp only at q0 q1 q2 hvb
      obtain ⟨Ab, nb, rfl, _⟩ := id hvb
      have HBC0 := Aside0.mk hvb
      have hlt' : (i : Int) < (s.loose.length : Int) := by omega
      have LT2 := Aside0.mk hlt
      have hi9 : i < 500000000 := by have := HLE.out; omega
      clear hvb hls hlt
      by_cases hk : (i : Int) < keep
      · have HK := Aside0.mk hk
        rw [if_pos hk] at HKA
        have hk1 : decide ((i : Int) < keep) = true := decide_eq_true hk
        clear hk
        go_wp2_with (first
          | ((with_reducible refine gate_dst (N := 7) rfl ?_); refine box_event ?hg (N := 7) ?hd (cs := #[.int .i64 0, .int .i64 0, .slice none 0 0]) (t := 69) ?hr ?_; (case hd => rfl); (case hg => rfl); (case hr => first | (go_simp; done) | (go_simp; rfl)); intro g7 e7 w2 b7 hb2; have B7 := Aside0.mk b7; have HC2 := Aside0.mk (HC.out.below hb2 (Nat.le_trans HRB.out HC.out.hb.size)); have HBC2 := Aside0.mk (HBC0.out.keep (Keeps.below hb2)); have G7 := Aside0.mk (show wr.heap.size ≤ g7 from Nat.le_of_eq e7.symm); clear b7 hb2 e7)
          | ((with_reducible refine gate_ (.store 69 (.tmp 7) (.tmp 17)) rfl ?_); refine put_event (g := g7) (e := 69) rfl rfl 69 (.tmp 7) (.tmp 17) rfl rfl (.agg #[.int .i64 ck, .int .i64 ca, .slice Ab cb.length nb]) rfl (cs' := #[.int .i64 ck, .int .i64 ca, .slice Ab cb.length nb]) rfl (by kernel_rfl) (by simp [Value.oneCell']) B7.out rfl ?_; intro w3 b7 hg3; have HC3 := Aside0.mk (CL.far HC2.out hg3 HC.out G7.out HRB.out B7.out); have HBC := Aside0.mk (HBC2.out.keep (Keeps.grown hg3 B7.out (by decide))); have hg70 : w3.cell? ⟨g7, 0, none⟩ = some (.int .i64 ck) := (blk_cell b7 0).trans rfl; have hg71 : w3.cell? ⟨g7, 1, none⟩ = some (.int .i64 ca) := (blk_cell b7 1).trans rfl; have hg72 : w3.cell? ⟨g7, 2, none⟩ = some (.slice Ab cb.length nb) := (blk_cell b7 2).trans rfl; clear B7 b7 hg3 HC2 HBC2)
          | fail)
        have LC0 := Aside0.mk (show t.1.length + cb.length ≤ 1000000000 by have h1 := HC3.out.l0; have h2 := HTD.out; have h3 := HN.out; (try dsimp only at h2); omega)
        have LC1 := Aside0.mk (show t.2.1.length + cb.length ≤ 1000000000 by have h1 := HC3.out.l1; have h2 := HTD.out; have h3 := HN.out; (try dsimp only at h2); omega)
        refine start_ (n := 5) (S := fun w' => w'.cell? ⟨g7, 0, none⟩ = some (.int .i64 ck) ∧ w'.cell? ⟨g7, 1, none⟩ = some (.int .i64 ca) ∧ w'.cell? ⟨g7, 2, none⟩ = some (.slice Ab cb.length nb)) (ds := [4]) #[false, false, false, false, false] (by kernel_rfl) rfl rfl ⟨hg70, hg71, hg72⟩ (fun hHeld => ?_); refine with_tabW crash_R4.tab crash_R4.bits (fun HT_ HW_ => ?_)
        have HC4 := Aside0.mk (HC3.out.below (below_drew (Below.refl _ w3)) (Nat.le_trans HRB.out HC3.out.hb.size))
        have HBC4 := Aside0.mk (show BS B w3.drew (.slice Ab cb.length nb) cb from HBC.out)
        clear HBC
        have HBC := HBC4
        clear HBC4
        clear hg70 hg71 hg72
        generalize w3.drew = w4 at HC4 HBC hHeld ⊢
        refine pure_ (i := 0) (N := some 21) (v := ?_) (a' := ?_) #[true, false, false, false, false] rfl rfl (any_of HT_.out (by kernel_rfl)) (fun _ _ _ h => h) (Or.inl ⟨by rfl, ?_⟩) ?_ ?_
        rotate_left
        · intro w'
          go_simp
          with_reducible rfl
        rotate_left
        · simp only [Act.put, List.setIfInBounds_toArray, List.set_cons_zero, List.set_cons_succ, i64_w, i32_w]
          rfl
        refine pure_ (i := 1) (N := some 22) (v := ?_) (a' := ?_) #[true, true, false, false, false] rfl rfl (any_of HT_.out (by kernel_rfl)) (fun _ _ _ h => h) (Or.inl ⟨by rfl, ?_⟩) ?_ ?_
        rotate_left
        · intro w'
          go_simp
          with_reducible rfl
        rotate_left
        · simp only [Act.put, List.setIfInBounds_toArray, List.set_cons_zero, List.set_cons_succ, i64_w, i32_w]
          rfl
        refine pure_ (i := 2) (N := some 23) (v := ?_) (a' := ?_) #[true, true, true, false, false] rfl rfl (any_of HT_.out (by kernel_rfl)) (fun _ _ _ h => h) (Or.inl ⟨by rfl, ?_⟩) ?_ ?_
        rotate_left
        · intro w'
          go_simp
          with_reducible rfl
        rotate_left
        · simp only [Act.put, List.setIfInBounds_toArray, List.set_cons_zero, List.set_cons_succ, i64_w, i32_w]
          rfl
        refine take_ (i := 3) (N := some 24) (v := ?_) (a' := ?_) #[true, true, true, true, false] rfl rfl (take_ofW HT_.out HW_.out (by kernel_rfl)) (fun _ _ _ h => h) (Or.inl ⟨by rfl, ?_⟩) hHeld ?_ ?_
        rotate_left
        · rintro w' ⟨s0, s1, s2⟩
          go_simp
          with_reducible rfl
        rotate_left
        · simp only [Act.put, List.setIfInBounds_toArray, List.set_cons_zero, List.set_cons_succ, i64_w, i32_w]
          rfl
        refine last_ (i := 4) (N := some 25) #[true, true, true, true, true] rfl rfl (one_of HT_.out (by kernel_rfl)) (by decide) (fun K hK => ?_)
        refine goes_ Try.func34 (by kernel_rfl) rfl #[.pointer (some ⟨p, 0, none⟩), .agg #[.int .i64 ck, .int .i64 ca, .slice Ab cb.length nb]] (by rfl) rfl rfl (by (try simp only [List.map_toArray, List.map_cons, List.map_nil]); first | done | rfl) ?_
        refine (do_st (B := B) (o := 0) (t := t) w4 ck ca (Nat.le_trans HRB.out HC4.out.hb.size) HC4.out.hp rfl rfl rfl HC4.out.h0 HC4.out.h1 HBC.out HOKC.out LC0.out LC1.out).mono ?_
        rintro e w5 ⟨rfl, y0, y1, hp5, hy0, hy1, hg5⟩
        refine ⟨_, rfl, ?_⟩
        have HP5 := Aside0.mk (show w5.heap[p]? = some (.cells (dcells y0 y1 (doSt t (ck, ca, cb)).2.2 u0 u1 s.now.2.2 lo s.left s.down) 58 (0, 0)) from hp5)
        have HY0 := Aside0.mk hy0
        have HY1 := Aside0.mk hy1
        have HG5 := Aside0.mk hg5
        clear hp5 hy0 hy1 hg5 hHeld
        refine hK.out _ _ ?_
        clear hK K
        refine done_ (done_of HT_.out (by kernel_rfl)) ?_
        go_wp2
        go_roundw
        case rel =>
          refine ⟨i + 1, doSt t (ck, ca, cb), y0, y1, by go_num, LT2.out, ⟨HP5.out, HY0.out, HY1.out, ?_, ?_, HC4.out.k5.trans (Keeps.grown HG5.out HC4.out.hp (by decide)), HC4.out.k62.trans (Keeps.grown HG5.out HC4.out.hp (by decide)), Below.grown HC4.out.hb HG5.out (Nat.le_trans HRB.out HC4.out.hb.size) (fun k hk => by cases hk; exact HBP.out), World.grownBy.trans HC4.out.hg HG5.out, HC4.out.hf.trans HKA.out⟩⟩
          · have h1 := HC4.out.l0; have h2 := HTD.out; have h3 := (doSt_len t (ck, ca, cb)).1; (try dsimp only at h2 h3); omega
          · have h1 := HC4.out.l1; have h2 := HTD.out; have h3 := (doSt_len t (ck, ca, cb)).2; (try dsimp only at h2 h3); omega
        case measure => simp [intOf]; have := LT2.out; omega
      · have HK := Aside0.mk hk
        rw [if_neg hk] at HKA
        have hk1 : decide ((i : Int) < keep) = false := decide_eq_false hk
        clear hk
        by_cases hc : ck = 0 ∧ 0 < torn
        · rw [if_pos hc] at HKA
          obtain ⟨hc0, hc1⟩ := hc
          subst hc0
          rcases Int.lt_or_le (cb.length : Int) torn with hcmp | hcmp
          · have htk : cb.take torn.toNat = cb.take cb.length := by rw [List.take_of_length_le (by omega), List.take_of_length_le (Nat.le_refl _)]
            have hm : cb.length ≤ cb.length := Nat.le_refl _
            have HTK := Aside0.mk htk
            have hm0 : (0 : Int) ≤ (cb.length : Int) := by omega
            have hm1 : (cb.length : Int) ≤ (nb : Int) := by have := HBC0.out.length; omega
            have HM := Aside0.mk hm
            have hc2 := decide_eq_true hc1
            clear htk hm
            dsimp only at HKA
            rw [HTK.out] at HKA
            go_wp2_with (first
              | ((with_reducible refine gate_dst (N := 7) rfl ?_); refine box_event ?hg (N := 7) ?hd (cs := #[.int .i64 0, .int .i64 0, .slice none 0 0]) (t := 69) ?hr ?_; (case hd => rfl); (case hg => rfl); (case hr => first | (go_simp; done) | (go_simp; rfl)); intro g7 e7 w2 b7 hb2; have B7 := Aside0.mk b7; have HC2 := Aside0.mk (HC.out.below hb2 (Nat.le_trans HRB.out HC.out.hb.size)); have HBC2 := Aside0.mk (HBC0.out.keep (Keeps.below hb2)); have G7 := Aside0.mk (show wr.heap.size ≤ g7 from Nat.le_of_eq e7.symm); clear b7 hb2 e7)
              | ((with_reducible refine gate_ (.store 69 (.tmp 7) (.tmp 17)) rfl ?_); refine put_event (g := g7) (e := 69) rfl rfl 69 (.tmp 7) (.tmp 17) rfl rfl (.agg #[.int .i64 0, .int .i64 ca, .slice Ab cb.length nb]) rfl (cs' := #[.int .i64 0, .int .i64 ca, .slice Ab cb.length nb]) rfl (by kernel_rfl) (by simp [Value.oneCell']) B7.out rfl ?_; intro w3' b7 hg3; have HC3' := Aside0.mk (CL.far HC2.out hg3 HC.out G7.out HRB.out B7.out); have HBC' := Aside0.mk (HBC2.out.keep (Keeps.grown hg3 B7.out (by decide))); have hz0 : w3'.cell? ⟨g7, 0, none⟩ = some (.int .i64 0) := (blk_cell b7 0).trans rfl; have hz1 : w3'.cell? ⟨g7, 1, none⟩ = some (.int .i64 ca) := (blk_cell b7 1).trans rfl; have hz2 : w3'.cell? ⟨g7, 2, none⟩ = some (.slice Ab cb.length nb) := (blk_cell b7 2).trans rfl; have B7' := Aside0.mk b7; clear B7 b7 hg3 HC2 HBC2)
              | ((with_reducible refine gate_ (.store 28 (.tmp 41) (.tmp 40)) rfl ?_); refine put_field (g := g7) (j := 2) (e := 69) rfl rfl 28 (.tmp 41) (.tmp 40) rfl rfl (.slice Ab cb.length nb) ?hx rfl (by kernel_rfl) (by simp [Value.oneCell']) B7'.out (by simp) ?_; (case hx => first | rfl | (simp; done)); intro w3 b7 hg3; have HC3 := Aside0.mk (CL.far HC3'.out hg3 HC.out G7.out HRB.out B7'.out); have HBC := Aside0.mk ((HBC'.out.keep (Keeps.grown hg3 B7'.out (by decide))).take cb.length HM.out); have hg70 : w3.cell? ⟨g7, 0, none⟩ = some (.int .i64 0) := (blk_cell b7 0).trans rfl; have hg71 : w3.cell? ⟨g7, 1, none⟩ = some (.int .i64 ca) := (blk_cell b7 1).trans rfl; have hg72 : w3.cell? ⟨g7, 2, none⟩ = some (.slice Ab cb.length nb) := (blk_cell b7 2).trans rfl; clear B7' b7 hg3 HC3' HBC' hz0 hz1 hz2)
              | fail)
            have HTL := Aside0.mk (show (cb.take cb.length).length ≤ cb.length by rw [List.length_take]; omega)
            have HOKC2 := Aside0.mk (show okC (0, ca, cb.take cb.length) from HOKC.out)
            obtain ⟨cb', ecb⟩ : ∃ cb', cb' = cb.take cb.length := ⟨_, rfl⟩
            rw [← ecb] at HBC HTL HOKC2 HKA
            clear HOKC
            have HOKC := HOKC2
            clear HOKC2
            have LC0 := Aside0.mk (show t.1.length + cb'.length ≤ 1000000000 by have h1 := HC3.out.l0; have h2 := HTD.out; have h3 := HN.out; have h4 := HTL.out; (try dsimp only at h2); omega)
            have LC1 := Aside0.mk (show t.2.1.length + cb'.length ≤ 1000000000 by have h1 := HC3.out.l1; have h2 := HTD.out; have h3 := HN.out; have h4 := HTL.out; (try dsimp only at h2); omega)
            refine start_ (n := 5) (S := fun w' => w'.cell? ⟨g7, 0, none⟩ = some (.int .i64 0) ∧ w'.cell? ⟨g7, 1, none⟩ = some (.int .i64 ca) ∧ w'.cell? ⟨g7, 2, none⟩ = some (.slice Ab cb.length nb)) (ds := [4]) #[false, false, false, false, false] (by kernel_rfl) rfl rfl ⟨hg70, hg71, hg72⟩ (fun hHeld => ?_); refine with_tabW crash_R7.tab crash_R7.bits (fun HT_ HW_ => ?_)
            have HC4 := Aside0.mk (HC3.out.below (below_drew (Below.refl _ w3)) (Nat.le_trans HRB.out HC3.out.hb.size))
            have HBC4 := Aside0.mk (show BS B w3.drew (.slice Ab cb.length nb) cb' from HBC.out)
            clear HBC
            have HBC := HBC4
            clear HBC4
            clear hg70 hg71 hg72
            generalize w3.drew = w4 at HC4 HBC hHeld ⊢
            refine pure_ (i := 0) (N := some 42) (v := ?_) (a' := ?_) #[true, false, false, false, false] rfl rfl (any_of HT_.out (by kernel_rfl)) (fun _ _ _ h => h) (Or.inl ⟨by rfl, ?_⟩) ?_ ?_
            rotate_left
            · intro w'
              go_simp
              with_reducible rfl
            rotate_left
            · simp only [Act.put, List.setIfInBounds_toArray, List.set_cons_zero, List.set_cons_succ, i64_w, i32_w]
              rfl
            refine pure_ (i := 1) (N := some 43) (v := ?_) (a' := ?_) #[true, true, false, false, false] rfl rfl (any_of HT_.out (by kernel_rfl)) (fun _ _ _ h => h) (Or.inl ⟨by rfl, ?_⟩) ?_ ?_
            rotate_left
            · intro w'
              go_simp
              with_reducible rfl
            rotate_left
            · simp only [Act.put, List.setIfInBounds_toArray, List.set_cons_zero, List.set_cons_succ, i64_w, i32_w]
              rfl
            refine pure_ (i := 2) (N := some 44) (v := ?_) (a' := ?_) #[true, true, true, false, false] rfl rfl (any_of HT_.out (by kernel_rfl)) (fun _ _ _ h => h) (Or.inl ⟨by rfl, ?_⟩) ?_ ?_
            rotate_left
            · intro w'
              go_simp
              with_reducible rfl
            rotate_left
            · simp only [Act.put, List.setIfInBounds_toArray, List.set_cons_zero, List.set_cons_succ, i64_w, i32_w]
              rfl
            refine take_ (i := 3) (N := some 45) (v := ?_) (a' := ?_) #[true, true, true, true, false] rfl rfl (take_ofW HT_.out HW_.out (by kernel_rfl)) (fun _ _ _ h => h) (Or.inl ⟨by rfl, ?_⟩) hHeld ?_ ?_
            rotate_left
            · rintro w' ⟨s0, s1, s2⟩
              go_simp
              with_reducible rfl
            rotate_left
            · simp only [Act.put, List.setIfInBounds_toArray, List.set_cons_zero, List.set_cons_succ, i64_w, i32_w]
              rfl
            refine last_ (i := 4) (N := some 46) #[true, true, true, true, true] rfl rfl (one_of HT_.out (by kernel_rfl)) (by decide) (fun K hK => ?_)
            refine goes_ Try.func34 (by kernel_rfl) rfl #[.pointer (some ⟨p, 0, none⟩), .agg #[.int .i64 0, .int .i64 ca, .slice Ab cb.length nb]] (by rfl) rfl rfl (by (try simp only [List.map_toArray, List.map_cons, List.map_nil]); first | done | rfl) ?_
            refine (do_st (B := B) (o := 0) (t := t) w4 0 ca (Nat.le_trans HRB.out HC4.out.hb.size) HC4.out.hp rfl rfl rfl HC4.out.h0 HC4.out.h1 HBC.out HOKC.out LC0.out LC1.out).mono ?_
            rintro e w5 ⟨rfl, y0, y1, hp5, hy0, hy1, hg5⟩
            refine ⟨_, rfl, ?_⟩
            have HP5 := Aside0.mk (show w5.heap[p]? = some (.cells (dcells y0 y1 (doSt t (0, ca, cb')).2.2 u0 u1 s.now.2.2 lo s.left s.down) 58 (0, 0)) from hp5)
            have HY0 := Aside0.mk hy0
            have HY1 := Aside0.mk hy1
            have HG5 := Aside0.mk hg5
            clear hp5 hy0 hy1 hg5 hHeld
            refine hK.out _ _ ?_
            clear hK K
            refine done_ (done_of HT_.out (by kernel_rfl)) ?_
            have HPT := HP5
            have HT0 := HY0
            have HT1 := HY1
            have HBT := Aside0.mk (Below.grown HC4.out.hb HG5.out (Nat.le_trans HRB.out HC4.out.hb.size) (fun k hk => by cases hk; exact HBP.out))
            have HGT := Aside0.mk (World.grownBy.trans HC4.out.hg HG5.out)
            have HFT := Aside0.mk (HC4.out.hf.trans HKA.out)
            have HD := Aside0.mk (doSt_len t (0, ca, cb'))
            have LT0 := Aside0.mk (show (doSt t (0, ca, cb')).1.length ≤ 1000000000 by have h1 := LC0.out; have h2 := HD.out; (try dsimp only at h2); omega)
            have LT1 := Aside0.mk (show (doSt t (0, ca, cb')).2.1.length ≤ 1000000000 by have h1 := LC1.out; have h2 := HD.out; (try dsimp only at h2); omega)
            clear HD HC4 HG5 HY0 HY1 HP5 HC3 HC HTD HBC0 HBC LC0 LC1
            generalize doSt t (0, ca, cb') = t2 at HPT HT0 HT1 HFT LT0 LT1
            have e0 := blk_cell HPT.out 0
            obtain ⟨AA0, cc0, ev0, _⟩ := id HT0.out
            obtain ⟨AA1, cc1, ev1, _⟩ := id HT1.out
            clear e0
            subst ev0
            subst ev1
            go_wp2_with (first
              | (go_at_call 35; (with_reducible refine (copied_calls (o := 0) w5 HPT.out rfl rfl rfl HT0.out HT1.out LT0.out LT1.out).mono ?_); rintro e w1 ⟨B0, d0, B1, d1, rfl, hb0, hb1, hbw⟩; have HB0 := Aside0.mk hb0; have HB1 := Aside0.mk hb1; have BW := Aside0.mk hbw; have HP1 := Aside0.mk (blkK hbw HPT.out); clear hb0 hb1 hbw; have z3 : w1.cell? ⟨p, 3, none⟩ = some u0 := (blk_cell HP1.out 3).trans rfl; have z4 : w1.cell? ⟨p, 4, none⟩ = some u1 := (blk_cell HP1.out 4).trans rfl; have z5 : w1.cell? ⟨p, 5, none⟩ = some (.int .i64 s.now.2.2) := (blk_cell HP1.out 5).trans rfl; have z6 : w1.cell? ⟨p, 6, none⟩ = some lo := (blk_cell HP1.out 6).trans rfl; have z7 : w1.cell? ⟨p, 7, none⟩ = some (.int .i64 s.left) := (blk_cell HP1.out 7).trans rfl; have z8 : w1.cell? ⟨p, 8, none⟩ = some (.bool s.down) := (blk_cell HP1.out 8).trans rfl; have y3 := blk_frozen HP1.out 3; have y4 := blk_frozen HP1.out 4; have y5 := blk_frozen HP1.out 5; have y6 := blk_frozen HP1.out 6; have y7 := blk_frozen HP1.out 7; have y8 := blk_frozen HP1.out 8)
              | fail)
            go_end0
            have hce := crash_end HBT.out HGT.out HPT.out HBP.out HT0.out HT1.out HB0.out HB1.out BW.out
            refine ⟨rfl, ?_, hce.2.1, hce.2.2⟩
            rw [HFT.out]
            exact hce.1
          · obtain ⟨m, rfl⟩ := Int.eq_ofNat_of_zero_le (show 0 ≤ torn by omega)
            have htk : cb.take (m : Int).toNat = cb.take m := by rw [Int.toNat_natCast]
            have hm : m ≤ cb.length := by omega
            have hcmp1 : ¬ ((cb.length : Int) < (m : Int)) := by omega
            have hcmp2 : ¬ (cb.length < m) := by omega
            have hcmp3 : decide (cb.length < m) = false := decide_eq_false hcmp2
            clear hcmp
            have HTK := Aside0.mk htk
            have hm0 : (0 : Int) ≤ (m : Int) := by omega
            have hm1 : (m : Int) ≤ (nb : Int) := by have := HBC0.out.length; omega
            have HM := Aside0.mk hm
            have hc2 := decide_eq_true hc1
            clear htk hm
            dsimp only at HKA
            rw [HTK.out] at HKA
            go_wp2_with (first
              | ((with_reducible refine gate_dst (N := 7) rfl ?_); refine box_event ?hg (N := 7) ?hd (cs := #[.int .i64 0, .int .i64 0, .slice none 0 0]) (t := 69) ?hr ?_; (case hd => rfl); (case hg => rfl); (case hr => first | (go_simp; done) | (go_simp; rfl)); intro g7 e7 w2 b7 hb2; have B7 := Aside0.mk b7; have HC2 := Aside0.mk (HC.out.below hb2 (Nat.le_trans HRB.out HC.out.hb.size)); have HBC2 := Aside0.mk (HBC0.out.keep (Keeps.below hb2)); have G7 := Aside0.mk (show wr.heap.size ≤ g7 from Nat.le_of_eq e7.symm); clear b7 hb2 e7)
              | ((with_reducible refine gate_ (.store 69 (.tmp 7) (.tmp 17)) rfl ?_); refine put_event (g := g7) (e := 69) rfl rfl 69 (.tmp 7) (.tmp 17) rfl rfl (.agg #[.int .i64 0, .int .i64 ca, .slice Ab cb.length nb]) rfl (cs' := #[.int .i64 0, .int .i64 ca, .slice Ab cb.length nb]) rfl (by kernel_rfl) (by simp [Value.oneCell']) B7.out rfl ?_; intro w3' b7 hg3; have HC3' := Aside0.mk (CL.far HC2.out hg3 HC.out G7.out HRB.out B7.out); have HBC' := Aside0.mk (HBC2.out.keep (Keeps.grown hg3 B7.out (by decide))); have hz0 : w3'.cell? ⟨g7, 0, none⟩ = some (.int .i64 0) := (blk_cell b7 0).trans rfl; have hz1 : w3'.cell? ⟨g7, 1, none⟩ = some (.int .i64 ca) := (blk_cell b7 1).trans rfl; have hz2 : w3'.cell? ⟨g7, 2, none⟩ = some (.slice Ab cb.length nb) := (blk_cell b7 2).trans rfl; have B7' := Aside0.mk b7; clear B7 b7 hg3 HC2 HBC2)
              | ((with_reducible refine gate_ (.store 28 (.tmp 41) (.tmp 40)) rfl ?_); refine put_field (g := g7) (j := 2) (e := 69) rfl rfl 28 (.tmp 41) (.tmp 40) rfl rfl (.slice Ab m nb) ?hx rfl (by kernel_rfl) (by simp [Value.oneCell']) B7'.out (by simp) ?_; (case hx => first | rfl | (simp; done)); intro w3 b7 hg3; have HC3 := Aside0.mk (CL.far HC3'.out hg3 HC.out G7.out HRB.out B7'.out); have HBC := Aside0.mk ((HBC'.out.keep (Keeps.grown hg3 B7'.out (by decide))).take m HM.out); have hg70 : w3.cell? ⟨g7, 0, none⟩ = some (.int .i64 0) := (blk_cell b7 0).trans rfl; have hg71 : w3.cell? ⟨g7, 1, none⟩ = some (.int .i64 ca) := (blk_cell b7 1).trans rfl; have hg72 : w3.cell? ⟨g7, 2, none⟩ = some (.slice Ab m nb) := (blk_cell b7 2).trans rfl; clear B7' b7 hg3 HC3' HBC' hz0 hz1 hz2)
              | fail)
            have HTL := Aside0.mk (show (cb.take m).length ≤ cb.length by rw [List.length_take]; omega)
            have HOKC2 := Aside0.mk (show okC (0, ca, cb.take m) from HOKC.out)
            obtain ⟨cb', ecb⟩ : ∃ cb', cb' = cb.take m := ⟨_, rfl⟩
            rw [← ecb] at HBC HTL HOKC2 HKA
            clear HOKC
            have HOKC := HOKC2
            clear HOKC2
            have LC0 := Aside0.mk (show t.1.length + cb'.length ≤ 1000000000 by have h1 := HC3.out.l0; have h2 := HTD.out; have h3 := HN.out; have h4 := HTL.out; (try dsimp only at h2); omega)
            have LC1 := Aside0.mk (show t.2.1.length + cb'.length ≤ 1000000000 by have h1 := HC3.out.l1; have h2 := HTD.out; have h3 := HN.out; have h4 := HTL.out; (try dsimp only at h2); omega)
            refine start_ (n := 5) (S := fun w' => w'.cell? ⟨g7, 0, none⟩ = some (.int .i64 0) ∧ w'.cell? ⟨g7, 1, none⟩ = some (.int .i64 ca) ∧ w'.cell? ⟨g7, 2, none⟩ = some (.slice Ab m nb)) (ds := [4]) #[false, false, false, false, false] (by kernel_rfl) rfl rfl ⟨hg70, hg71, hg72⟩ (fun hHeld => ?_); refine with_tabW crash_R7.tab crash_R7.bits (fun HT_ HW_ => ?_)
            have HC4 := Aside0.mk (HC3.out.below (below_drew (Below.refl _ w3)) (Nat.le_trans HRB.out HC3.out.hb.size))
            have HBC4 := Aside0.mk (show BS B w3.drew (.slice Ab m nb) cb' from HBC.out)
            clear HBC
            have HBC := HBC4
            clear HBC4
            clear hg70 hg71 hg72
            generalize w3.drew = w4 at HC4 HBC hHeld ⊢
            refine pure_ (i := 0) (N := some 42) (v := ?_) (a' := ?_) #[true, false, false, false, false] rfl rfl (any_of HT_.out (by kernel_rfl)) (fun _ _ _ h => h) (Or.inl ⟨by rfl, ?_⟩) ?_ ?_
            rotate_left
            · intro w'
              go_simp
              with_reducible rfl
            rotate_left
            · simp only [Act.put, List.setIfInBounds_toArray, List.set_cons_zero, List.set_cons_succ, i64_w, i32_w]
              rfl
            refine pure_ (i := 1) (N := some 43) (v := ?_) (a' := ?_) #[true, true, false, false, false] rfl rfl (any_of HT_.out (by kernel_rfl)) (fun _ _ _ h => h) (Or.inl ⟨by rfl, ?_⟩) ?_ ?_
            rotate_left
            · intro w'
              go_simp
              with_reducible rfl
            rotate_left
            · simp only [Act.put, List.setIfInBounds_toArray, List.set_cons_zero, List.set_cons_succ, i64_w, i32_w]
              rfl
            refine pure_ (i := 2) (N := some 44) (v := ?_) (a' := ?_) #[true, true, true, false, false] rfl rfl (any_of HT_.out (by kernel_rfl)) (fun _ _ _ h => h) (Or.inl ⟨by rfl, ?_⟩) ?_ ?_
            rotate_left
            · intro w'
              go_simp
              with_reducible rfl
            rotate_left
            · simp only [Act.put, List.setIfInBounds_toArray, List.set_cons_zero, List.set_cons_succ, i64_w, i32_w]
              rfl
            refine take_ (i := 3) (N := some 45) (v := ?_) (a' := ?_) #[true, true, true, true, false] rfl rfl (take_ofW HT_.out HW_.out (by kernel_rfl)) (fun _ _ _ h => h) (Or.inl ⟨by rfl, ?_⟩) hHeld ?_ ?_
            rotate_left
            · rintro w' ⟨s0, s1, s2⟩
              go_simp
              with_reducible rfl
            rotate_left
            · simp only [Act.put, List.setIfInBounds_toArray, List.set_cons_zero, List.set_cons_succ, i64_w, i32_w]
              rfl
            refine last_ (i := 4) (N := some 46) #[true, true, true, true, true] rfl rfl (one_of HT_.out (by kernel_rfl)) (by decide) (fun K hK => ?_)
            refine goes_ Try.func34 (by kernel_rfl) rfl #[.pointer (some ⟨p, 0, none⟩), .agg #[.int .i64 0, .int .i64 ca, .slice Ab m nb]] (by rfl) rfl rfl (by (try simp only [List.map_toArray, List.map_cons, List.map_nil]); first | done | rfl) ?_
            refine (do_st (B := B) (o := 0) (t := t) w4 0 ca (Nat.le_trans HRB.out HC4.out.hb.size) HC4.out.hp rfl rfl rfl HC4.out.h0 HC4.out.h1 HBC.out HOKC.out LC0.out LC1.out).mono ?_
            rintro e w5 ⟨rfl, y0, y1, hp5, hy0, hy1, hg5⟩
            refine ⟨_, rfl, ?_⟩
            have HP5 := Aside0.mk (show w5.heap[p]? = some (.cells (dcells y0 y1 (doSt t (0, ca, cb')).2.2 u0 u1 s.now.2.2 lo s.left s.down) 58 (0, 0)) from hp5)
            have HY0 := Aside0.mk hy0
            have HY1 := Aside0.mk hy1
            have HG5 := Aside0.mk hg5
            clear hp5 hy0 hy1 hg5 hHeld
            refine hK.out _ _ ?_
            clear hK K
            refine done_ (done_of HT_.out (by kernel_rfl)) ?_
            have HPT := HP5
            have HT0 := HY0
            have HT1 := HY1
            have HBT := Aside0.mk (Below.grown HC4.out.hb HG5.out (Nat.le_trans HRB.out HC4.out.hb.size) (fun k hk => by cases hk; exact HBP.out))
            have HGT := Aside0.mk (World.grownBy.trans HC4.out.hg HG5.out)
            have HFT := Aside0.mk (HC4.out.hf.trans HKA.out)
            have HD := Aside0.mk (doSt_len t (0, ca, cb'))
            have LT0 := Aside0.mk (show (doSt t (0, ca, cb')).1.length ≤ 1000000000 by have h1 := LC0.out; have h2 := HD.out; (try dsimp only at h2); omega)
            have LT1 := Aside0.mk (show (doSt t (0, ca, cb')).2.1.length ≤ 1000000000 by have h1 := LC1.out; have h2 := HD.out; (try dsimp only at h2); omega)
            clear HD HC4 HG5 HY0 HY1 HP5 HC3 HC HTD HBC0 HBC LC0 LC1
            generalize doSt t (0, ca, cb') = t2 at HPT HT0 HT1 HFT LT0 LT1
            have e0 := blk_cell HPT.out 0
            obtain ⟨AA0, cc0, ev0, _⟩ := id HT0.out
            obtain ⟨AA1, cc1, ev1, _⟩ := id HT1.out
            clear e0
            subst ev0
            subst ev1
            go_wp2_with (first
              | (go_at_call 35; (with_reducible refine (copied_calls (o := 0) w5 HPT.out rfl rfl rfl HT0.out HT1.out LT0.out LT1.out).mono ?_); rintro e w1 ⟨B0, d0, B1, d1, rfl, hb0, hb1, hbw⟩; have HB0 := Aside0.mk hb0; have HB1 := Aside0.mk hb1; have BW := Aside0.mk hbw; have HP1 := Aside0.mk (blkK hbw HPT.out); clear hb0 hb1 hbw; have z3 : w1.cell? ⟨p, 3, none⟩ = some u0 := (blk_cell HP1.out 3).trans rfl; have z4 : w1.cell? ⟨p, 4, none⟩ = some u1 := (blk_cell HP1.out 4).trans rfl; have z5 : w1.cell? ⟨p, 5, none⟩ = some (.int .i64 s.now.2.2) := (blk_cell HP1.out 5).trans rfl; have z6 : w1.cell? ⟨p, 6, none⟩ = some lo := (blk_cell HP1.out 6).trans rfl; have z7 : w1.cell? ⟨p, 7, none⟩ = some (.int .i64 s.left) := (blk_cell HP1.out 7).trans rfl; have z8 : w1.cell? ⟨p, 8, none⟩ = some (.bool s.down) := (blk_cell HP1.out 8).trans rfl; have y3 := blk_frozen HP1.out 3; have y4 := blk_frozen HP1.out 4; have y5 := blk_frozen HP1.out 5; have y6 := blk_frozen HP1.out 6; have y7 := blk_frozen HP1.out 7; have y8 := blk_frozen HP1.out 8)
              | fail)
            go_end0
            have hce := crash_end HBT.out HGT.out HPT.out HBP.out HT0.out HT1.out HB0.out HB1.out BW.out
            refine ⟨rfl, ?_, hce.2.1, hce.2.2⟩
            rw [HFT.out]
            exact hce.1
        · rw [if_neg hc] at HKA
          have hcc : (ck == 0) = false ∨ ((ck == 0) = true ∧ decide (torn > 0) = false) := by
            by_cases h0 : ck = 0
            · exact .inr ⟨beq_iff_eq.2 h0, decide_eq_false (fun h => hc ⟨h0, h⟩)⟩
            · exact .inl (beq_eq_false_iff_ne.2 h0)
          clear hc
          rcases hcc with hcc | ⟨hcc, hcc2⟩
          · go_wp2_with (first
              | ((with_reducible refine gate_dst (N := 7) rfl ?_); refine box_event ?hg (N := 7) ?hd (cs := #[.int .i64 0, .int .i64 0, .slice none 0 0]) (t := 69) ?hr ?_; (case hd => rfl); (case hg => rfl); (case hr => first | (go_simp; done) | (go_simp; rfl)); intro g7 e7 w2 b7 hb2; have B7 := Aside0.mk b7; have HC2 := Aside0.mk (HC.out.below hb2 (Nat.le_trans HRB.out HC.out.hb.size)); have G7 := Aside0.mk (show wr.heap.size ≤ g7 from Nat.le_of_eq e7.symm); clear b7 hb2 e7)
              | ((with_reducible refine gate_ (.store 69 (.tmp 7) (.tmp 17)) rfl ?_); refine put_event (g := g7) (e := 69) rfl rfl 69 (.tmp 7) (.tmp 17) rfl rfl (.agg #[.int .i64 ck, .int .i64 ca, .slice Ab cb.length nb]) rfl (cs' := #[.int .i64 ck, .int .i64 ca, .slice Ab cb.length nb]) rfl (by kernel_rfl) (by simp [Value.oneCell']) B7.out rfl ?_; intro w3 b7 hg3; have HC3 := Aside0.mk (CL.far HC2.out hg3 HC.out G7.out HRB.out B7.out); have hg70 : w3.cell? ⟨g7, 0, none⟩ = some (.int .i64 ck) := (blk_cell b7 0).trans rfl; have HPT := Aside0.mk HC3.out.hp; have HT0 := Aside0.mk HC3.out.h0; have HT1 := Aside0.mk HC3.out.h1; have HBT := Aside0.mk HC3.out.hb; have HGT := Aside0.mk HC3.out.hg; have HFT := Aside0.mk (HC3.out.hf.trans HKA.out); have LT0 := Aside0.mk (show t.1.length ≤ 1000000000 by have h1 := HC3.out.l0; have h3 := HN.out; omega); have LT1 := Aside0.mk (show t.2.1.length ≤ 1000000000 by have h1 := HC3.out.l1; have h3 := HN.out; omega); clear B7 b7 hg3 HC2)
              | fail)
            have e0 := blk_cell HPT.out 0
            obtain ⟨AA0, cc0, ev0, _⟩ := id HT0.out
            obtain ⟨AA1, cc1, ev1, _⟩ := id HT1.out
            clear e0
            subst ev0
            subst ev1
            go_wp2_with (first
              | (go_at_call 35; (with_reducible refine (copied_calls (o := 0) w3 HPT.out rfl rfl rfl HT0.out HT1.out LT0.out LT1.out).mono ?_); rintro e w1 ⟨B0, d0, B1, d1, rfl, hb0, hb1, hbw⟩; have HB0 := Aside0.mk hb0; have HB1 := Aside0.mk hb1; have BW := Aside0.mk hbw; have HP1 := Aside0.mk (blkK hbw HPT.out); clear hb0 hb1 hbw; have z3 : w1.cell? ⟨p, 3, none⟩ = some u0 := (blk_cell HP1.out 3).trans rfl; have z4 : w1.cell? ⟨p, 4, none⟩ = some u1 := (blk_cell HP1.out 4).trans rfl; have z5 : w1.cell? ⟨p, 5, none⟩ = some (.int .i64 s.now.2.2) := (blk_cell HP1.out 5).trans rfl; have z6 : w1.cell? ⟨p, 6, none⟩ = some lo := (blk_cell HP1.out 6).trans rfl; have z7 : w1.cell? ⟨p, 7, none⟩ = some (.int .i64 s.left) := (blk_cell HP1.out 7).trans rfl; have z8 : w1.cell? ⟨p, 8, none⟩ = some (.bool s.down) := (blk_cell HP1.out 8).trans rfl; have y3 := blk_frozen HP1.out 3; have y4 := blk_frozen HP1.out 4; have y5 := blk_frozen HP1.out 5; have y6 := blk_frozen HP1.out 6; have y7 := blk_frozen HP1.out 7; have y8 := blk_frozen HP1.out 8)
              | fail)
            go_end0
            have hce := crash_end HBT.out HGT.out HPT.out HBP.out HT0.out HT1.out HB0.out HB1.out BW.out
            refine ⟨rfl, ?_, hce.2.1, hce.2.2⟩
            rw [HFT.out]
            exact hce.1
          · go_wp2_with (first
              | ((with_reducible refine gate_dst (N := 7) rfl ?_); refine box_event ?hg (N := 7) ?hd (cs := #[.int .i64 0, .int .i64 0, .slice none 0 0]) (t := 69) ?hr ?_; (case hd => rfl); (case hg => rfl); (case hr => first | (go_simp; done) | (go_simp; rfl)); intro g7 e7 w2 b7 hb2; have B7 := Aside0.mk b7; have HC2 := Aside0.mk (HC.out.below hb2 (Nat.le_trans HRB.out HC.out.hb.size)); have G7 := Aside0.mk (show wr.heap.size ≤ g7 from Nat.le_of_eq e7.symm); clear b7 hb2 e7)
              | ((with_reducible refine gate_ (.store 69 (.tmp 7) (.tmp 17)) rfl ?_); refine put_event (g := g7) (e := 69) rfl rfl 69 (.tmp 7) (.tmp 17) rfl rfl (.agg #[.int .i64 ck, .int .i64 ca, .slice Ab cb.length nb]) rfl (cs' := #[.int .i64 ck, .int .i64 ca, .slice Ab cb.length nb]) rfl (by kernel_rfl) (by simp [Value.oneCell']) B7.out rfl ?_; intro w3 b7 hg3; have HC3 := Aside0.mk (CL.far HC2.out hg3 HC.out G7.out HRB.out B7.out); have hg70 : w3.cell? ⟨g7, 0, none⟩ = some (.int .i64 ck) := (blk_cell b7 0).trans rfl; have HPT := Aside0.mk HC3.out.hp; have HT0 := Aside0.mk HC3.out.h0; have HT1 := Aside0.mk HC3.out.h1; have HBT := Aside0.mk HC3.out.hb; have HGT := Aside0.mk HC3.out.hg; have HFT := Aside0.mk (HC3.out.hf.trans HKA.out); have LT0 := Aside0.mk (show t.1.length ≤ 1000000000 by have h1 := HC3.out.l0; have h3 := HN.out; omega); have LT1 := Aside0.mk (show t.2.1.length ≤ 1000000000 by have h1 := HC3.out.l1; have h3 := HN.out; omega); clear B7 b7 hg3 HC2)
              | fail)
            have e0 := blk_cell HPT.out 0
            obtain ⟨AA0, cc0, ev0, _⟩ := id HT0.out
            obtain ⟨AA1, cc1, ev1, _⟩ := id HT1.out
            clear e0
            subst ev0
            subst ev1
            go_wp2_with (first
              | (go_at_call 35; (with_reducible refine (copied_calls (o := 0) w3 HPT.out rfl rfl rfl HT0.out HT1.out LT0.out LT1.out).mono ?_); rintro e w1 ⟨B0, d0, B1, d1, rfl, hb0, hb1, hbw⟩; have HB0 := Aside0.mk hb0; have HB1 := Aside0.mk hb1; have BW := Aside0.mk hbw; have HP1 := Aside0.mk (blkK hbw HPT.out); clear hb0 hb1 hbw; have z3 : w1.cell? ⟨p, 3, none⟩ = some u0 := (blk_cell HP1.out 3).trans rfl; have z4 : w1.cell? ⟨p, 4, none⟩ = some u1 := (blk_cell HP1.out 4).trans rfl; have z5 : w1.cell? ⟨p, 5, none⟩ = some (.int .i64 s.now.2.2) := (blk_cell HP1.out 5).trans rfl; have z6 : w1.cell? ⟨p, 6, none⟩ = some lo := (blk_cell HP1.out 6).trans rfl; have z7 : w1.cell? ⟨p, 7, none⟩ = some (.int .i64 s.left) := (blk_cell HP1.out 7).trans rfl; have z8 : w1.cell? ⟨p, 8, none⟩ = some (.bool s.down) := (blk_cell HP1.out 8).trans rfl; have y3 := blk_frozen HP1.out 3; have y4 := blk_frozen HP1.out 4; have y5 := blk_frozen HP1.out 5; have y6 := blk_frozen HP1.out 6; have y7 := blk_frozen HP1.out 7; have y8 := blk_frozen HP1.out 8)
              | fail)
            go_end0
            have hce := crash_end HBT.out HGT.out HPT.out HBP.out HT0.out HT1.out HB0.out HB1.out BW.out
            refine ⟨rfl, ?_, hce.2.1, hce.2.2⟩
            rw [HFT.out]
            exact hce.1
    · have hk' : i = s.loose.length := by omega
      subst hk'
      have HPT := Aside0.mk HC.out.hp
      have HT0 := Aside0.mk HC.out.h0
      have HT1 := Aside0.mk HC.out.h1
      have HBT := Aside0.mk HC.out.hb
      have HGT := Aside0.mk HC.out.hg
      have HFT := Aside0.mk (show (kept keep torn s.loose 0).foldl doSt s.safe = t by have := HC.out.hf; rw [List.drop_eq_nil_of_le (Nat.le_refl _)] at this; exact this)
      have LT0 := Aside0.mk (show t.1.length ≤ 1000000000 by have h1 := HC.out.l0; have h3 := HN.out; omega)
      have LT1 := Aside0.mk (show t.2.1.length ≤ 1000000000 by have h1 := HC.out.l1; have h3 := HN.out; omega)
      have e0 := blk_cell HPT.out 0
      obtain ⟨AA0, cc0, ev0, _⟩ := id HT0.out
      obtain ⟨AA1, cc1, ev1, _⟩ := id HT1.out
      clear e0
      subst ev0
      subst ev1
      go_wp2_with (first
        | (go_at_call 35; (with_reducible refine (copied_calls (o := 0) wr HPT.out rfl rfl rfl HT0.out HT1.out LT0.out LT1.out).mono ?_); rintro e w1 ⟨B0, d0, B1, d1, rfl, hb0, hb1, hbw⟩; have HB0 := Aside0.mk hb0; have HB1 := Aside0.mk hb1; have BW := Aside0.mk hbw; have HP1 := Aside0.mk (blkK hbw HPT.out); clear hb0 hb1 hbw; have z3 : w1.cell? ⟨p, 3, none⟩ = some u0 := (blk_cell HP1.out 3).trans rfl; have z4 : w1.cell? ⟨p, 4, none⟩ = some u1 := (blk_cell HP1.out 4).trans rfl; have z5 : w1.cell? ⟨p, 5, none⟩ = some (.int .i64 s.now.2.2) := (blk_cell HP1.out 5).trans rfl; have z6 : w1.cell? ⟨p, 6, none⟩ = some lo := (blk_cell HP1.out 6).trans rfl; have z7 : w1.cell? ⟨p, 7, none⟩ = some (.int .i64 s.left) := (blk_cell HP1.out 7).trans rfl; have z8 : w1.cell? ⟨p, 8, none⟩ = some (.bool s.down) := (blk_cell HP1.out 8).trans rfl; have y3 := blk_frozen HP1.out 3; have y4 := blk_frozen HP1.out 4; have y5 := blk_frozen HP1.out 5; have y6 := blk_frozen HP1.out 6; have y7 := blk_frozen HP1.out 7; have y8 := blk_frozen HP1.out 8)
        | fail)
      go_end0
      have hce := crash_end HBT.out HGT.out HPT.out HBP.out HT0.out HT1.out HB0.out HB1.out BW.out
      refine ⟨rfl, ?_, hce.2.1, hce.2.2⟩
      rw [HFT.out]
      exact hce.1
theorem Crash_calls {B p N : Nat} {s : AD} (w : World) (hR : Rep B w p s) (hO : Ok N s) (hN : N ≤ 500000000) (keep torn : Int) :
    Calls Try.prog 23 #[.pointer (some ⟨p, 0, none⟩), .int .i64 keep, .int .i64 torn] w fun e w' => e = .returned (.tuple #[]) ∧ Rep B w' p (s.crash keep torn) ∧ Below B w w' ∧ w.grownBy w' (some p) :=
  (Crash_L w hR hO hN keep torn).mono fun e w' h => ⟨h.1, (h.2.1 (fun _ => False)).rep, h.2.2⟩
end Go.Proofs.Ytdbkedipfpepbaa.PWal
