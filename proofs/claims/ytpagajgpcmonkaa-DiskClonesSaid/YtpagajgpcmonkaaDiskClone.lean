/- The walk of Disk.Clone. -/
import Derived.Test.YtpagajgpcmonkaaDiskCrash
namespace Go.Proofs.Ytpagajgpcmonkaa.PDisk
open Go.RowKit Go.Proofs.YtpagajgpcmonkaaW.PrintWords Go.Proofs.YtpagajgpcmonkaaW.PrintLast Go.Proofs.YtpagajgpcmonkaaW.PrintMore
set_option linter.unusedVariables false
set_option linter.unusedSimpArgs false
def clone_R1.T : Bool × List (List Nat × List Nat) := (true, [([], []), ([0], [0]), ([1], [1]), ([2], [2]), ([], []), ([4], [4]), ([5], [5]), ([6, 3], [6]), ([], []), ([8], [8]), ([9], [9]), ([10], [10]), ([], []), ([12], [12]), ([13], [13]), ([14], [14]), ([3, 7, 11, 15], [3, 7, 11, 15]), ([16], [16]), ([17, 7, 0, 1, 2, 3, 4, 5, 6, 7, 8, 9, 10, 11, 12, 13, 14, 15, 16, 17], [17])])
def clone_R1.B : List Nat := [0, 1, 3, 7, 0, 16, 48, 127, 0, 256, 768, 1792, 0, 4096, 12288, 28672, 65535, 131071, 262143]
theorem clone_R1.tab : rtab .any (opsOf Try.f24 1) = clone_R1.T := by kernel_rfl
theorem clone_R1.bits : waitsOk clone_R1.T.2 clone_R1.B = true := by kernel_rfl
def clone_R6.T : Bool × List (List Nat × List Nat) := (true, [([], []), ([], []), ([1], [1]), ([2], [2]), ([3], [3]), ([], []), ([5], [5]), ([4, 6], [4, 6]), ([0, 0, 1, 2, 3, 4, 5, 6, 7], [0]), ([8, 0, 1, 2, 3, 4, 5, 6, 7], [8]), ([9, 7, 7, 0, 1, 2, 3, 4, 5, 6, 7], [7, 9])])
def clone_R6.B : List Nat := [0, 0, 2, 6, 14, 0, 32, 126, 255, 511, 1023]
theorem clone_R6.tab : rtab .any (opsOf Try.f24 6) = clone_R6.T := by kernel_rfl
theorem clone_R6.bits : waitsOk clone_R6.T.2 clone_R6.B = true := by kernel_rfl
/-- the state of the loop -/
structure CN (w W : World) (q : Nat) (s : AD) (x0 x1 x2 x3 : Value) (i : Nat) (A : Option Addr) (c : Nat) (ys : List (Chg × Value)) : Prop where
  hq : W.heap[q]? = some (.cells (dcells x0 x1 s.safe.2.2 x2 x3 s.now.2.2 (.slice A i c) s.left s.down) 58 (0, 0))
  q0 : w.heap.size ≤ q
  b0 : BS w.heap.size W x0 s.safe.1
  b1 : BS w.heap.size W x1 s.safe.2.1
  b2 : BS w.heap.size W x2 s.now.1
  b3 : BS w.heap.size W x3 s.now.2.1
  e : ys.map Prod.fst = s.loose.take i
  ho : W.ownsRow w.heap.size 62 3 (.slice A i c) i (ys.flatMap chgV)
  hy : ∀ y ∈ ys, BS w.heap.size W y.2 y.1.2.2
  hb : Below w.heap.size w W
theorem CN.keep {w W W' : World} {q : Nat} {s : AD} {x0 x1 x2 x3 : Value} {i : Nat} {A : Option Addr} {c : Nat} {ys : List (Chg × Value)} (h : CN w W q s x0 x1 x2 x3 i A c ys) (hq : W'.heap[q]? = W.heap[q]?) (k5 : Keeps 5 W W') (ho : W'.ownsRow w.heap.size 62 3 (.slice A i c) i (ys.flatMap chgV)) (hb : Below w.heap.size w W') : CN w W' q s x0 x1 x2 x3 i A c ys :=
  ⟨hq.trans h.hq, h.q0, h.b0.keep k5, h.b1.keep k5, h.b2.keep k5, h.b3.keep k5, h.e, ho, fun y hy => (h.hy y hy).keep k5, hb⟩
theorem CN.below {w W W' : World} {q : Nat} {s : AD} {x0 x1 x2 x3 : Value} {i : Nat} {A : Option Addr} {c : Nat} {ys : List (Chg × Value)} (h : CN w W q s x0 x1 x2 x3 i A c ys) (hb : Below W.heap.size W W') : CN w W' q s x0 x1 x2 x3 i A c ys :=
  h.keep (hb.block q (blk_lt h.hq)) (Keeps.below hb) (owns_keep h.ho (Keeps.below hb)) (below_step h.hb hb)
theorem CN.far {w W0 W W' : World} {q g : Nat} {s : AD} {x0 x1 x2 x3 : Value} {i : Nat} {A : Option Addr} {c : Nat} {ys : List (Chg × Value)} {cs : Array Value} (h : CN w W q s x0 x1 x2 x3 i A c ys) (hg : W.grownBy W' (some g)) (h0 : CN w W0 q s x0 x1 x2 x3 i A c ys) (hge : W0.heap.size ≤ g) (hc : W.heap[g]? = some (.cells cs 62 (0, 0))) : CN w W' q s x0 x1 x2 x3 i A c ys := by
  have hq0 := blk_lt h0.hq
  refine h.keep (hg.block q (blk_lt h.hq) (fun he => by have := Option.some.inj he; omega)) (Keeps.grown hg hc (by decide)) ⟨h.ho.1, ?_⟩ (Below.grown h.hb hg h.hb.size (fun k hk => by cases hk; exact Nat.le_trans h0.hb.size hge))
  rcases h.ho.2 with h1 | ⟨g', cap, cur, hv, hB, hg', r⟩
  · exact .inl h1
  · have hlt : g' < W0.heap.size := by
      have := owns_blocks h0.ho g' (by rw [hv]; rfl)
      exact this.2.1
    exact .inr ⟨g', cap, cur, hv, hB, (hg.block g' (blk_lt hg') (fun he => by have := Option.some.inj he; omega)).trans hg', r⟩
theorem tot_mem (l : List Chg) (c : Chg) (hc : c ∈ l) : c.2.2.length ≤ tot l := by
  induction l with
  | nil => cases hc
  | cons d l ih =>
    unfold tot
    rcases List.mem_cons.1 hc with rfl | h
    · omega
    · have := ih h; omega
set_option maxHeartbeats 16000000 in
set_option maxRecDepth 100000 in
theorem Clone_calls {B p N : Nat} {s : AD} (w : World) (hR : Rep B w p s) (hO : Ok N s) (hN : N ≤ 500000000) :
    Calls Try.prog 24 #[.pointer (some ⟨p, 0, none⟩)] w fun e w' => ∃ q, e = .returned (.pointer (some ⟨q, 0, none⟩)) ∧ Rep w.heap.size w' q s ∧ Below w.heap.size w w' := by
  obtain ⟨v0, v1, u0, u1, lo, hR⟩ := hR
  obtain ⟨a0, m0, rfl, _⟩ := id hR.h0
  obtain ⟨a1, m1, rfl, _⟩ := id hR.h1
  obtain ⟨a2, m2, rfl, _⟩ := id hR.k0
  obtain ⟨a3, m3, rfl, _⟩ := id hR.k1
  have HR := Aside0.mk hR
  have LX0 := Aside0.mk (show s.safe.1.length ≤ 1000000000 by have := hO.s0; omega)
  have LX1 := Aside0.mk (show s.safe.2.1.length ≤ 1000000000 by have := hO.s1; omega)
  have LY0 := Aside0.mk (show s.now.1.length ≤ 1000000000 by have := hO.n0; omega)
  have LY1 := Aside0.mk (show s.now.2.1.length ≤ 1000000000 by have := hO.n1; omega)
  have HTOT := Aside0.mk (show tot s.loose ≤ 1000000000 by have := hO.s0; omega)
  have HLE := Aside0.mk (show s.loose.length ≤ 500000000 by have := hO.l; omega)
  obtain ⟨i62, hi62, hz62, hsz62, hby62⟩ := info_parts info62
  clear hR hO hN
  go_enter Try.func24, Try.ntmps24
  go_wp2_with fail
  refine start_ (n := 19) (S := fun w' => w'.cell? ⟨p, 7, none⟩ = some (.int .i64 s.left) ∧ w'.cell? ⟨p, 8, none⟩ = some (.bool s.down)) (ds := []) #[false, false, false, false, false, false, false, false, false, false, false, false, false, false, false, false, false, false, false] (by kernel_rfl) rfl rfl ⟨(blk_cell HR.out.hp 7).trans rfl, (blk_cell HR.out.hp 8).trans rfl⟩ (fun hHeld => ?_); refine with_tabW clone_R1.tab clone_R1.bits (fun HT_ HW_ => ?_)
  have BB := Aside0.mk (below_drew (Below.refl w.heap.size w))
  have HPB := Aside0.mk (show w.drew.heap[p]? = some (.cells (dcells (.slice a0 s.safe.1.length m0) (.slice a1 s.safe.2.1.length m1) s.safe.2.2 (.slice a2 s.now.1.length m2) (.slice a3 s.now.2.1.length m3) s.now.2.2 lo s.left s.down) 58 (0, 0)) from HR.out.hp)
  generalize w.drew = w2 at BB HPB hHeld ⊢
  refine pure_ (i := 0) (N := some 6) (v := ?_) (a' := ?_) #[true, false, false, false, false, false, false, false, false, false, false, false, false, false, false, false, false, false, false] rfl rfl (any_of HT_.out (by kernel_rfl)) (fun _ _ _ h => h) (Or.inl ⟨by rfl, ?_⟩) ?_ ?_
  rotate_left
  · intro w'
    go_simp
    with_reducible rfl
  rotate_left
  · simp only [Act.put, List.setIfInBounds_toArray, List.set_cons_zero, List.set_cons_succ, i64_w, i32_w]
    rfl
  refine pure_ (i := 1) (N := some 7) (v := ?_) (a' := ?_) #[true, true, false, false, false, false, false, false, false, false, false, false, false, false, false, false, false, false, false] rfl rfl (any_of HT_.out (by kernel_rfl)) (fun _ _ _ h => h) (Or.inl ⟨by rfl, ?_⟩) ?_ ?_
  rotate_left
  · intro w'
    go_simp
    with_reducible rfl
  rotate_left
  · simp only [Act.put, List.setIfInBounds_toArray, List.set_cons_zero, List.set_cons_succ, i64_w, i32_w]
    rfl
  refine pure_ (i := 2) (N := some 8) (v := ?_) (a' := ?_) #[true, true, true, false, false, false, false, false, false, false, false, false, false, false, false, false, false, false, false] rfl rfl (any_of HT_.out (by kernel_rfl)) (fun _ _ _ h => h) (Or.inl ⟨by rfl, ?_⟩) ?_ ?_
  rotate_left
  · intro w'
    go_simp
    with_reducible rfl
  rotate_left
  · simp only [Act.put, List.setIfInBounds_toArray, List.set_cons_zero, List.set_cons_succ, i64_w, i32_w]
    rfl
  refine pure_ (i := 4) (N := some 10) (v := ?_) (a' := ?_) #[true, true, true, false, true, false, false, false, false, false, false, false, false, false, false, false, false, false, false] rfl rfl (any_of HT_.out (by kernel_rfl)) (fun _ _ _ h => h) (Or.inl ⟨by rfl, ?_⟩) ?_ ?_
  rotate_left
  · intro w'
    go_simp
    with_reducible rfl
  rotate_left
  · simp only [Act.put, List.setIfInBounds_toArray, List.set_cons_zero, List.set_cons_succ, i64_w, i32_w]
    rfl
  refine pure_ (i := 5) (N := some 11) (v := ?_) (a' := ?_) #[true, true, true, false, true, true, false, false, false, false, false, false, false, false, false, false, false, false, false] rfl rfl (any_of HT_.out (by kernel_rfl)) (fun _ _ _ h => h) (Or.inl ⟨by rfl, ?_⟩) ?_ ?_
  rotate_left
  · intro w'
    go_simp
    with_reducible rfl
  rotate_left
  · simp only [Act.put, List.setIfInBounds_toArray, List.set_cons_zero, List.set_cons_succ, i64_w, i32_w]
    rfl
  refine pure_ (i := 6) (N := some 12) (v := ?_) (a' := ?_) #[true, true, true, false, true, true, true, false, false, false, false, false, false, false, false, false, false, false, false] rfl rfl (any_of HT_.out (by kernel_rfl)) (fun _ _ _ h => h) (Or.inl ⟨by rfl, ?_⟩) ?_ ?_
  rotate_left
  · intro w'
    go_simp
    with_reducible rfl
  rotate_left
  · simp only [Act.put, List.setIfInBounds_toArray, List.set_cons_zero, List.set_cons_succ, i64_w, i32_w]
    rfl
  refine pure_ (i := 8) (N := some 14) (v := ?_) (a' := ?_) #[true, true, true, false, true, true, true, false, true, false, false, false, false, false, false, false, false, false, false] rfl rfl (any_of HT_.out (by kernel_rfl)) (fun _ _ _ h => h) (Or.inl ⟨by rfl, ?_⟩) ?_ ?_
  rotate_left
  · intro w'
    go_simp
    with_reducible rfl
  rotate_left
  · simp only [Act.put, List.setIfInBounds_toArray, List.set_cons_zero, List.set_cons_succ, i64_w, i32_w]
    rfl
  refine pure_ (i := 9) (N := some 15) (v := ?_) (a' := ?_) #[true, true, true, false, true, true, true, false, true, true, false, false, false, false, false, false, false, false, false] rfl rfl (any_of HT_.out (by kernel_rfl)) (fun _ _ _ h => h) (Or.inl ⟨by rfl, ?_⟩) ?_ ?_
  rotate_left
  · intro w'
    go_simp
    with_reducible rfl
  rotate_left
  · simp only [Act.put, List.setIfInBounds_toArray, List.set_cons_zero, List.set_cons_succ, i64_w, i32_w]
    rfl
  refine pure_ (i := 10) (N := some 16) (v := ?_) (a' := ?_) #[true, true, true, false, true, true, true, false, true, true, true, false, false, false, false, false, false, false, false] rfl rfl (any_of HT_.out (by kernel_rfl)) (fun _ _ _ h => h) (Or.inl ⟨by rfl, ?_⟩) ?_ ?_
  rotate_left
  · intro w'
    go_simp
    with_reducible rfl
  rotate_left
  · simp only [Act.put, List.setIfInBounds_toArray, List.set_cons_zero, List.set_cons_succ, i64_w, i32_w]
    rfl
  refine pure_ (i := 12) (N := some 18) (v := ?_) (a' := ?_) #[true, true, true, false, true, true, true, false, true, true, true, false, true, false, false, false, false, false, false] rfl rfl (any_of HT_.out (by kernel_rfl)) (fun _ _ _ h => h) (Or.inl ⟨by rfl, ?_⟩) ?_ ?_
  rotate_left
  · intro w'
    go_simp
    with_reducible rfl
  rotate_left
  · simp only [Act.put, List.setIfInBounds_toArray, List.set_cons_zero, List.set_cons_succ, i64_w, i32_w]
    rfl
  refine pure_ (i := 13) (N := some 19) (v := ?_) (a' := ?_) #[true, true, true, false, true, true, true, false, true, true, true, false, true, true, false, false, false, false, false] rfl rfl (any_of HT_.out (by kernel_rfl)) (fun _ _ _ h => h) (Or.inl ⟨by rfl, ?_⟩) ?_ ?_
  rotate_left
  · intro w'
    go_simp
    with_reducible rfl
  rotate_left
  · simp only [Act.put, List.setIfInBounds_toArray, List.set_cons_zero, List.set_cons_succ, i64_w, i32_w]
    rfl
  refine pure_ (i := 14) (N := some 20) (v := ?_) (a' := ?_) #[true, true, true, false, true, true, true, false, true, true, true, false, true, true, true, false, false, false, false] rfl rfl (any_of HT_.out (by kernel_rfl)) (fun _ _ _ h => h) (Or.inl ⟨by rfl, ?_⟩) ?_ ?_
  rotate_left
  · intro w'
    go_simp
    with_reducible rfl
  rotate_left
  · simp only [Act.put, List.setIfInBounds_toArray, List.set_cons_zero, List.set_cons_succ, i64_w, i32_w]
    rfl
  refine take_ (i := 11) (N := some 17) (v := ?_) (a' := ?_) #[true, true, true, false, true, true, true, false, true, true, true, true, true, true, true, false, false, false, false] rfl rfl (take_ofW HT_.out HW_.out (by kernel_rfl)) (fun _ _ _ h => h) (Or.inl ⟨by rfl, ?_⟩) hHeld ?_ ?_
  rotate_left
  · rintro w' ⟨s0, s1⟩
    go_simp
    with_reducible rfl
  rotate_left
  · simp only [Act.put, List.setIfInBounds_toArray, List.set_cons_zero, List.set_cons_succ, i64_w, i32_w]
    rfl
  refine take_ (i := 15) (N := some 21) (v := ?_) (a' := ?_) #[true, true, true, false, true, true, true, false, true, true, true, true, true, true, true, true, false, false, false] rfl rfl (take_ofW HT_.out HW_.out (by kernel_rfl)) (fun _ _ _ h => h) (Or.inl ⟨by rfl, ?_⟩) hHeld ?_ ?_
  rotate_left
  · rintro w' ⟨s0, s1⟩
    go_simp
    with_reducible rfl
  rotate_left
  · simp only [Act.put, List.setIfInBounds_toArray, List.set_cons_zero, List.set_cons_succ, i64_w, i32_w]
    rfl
  refine one_ (i := 3) (N := some 9) #[true, true, true, true, true, true, true, false, true, true, true, true, true, true, true, true, false, false, false] rfl rfl (one_of HT_.out (by kernel_rfl)) (by decide) (fun K hK => ?_)
  refine goes_ Try.func31 (by kernel_rfl) rfl #[.pointer (some ⟨p, 0, none⟩)] (by rfl) rfl rfl (by (try simp only [List.map_toArray, List.map_cons, List.map_nil]); first | done | rfl) ?_
  refine (copied_calls (o := 0) w2 HPB.out rfl rfl rfl (HR.out.h0.keep (Keeps.below BB.out)) (HR.out.h1.keep (Keeps.below BB.out)) LX0.out LX1.out).mono ?_
  rintro e w3 ⟨X0, dX0, X1, dX1, rfl, hx0, hx1, hb⟩
  refine ⟨_, rfl, ?_⟩
  have NX0 := Aside0.mk (hx0.lower BB.out.size)
  have NX1 := Aside0.mk (hx1.lower BB.out.size)
  have n1 := Aside0.mk (below_step BB.out hb)
  have n2 := Aside0.mk (blkK hb HPB.out)
  clear BB HPB hx0 hx1 hb hHeld
  have BB := n1
  have HPB := n2
  clear n1 n2
  refine hK.out _ _ ⟨(blk_cell HPB.out 7).trans rfl, (blk_cell HPB.out 8).trans rfl⟩ (fun hHeld => ?_)
  clear hK K
  refine norm_ (a' := ?_) ?_ ?_
  rotate_left
  · show Act.put _ (some 9) _ = _
    simp only [Act.put, List.setIfInBounds_toArray, List.set_cons_zero, List.set_cons_succ, i64_w, i32_w]
    rfl
  refine one_ (i := 7) (N := some 13) #[true, true, true, true, true, true, true, true, true, true, true, true, true, true, true, true, false, false, false] rfl rfl (one_of HT_.out (by kernel_rfl)) (by decide) (fun K hK => ?_)
  refine goes_ Try.func31 (by kernel_rfl) rfl #[.pointer (some ⟨p, 3, none⟩)] (by rfl) rfl rfl (by (try simp only [List.map_toArray, List.map_cons, List.map_nil]); first | done | rfl) ?_
  refine (copied_calls (o := 3) w3 HPB.out rfl rfl rfl (HR.out.k0.keep (Keeps.below BB.out)) (HR.out.k1.keep (Keeps.below BB.out)) LY0.out LY1.out).mono ?_
  rintro e w4 ⟨Y0, dY0, Y1, dY1, rfl, hx0, hx1, hb⟩
  refine ⟨_, rfl, ?_⟩
  have NY0 := Aside0.mk (hx0.lower BB.out.size)
  have NY1 := Aside0.mk (hx1.lower BB.out.size)
  have n5 := Aside0.mk (NX0.out.keep (Keeps.below hb))
  have n6 := Aside0.mk (NX1.out.keep (Keeps.below hb))
  clear NX0 NX1
  have NX0 := n5
  have NX1 := n6
  clear n5 n6
  have n1 := Aside0.mk (below_step BB.out hb)
  have n2 := Aside0.mk (blkK hb HPB.out)
  clear BB HPB hx0 hx1 hb hHeld
  have BB := n1
  have HPB := n2
  clear n1 n2
  refine hK.out _ _ ⟨(blk_cell HPB.out 7).trans rfl, (blk_cell HPB.out 8).trans rfl⟩ (fun hHeld => ?_)
  clear hK K
  refine norm_ (a' := ?_) ?_ ?_
  rotate_left
  · show Act.put _ (some 13) _ = _
    simp only [Act.put, List.setIfInBounds_toArray, List.set_cons_zero, List.set_cons_succ, i64_w, i32_w]
    rfl
  refine pure_ (i := 16) (N := some 22) (v := ?_) (a' := ?_) #[true, true, true, true, true, true, true, true, true, true, true, true, true, true, true, true, true, false, false] rfl rfl (any_of HT_.out (by kernel_rfl)) (fun _ _ _ h => h) (Or.inl ⟨by rfl, ?_⟩) ?_ ?_
  rotate_left
  · intro w'
    go_simp
    with_reducible rfl
  rotate_left
  · simp only [Act.put, List.setIfInBounds_toArray, List.set_cons_zero, List.set_cons_succ, i64_w, i32_w]
    rfl
  refine one_ (i := 17) (N := some 23) #[true, true, true, true, true, true, true, true, true, true, true, true, true, true, true, true, true, true, false] rfl rfl (one_of HT_.out (by kernel_rfl)) (by decide) (fun K hK => ?_)
  refine value_ (w1 := ?_) (v := ?_) (by rfl) rfl ?_ ?_
  rotate_left 2
  · go_simp
    constructor
    · rfl
    · rfl
  refine hK.out _ _ ⟨(blk_cell (blk_alloc HPB.out _) 7).trans rfl, (blk_cell (blk_alloc HPB.out _) 8).trans rfl⟩ (fun hHeld2 => ?_)
  clear hHeld hHeld2
  clear hK K
  refine norm_ (a' := ?_) ?_ ?_
  rotate_left
  · show Act.put _ (some 23) _ = _
    simp only [Act.put, List.setIfInBounds_toArray, List.set_cons_zero, List.set_cons_succ, i64_w, i32_w]
    rfl
  refine pure_ (i := 18) (N := some 3) (v := ?_) (a' := ?_) #[true, true, true, true, true, true, true, true, true, true, true, true, true, true, true, true, true, true, true] rfl rfl (any_of HT_.out (by kernel_rfl)) (fun _ _ _ h => h) (Or.inl ⟨by rfl, ?_⟩) ?_ ?_
  rotate_left
  · intro w'
    go_simp
    with_reducible rfl
  rotate_left
  · simp only [Act.put, List.setIfInBounds_toArray, List.set_cons_zero, List.set_cons_succ, i64_w, i32_w]
    rfl
  refine done_ (done_of HT_.out (by kernel_rfl)) ?_
  have HAL := Aside0.mk (below_al w4 (.cells #[.slice X0 s.safe.1.length dX0, .slice X1 s.safe.2.1.length dX1, .int .i64 s.safe.2.2, .slice Y0 s.now.1.length dY0, .slice Y1 s.now.2.1.length dY1, .int .i64 s.now.2.2, .slice none 0 0, .int .i64 s.left, .bool s.down] 58 (0, 0)))
  have HC0 := Aside0.mk (show CN w (w4.alloc (.cells #[.slice X0 s.safe.1.length dX0, .slice X1 s.safe.2.1.length dX1, .int .i64 s.safe.2.2, .slice Y0 s.now.1.length dY0, .slice Y1 s.now.2.1.length dY1, .int .i64 s.now.2.2, .slice none 0 0, .int .i64 s.left, .bool s.down] 58 (0, 0))) w4.heap.size s (.slice X0 s.safe.1.length dX0) (.slice X1 s.safe.2.1.length dX1) (.slice Y0 s.now.1.length dY0) (.slice Y1 s.now.2.1.length dY1) 0 none 0 [] from
    ⟨heap_alloc_new w4 _, BB.out.size, NX0.out.keep (Keeps.below HAL.out), NX1.out.keep (Keeps.below HAL.out), NY0.out.keep (Keeps.below HAL.out), NY1.out.keep (Keeps.below HAL.out), by simp, ⟨by simp, .inl ⟨rfl, rfl⟩⟩, by simp, below_step BB.out HAL.out⟩)
  clear HAL NX0 NX1 NY0 NY1
  generalize w4.alloc (.cells #[.slice X0 s.safe.1.length dX0, .slice X1 s.safe.2.1.length dX1, .int .i64 s.safe.2.2, .slice Y0 s.now.1.length dY0, .slice Y1 s.now.2.1.length dY1, .int .i64 s.now.2.2, .slice none 0 0, .int .i64 s.left, .bool s.down] 58 (0, 0)) = w5 at HC0 ⊢
  have HPB5 := Aside0.mk (blkK HC0.out.hb HR.out.hp)
  clear BB HPB
  generalize w4.heap.size = q at HC0 ⊢
  obtain ⟨A6, c6, elo, hlc⟩ := HR.out.hl.len
  subst elo
  have h6 : w5.cell? ⟨p, 6, none⟩ = some (.slice A6 s.loose.length c6) := (blk_cell HPB5.out 6).trans rfl
  obtain ⟨lo, elo⟩ : ∃ lo, lo = Value.slice A6 s.loose.length c6 := ⟨_, rfl⟩
  clear HPB5
  have HLL := Aside0.mk HR.out.hl
  have HFR := Aside0.mk (show ∀ W', Below w.heap.size w W' → LS B W' (.slice A6 s.loose.length c6) s.loose from fun W' hb => (HLL.out).keep (Keeps.below hb) (Keeps.below hb))
  clear HLL HR elo
  go_wp2
  go_loopw [29] (fun v29 w' => ∃ (i : Nat) (A : Option Addr) (c : Nat) (ys : List (Chg × Value)), v29 = .int .i64 i ∧ i ≤ s.loose.length ∧ Aside0 (CN w w' q s (.slice X0 s.safe.1.length dX0) (.slice X1 s.safe.2.1.length dX1) (.slice Y0 s.now.1.length dY0) (.slice Y1 s.now.2.1.length dY1) i A c ys)) (fun v29 _ => s.loose.length - (intOf v29).toNat)
  case atStart => exact ⟨0, none, 0, [], rfl, Nat.zero_le _, HC0⟩
  case round =>
    obtain ⟨i, A, c, ys, rfl, hi, HC⟩ := hrel
    clear h6
    by_cases hlt : i < s.loose.length
    · obtain ⟨ga, vb, eA, q0, q1, q2, hvb⟩ := LS.get (HFR.out _ HC.out.hb) i hlt
      subst eA
      have HTK := Aside0.mk (List.take_succ_eq_append_getElem hlt)
      have HSZ := Aside0.mk (show (s.loose[i]).2.2.length ≤ 1000000000 from Nat.le_trans (tot_mem s.loose _ (List.getElem_mem hlt)) HTOT.out)
      generalize (s.loose[i]) = cc at q0 q1 q2 hvb HTK HSZ
      obtain ⟨ck, ca, cb⟩ := cc
      dsimp only at q0 q1 q2 hvb
      obtain ⟨Ab, nb, rfl, _⟩ := id hvb
      have HBC0 := Aside0.mk hvb
      have hlt' : (i : Int) < (s.loose.length : Int) := by omega
      have hi9 : i < 500000000 := by have := HLE.out; omega
      have LI := Aside0.mk hi9
      have LT2 := Aside0.mk hlt
      clear hvb
      go_wp2_with (first
        | ((with_reducible refine gate_dst (N := 5) rfl ?_); refine box_event ?hg (N := 5) ?hd (cs := #[.int .i64 0, .int .i64 0, .slice none 0 0]) (t := 62) ?hr ?_; (case hd => rfl); (case hg => rfl); (case hr => first | (go_simp; done) | (go_simp; rfl)); intro g5 e5 w2 b5 hb2; have B5 := Aside0.mk b5; have HC2 := Aside0.mk (HC.out.below hb2); have HBC2 := Aside0.mk (HBC0.out.keep (Keeps.below hb2)); have G5 := Aside0.mk (show wr.heap.size ≤ g5 from Nat.le_of_eq e5.symm); clear b5 hb2 e5)
        | ((with_reducible refine gate_ (.store 62 (.tmp 5) (.tmp 32)) rfl ?_); refine put_event (g := g5) (e := 62) rfl rfl 62 (.tmp 5) (.tmp 32) rfl rfl (.agg #[.int .i64 ck, .int .i64 ca, .slice Ab cb.length nb]) rfl (cs' := #[.int .i64 ck, .int .i64 ca, .slice Ab cb.length nb]) rfl (by kernel_rfl) (by simp [Value.oneCell']) B5.out rfl ?_; intro w3 b5 hg3; have HC3 := Aside0.mk (CN.far HC2.out hg3 HC.out G5.out B5.out); have HBC3 := Aside0.mk (HBC2.out.keep (Keeps.grown hg3 B5.out (by decide))); have hz2 : w3.cell? ⟨g5, 2, none⟩ = some (.slice Ab cb.length nb) := (blk_cell b5 2).trans rfl; have B53 := Aside0.mk b5; clear B5 b5 hg3 HC2 HBC2)
        | (go_at_call 28; (with_reducible refine (clone_calls w3 HBC3.out HSZ.out).mono ?_); rintro e w4 ⟨Bn, dn, rfl, hbs, hbw⟩; have HBN4 := Aside0.mk (hbs.lower HC3.out.hb.size); have HC4 := Aside0.mk (HC3.out.below hbw); have B54 := Aside0.mk (blkK hbw B53.out); clear hbs hbw hz2 B53 HC3)
        | ((with_reducible refine gate_ (.store 22 (.tmp 36) (.tmp 35)) rfl ?_); refine put_field (g := g5) (j := 2) (e := 62) rfl rfl 22 (.tmp 36) (.tmp 35) rfl rfl (.slice Bn cb.length dn) rfl rfl (by kernel_rfl) (by simp [Value.oneCell']) B54.out (by simp) ?_; intro w5 b5 hg5; have HC5 := Aside0.mk (CN.far HC4.out hg5 HC.out G5.out B54.out); have HBN := Aside0.mk (HBN4.out.keep (Keeps.grown hg5 B54.out (by decide))); have B55 := Aside0.mk (show w5.heap[g5]? = some (.cells #[.int .i64 ck, .int .i64 ca, .slice Bn cb.length dn] 62 (0, 0)) from b5); clear B54 b5 hg5 HC4 HBN4)
        | fail)
      refine start_ (n := 11) (S := fun w' => w'.cell? ⟨q, 6, none⟩ = some (.slice A i c) ∧ w'.cell? ⟨g5, 0, none⟩ = some (.int .i64 ck) ∧ w'.cell? ⟨g5, 1, none⟩ = some (.int .i64 ca) ∧ w'.cell? ⟨g5, 2, none⟩ = some (.slice Bn cb.length dn)) (ds := [7, 10]) #[false, false, false, false, false, false, false, false, false, false, false] (by kernel_rfl) rfl rfl ⟨(blk_cell HC5.out.hq 6).trans rfl, (blk_cell B55.out 0).trans rfl, (blk_cell B55.out 1).trans rfl, (blk_cell B55.out 2).trans rfl⟩ (fun hHeld => ?_); refine with_tabW clone_R6.tab clone_R6.bits (fun HT_ HW_ => ?_)
      have HC6 := Aside0.mk (HC5.out.below (below_drew (Below.refl _ w5)))
      have HBN6 := Aside0.mk (show BS w.heap.size w5.drew (.slice Bn cb.length dn) cb from HBN.out)
      have B6 := Aside0.mk (show w5.drew.heap[g5]? = some (.cells #[.int .i64 ck, .int .i64 ca, .slice Bn cb.length dn] 62 (0, 0)) from B55.out)
      clear HC5 HBN B55
      generalize w5.drew = w6 at HC6 HBN6 B6 hHeld ⊢
      refine pure_ (i := 0) (N := some 37) (v := ?_) (a' := ?_) #[true, false, false, false, false, false, false, false, false, false, false] rfl rfl (any_of HT_.out (by kernel_rfl)) (fun _ _ _ h => h) (Or.inl ⟨by rfl, ?_⟩) ?_ ?_
      rotate_left
      · intro w'
        go_simp
        with_reducible rfl
      rotate_left
      · simp only [Act.put, List.setIfInBounds_toArray, List.set_cons_zero, List.set_cons_succ, i64_w, i32_w]
        rfl
      refine pure_ (i := 1) (N := some 38) (v := ?_) (a' := ?_) #[true, true, false, false, false, false, false, false, false, false, false] rfl rfl (any_of HT_.out (by kernel_rfl)) (fun _ _ _ h => h) (Or.inl ⟨by rfl, ?_⟩) ?_ ?_
      rotate_left
      · intro w'
        go_simp
        with_reducible rfl
      rotate_left
      · simp only [Act.put, List.setIfInBounds_toArray, List.set_cons_zero, List.set_cons_succ, i64_w, i32_w]
        rfl
      refine pure_ (i := 2) (N := some 39) (v := ?_) (a' := ?_) #[true, true, true, false, false, false, false, false, false, false, false] rfl rfl (any_of HT_.out (by kernel_rfl)) (fun _ _ _ h => h) (Or.inl ⟨by rfl, ?_⟩) ?_ ?_
      rotate_left
      · intro w'
        go_simp
        with_reducible rfl
      rotate_left
      · simp only [Act.put, List.setIfInBounds_toArray, List.set_cons_zero, List.set_cons_succ, i64_w, i32_w]
        rfl
      refine pure_ (i := 3) (N := some 40) (v := ?_) (a' := ?_) #[true, true, true, true, false, false, false, false, false, false, false] rfl rfl (any_of HT_.out (by kernel_rfl)) (fun _ _ _ h => h) (Or.inl ⟨by rfl, ?_⟩) ?_ ?_
      rotate_left
      · intro w'
        go_simp
        with_reducible rfl
      rotate_left
      · simp only [Act.put, List.setIfInBounds_toArray, List.set_cons_zero, List.set_cons_succ, i64_w, i32_w]
        rfl
      refine take_ (i := 4) (N := some 41) (v := ?_) (a' := ?_) #[true, true, true, true, true, false, false, false, false, false, false] rfl rfl (take_ofW HT_.out HW_.out (by kernel_rfl)) (fun _ _ _ h => h) (Or.inl ⟨by rfl, ?_⟩) hHeld ?_ ?_
      rotate_left
      · rintro w' ⟨s0, s1, s2, s3⟩
        go_simp
        with_reducible rfl
      rotate_left
      · simp only [Act.put, List.setIfInBounds_toArray, List.set_cons_zero, List.set_cons_succ, i64_w, i32_w]
        rfl
      refine take_ (i := 5) (N := some 42) (v := ?_) (a' := ?_) #[true, true, true, true, true, true, false, false, false, false, false] rfl rfl (take_ofW HT_.out HW_.out (by kernel_rfl)) (fun _ _ _ h => h) (Or.inl ⟨by rfl, ?_⟩) hHeld ?_ ?_
      rotate_left
      · rintro w' ⟨s0, s1, s2, s3⟩
        go_simp
        with_reducible rfl
      rotate_left
      · simp only [Act.put, List.setIfInBounds_toArray, List.set_cons_zero, List.set_cons_succ, i64_w, i32_w]
        rfl
      refine one_ (i := 6) (N := some 43) #[true, true, true, true, true, true, true, false, false, false, false] rfl rfl (one_of HT_.out (by kernel_rfl)) (by decide) (fun K hK => ?_)
      refine value_ (w1 := ?_) (v := ?_) (by rfl) rfl ?_ ?_
      rotate_left 2
      · go_simp
        constructor
        · rfl
        · rfl
      refine hK.out _ _ ⟨(blk_cell (blk_alloc HC6.out.hq _) 6).trans rfl, (blk_cell (blk_alloc B6.out _) 0).trans rfl, (blk_cell (blk_alloc B6.out _) 1).trans rfl, (blk_cell (blk_alloc B6.out _) 2).trans rfl⟩ (fun hHeld2 => ?_)
      clear hHeld
      have hHeld := hHeld2
      clear hHeld2
      clear hK K
      refine norm_ (a' := ?_) ?_ ?_
      rotate_left
      · show Act.put _ (some 43) _ = _
        simp only [Act.put, List.setIfInBounds_toArray, List.set_cons_zero, List.set_cons_succ, i64_w, i32_w]
        rfl
      refine last_ (i := 7) (N := some 44) #[true, true, true, true, true, true, true, true, false, false, false] rfl rfl (one_of HT_.out (by kernel_rfl)) (by decide) (fun K hK => ?_)
      refine step_append_lies _ (by rfl) _ _ _ (by rfl) w.heap.size 62 i62 _ 3 40 Try.underlying56 hi62 hz62 hsz62 hby62 rfl (by omega) (.slice A i c) i (ys.flatMap chgV) (by rfl) (owns_alloc HC6.out.ho _) ⟨w6.heap.size, 0, none⟩ 1 1 [.int .i64 ck, .int .i64 ca, .slice Bn cb.length dn] (by rfl) (by rfl) (World.news_of_block (cs := #[.int .i64 ck, .int .i64 ca, .slice Bn cb.length dn]) (t := 62) (fr := (0, 0)) (heap_alloc_new w6 _)) (by simp [Value.oneCell']) (by omega) (by simp [maxLen]; have := LI.out; omega) (by have := LI.out; omega) (by have h2 := HC6.out.hb.size; simp; omega) _ rfl ?_
      intro g7 cap7 w7 hown7 hgrow7 hat7 hlt7
      have HO7 := Aside0.mk hown7
      have KA5 := Aside0.mk (Keeps.trans (Keeps.below (t := 5) (below_al w6 (.cells #[.int .i64 ck, .int .i64 ca, .slice Bn cb.length dn] 62 (0, 0)))) (keeps_own hgrow7 (owns_blocks (owns_alloc HC6.out.ho _)) (by decide)))
      have KA58 := Aside0.mk (Keeps.trans (Keeps.below (t := 58) (below_al w6 (.cells #[.int .i64 ck, .int .i64 ca, .slice Bn cb.length dn] 62 (0, 0)))) (keeps_own hgrow7 (owns_blocks (owns_alloc HC6.out.ho _)) (by decide)))
      have BB7 := Aside0.mk (Below.grown (Below.alloc HC6.out.hb HC6.out.hb.size _) hgrow7 (by have h2 := HC6.out.hb.size; simp; omega) (fun k hk => (owns_blocks HC6.out.ho k hk).1))
      clear hown7 hgrow7 hat7 hlt7 hHeld
      have HP7 := Aside0.mk (KA58.out q _ HC6.out.hq)
      refine hK.out _ _ ?_
      clear hK K
      refine norm_ (a' := ?_) ?_ ?_
      rotate_left
      · show Act.put _ (some 44) _ = _
        simp only [Act.put, List.setIfInBounds_toArray, List.set_cons_zero, List.set_cons_succ, i64_w, i32_w]
        rfl
      refine pure_ (i := 8) (N := some 45) (v := ?_) (a' := ?_) #[true, true, true, true, true, true, true, true, true, false, false] rfl rfl (any_of HT_.out (by kernel_rfl)) (fun _ _ _ h => h) (Or.inl ⟨by rfl, ?_⟩) ?_ ?_
      rotate_left
      · intro w'
        go_simp
        with_reducible rfl
      rotate_left
      · simp only [Act.put, List.setIfInBounds_toArray, List.set_cons_zero, List.set_cons_succ, i64_w, i32_w]
        rfl
      refine pure_ (i := 9) (N := some 46) (v := ?_) (a' := ?_) #[true, true, true, true, true, true, true, true, true, true, false] rfl rfl (any_of HT_.out (by kernel_rfl)) (fun _ _ _ h => h) (Or.inl ⟨by rfl, ?_⟩) ?_ ?_
      rotate_left
      · intro w'
        go_simp
        with_reducible rfl
      rotate_left
      · simp only [Act.put, List.setIfInBounds_toArray, List.set_cons_zero, List.set_cons_succ, i64_w, i32_w]
        rfl
      refine last_ (i := 10) (N := none) #[true, true, true, true, true, true, true, true, true, true, true] rfl rfl (one_of HT_.out (by kernel_rfl)) (by decide) (fun K hK => ?_)
      have hs6 : w7.cell? ⟨q, 6, none⟩ = some (.slice A i c) := (blk_cell HP7.out 6).trans rfl
      have hf6 := blk_frozen HP7.out 6
      refine skip_ (w1 := ?_) (by rfl) rfl ?_ ?_
      rotate_left
      · go_simp
        rfl
      refine hK.out _ _ ?_
      clear hK K
      refine done_ (done_of HT_.out (by kernel_rfl)) ?_
      have HP8 := Aside0.mk (show (w7.setCell ⟨q, 6, none⟩ (.slice (some ⟨g7, 0, none⟩) (i + 1) cap7)).heap[q]? = some (.cells (dcells (.slice X0 s.safe.1.length dX0) (.slice X1 s.safe.2.1.length dX1) s.safe.2.2 (.slice Y0 s.now.1.length dY0) (.slice Y1 s.now.2.1.length dY1) s.now.2.2 (.slice (some ⟨g7, 0, none⟩) (i + 1) cap7) s.left s.down) 58 (0, 0)) from blk_set HP7.out 6 _)
      have KS5 := Aside0.mk (Keeps.grown (t := 5) (grown_set (j := 6) (u := .slice (some ⟨g7, 0, none⟩) (i + 1) cap7)) HP7.out (by decide))
      have KS62 := Aside0.mk (Keeps.grown (t := 62) (grown_set (j := 6) (u := .slice (some ⟨g7, 0, none⟩) (i + 1) cap7)) HP7.out (by decide))
      have BB8 := Aside0.mk (BB7.out.setCell (p := ⟨q, 6, none⟩) HC6.out.q0 (.slice (some ⟨g7, 0, none⟩) (i + 1) cap7))
      generalize w7.setCell ⟨q, 6, none⟩ (.slice (some ⟨g7, 0, none⟩) (i + 1) cap7) = w8 at HP8 KS5 KS62 BB8 ⊢
      go_wp2
      go_roundw
      case rel =>
        have K := Keeps.trans KA5.out KS5.out
        refine ⟨i + 1, _, _, ys ++ [((ck, ca, cb), .slice Bn cb.length dn)], by go_num, LT2.out, ⟨HP8.out, HC6.out.q0, HC6.out.b0.keep K, HC6.out.b1.keep K, HC6.out.b2.keep K, HC6.out.b3.keep K, ?_, ?_, ?_, BB8.out⟩⟩
        · rw [HTK.out, List.map_append, HC6.out.e]; rfl
        · rw [List.flatMap_append, List.flatMap_singleton]; exact owns_keep HO7.out KS62.out
        · intro y hy
          rcases List.mem_append.1 hy with hy | hy
          · exact (HC6.out.hy y hy).keep K
          · rw [List.mem_singleton.1 hy]; exact HBN6.out.keep K
      case measure => simp [intOf]; have := LT2.out; omega
    · have hk' : i = s.loose.length := by omega
      subst hk'
      go_wp2
      go_ret
      have hl : ys.length = s.loose.length := by have := congrArg List.length HC.out.e; rw [List.length_map, List.take_of_length_le (Nat.le_refl _)] at this; exact this
      exact ⟨q, rfl, ⟨_, _, _, _, _, HC.out.q0, HC.out.hq, HC.out.b0, HC.out.b1, HC.out.b2, HC.out.b3, ys, by rw [HC.out.e, List.take_of_length_le (Nat.le_refl _)], by rw [hl]; exact HC.out.ho, HC.out.hy⟩, HC.out.hb⟩
end Go.Proofs.Ytpagajgpcmonkaa.PDisk
