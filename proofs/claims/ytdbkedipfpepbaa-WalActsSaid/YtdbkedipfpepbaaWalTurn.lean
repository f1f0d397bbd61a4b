/- The walk of Log.turn. -/
import Derived.Test.YtdbkedipfpepbaaWalSteps
namespace Go.Proofs.Ytdbkedipfpepbaa.PWal
open Go.RowKit Go.Proofs.YtdbkedipfpepbaaW.PrintWords Go.Proofs.YtdbkedipfpepbaaW.PrintLast Go.Proofs.YtdbkedipfpepbaaW.PrintMore
set_option linter.unusedVariables false
set_option linter.unusedSimpArgs false
def turn_R2.T : Bool × List (List Nat × List Nat) := (true, [([], []), ([], []), ([], []), ([2], [2]), ([3], [3]), ([4], [4]), ([5], [5]), ([], []), ([], []), ([8], [8]), ([9], [9]), ([10], [10]), ([11], [11]), ([0, 1, 6, 7, 12], [0, 1, 6, 7, 12]), ([13], [13]), ([14, 14, 0, 1, 2, 3, 4, 5, 6, 7, 8, 9, 10, 11, 12, 13, 14], [14])])
def turn_R2.B : List Nat := [0, 0, 0, 4, 12, 28, 60, 0, 0, 256, 768, 1792, 3840, 8191, 16383, 32767]
theorem turn_R2.tab : rtab .any (opsOf Try.f27 2) = turn_R2.T := by kernel_rfl
theorem turn_R2.bits : waitsOk turn_R2.T.2 turn_R2.B = true := by kernel_rfl
def turn_R4.T : Bool × List (List Nat × List Nat) := (true, [([], []), ([], []), ([], []), ([], []), ([3], [3]), ([0, 0, 2], [0]), ([5, 0, 2], [5]), ([6, 2, 0, 2], [2, 6]), ([1, 0, 1, 2, 3, 4, 5, 6, 7], [1]), ([8, 0, 1, 2, 3, 4, 5, 6, 7], [8]), ([9, 4, 7, 0, 1, 2, 3, 4, 5, 6, 7], [4, 9])])
def turn_R4.B : List Nat := [0, 0, 0, 0, 8, 5, 37, 101, 255, 511, 1023]
theorem turn_R4.tab : rtab .any (opsOf Try.f27 4) = turn_R4.T := by kernel_rfl
theorem turn_R4.bits : waitsOk turn_R4.T.2 turn_R4.B = true := by kernel_rfl
/-- all blocks of other types stay: a log's own left out too -/
def KL (W W' : World) : Prop := ∀ t : TypeId, t ≠ 58 → t ≠ 69 → t ≠ 60 → Keeps t W W'
theorem KL.trans {W W1 W2 : World} (h : KL W W1) (k : KL W1 W2) : KL W W2 := fun t a b c => (h t a b c).trans (k t a b c)
theorem KT.kl {W W' : World} (h : KT W W') : KL W W' := fun t a b _ => h t a b
theorem KL.bs {B : Nat} {W W' : World} {v : Value} {bs : List Int} (k : KL W W') (h : BS B W v bs) : BS B W' v bs := h.keep (k 5 (by decide) (by decide) (by decide))
theorem KL.set {W : World} {q j : Nat} {v : Value} {cs : Array Value} (hq : W.heap[q]? = some (.cells cs 60 (0, 0))) : KL W (W.setCell ⟨q, j, none⟩ v) := fun t _ _ h60 => Keeps.grown grown_set hq h60
variable {B B0 p q M : Nat} {t u : St} {l : List Chg} {size : Int}
theorem Rep.other36 {B : Nat} {W W' : World} {p g : Nat} {s : AD} {cs : Array Value} {t : TypeId} (h : Rep B W p s) (hg : W.grownBy W' (some g)) (hc : W.heap[g]? = some (.cells cs t (0, 0))) (h5 : (5 : TypeId) ≠ t) (h58 : (58 : TypeId) ≠ t) (h69 : (69 : TypeId) ≠ t) : Rep B W' p s := by
  obtain ⟨v0, v1, u0, u1, lo, hB, hp, h0, h1, k0, k1, hl⟩ := h
  have k5 := Keeps.grown (t := 5) hg hc h5
  exact ⟨v0, v1, u0, u1, lo, hB, Keeps.grown hg hc h58 _ _ hp, h0.keep k5, h1.keep k5, k0.keep k5, k1.keep k5, hl.keep k5 (Keeps.grown hg hc h69)⟩
set_option maxHeartbeats 8000000 in
set_option maxRecDepth 100000 in
theorem turn0 {A : Option Addr} {c : Nat} {bs : List Int} (w : World) (hq : w.heap[q]? = some (.cells #[.pointer (some ⟨p, 0, none⟩), .int .i64 0, .int .i64 size] 60 (0, 0))) (hR : Rep B w p (UP t u l)) (hO : Ok M (UP t u l)) (hN : M + bs.length + 3 ≤ 500000000) (hS : BS B0 w (.slice A bs.length c) bs) (hl : bs.length ≤ 100000000) (hBq : B ≤ q) :
    Calls Try.prog 27 #[.pointer (some ⟨q, 0, none⟩), .slice A bs.length c] w fun e w' => e = .returned (.int .i64 0) ∧ Rep B w' p (T5 u 1 bs) ∧ w'.heap[q]? = some (.cells #[.pointer (some ⟨p, 0, none⟩), .int .i64 1, .int .i64 (bs.length : Int)] 60 (0, 0)) ∧ Below B w w' ∧ KL w w' := by
  have BQ0 := Aside0.mk hq
  have R0 := Aside0.mk hR
  have HB := Aside0.mk hR.base
  have HO := Aside0.mk hO
  have HN := Aside0.mk hN
  have HS0 := Aside0.mk hS
  have HL := Aside0.mk hl
  have HBq := Aside0.mk hBq
  clear hq hR hO hN hS hl hBq
  have hmf : ∀ (fn : Fn) (first cap : Array Value) (w : World), (Instr.makeFunc fn first cap).run Try.prog w = .ok (.func fn first cap) w := fun _ _ _ _ => rfl
  go_enter Try.func27, Try.ntmps27
  go_wp2_with (first
    | ((with_reducible refine gate_dst (N := 2) rfl ?_); refine box_event ?hg (N := 2) ?hd (cs := #[.pointer (some ⟨q, 0, none⟩)]) (t := 27) ?hr ?_; (case hd => rfl); (case hg => rfl); (case hr => first | (go_simp; done) | (go_simp; rfl)); intro g2 e2 w1 b2 hb; have B21 := Aside0.mk b2; have BB1 := Aside0.mk hb; clear b2 hb e2)
    | ((with_reducible refine gate_dst (N := 3) rfl ?_); refine box_event ?hg (N := 3) ?hd (cs := #[.slice A bs.length c]) (t := 28) ?hr ?_; (case hd => rfl); (case hg => rfl); (case hr => first | (go_simp; done) | (go_simp; rfl)); intro g3 e3 w2 b3 hb; have B32 := Aside0.mk b3; have B22 := Aside0.mk (blkK hb B21.out); have BB2 := Aside0.mk (below_step BB1.out hb); have z20 : w2.cell? ⟨g2, 0, none⟩ = some (.pointer (some ⟨q, 0, none⟩)) := (blk_cell B22.out 0).trans rfl; have zq1 : w2.cell? ⟨q, 1, none⟩ = some (.int .i64 0) := (blk_cell (blkK BB2.out BQ0.out) 1).trans rfl; clear b3 hb e3)
    | ((with_reducible refine gate_dst (N := 5) rfl ?_); refine box_event ?hg (N := 5) ?hd (cs := #[.int .i64 0]) (t := 3) ?hr ?_; (case hd => rfl); (case hg => rfl); (case hr => first | (go_simp; done) | (go_simp; rfl)); intro g5 e5 w3 b5 hb; have B53 := Aside0.mk b5; have E5 := Aside0.mk e5; have B23 := Aside0.mk (blkK hb B22.out); have B33 := Aside0.mk (blkK hb B32.out); have BB3 := Aside0.mk (below_step BB2.out hb); have BBX := Aside0.mk hb; clear b5 hb e5 z20 zq1)
    | ((with_reducible refine gate_ (.store 3 (.tmp 5) (.tmp 11)) rfl ?_); refine put_field (g := g5) (j := 0) (e := 3) rfl rfl 3 (.tmp 5) (.tmp 11) rfl rfl (.int .i64 1) rfl rfl (by kernel_rfl) (by simp [Value.oneCell']) B53.out (by simp) ?_; intro w4 b5 hg; have B54 := Aside0.mk (show w4.heap[g5]? = some (.cells #[.int .i64 1] 3 (0, 0)) from b5); have B24 := Aside0.mk (Keeps.grown (t := 27) hg B53.out (by decide) _ _ B23.out); have B34 := Aside0.mk (Keeps.grown (t := 28) hg B53.out (by decide) _ _ B33.out); have BB4 := Aside0.mk (Below.grown BB3.out hg BB3.out.size (fun k hk => by cases hk; have h1 := E5.out; have h2 := BB2.out.size; omega)); have BQ4 := Aside0.mk (blkK BB4.out BQ0.out); have R4 := Aside0.mk (R0.out.below BB4.out); have HS4 := Aside0.mk (HS0.out.keep (Keeps.below BB4.out)); clear b5 hg B21 B22 B23 B32 B33 B53 BB1 BB2 BB3 BBX)
    | fail)
  refine start_ (n := 16) (S := fun w' => w'.cell? ⟨g2, 0, none⟩ = some (.pointer (some ⟨q, 0, none⟩)) ∧ w'.cell? ⟨q, 0, none⟩ = some (.pointer (some ⟨p, 0, none⟩))) (ds := [13, 14]) #[false, false, false, false, false, false, false, false, false, false, false, false, false, false, false, false] (by kernel_rfl) rfl rfl ⟨(blk_cell B24.out 0).trans rfl, (blk_cell BQ4.out 0).trans rfl⟩ (fun hHeld => ?_); refine with_tabW turn_R2.tab turn_R2.bits (fun HT_ HW_ => ?_)
  have hd := below_drew (Below.refl w4.heap.size w4)
  have R5 := Aside0.mk (R4.out.below hd)
  have BB5 := Aside0.mk (below_step BB4.out hd)
  have B25 := Aside0.mk (blkK hd B24.out)
  have B35 := Aside0.mk (blkK hd B34.out)
  have B55 := Aside0.mk (blkK hd B54.out)
  have BQ5 := Aside0.mk (blkK hd BQ4.out)
  have HS5 := Aside0.mk (HS4.out.keep (Keeps.below hd))
  clear hd
  generalize w4.drew = w5 at R5 BB5 B25 B35 B55 BQ5 HS5 hHeld ⊢
  refine pure_ (i := 0) (N := some 12) (v := ?_) (a' := ?_) #[true, false, false, false, false, false, false, false, false, false, false, false, false, false, false, false] rfl rfl (any_of HT_.out (by kernel_rfl)) (fun _ _ _ h => h) (Or.inl ⟨by rfl, ?_⟩) ?_ ?_
  rotate_left
  · intro w'
    go_simp
    with_reducible rfl
  rotate_left
  · simp only [Act.put, List.setIfInBounds_toArray, List.set_cons_zero, List.set_cons_succ, i64_w, i32_w]
    rfl
  refine pure_ (i := 1) (N := some 13) (v := ?_) (a' := ?_) #[true, true, false, false, false, false, false, false, false, false, false, false, false, false, false, false] rfl rfl (any_of HT_.out (by kernel_rfl)) (fun _ _ _ h => h) (Or.inl ⟨by rfl, ?_⟩) ?_ ?_
  rotate_left
  · intro w'
    go_simp
    with_reducible rfl
  rotate_left
  · simp only [Act.put, List.setIfInBounds_toArray, List.set_cons_zero, List.set_cons_succ, i64_w, i32_w]
    rfl
  refine pure_ (i := 7) (N := some 19) (v := ?_) (a' := ?_) #[true, true, false, false, false, false, false, true, false, false, false, false, false, false, false, false] rfl rfl (any_of HT_.out (by kernel_rfl)) (fun _ _ _ h => h) (Or.inl ⟨by rfl, ?_⟩) ?_ ?_
  rotate_left
  · intro w'
    go_simp
    with_reducible rfl
  rotate_left
  · simp only [Act.put, List.setIfInBounds_toArray, List.set_cons_zero, List.set_cons_succ, i64_w, i32_w]
    rfl
  refine take_ (i := 2) (N := some 14) (v := ?_) (a' := ?_) #[true, true, true, false, false, false, false, true, false, false, false, false, false, false, false, false] rfl rfl (take_ofW HT_.out HW_.out (by kernel_rfl)) (fun _ _ _ h => h) (Or.inl ⟨by rfl, ?_⟩) hHeld ?_ ?_
  rotate_left
  · rintro w' ⟨s0, s1⟩
    go_simp
    with_reducible rfl
  rotate_left
  · simp only [Act.put, List.setIfInBounds_toArray, List.set_cons_zero, List.set_cons_succ, i64_w, i32_w]
    rfl
  refine pure_ (i := 3) (N := some 15) (v := ?_) (a' := ?_) #[true, true, true, true, false, false, false, true, false, false, false, false, false, false, false, false] rfl rfl (any_of HT_.out (by kernel_rfl)) (fun _ _ _ h => h) (Or.inl ⟨by rfl, ?_⟩) ?_ ?_
  rotate_left
  · intro w'
    go_simp
    with_reducible rfl
  rotate_left
  · simp only [Act.put, List.setIfInBounds_toArray, List.set_cons_zero, List.set_cons_succ, i64_w, i32_w]
    rfl
  refine pure_ (i := 4) (N := some 16) (v := ?_) (a' := ?_) #[true, true, true, true, true, false, false, true, false, false, false, false, false, false, false, false] rfl rfl (any_of HT_.out (by kernel_rfl)) (fun _ _ _ h => h) (Or.inl ⟨by rfl, ?_⟩) ?_ ?_
  rotate_left
  · intro w'
    go_simp
    with_reducible rfl
  rotate_left
  · simp only [Act.put, List.setIfInBounds_toArray, List.set_cons_zero, List.set_cons_succ, i64_w, i32_w]
    rfl
  refine take_ (i := 5) (N := some 17) (v := ?_) (a' := ?_) #[true, true, true, true, true, true, false, true, false, false, false, false, false, false, false, false] rfl rfl (take_ofW HT_.out HW_.out (by kernel_rfl)) (fun _ _ _ h => h) (Or.inl ⟨by rfl, ?_⟩) hHeld ?_ ?_
  rotate_left
  · rintro w' ⟨s0, s1⟩
    go_simp
    with_reducible rfl
  rotate_left
  · simp only [Act.put, List.setIfInBounds_toArray, List.set_cons_zero, List.set_cons_succ, i64_w, i32_w]
    rfl
  refine pure_ (i := 6) (N := some 18) (v := ?_) (a' := ?_) #[true, true, true, true, true, true, true, true, false, false, false, false, false, false, false, false] rfl rfl (any_of HT_.out (by kernel_rfl)) (fun _ _ _ h => h) (Or.inl ⟨by rfl, ?_⟩) ?_ ?_
  rotate_left
  · intro w'
    go_simp
    with_reducible rfl
  rotate_left
  · simp only [Act.put, List.setIfInBounds_toArray, List.set_cons_zero, List.set_cons_succ, i64_w, i32_w]
    rfl
  refine take_ (i := 8) (N := some 20) (v := ?_) (a' := ?_) #[true, true, true, true, true, true, true, true, true, false, false, false, false, false, false, false] rfl rfl (take_ofW HT_.out HW_.out (by kernel_rfl)) (fun _ _ _ h => h) (Or.inl ⟨by rfl, ?_⟩) hHeld ?_ ?_
  rotate_left
  · rintro w' ⟨s0, s1⟩
    go_simp
    with_reducible rfl
  rotate_left
  · simp only [Act.put, List.setIfInBounds_toArray, List.set_cons_zero, List.set_cons_succ, i64_w, i32_w]
    rfl
  refine pure_ (i := 9) (N := some 21) (v := ?_) (a' := ?_) #[true, true, true, true, true, true, true, true, true, true, false, false, false, false, false, false] rfl rfl (any_of HT_.out (by kernel_rfl)) (fun _ _ _ h => h) (Or.inl ⟨by rfl, ?_⟩) ?_ ?_
  rotate_left
  · intro w'
    go_simp
    with_reducible rfl
  rotate_left
  · simp only [Act.put, List.setIfInBounds_toArray, List.set_cons_zero, List.set_cons_succ, i64_w, i32_w]
    rfl
  refine pure_ (i := 10) (N := some 22) (v := ?_) (a' := ?_) #[true, true, true, true, true, true, true, true, true, true, true, false, false, false, false, false] rfl rfl (any_of HT_.out (by kernel_rfl)) (fun _ _ _ h => h) (Or.inl ⟨by rfl, ?_⟩) ?_ ?_
  rotate_left
  · intro w'
    go_simp
    with_reducible rfl
  rotate_left
  · simp only [Act.put, List.setIfInBounds_toArray, List.set_cons_zero, List.set_cons_succ, i64_w, i32_w]
    rfl
  refine take_ (i := 11) (N := some 23) (v := ?_) (a' := ?_) #[true, true, true, true, true, true, true, true, true, true, true, true, false, false, false, false] rfl rfl (take_ofW HT_.out HW_.out (by kernel_rfl)) (fun _ _ _ h => h) (Or.inl ⟨by rfl, ?_⟩) hHeld ?_ ?_
  rotate_left
  · rintro w' ⟨s0, s1⟩
    go_simp
    with_reducible rfl
  rotate_left
  · simp only [Act.put, List.setIfInBounds_toArray, List.set_cons_zero, List.set_cons_succ, i64_w, i32_w]
    rfl
  refine pure_ (i := 12) (N := some 24) (v := ?_) (a' := ?_) #[true, true, true, true, true, true, true, true, true, true, true, true, true, false, false, false] rfl rfl (any_of HT_.out (by kernel_rfl)) (fun _ _ _ h => h) (Or.inl ⟨by rfl, ?_⟩) ?_ ?_
  rotate_left
  · intro w'
    go_simp
    with_reducible rfl
  rotate_left
  · simp only [Act.put, List.setIfInBounds_toArray, List.set_cons_zero, List.set_cons_succ, i64_w, i32_w]
    rfl
  refine last_ (i := 13) (N := some 25) #[true, true, true, true, true, true, true, true, true, true, true, true, true, true, false, false] rfl rfl (one_of HT_.out (by kernel_rfl)) (by decide) (fun K hK => ?_)
  refine value_ (w1 := ?_) (v := ?_) (by rfl) rfl ?_ ?_
  rotate_left 2
  · go_simp
    constructor
    · rfl
    · rfl
  have hal := below_al w5 (.cells #[.func (.func 41) #[] #[.pointer (some ⟨g2, 0, none⟩), .pointer (some ⟨g5, 0, none⟩)], .func (.func 43) #[] #[.pointer (some ⟨g2, 0, none⟩), .pointer (some ⟨g5, 0, none⟩), .pointer (some ⟨g3, 0, none⟩)], .func (.func 33) #[.pointer (some ⟨p, 0, none⟩)] #[], .func (.func 44) #[] #[.pointer (some ⟨g2, 0, none⟩), .pointer (some ⟨g5, 0, none⟩)], .func (.func 33) #[.pointer (some ⟨p, 0, none⟩)] #[]] 51 (0, 0))
  have BFf := Aside0.mk (heap_alloc_new w5 (.cells #[.func (.func 41) #[] #[.pointer (some ⟨g2, 0, none⟩), .pointer (some ⟨g5, 0, none⟩)], .func (.func 43) #[] #[.pointer (some ⟨g2, 0, none⟩), .pointer (some ⟨g5, 0, none⟩), .pointer (some ⟨g3, 0, none⟩)], .func (.func 33) #[.pointer (some ⟨p, 0, none⟩)] #[], .func (.func 44) #[] #[.pointer (some ⟨g2, 0, none⟩), .pointer (some ⟨g5, 0, none⟩)], .func (.func 33) #[.pointer (some ⟨p, 0, none⟩)] #[]] 51 (0, 0)))
  have R6 := Aside0.mk (R5.out.below hal)
  have BB6 := Aside0.mk (below_step BB5.out hal)
  have B26 := Aside0.mk (blkK hal B25.out)
  have B36 := Aside0.mk (blkK hal B35.out)
  have B56 := Aside0.mk (blkK hal B55.out)
  have BQ6 := Aside0.mk (blkK hal BQ5.out)
  have HS6 := Aside0.mk (HS5.out.keep (Keeps.below hal))
  clear hal hHeld
  generalize w5.alloc (.cells #[.func (.func 41) #[] #[.pointer (some ⟨g2, 0, none⟩), .pointer (some ⟨g5, 0, none⟩)], .func (.func 43) #[] #[.pointer (some ⟨g2, 0, none⟩), .pointer (some ⟨g5, 0, none⟩), .pointer (some ⟨g3, 0, none⟩)], .func (.func 33) #[.pointer (some ⟨p, 0, none⟩)] #[], .func (.func 44) #[] #[.pointer (some ⟨g2, 0, none⟩), .pointer (some ⟨g5, 0, none⟩)], .func (.func 33) #[.pointer (some ⟨p, 0, none⟩)] #[]] 51 (0, 0)) = w6 at BFf R6 BB6 B26 B36 B56 BQ6 HS6 ⊢
  generalize w5.heap.size = gf at BFf ⊢
  refine hK.out _ _ ?_
  clear hK K
  refine norm_ (a' := ?_) ?_ ?_
  rotate_left
  · show Act.put _ (some 25) _ = _
    simp only [Act.put, List.setIfInBounds_toArray, List.set_cons_zero, List.set_cons_succ, i64_w, i32_w]
    rfl
  refine last_ (i := 14) (N := some 26) #[true, true, true, true, true, true, true, true, true, true, true, true, true, true, true, false] rfl rfl (one_of HT_.out (by kernel_rfl)) (by decide) (fun K hK => ?_)
  refine goes_ Try.func40 (by kernel_rfl) rfl #[.slice (some ⟨gf, 0, none⟩) 5 5] (by rfl) rfl rfl (by (try simp only [List.map_toArray, List.map_cons, List.map_nil]); first | done | rfl) ?_
  refine (steps_calls (a := 1) w6 BFf.out B26.out BQ6.out B56.out B36.out R6.out HO.out HN.out (.inr rfl) HS6.out HL.out).mono ?_
  rintro e w7 ⟨rfl, hr, hb, hk⟩
  refine ⟨_, rfl, ?_⟩
  have R7 := Aside0.mk hr
  have BB7 := Aside0.mk (Below.trans (Below.mono BB6.out HB.out) hb)
  have B27 := Aside0.mk (hk 27 (by decide) (by decide) _ _ B26.out)
  have B37 := Aside0.mk (hk 28 (by decide) (by decide) _ _ B36.out)
  have B57 := Aside0.mk (hk 3 (by decide) (by decide) _ _ B56.out)
  have BQ7 := Aside0.mk (hk 60 (by decide) (by decide) _ _ BQ6.out)
  have K7 := Aside0.mk (KT.trans (KT.below BB6.out) hk)
  clear hr hb hk
  refine hK.out _ _ ?_
  clear hK K
  refine norm_ (a' := ?_) ?_ ?_
  rotate_left
  · show Act.put _ (some 26) _ = _
    simp only [Act.put, List.setIfInBounds_toArray, List.set_cons_zero, List.set_cons_succ, i64_w, i32_w]
    rfl
  refine pure_ (i := 15) (N := some 6) (v := ?_) (a' := ?_) #[true, true, true, true, true, true, true, true, true, true, true, true, true, true, true, true] rfl rfl (any_of HT_.out (by kernel_rfl)) (fun _ _ _ h => h) (Or.inl ⟨by rfl, ?_⟩) ?_ ?_
  rotate_left
  · intro w'
    go_simp
    with_reducible rfl
  rotate_left
  · simp only [Act.put, List.setIfInBounds_toArray, List.set_cons_zero, List.set_cons_succ, i64_w, i32_w]
    rfl
  refine done_ (done_of HT_.out (by kernel_rfl)) ?_
  go_wp2_with fail
  refine start_ (n := 11) (S := fun w' => w'.cell? ⟨g2, 0, none⟩ = some (.pointer (some ⟨q, 0, none⟩)) ∧ w'.cell? ⟨g5, 0, none⟩ = some (.int .i64 1) ∧ w'.cell? ⟨g3, 0, none⟩ = some (.slice A bs.length c)) (ds := [10]) #[false, false, false, false, false, false, false, false, false, false, false] (by kernel_rfl) rfl rfl ⟨(blk_cell B27.out 0).trans rfl, (blk_cell B57.out 0).trans rfl, (blk_cell B37.out 0).trans rfl⟩ (fun hHeld => ?_); refine with_tabW turn_R4.tab turn_R4.bits (fun HT_ HW_ => ?_)
  have hd := below_drew (Below.refl w7.heap.size w7)
  have R8 := Aside0.mk (R7.out.below hd)
  have BB8 := Aside0.mk (below_drew BB7.out)
  have BQ8 := Aside0.mk (blkK hd BQ7.out)
  have K8 := Aside0.mk (KT.trans K7.out (KT.below hd))
  have B28 := Aside0.mk (blkK hd B27.out)
  have B38 := Aside0.mk (blkK hd B37.out)
  have B58 := Aside0.mk (blkK hd B57.out)
  clear hd
  generalize w7.drew = w8 at R8 BB8 BQ8 K8 B28 B38 B58 hHeld ⊢
  refine take_ (i := 0) (N := some 29) (v := ?_) (a' := ?_) #[true, false, false, false, false, false, false, false, false, false, false] rfl rfl (take_ofW HT_.out HW_.out (by kernel_rfl)) (fun _ _ _ h => h) (Or.inl ⟨by rfl, ?_⟩) hHeld ?_ ?_
  rotate_left
  · rintro w' ⟨s0, s1, s2⟩
    go_simp
    with_reducible rfl
  rotate_left
  · simp only [Act.put, List.setIfInBounds_toArray, List.set_cons_zero, List.set_cons_succ, i64_w, i32_w]
    rfl
  refine take_ (i := 1) (N := some 30) (v := ?_) (a' := ?_) #[true, true, false, false, false, false, false, false, false, false, false] rfl rfl (take_ofW HT_.out HW_.out (by kernel_rfl)) (fun _ _ _ h => h) (Or.inl ⟨by rfl, ?_⟩) hHeld ?_ ?_
  rotate_left
  · rintro w' ⟨s0, s1, s2⟩
    go_simp
    with_reducible rfl
  rotate_left
  · simp only [Act.put, List.setIfInBounds_toArray, List.set_cons_zero, List.set_cons_succ, i64_w, i32_w]
    rfl
  refine take_ (i := 2) (N := some 31) (v := ?_) (a' := ?_) #[true, true, true, false, false, false, false, false, false, false, false] rfl rfl (take_ofW HT_.out HW_.out (by kernel_rfl)) (fun _ _ _ h => h) (Or.inl ⟨by rfl, ?_⟩) hHeld ?_ ?_
  rotate_left
  · rintro w' ⟨s0, s1, s2⟩
    go_simp
    with_reducible rfl
  rotate_left
  · simp only [Act.put, List.setIfInBounds_toArray, List.set_cons_zero, List.set_cons_succ, i64_w, i32_w]
    rfl
  refine pure_ (i := 5) (N := some 34) (v := ?_) (a' := ?_) #[true, true, true, false, false, true, false, false, false, false, false] rfl rfl (any_of HT_.out (by kernel_rfl)) (fun _ _ _ h => h) (Or.inl ⟨by rfl, ?_⟩) ?_ ?_
  rotate_left
  · intro w'
    go_simp
    with_reducible rfl
  rotate_left
  · simp only [Act.put, List.setIfInBounds_toArray, List.set_cons_zero, List.set_cons_succ, i64_w, i32_w]
    rfl
  refine pure_ (i := 6) (N := some 35) (v := ?_) (a' := ?_) #[true, true, true, false, false, true, true, false, false, false, false] rfl rfl (any_of HT_.out (by kernel_rfl)) (fun _ _ _ h => h) (Or.inl ⟨by rfl, ?_⟩) ?_ ?_
  rotate_left
  · intro w'
    go_simp
    with_reducible rfl
  rotate_left
  · simp only [Act.put, List.setIfInBounds_toArray, List.set_cons_zero, List.set_cons_succ, i64_w, i32_w]
    rfl
  refine take_ (i := 3) (N := some 32) (v := ?_) (a' := ?_) #[true, true, true, true, false, true, true, false, false, false, false] rfl rfl (take_ofW HT_.out HW_.out (by kernel_rfl)) (fun _ _ _ h => h) (Or.inl ⟨by rfl, ?_⟩) hHeld ?_ ?_
  rotate_left
  · rintro w' ⟨s0, s1, s2⟩
    go_simp
    with_reducible rfl
  rotate_left
  · simp only [Act.put, List.setIfInBounds_toArray, List.set_cons_zero, List.set_cons_succ, i64_w, i32_w]
    rfl
  refine pure_ (i := 4) (N := some 33) (v := ?_) (a' := ?_) #[true, true, true, true, true, true, true, false, false, false, false] rfl rfl (any_of HT_.out (by kernel_rfl)) (fun _ _ _ h => h) (Or.inl ⟨by rfl, ?_⟩) ?_ ?_
  rotate_left
  · intro w'
    go_simp
    with_reducible rfl
  rotate_left
  · simp only [Act.put, List.setIfInBounds_toArray, List.set_cons_zero, List.set_cons_succ, i64_w, i32_w]
    rfl
  refine one_ (i := 7) (N := none) #[true, true, true, true, true, true, true, true, false, false, false] rfl rfl (one_of HT_.out (by kernel_rfl)) (by decide) (fun K hK => ?_)
  have q1 : w8.cell? ⟨q, 1, none⟩ = some (.int .i64 0) := (blk_cell BQ8.out 1).trans rfl
  have f1 := blk_frozen BQ8.out 1
  refine skip_ (w1 := ?_) (by rfl) rfl ?_ ?_
  rotate_left
  · go_simp
    rfl
  have BQ9 := Aside0.mk (show (w8.setCell ⟨q, 1, none⟩ (.int .i64 1)).heap[q]? = some (.cells #[.pointer (some ⟨p, 0, none⟩), .int .i64 1, .int .i64 size] 60 (0, 0)) from blk_set BQ8.out 1 _)
  have BB9 := Aside0.mk (BB8.out.setCell (p := ⟨q, 1, none⟩) HBq.out (.int .i64 1))
  have K9 := Aside0.mk (KL.trans K8.out.kl (KL.set (j := 1) (v := .int .i64 1) BQ8.out))
  have R9 := Aside0.mk (Rep.other36 (t := 60) R8.out (grown_set (j := 1) (u := .int .i64 1)) BQ8.out (by decide) (by decide) (by decide))
  have ks := KL.set (j := 1) (v := .int .i64 1) BQ8.out
  have B29 := Aside0.mk (ks 27 (by decide) (by decide) (by decide) _ _ B28.out)
  have B39 := Aside0.mk (ks 28 (by decide) (by decide) (by decide) _ _ B38.out)
  have B59 := Aside0.mk (ks 3 (by decide) (by decide) (by decide) _ _ B58.out)
  clear q1 f1 ks
  generalize w8.setCell ⟨q, 1, none⟩ (.int .i64 1) = w9 at BQ9 BB9 K9 R9 B29 B39 B59 ⊢
  refine hK.out _ _ ⟨(blk_cell B29.out 0).trans rfl, (blk_cell B59.out 0).trans rfl, (blk_cell B39.out 0).trans rfl⟩ (fun hHeld2 => ?_)
  clear hHeld hHeld2
  clear hK K
  refine pure_ (i := 8) (N := some 36) (v := ?_) (a' := ?_) #[true, true, true, true, true, true, true, true, true, false, false] rfl rfl (any_of HT_.out (by kernel_rfl)) (fun _ _ _ h => h) (Or.inl ⟨by rfl, ?_⟩) ?_ ?_
  rotate_left
  · intro w'
    go_simp
    with_reducible rfl
  rotate_left
  · simp only [Act.put, List.setIfInBounds_toArray, List.set_cons_zero, List.set_cons_succ, i64_w, i32_w]
    rfl
  refine pure_ (i := 9) (N := some 37) (v := ?_) (a' := ?_) #[true, true, true, true, true, true, true, true, true, true, false] rfl rfl (any_of HT_.out (by kernel_rfl)) (fun _ _ _ h => h) (Or.inl ⟨by rfl, ?_⟩) ?_ ?_
  rotate_left
  · intro w'
    go_simp
    with_reducible rfl
  rotate_left
  · simp only [Act.put, List.setIfInBounds_toArray, List.set_cons_zero, List.set_cons_succ, i64_w, i32_w]
    rfl
  refine last_ (i := 10) (N := none) #[true, true, true, true, true, true, true, true, true, true, true] rfl rfl (one_of HT_.out (by kernel_rfl)) (by decide) (fun K hK => ?_)
  have q2 : w9.cell? ⟨q, 2, none⟩ = some (.int .i64 size) := (blk_cell BQ9.out 2).trans rfl
  have f2 := blk_frozen BQ9.out 2
  refine skip_ (w1 := ?_) (by rfl) rfl ?_ ?_
  rotate_left
  · go_simp
    rfl
  have BQA := Aside0.mk (show (w9.setCell ⟨q, 2, none⟩ (.int .i64 (bs.length : Int))).heap[q]? = some (.cells #[.pointer (some ⟨p, 0, none⟩), .int .i64 1, .int .i64 (bs.length : Int)] 60 (0, 0)) from blk_set BQ9.out 2 _)
  have BBA := Aside0.mk (BB9.out.setCell (p := ⟨q, 2, none⟩) HBq.out (.int .i64 (bs.length : Int)))
  have KA := Aside0.mk (KL.trans K9.out (KL.set (j := 2) (v := .int .i64 (bs.length : Int)) BQ9.out))
  have RA := Aside0.mk (Rep.other36 (t := 60) R9.out (grown_set (j := 2) (u := .int .i64 (bs.length : Int))) BQ9.out (by decide) (by decide) (by decide))
  clear q2 f2
  generalize w9.setCell ⟨q, 2, none⟩ (.int .i64 (bs.length : Int)) = wA at BQA BBA KA RA ⊢
  refine hK.out _ _ ?_
  clear hK K
  refine done_ (done_of HT_.out (by kernel_rfl)) ?_
  go_wp2
  go_ret
  exact ⟨rfl, RA.out, BQA.out, BBA.out, KA.out⟩
set_option maxHeartbeats 8000000 in
set_option maxRecDepth 100000 in
theorem turn1 {A : Option Addr} {c : Nat} {bs : List Int} (w : World) (hq : w.heap[q]? = some (.cells #[.pointer (some ⟨p, 0, none⟩), .int .i64 1, .int .i64 size] 60 (0, 0))) (hR : Rep B w p (UP t u l)) (hO : Ok M (UP t u l)) (hN : M + bs.length + 3 ≤ 500000000) (hS : BS B0 w (.slice A bs.length c) bs) (hl : bs.length ≤ 100000000) (hBq : B ≤ q) :
    Calls Try.prog 27 #[.pointer (some ⟨q, 0, none⟩), .slice A bs.length c] w fun e w' => e = .returned (.int .i64 0) ∧ Rep B w' p (T5 u 0 bs) ∧ w'.heap[q]? = some (.cells #[.pointer (some ⟨p, 0, none⟩), .int .i64 0, .int .i64 (bs.length : Int)] 60 (0, 0)) ∧ Below B w w' ∧ KL w w' := by
  have BQ0 := Aside0.mk hq
  have R0 := Aside0.mk hR
  have HB := Aside0.mk hR.base
  have HO := Aside0.mk hO
  have HN := Aside0.mk hN
  have HS0 := Aside0.mk hS
  have HL := Aside0.mk hl
  have HBq := Aside0.mk hBq
  clear hq hR hO hN hS hl hBq
  have hmf : ∀ (fn : Fn) (first cap : Array Value) (w : World), (Instr.makeFunc fn first cap).run Try.prog w = .ok (.func fn first cap) w := fun _ _ _ _ => rfl
  go_enter Try.func27, Try.ntmps27
  go_wp2_with (first
    | ((with_reducible refine gate_dst (N := 2) rfl ?_); refine box_event ?hg (N := 2) ?hd (cs := #[.pointer (some ⟨q, 0, none⟩)]) (t := 27) ?hr ?_; (case hd => rfl); (case hg => rfl); (case hr => first | (go_simp; done) | (go_simp; rfl)); intro g2 e2 w1 b2 hb; have B21 := Aside0.mk b2; have BB1 := Aside0.mk hb; clear b2 hb e2)
    | ((with_reducible refine gate_dst (N := 3) rfl ?_); refine box_event ?hg (N := 3) ?hd (cs := #[.slice A bs.length c]) (t := 28) ?hr ?_; (case hd => rfl); (case hg => rfl); (case hr => first | (go_simp; done) | (go_simp; rfl)); intro g3 e3 w2 b3 hb; have B32 := Aside0.mk b3; have B22 := Aside0.mk (blkK hb B21.out); have BB2 := Aside0.mk (below_step BB1.out hb); have z20 : w2.cell? ⟨g2, 0, none⟩ = some (.pointer (some ⟨q, 0, none⟩)) := (blk_cell B22.out 0).trans rfl; have zq1 : w2.cell? ⟨q, 1, none⟩ = some (.int .i64 1) := (blk_cell (blkK BB2.out BQ0.out) 1).trans rfl; clear b3 hb e3)
    | ((with_reducible refine gate_dst (N := 5) rfl ?_); refine box_event ?hg (N := 5) ?hd (cs := #[.int .i64 0]) (t := 3) ?hr ?_; (case hd => rfl); (case hg => rfl); (case hr => first | (go_simp; done) | (go_simp; rfl)); intro g5 e5 w3 b5 hb; have B53 := Aside0.mk b5; have E5 := Aside0.mk e5; have B23 := Aside0.mk (blkK hb B22.out); have B33 := Aside0.mk (blkK hb B32.out); have BB3 := Aside0.mk (below_step BB2.out hb); have BBX := Aside0.mk hb; clear b5 hb e5 z20 zq1)
    | ((with_reducible refine gate_ (.store 3 (.tmp 5) (.tmp 11)) rfl ?_); refine put_field (g := g5) (j := 0) (e := 3) rfl rfl 3 (.tmp 5) (.tmp 11) rfl rfl (.int .i64 0) rfl rfl (by kernel_rfl) (by simp [Value.oneCell']) B53.out (by simp) ?_; intro w4 b5 hg; have B54 := Aside0.mk (show w4.heap[g5]? = some (.cells #[.int .i64 0] 3 (0, 0)) from b5); have B24 := Aside0.mk (Keeps.grown (t := 27) hg B53.out (by decide) _ _ B23.out); have B34 := Aside0.mk (Keeps.grown (t := 28) hg B53.out (by decide) _ _ B33.out); have BB4 := Aside0.mk (Below.grown BB3.out hg BB3.out.size (fun k hk => by cases hk; have h1 := E5.out; have h2 := BB2.out.size; omega)); have BQ4 := Aside0.mk (blkK BB4.out BQ0.out); have R4 := Aside0.mk (R0.out.below BB4.out); have HS4 := Aside0.mk (HS0.out.keep (Keeps.below BB4.out)); clear b5 hg B21 B22 B23 B32 B33 B53 BB1 BB2 BB3 BBX)
    | fail)
  refine start_ (n := 16) (S := fun w' => w'.cell? ⟨g2, 0, none⟩ = some (.pointer (some ⟨q, 0, none⟩)) ∧ w'.cell? ⟨q, 0, none⟩ = some (.pointer (some ⟨p, 0, none⟩))) (ds := [13, 14]) #[false, false, false, false, false, false, false, false, false, false, false, false, false, false, false, false] (by kernel_rfl) rfl rfl ⟨(blk_cell B24.out 0).trans rfl, (blk_cell BQ4.out 0).trans rfl⟩ (fun hHeld => ?_); refine with_tabW turn_R2.tab turn_R2.bits (fun HT_ HW_ => ?_)
  have hd := below_drew (Below.refl w4.heap.size w4)
  have R5 := Aside0.mk (R4.out.below hd)
  have BB5 := Aside0.mk (below_step BB4.out hd)
  have B25 := Aside0.mk (blkK hd B24.out)
  have B35 := Aside0.mk (blkK hd B34.out)
  have B55 := Aside0.mk (blkK hd B54.out)
  have BQ5 := Aside0.mk (blkK hd BQ4.out)
  have HS5 := Aside0.mk (HS4.out.keep (Keeps.below hd))
  clear hd
  generalize w4.drew = w5 at R5 BB5 B25 B35 B55 BQ5 HS5 hHeld ⊢
  refine pure_ (i := 0) (N := some 12) (v := ?_) (a' := ?_) #[true, false, false, false, false, false, false, false, false, false, false, false, false, false, false, false] rfl rfl (any_of HT_.out (by kernel_rfl)) (fun _ _ _ h => h) (Or.inl ⟨by rfl, ?_⟩) ?_ ?_
  rotate_left
  · intro w'
    go_simp
    with_reducible rfl
  rotate_left
  · simp only [Act.put, List.setIfInBounds_toArray, List.set_cons_zero, List.set_cons_succ, i64_w, i32_w]
    rfl
  refine pure_ (i := 1) (N := some 13) (v := ?_) (a' := ?_) #[true, true, false, false, false, false, false, false, false, false, false, false, false, false, false, false] rfl rfl (any_of HT_.out (by kernel_rfl)) (fun _ _ _ h => h) (Or.inl ⟨by rfl, ?_⟩) ?_ ?_
  rotate_left
  · intro w'
    go_simp
    with_reducible rfl
  rotate_left
  · simp only [Act.put, List.setIfInBounds_toArray, List.set_cons_zero, List.set_cons_succ, i64_w, i32_w]
    rfl
  refine pure_ (i := 7) (N := some 19) (v := ?_) (a' := ?_) #[true, true, false, false, false, false, false, true, false, false, false, false, false, false, false, false] rfl rfl (any_of HT_.out (by kernel_rfl)) (fun _ _ _ h => h) (Or.inl ⟨by rfl, ?_⟩) ?_ ?_
  rotate_left
  · intro w'
    go_simp
    with_reducible rfl
  rotate_left
  · simp only [Act.put, List.setIfInBounds_toArray, List.set_cons_zero, List.set_cons_succ, i64_w, i32_w]
    rfl
  refine take_ (i := 2) (N := some 14) (v := ?_) (a' := ?_) #[true, true, true, false, false, false, false, true, false, false, false, false, false, false, false, false] rfl rfl (take_ofW HT_.out HW_.out (by kernel_rfl)) (fun _ _ _ h => h) (Or.inl ⟨by rfl, ?_⟩) hHeld ?_ ?_
  rotate_left
  · rintro w' ⟨s0, s1⟩
    go_simp
    with_reducible rfl
  rotate_left
  · simp only [Act.put, List.setIfInBounds_toArray, List.set_cons_zero, List.set_cons_succ, i64_w, i32_w]
    rfl
  refine pure_ (i := 3) (N := some 15) (v := ?_) (a' := ?_) #[true, true, true, true, false, false, false, true, false, false, false, false, false, false, false, false] rfl rfl (any_of HT_.out (by kernel_rfl)) (fun _ _ _ h => h) (Or.inl ⟨by rfl, ?_⟩) ?_ ?_
  rotate_left
  · intro w'
    go_simp
    with_reducible rfl
  rotate_left
  · simp only [Act.put, List.setIfInBounds_toArray, List.set_cons_zero, List.set_cons_succ, i64_w, i32_w]
    rfl
  refine pure_ (i := 4) (N := some 16) (v := ?_) (a' := ?_) #[true, true, true, true, true, false, false, true, false, false, false, false, false, false, false, false] rfl rfl (any_of HT_.out (by kernel_rfl)) (fun _ _ _ h => h) (Or.inl ⟨by rfl, ?_⟩) ?_ ?_
  rotate_left
  · intro w'
    go_simp
    with_reducible rfl
  rotate_left
  · simp only [Act.put, List.setIfInBounds_toArray, List.set_cons_zero, List.set_cons_succ, i64_w, i32_w]
    rfl
  refine take_ (i := 5) (N := some 17) (v := ?_) (a' := ?_) #[true, true, true, true, true, true, false, true, false, false, false, false, false, false, false, false] rfl rfl (take_ofW HT_.out HW_.out (by kernel_rfl)) (fun _ _ _ h => h) (Or.inl ⟨by rfl, ?_⟩) hHeld ?_ ?_
  rotate_left
  · rintro w' ⟨s0, s1⟩
    go_simp
    with_reducible rfl
  rotate_left
  · simp only [Act.put, List.setIfInBounds_toArray, List.set_cons_zero, List.set_cons_succ, i64_w, i32_w]
    rfl
  refine pure_ (i := 6) (N := some 18) (v := ?_) (a' := ?_) #[true, true, true, true, true, true, true, true, false, false, false, false, false, false, false, false] rfl rfl (any_of HT_.out (by kernel_rfl)) (fun _ _ _ h => h) (Or.inl ⟨by rfl, ?_⟩) ?_ ?_
  rotate_left
  · intro w'
    go_simp
    with_reducible rfl
  rotate_left
  · simp only [Act.put, List.setIfInBounds_toArray, List.set_cons_zero, List.set_cons_succ, i64_w, i32_w]
    rfl
  refine take_ (i := 8) (N := some 20) (v := ?_) (a' := ?_) #[true, true, true, true, true, true, true, true, true, false, false, false, false, false, false, false] rfl rfl (take_ofW HT_.out HW_.out (by kernel_rfl)) (fun _ _ _ h => h) (Or.inl ⟨by rfl, ?_⟩) hHeld ?_ ?_
  rotate_left
  · rintro w' ⟨s0, s1⟩
    go_simp
    with_reducible rfl
  rotate_left
  · simp only [Act.put, List.setIfInBounds_toArray, List.set_cons_zero, List.set_cons_succ, i64_w, i32_w]
    rfl
  refine pure_ (i := 9) (N := some 21) (v := ?_) (a' := ?_) #[true, true, true, true, true, true, true, true, true, true, false, false, false, false, false, false] rfl rfl (any_of HT_.out (by kernel_rfl)) (fun _ _ _ h => h) (Or.inl ⟨by rfl, ?_⟩) ?_ ?_
  rotate_left
  · intro w'
    go_simp
    with_reducible rfl
  rotate_left
  · simp only [Act.put, List.setIfInBounds_toArray, List.set_cons_zero, List.set_cons_succ, i64_w, i32_w]
    rfl
  refine pure_ (i := 10) (N := some 22) (v := ?_) (a' := ?_) #[true, true, true, true, true, true, true, true, true, true, true, false, false, false, false, false] rfl rfl (any_of HT_.out (by kernel_rfl)) (fun _ _ _ h => h) (Or.inl ⟨by rfl, ?_⟩) ?_ ?_
  rotate_left
  · intro w'
    go_simp
    with_reducible rfl
  rotate_left
  · simp only [Act.put, List.setIfInBounds_toArray, List.set_cons_zero, List.set_cons_succ, i64_w, i32_w]
    rfl
  refine take_ (i := 11) (N := some 23) (v := ?_) (a' := ?_) #[true, true, true, true, true, true, true, true, true, true, true, true, false, false, false, false] rfl rfl (take_ofW HT_.out HW_.out (by kernel_rfl)) (fun _ _ _ h => h) (Or.inl ⟨by rfl, ?_⟩) hHeld ?_ ?_
  rotate_left
  · rintro w' ⟨s0, s1⟩
    go_simp
    with_reducible rfl
  rotate_left
  · simp only [Act.put, List.setIfInBounds_toArray, List.set_cons_zero, List.set_cons_succ, i64_w, i32_w]
    rfl
  refine pure_ (i := 12) (N := some 24) (v := ?_) (a' := ?_) #[true, true, true, true, true, true, true, true, true, true, true, true, true, false, false, false] rfl rfl (any_of HT_.out (by kernel_rfl)) (fun _ _ _ h => h) (Or.inl ⟨by rfl, ?_⟩) ?_ ?_
  rotate_left
  · intro w'
    go_simp
    with_reducible rfl
  rotate_left
  · simp only [Act.put, List.setIfInBounds_toArray, List.set_cons_zero, List.set_cons_succ, i64_w, i32_w]
    rfl
  refine last_ (i := 13) (N := some 25) #[true, true, true, true, true, true, true, true, true, true, true, true, true, true, false, false] rfl rfl (one_of HT_.out (by kernel_rfl)) (by decide) (fun K hK => ?_)
  refine value_ (w1 := ?_) (v := ?_) (by rfl) rfl ?_ ?_
  rotate_left 2
  · go_simp
    constructor
    · rfl
    · rfl
  have hal := below_al w5 (.cells #[.func (.func 41) #[] #[.pointer (some ⟨g2, 0, none⟩), .pointer (some ⟨g5, 0, none⟩)], .func (.func 43) #[] #[.pointer (some ⟨g2, 0, none⟩), .pointer (some ⟨g5, 0, none⟩), .pointer (some ⟨g3, 0, none⟩)], .func (.func 33) #[.pointer (some ⟨p, 0, none⟩)] #[], .func (.func 44) #[] #[.pointer (some ⟨g2, 0, none⟩), .pointer (some ⟨g5, 0, none⟩)], .func (.func 33) #[.pointer (some ⟨p, 0, none⟩)] #[]] 51 (0, 0))
  have BFf := Aside0.mk (heap_alloc_new w5 (.cells #[.func (.func 41) #[] #[.pointer (some ⟨g2, 0, none⟩), .pointer (some ⟨g5, 0, none⟩)], .func (.func 43) #[] #[.pointer (some ⟨g2, 0, none⟩), .pointer (some ⟨g5, 0, none⟩), .pointer (some ⟨g3, 0, none⟩)], .func (.func 33) #[.pointer (some ⟨p, 0, none⟩)] #[], .func (.func 44) #[] #[.pointer (some ⟨g2, 0, none⟩), .pointer (some ⟨g5, 0, none⟩)], .func (.func 33) #[.pointer (some ⟨p, 0, none⟩)] #[]] 51 (0, 0)))
  have R6 := Aside0.mk (R5.out.below hal)
  have BB6 := Aside0.mk (below_step BB5.out hal)
  have B26 := Aside0.mk (blkK hal B25.out)
  have B36 := Aside0.mk (blkK hal B35.out)
  have B56 := Aside0.mk (blkK hal B55.out)
  have BQ6 := Aside0.mk (blkK hal BQ5.out)
  have HS6 := Aside0.mk (HS5.out.keep (Keeps.below hal))
  clear hal hHeld
  generalize w5.alloc (.cells #[.func (.func 41) #[] #[.pointer (some ⟨g2, 0, none⟩), .pointer (some ⟨g5, 0, none⟩)], .func (.func 43) #[] #[.pointer (some ⟨g2, 0, none⟩), .pointer (some ⟨g5, 0, none⟩), .pointer (some ⟨g3, 0, none⟩)], .func (.func 33) #[.pointer (some ⟨p, 0, none⟩)] #[], .func (.func 44) #[] #[.pointer (some ⟨g2, 0, none⟩), .pointer (some ⟨g5, 0, none⟩)], .func (.func 33) #[.pointer (some ⟨p, 0, none⟩)] #[]] 51 (0, 0)) = w6 at BFf R6 BB6 B26 B36 B56 BQ6 HS6 ⊢
  generalize w5.heap.size = gf at BFf ⊢
  refine hK.out _ _ ?_
  clear hK K
  refine norm_ (a' := ?_) ?_ ?_
  rotate_left
  · show Act.put _ (some 25) _ = _
    simp only [Act.put, List.setIfInBounds_toArray, List.set_cons_zero, List.set_cons_succ, i64_w, i32_w]
    rfl
  refine last_ (i := 14) (N := some 26) #[true, true, true, true, true, true, true, true, true, true, true, true, true, true, true, false] rfl rfl (one_of HT_.out (by kernel_rfl)) (by decide) (fun K hK => ?_)
  refine goes_ Try.func40 (by kernel_rfl) rfl #[.slice (some ⟨gf, 0, none⟩) 5 5] (by rfl) rfl rfl (by (try simp only [List.map_toArray, List.map_cons, List.map_nil]); first | done | rfl) ?_
  refine (steps_calls (a := 0) w6 BFf.out B26.out BQ6.out B56.out B36.out R6.out HO.out HN.out (.inl rfl) HS6.out HL.out).mono ?_
  rintro e w7 ⟨rfl, hr, hb, hk⟩
  refine ⟨_, rfl, ?_⟩
  have R7 := Aside0.mk hr
  have BB7 := Aside0.mk (Below.trans (Below.mono BB6.out HB.out) hb)
  have B27 := Aside0.mk (hk 27 (by decide) (by decide) _ _ B26.out)
  have B37 := Aside0.mk (hk 28 (by decide) (by decide) _ _ B36.out)
  have B57 := Aside0.mk (hk 3 (by decide) (by decide) _ _ B56.out)
  have BQ7 := Aside0.mk (hk 60 (by decide) (by decide) _ _ BQ6.out)
  have K7 := Aside0.mk (KT.trans (KT.below BB6.out) hk)
  clear hr hb hk
  refine hK.out _ _ ?_
  clear hK K
  refine norm_ (a' := ?_) ?_ ?_
  rotate_left
  · show Act.put _ (some 26) _ = _
    simp only [Act.put, List.setIfInBounds_toArray, List.set_cons_zero, List.set_cons_succ, i64_w, i32_w]
    rfl
  refine pure_ (i := 15) (N := some 6) (v := ?_) (a' := ?_) #[true, true, true, true, true, true, true, true, true, true, true, true, true, true, true, true] rfl rfl (any_of HT_.out (by kernel_rfl)) (fun _ _ _ h => h) (Or.inl ⟨by rfl, ?_⟩) ?_ ?_
  rotate_left
  · intro w'
    go_simp
    with_reducible rfl
  rotate_left
  · simp only [Act.put, List.setIfInBounds_toArray, List.set_cons_zero, List.set_cons_succ, i64_w, i32_w]
    rfl
  refine done_ (done_of HT_.out (by kernel_rfl)) ?_
  go_wp2_with fail
  refine start_ (n := 11) (S := fun w' => w'.cell? ⟨g2, 0, none⟩ = some (.pointer (some ⟨q, 0, none⟩)) ∧ w'.cell? ⟨g5, 0, none⟩ = some (.int .i64 0) ∧ w'.cell? ⟨g3, 0, none⟩ = some (.slice A bs.length c)) (ds := [10]) #[false, false, false, false, false, false, false, false, false, false, false] (by kernel_rfl) rfl rfl ⟨(blk_cell B27.out 0).trans rfl, (blk_cell B57.out 0).trans rfl, (blk_cell B37.out 0).trans rfl⟩ (fun hHeld => ?_); refine with_tabW turn_R4.tab turn_R4.bits (fun HT_ HW_ => ?_)
  have hd := below_drew (Below.refl w7.heap.size w7)
  have R8 := Aside0.mk (R7.out.below hd)
  have BB8 := Aside0.mk (below_drew BB7.out)
  have BQ8 := Aside0.mk (blkK hd BQ7.out)
  have K8 := Aside0.mk (KT.trans K7.out (KT.below hd))
  have B28 := Aside0.mk (blkK hd B27.out)
  have B38 := Aside0.mk (blkK hd B37.out)
  have B58 := Aside0.mk (blkK hd B57.out)
  clear hd
  generalize w7.drew = w8 at R8 BB8 BQ8 K8 B28 B38 B58 hHeld ⊢
  refine take_ (i := 0) (N := some 29) (v := ?_) (a' := ?_) #[true, false, false, false, false, false, false, false, false, false, false] rfl rfl (take_ofW HT_.out HW_.out (by kernel_rfl)) (fun _ _ _ h => h) (Or.inl ⟨by rfl, ?_⟩) hHeld ?_ ?_
  rotate_left
  · rintro w' ⟨s0, s1, s2⟩
    go_simp
    with_reducible rfl
  rotate_left
  · simp only [Act.put, List.setIfInBounds_toArray, List.set_cons_zero, List.set_cons_succ, i64_w, i32_w]
    rfl
  refine take_ (i := 1) (N := some 30) (v := ?_) (a' := ?_) #[true, true, false, false, false, false, false, false, false, false, false] rfl rfl (take_ofW HT_.out HW_.out (by kernel_rfl)) (fun _ _ _ h => h) (Or.inl ⟨by rfl, ?_⟩) hHeld ?_ ?_
  rotate_left
  · rintro w' ⟨s0, s1, s2⟩
    go_simp
    with_reducible rfl
  rotate_left
  · simp only [Act.put, List.setIfInBounds_toArray, List.set_cons_zero, List.set_cons_succ, i64_w, i32_w]
    rfl
  refine take_ (i := 2) (N := some 31) (v := ?_) (a' := ?_) #[true, true, true, false, false, false, false, false, false, false, false] rfl rfl (take_ofW HT_.out HW_.out (by kernel_rfl)) (fun _ _ _ h => h) (Or.inl ⟨by rfl, ?_⟩) hHeld ?_ ?_
  rotate_left
  · rintro w' ⟨s0, s1, s2⟩
    go_simp
    with_reducible rfl
  rotate_left
  · simp only [Act.put, List.setIfInBounds_toArray, List.set_cons_zero, List.set_cons_succ, i64_w, i32_w]
    rfl
  refine pure_ (i := 5) (N := some 34) (v := ?_) (a' := ?_) #[true, true, true, false, false, true, false, false, false, false, false] rfl rfl (any_of HT_.out (by kernel_rfl)) (fun _ _ _ h => h) (Or.inl ⟨by rfl, ?_⟩) ?_ ?_
  rotate_left
  · intro w'
    go_simp
    with_reducible rfl
  rotate_left
  · simp only [Act.put, List.setIfInBounds_toArray, List.set_cons_zero, List.set_cons_succ, i64_w, i32_w]
    rfl
  refine pure_ (i := 6) (N := some 35) (v := ?_) (a' := ?_) #[true, true, true, false, false, true, true, false, false, false, false] rfl rfl (any_of HT_.out (by kernel_rfl)) (fun _ _ _ h => h) (Or.inl ⟨by rfl, ?_⟩) ?_ ?_
  rotate_left
  · intro w'
    go_simp
    with_reducible rfl
  rotate_left
  · simp only [Act.put, List.setIfInBounds_toArray, List.set_cons_zero, List.set_cons_succ, i64_w, i32_w]
    rfl
  refine take_ (i := 3) (N := some 32) (v := ?_) (a' := ?_) #[true, true, true, true, false, true, true, false, false, false, false] rfl rfl (take_ofW HT_.out HW_.out (by kernel_rfl)) (fun _ _ _ h => h) (Or.inl ⟨by rfl, ?_⟩) hHeld ?_ ?_
  rotate_left
  · rintro w' ⟨s0, s1, s2⟩
    go_simp
    with_reducible rfl
  rotate_left
  · simp only [Act.put, List.setIfInBounds_toArray, List.set_cons_zero, List.set_cons_succ, i64_w, i32_w]
    rfl
  refine pure_ (i := 4) (N := some 33) (v := ?_) (a' := ?_) #[true, true, true, true, true, true, true, false, false, false, false] rfl rfl (any_of HT_.out (by kernel_rfl)) (fun _ _ _ h => h) (Or.inl ⟨by rfl, ?_⟩) ?_ ?_
  rotate_left
  · intro w'
    go_simp
    with_reducible rfl
  rotate_left
  · simp only [Act.put, List.setIfInBounds_toArray, List.set_cons_zero, List.set_cons_succ, i64_w, i32_w]
    rfl
  refine one_ (i := 7) (N := none) #[true, true, true, true, true, true, true, true, false, false, false] rfl rfl (one_of HT_.out (by kernel_rfl)) (by decide) (fun K hK => ?_)
  have q1 : w8.cell? ⟨q, 1, none⟩ = some (.int .i64 1) := (blk_cell BQ8.out 1).trans rfl
  have f1 := blk_frozen BQ8.out 1
  refine skip_ (w1 := ?_) (by rfl) rfl ?_ ?_
  rotate_left
  · go_simp
    rfl
  have BQ9 := Aside0.mk (show (w8.setCell ⟨q, 1, none⟩ (.int .i64 0)).heap[q]? = some (.cells #[.pointer (some ⟨p, 0, none⟩), .int .i64 0, .int .i64 size] 60 (0, 0)) from blk_set BQ8.out 1 _)
  have BB9 := Aside0.mk (BB8.out.setCell (p := ⟨q, 1, none⟩) HBq.out (.int .i64 0))
  have K9 := Aside0.mk (KL.trans K8.out.kl (KL.set (j := 1) (v := .int .i64 0) BQ8.out))
  have R9 := Aside0.mk (Rep.other36 (t := 60) R8.out (grown_set (j := 1) (u := .int .i64 0)) BQ8.out (by decide) (by decide) (by decide))
  have ks := KL.set (j := 1) (v := .int .i64 0) BQ8.out
  have B29 := Aside0.mk (ks 27 (by decide) (by decide) (by decide) _ _ B28.out)
  have B39 := Aside0.mk (ks 28 (by decide) (by decide) (by decide) _ _ B38.out)
  have B59 := Aside0.mk (ks 3 (by decide) (by decide) (by decide) _ _ B58.out)
  clear q1 f1 ks
  generalize w8.setCell ⟨q, 1, none⟩ (.int .i64 0) = w9 at BQ9 BB9 K9 R9 B29 B39 B59 ⊢
  refine hK.out _ _ ⟨(blk_cell B29.out 0).trans rfl, (blk_cell B59.out 0).trans rfl, (blk_cell B39.out 0).trans rfl⟩ (fun hHeld2 => ?_)
  clear hHeld hHeld2
  clear hK K
  refine pure_ (i := 8) (N := some 36) (v := ?_) (a' := ?_) #[true, true, true, true, true, true, true, true, true, false, false] rfl rfl (any_of HT_.out (by kernel_rfl)) (fun _ _ _ h => h) (Or.inl ⟨by rfl, ?_⟩) ?_ ?_
  rotate_left
  · intro w'
    go_simp
    with_reducible rfl
  rotate_left
  · simp only [Act.put, List.setIfInBounds_toArray, List.set_cons_zero, List.set_cons_succ, i64_w, i32_w]
    rfl
  refine pure_ (i := 9) (N := some 37) (v := ?_) (a' := ?_) #[true, true, true, true, true, true, true, true, true, true, false] rfl rfl (any_of HT_.out (by kernel_rfl)) (fun _ _ _ h => h) (Or.inl ⟨by rfl, ?_⟩) ?_ ?_
  rotate_left
  · intro w'
    go_simp
    with_reducible rfl
  rotate_left
  · simp only [Act.put, List.setIfInBounds_toArray, List.set_cons_zero, List.set_cons_succ, i64_w, i32_w]
    rfl
  refine last_ (i := 10) (N := none) #[true, true, true, true, true, true, true, true, true, true, true] rfl rfl (one_of HT_.out (by kernel_rfl)) (by decide) (fun K hK => ?_)
  have q2 : w9.cell? ⟨q, 2, none⟩ = some (.int .i64 size) := (blk_cell BQ9.out 2).trans rfl
  have f2 := blk_frozen BQ9.out 2
  refine skip_ (w1 := ?_) (by rfl) rfl ?_ ?_
  rotate_left
  · go_simp
    rfl
  have BQA := Aside0.mk (show (w9.setCell ⟨q, 2, none⟩ (.int .i64 (bs.length : Int))).heap[q]? = some (.cells #[.pointer (some ⟨p, 0, none⟩), .int .i64 0, .int .i64 (bs.length : Int)] 60 (0, 0)) from blk_set BQ9.out 2 _)
  have BBA := Aside0.mk (BB9.out.setCell (p := ⟨q, 2, none⟩) HBq.out (.int .i64 (bs.length : Int)))
  have KA := Aside0.mk (KL.trans K9.out (KL.set (j := 2) (v := .int .i64 (bs.length : Int)) BQ9.out))
  have RA := Aside0.mk (Rep.other36 (t := 60) R9.out (grown_set (j := 2) (u := .int .i64 (bs.length : Int))) BQ9.out (by decide) (by decide) (by decide))
  clear q2 f2
  generalize w9.setCell ⟨q, 2, none⟩ (.int .i64 (bs.length : Int)) = wA at BQA BBA KA RA ⊢
  refine hK.out _ _ ?_
  clear hK K
  refine done_ (done_of HT_.out (by kernel_rfl)) ?_
  go_wp2
  go_ret
  exact ⟨rfl, RA.out, BQA.out, BBA.out, KA.out⟩
end Go.Proofs.Ytdbkedipfpepbaa.PWal
