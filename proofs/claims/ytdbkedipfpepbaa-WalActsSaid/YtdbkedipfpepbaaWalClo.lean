/- The walks of turn's closures. -/
import Derived.Test.YtdbkedipfpepbaaWalDisk
namespace Go.Proofs.Ytdbkedipfpepbaa.PWal
open Go.RowKit Go.Proofs.YtdbkedipfpepbaaW.PrintWords Go.Proofs.YtdbkedipfpepbaaW.PrintLast Go.Proofs.YtdbkedipfpepbaaW.PrintMore
set_option linter.unusedVariables false
set_option linter.unusedSimpArgs false
def clo41.T : Bool × List (List Nat × List Nat) := (true, [([], []), ([0], [0]), ([1], [1]), ([2], [2]), ([], []), ([3, 4], [3, 4]), ([5, 5, 0, 1, 2, 3, 4, 5], [5])])
def clo41.B : List Nat := [0, 1, 3, 7, 0, 31, 63]
theorem clo41.tab : rtab .any (opsOf Try.f41 1) = clo41.T := by kernel_rfl
theorem clo41.bits : waitsOk clo41.T.2 clo41.B = true := by kernel_rfl
def clo43.T : Bool × List (List Nat × List Nat) := (true, [([], []), ([0], [0]), ([1], [1]), ([2], [2]), ([], []), ([], []), ([3, 4, 5], [3, 4, 5]), ([6, 6, 0, 1, 2, 3, 4, 5, 6], [6])])
def clo43.B : List Nat := [0, 1, 3, 7, 0, 0, 63, 127]
theorem clo43.tab : rtab .any (opsOf Try.f43 1) = clo43.T := by kernel_rfl
theorem clo43.bits : waitsOk clo43.T.2 clo43.B = true := by kernel_rfl
def clo44.T : Bool × List (List Nat × List Nat) := (true, [([], []), ([0], [0]), ([1], [1]), ([2], [2]), ([], []), ([3, 4], [3, 4]), ([5, 5, 0, 1, 2, 3, 4, 5], [5])])
def clo44.B : List Nat := [0, 1, 3, 7, 0, 31, 63]
theorem clo44.tab : rtab .any (opsOf Try.f44 1) = clo44.T := by kernel_rfl
theorem clo44.bits : waitsOk clo44.T.2 clo44.B = true := by kernel_rfl
variable {B p q g2 g3 g5 M : Nat} {s s' : AD} {a front size : Int}
set_option maxHeartbeats 8000000 in
set_option maxRecDepth 100000 in
theorem clo41_calls (w : World) (hg2 : w.heap[g2]? = some (.cells #[.pointer (some ⟨q, 0, none⟩)] 27 (0, 0))) (hq : w.heap[q]? = some (.cells #[.pointer (some ⟨p, 0, none⟩), .int .i64 front, .int .i64 size] 60 (0, 0))) (hg5 : w.heap[g5]? = some (.cells #[.int .i64 a] 3 (0, 0)))
    (hR : Rep B w p s) (hO : Ok M s) (hN : M ≤ 500000000) (hE : mayE s a = 0) (hs : s.change (1, a, []) = s') :
    Calls Try.prog 41 #[.pointer (some ⟨g2, 0, none⟩), .pointer (some ⟨g5, 0, none⟩)] w fun e w' => e = .returned (.int .i64 0) ∧ Rep B w' p s' ∧ Below B w w' ∧ KT w w' := by
  have HG2 := Aside0.mk hg2
  have HQ := Aside0.mk hq
  have HG5 := Aside0.mk hg5
  have HR := Aside0.mk hR
  have HO := Aside0.mk hO
  have HN := Aside0.mk hN
  have HE := Aside0.mk hE
  have HS := Aside0.mk hs
  clear hg2 hq hg5 hR hO hN hE hs
  go_enter Try.func41, Try.ntmps41
  go_wp2_with fail
  refine start_ (n := 7) (S := fun w' => w'.cell? ⟨g2, 0, none⟩ = some (.pointer (some ⟨q, 0, none⟩)) ∧ w'.cell? ⟨q, 0, none⟩ = some (.pointer (some ⟨p, 0, none⟩)) ∧ w'.cell? ⟨g5, 0, none⟩ = some (.int .i64 a)) (ds := [5]) #[false, false, false, false, false, false, false] (by kernel_rfl) rfl rfl ⟨(blk_cell HG2.out 0).trans rfl, (blk_cell HQ.out 0).trans rfl, (blk_cell HG5.out 0).trans rfl⟩ (fun hHeld => ?_); refine with_tabW clo41.tab clo41.bits (fun HT_ HW_ => ?_)
  have HR2 := Aside0.mk (HR.out.below (below_drew (Below.refl _ w)))
  have HBd := Aside0.mk (below_drew (Below.refl B w))
  have HKd := Aside0.mk (KT.below (below_drew (Below.refl w.heap.size w)))
  generalize w.drew = w2 at HR2 HBd HKd hHeld ⊢
  refine take_ (i := 0) (N := some 3) (v := ?_) (a' := ?_) #[true, false, false, false, false, false, false] rfl rfl (take_ofW HT_.out HW_.out (by kernel_rfl)) (fun _ _ _ h => h) (Or.inl ⟨by rfl, ?_⟩) hHeld ?_ ?_
  rotate_left
  · rintro w' ⟨s0, s1, s2⟩
    go_simp
    with_reducible rfl
  rotate_left
  · simp only [Act.put, List.setIfInBounds_toArray, List.set_cons_zero, List.set_cons_succ, i64_w, i32_w]
    rfl
  refine pure_ (i := 1) (N := some 4) (v := ?_) (a' := ?_) #[true, true, false, false, false, false, false] rfl rfl (any_of HT_.out (by kernel_rfl)) (fun _ _ _ h => h) (Or.inl ⟨by rfl, ?_⟩) ?_ ?_
  rotate_left
  · intro w'
    go_simp
    with_reducible rfl
  rotate_left
  · simp only [Act.put, List.setIfInBounds_toArray, List.set_cons_zero, List.set_cons_succ, i64_w, i32_w]
    rfl
  refine pure_ (i := 2) (N := some 5) (v := ?_) (a' := ?_) #[true, true, true, false, false, false, false] rfl rfl (any_of HT_.out (by kernel_rfl)) (fun _ _ _ h => h) (Or.inl ⟨by rfl, ?_⟩) ?_ ?_
  rotate_left
  · intro w'
    go_simp
    with_reducible rfl
  rotate_left
  · simp only [Act.put, List.setIfInBounds_toArray, List.set_cons_zero, List.set_cons_succ, i64_w, i32_w]
    rfl
  refine take_ (i := 3) (N := some 6) (v := ?_) (a' := ?_) #[true, true, true, true, false, false, false] rfl rfl (take_ofW HT_.out HW_.out (by kernel_rfl)) (fun _ _ _ h => h) (Or.inl ⟨by rfl, ?_⟩) hHeld ?_ ?_
  rotate_left
  · rintro w' ⟨s0, s1, s2⟩
    go_simp
    with_reducible rfl
  rotate_left
  · simp only [Act.put, List.setIfInBounds_toArray, List.set_cons_zero, List.set_cons_succ, i64_w, i32_w]
    rfl
  refine take_ (i := 4) (N := some 7) (v := ?_) (a' := ?_) #[true, true, true, true, true, false, false] rfl rfl (take_ofW HT_.out HW_.out (by kernel_rfl)) (fun _ _ _ h => h) (Or.inl ⟨by rfl, ?_⟩) hHeld ?_ ?_
  rotate_left
  · rintro w' ⟨s0, s1, s2⟩
    go_simp
    with_reducible rfl
  rotate_left
  · simp only [Act.put, List.setIfInBounds_toArray, List.set_cons_zero, List.set_cons_succ, i64_w, i32_w]
    rfl
  refine last_ (i := 5) (N := some 8) #[true, true, true, true, true, true, false] rfl rfl (one_of HT_.out (by kernel_rfl)) (by decide) (fun K hK => ?_)
  refine goes_ Try.func42 (by kernel_rfl) rfl #[.pointer (some ⟨p, 0, none⟩), .int .i64 a] (by rfl) rfl rfl (by (try simp only [List.map_toArray, List.map_cons, List.map_nil]); first | done | rfl) ?_
  refine (Wipe_T w2 HR2.out HO.out HN.out a HE.out HS.out).mono ?_
  rintro e w3 ⟨rfl, hr, hb, hk⟩
  refine ⟨_, rfl, ?_⟩
  have HR3 := Aside0.mk hr
  have HB3 := Aside0.mk (Below.trans HBd.out hb)
  have HK3 := Aside0.mk (KT.trans HKd.out hk)
  clear hr hb hk hHeld
  refine hK.out _ _ ?_
  clear hK K
  refine norm_ (a' := ?_) ?_ ?_
  rotate_left
  · show Act.put _ (some 8) _ = _
    simp only [Act.put, List.setIfInBounds_toArray, List.set_cons_zero, List.set_cons_succ, i64_w, i32_w]
    rfl
  refine pure_ (i := 6) (N := some 2) (v := ?_) (a' := ?_) #[true, true, true, true, true, true, true] rfl rfl (any_of HT_.out (by kernel_rfl)) (fun _ _ _ h => h) (Or.inl ⟨by rfl, ?_⟩) ?_ ?_
  rotate_left
  · intro w'
    go_simp
    with_reducible rfl
  rotate_left
  · simp only [Act.put, List.setIfInBounds_toArray, List.set_cons_zero, List.set_cons_succ, i64_w, i32_w]
    rfl
  refine done_ (done_of HT_.out (by kernel_rfl)) ?_
  go_wp2
  go_ret
  exact ⟨rfl, HR3.out, HB3.out, HK3.out⟩
set_option maxHeartbeats 8000000 in
set_option maxRecDepth 100000 in
theorem clo43_calls {A : Option Addr} {c : Nat} {bs : List Int} (w : World) (hg2 : w.heap[g2]? = some (.cells #[.pointer (some ⟨q, 0, none⟩)] 27 (0, 0))) (hq : w.heap[q]? = some (.cells #[.pointer (some ⟨p, 0, none⟩), .int .i64 front, .int .i64 size] 60 (0, 0))) (hg5 : w.heap[g5]? = some (.cells #[.int .i64 a] 3 (0, 0))) (hg3 : w.heap[g3]? = some (.cells #[.slice A bs.length c] 28 (0, 0)))
    (hR : Rep B w p s) (hO : Ok M s) (hN : M ≤ 500000000) (hC : Kd.C (Kd.int .u8) w A bs.length bs) (hc : bs.length ≤ c) (hl : bs.length ≤ 100000000) (hE : mayE s a = 0) (hs : s.change (0, a, bs) = s') :
    Calls Try.prog 43 #[.pointer (some ⟨g2, 0, none⟩), .pointer (some ⟨g5, 0, none⟩), .pointer (some ⟨g3, 0, none⟩)] w fun e w' => e = .returned (.int .i64 0) ∧ Rep B w' p s' ∧ Below B w w' ∧ KT w w' := by
  have HG2 := Aside0.mk hg2
  have HQ := Aside0.mk hq
  have HG5 := Aside0.mk hg5
  have HR := Aside0.mk hR
  have HO := Aside0.mk hO
  have HN := Aside0.mk hN
  have HE := Aside0.mk hE
  have HS := Aside0.mk hs
  have HG3 := Aside0.mk hg3
  have HC := Aside0.mk hC
  have HCC := Aside0.mk hc
  have HL := Aside0.mk hl
  clear hg2 hq hg5 hR hO hN hE hs hg3 hC hc hl
  go_enter Try.func43, Try.ntmps43
  go_wp2_with fail
  refine start_ (n := 8) (S := fun w' => w'.cell? ⟨g2, 0, none⟩ = some (.pointer (some ⟨q, 0, none⟩)) ∧ w'.cell? ⟨q, 0, none⟩ = some (.pointer (some ⟨p, 0, none⟩)) ∧ w'.cell? ⟨g5, 0, none⟩ = some (.int .i64 a) ∧ w'.cell? ⟨g3, 0, none⟩ = some (.slice A bs.length c)) (ds := [6]) #[false, false, false, false, false, false, false, false] (by kernel_rfl) rfl rfl ⟨(blk_cell HG2.out 0).trans rfl, (blk_cell HQ.out 0).trans rfl, (blk_cell HG5.out 0).trans rfl, (blk_cell HG3.out 0).trans rfl⟩ (fun hHeld => ?_); refine with_tabW clo43.tab clo43.bits (fun HT_ HW_ => ?_)
  have HR2 := Aside0.mk (HR.out.below (below_drew (Below.refl _ w)))
  have HBd := Aside0.mk (below_drew (Below.refl B w))
  have HKd := Aside0.mk (KT.below (below_drew (Below.refl w.heap.size w)))
  have HC2 := Aside0.mk (Kd.C_below HC.out (below_drew (Below.refl _ w)))
  generalize w.drew = w2 at HR2 HBd HKd HC2 hHeld ⊢
  refine take_ (i := 0) (N := some 4) (v := ?_) (a' := ?_) #[true, false, false, false, false, false, false, false] rfl rfl (take_ofW HT_.out HW_.out (by kernel_rfl)) (fun _ _ _ h => h) (Or.inl ⟨by rfl, ?_⟩) hHeld ?_ ?_
  rotate_left
  · rintro w' ⟨s0, s1, s2, s3⟩
    go_simp
    with_reducible rfl
  rotate_left
  · simp only [Act.put, List.setIfInBounds_toArray, List.set_cons_zero, List.set_cons_succ, i64_w, i32_w]
    rfl
  refine pure_ (i := 1) (N := some 5) (v := ?_) (a' := ?_) #[true, true, false, false, false, false, false, false] rfl rfl (any_of HT_.out (by kernel_rfl)) (fun _ _ _ h => h) (Or.inl ⟨by rfl, ?_⟩) ?_ ?_
  rotate_left
  · intro w'
    go_simp
    with_reducible rfl
  rotate_left
  · simp only [Act.put, List.setIfInBounds_toArray, List.set_cons_zero, List.set_cons_succ, i64_w, i32_w]
    rfl
  refine pure_ (i := 2) (N := some 6) (v := ?_) (a' := ?_) #[true, true, true, false, false, false, false, false] rfl rfl (any_of HT_.out (by kernel_rfl)) (fun _ _ _ h => h) (Or.inl ⟨by rfl, ?_⟩) ?_ ?_
  rotate_left
  · intro w'
    go_simp
    with_reducible rfl
  rotate_left
  · simp only [Act.put, List.setIfInBounds_toArray, List.set_cons_zero, List.set_cons_succ, i64_w, i32_w]
    rfl
  refine take_ (i := 3) (N := some 7) (v := ?_) (a' := ?_) #[true, true, true, true, false, false, false, false] rfl rfl (take_ofW HT_.out HW_.out (by kernel_rfl)) (fun _ _ _ h => h) (Or.inl ⟨by rfl, ?_⟩) hHeld ?_ ?_
  rotate_left
  · rintro w' ⟨s0, s1, s2, s3⟩
    go_simp
    with_reducible rfl
  rotate_left
  · simp only [Act.put, List.setIfInBounds_toArray, List.set_cons_zero, List.set_cons_succ, i64_w, i32_w]
    rfl
  refine take_ (i := 4) (N := some 8) (v := ?_) (a' := ?_) #[true, true, true, true, true, false, false, false] rfl rfl (take_ofW HT_.out HW_.out (by kernel_rfl)) (fun _ _ _ h => h) (Or.inl ⟨by rfl, ?_⟩) hHeld ?_ ?_
  rotate_left
  · rintro w' ⟨s0, s1, s2, s3⟩
    go_simp
    with_reducible rfl
  rotate_left
  · simp only [Act.put, List.setIfInBounds_toArray, List.set_cons_zero, List.set_cons_succ, i64_w, i32_w]
    rfl
  refine take_ (i := 5) (N := some 9) (v := ?_) (a' := ?_) #[true, true, true, true, true, true, false, false] rfl rfl (take_ofW HT_.out HW_.out (by kernel_rfl)) (fun _ _ _ h => h) (Or.inl ⟨by rfl, ?_⟩) hHeld ?_ ?_
  rotate_left
  · rintro w' ⟨s0, s1, s2, s3⟩
    go_simp
    with_reducible rfl
  rotate_left
  · simp only [Act.put, List.setIfInBounds_toArray, List.set_cons_zero, List.set_cons_succ, i64_w, i32_w]
    rfl
  refine last_ (i := 6) (N := some 10) #[true, true, true, true, true, true, true, false] rfl rfl (one_of HT_.out (by kernel_rfl)) (by decide) (fun K hK => ?_)
  refine goes_ Try.func32 (by kernel_rfl) rfl #[.pointer (some ⟨p, 0, none⟩), .int .i64 a, .slice A bs.length c] (by rfl) rfl rfl (by (try simp only [List.map_toArray, List.map_cons, List.map_nil]); first | done | rfl) ?_
  refine (Append_T w2 HR2.out HO.out HN.out a HC2.out HCC.out HL.out HE.out HS.out).mono ?_
  rintro e w3 ⟨rfl, hr, hb, hk⟩
  refine ⟨_, rfl, ?_⟩
  have HR3 := Aside0.mk hr
  have HB3 := Aside0.mk (Below.trans HBd.out hb)
  have HK3 := Aside0.mk (KT.trans HKd.out hk)
  clear hr hb hk hHeld
  refine hK.out _ _ ?_
  clear hK K
  refine norm_ (a' := ?_) ?_ ?_
  rotate_left
  · show Act.put _ (some 10) _ = _
    simp only [Act.put, List.setIfInBounds_toArray, List.set_cons_zero, List.set_cons_succ, i64_w, i32_w]
    rfl
  refine pure_ (i := 7) (N := some 3) (v := ?_) (a' := ?_) #[true, true, true, true, true, true, true, true] rfl rfl (any_of HT_.out (by kernel_rfl)) (fun _ _ _ h => h) (Or.inl ⟨by rfl, ?_⟩) ?_ ?_
  rotate_left
  · intro w'
    go_simp
    with_reducible rfl
  rotate_left
  · simp only [Act.put, List.setIfInBounds_toArray, List.set_cons_zero, List.set_cons_succ, i64_w, i32_w]
    rfl
  refine done_ (done_of HT_.out (by kernel_rfl)) ?_
  go_wp2
  go_ret
  exact ⟨rfl, HR3.out, HB3.out, HK3.out⟩
set_option maxHeartbeats 8000000 in
set_option maxRecDepth 100000 in
theorem clo44_calls (w : World) (hg2 : w.heap[g2]? = some (.cells #[.pointer (some ⟨q, 0, none⟩)] 27 (0, 0))) (hq : w.heap[q]? = some (.cells #[.pointer (some ⟨p, 0, none⟩), .int .i64 front, .int .i64 size] 60 (0, 0))) (hg5 : w.heap[g5]? = some (.cells #[.int .i64 a] 3 (0, 0)))
    (hR : Rep B w p s) (hO : Ok M s) (hN : M ≤ 500000000) (hE : mayE s a = 0) (hs : s.change (2, a, []) = s') :
    Calls Try.prog 44 #[.pointer (some ⟨g2, 0, none⟩), .pointer (some ⟨g5, 0, none⟩)] w fun e w' => e = .returned (.int .i64 0) ∧ Rep B w' p s' ∧ Below B w w' ∧ KT w w' := by
  have HG2 := Aside0.mk hg2
  have HQ := Aside0.mk hq
  have HG5 := Aside0.mk hg5
  have HR := Aside0.mk hR
  have HO := Aside0.mk hO
  have HN := Aside0.mk hN
  have HE := Aside0.mk hE
  have HS := Aside0.mk hs
  clear hg2 hq hg5 hR hO hN hE hs
  go_enter Try.func44, Try.ntmps44
  go_wp2_with fail
  refine start_ (n := 7) (S := fun w' => w'.cell? ⟨g2, 0, none⟩ = some (.pointer (some ⟨q, 0, none⟩)) ∧ w'.cell? ⟨q, 0, none⟩ = some (.pointer (some ⟨p, 0, none⟩)) ∧ w'.cell? ⟨g5, 0, none⟩ = some (.int .i64 a)) (ds := [5]) #[false, false, false, false, false, false, false] (by kernel_rfl) rfl rfl ⟨(blk_cell HG2.out 0).trans rfl, (blk_cell HQ.out 0).trans rfl, (blk_cell HG5.out 0).trans rfl⟩ (fun hHeld => ?_); refine with_tabW clo44.tab clo44.bits (fun HT_ HW_ => ?_)
  have HR2 := Aside0.mk (HR.out.below (below_drew (Below.refl _ w)))
  have HBd := Aside0.mk (below_drew (Below.refl B w))
  have HKd := Aside0.mk (KT.below (below_drew (Below.refl w.heap.size w)))
  generalize w.drew = w2 at HR2 HBd HKd hHeld ⊢
  refine take_ (i := 0) (N := some 3) (v := ?_) (a' := ?_) #[true, false, false, false, false, false, false] rfl rfl (take_ofW HT_.out HW_.out (by kernel_rfl)) (fun _ _ _ h => h) (Or.inl ⟨by rfl, ?_⟩) hHeld ?_ ?_
  rotate_left
  · rintro w' ⟨s0, s1, s2⟩
    go_simp
    with_reducible rfl
  rotate_left
  · simp only [Act.put, List.setIfInBounds_toArray, List.set_cons_zero, List.set_cons_succ, i64_w, i32_w]
    rfl
  refine pure_ (i := 1) (N := some 4) (v := ?_) (a' := ?_) #[true, true, false, false, false, false, false] rfl rfl (any_of HT_.out (by kernel_rfl)) (fun _ _ _ h => h) (Or.inl ⟨by rfl, ?_⟩) ?_ ?_
  rotate_left
  · intro w'
    go_simp
    with_reducible rfl
  rotate_left
  · simp only [Act.put, List.setIfInBounds_toArray, List.set_cons_zero, List.set_cons_succ, i64_w, i32_w]
    rfl
  refine pure_ (i := 2) (N := some 5) (v := ?_) (a' := ?_) #[true, true, true, false, false, false, false] rfl rfl (any_of HT_.out (by kernel_rfl)) (fun _ _ _ h => h) (Or.inl ⟨by rfl, ?_⟩) ?_ ?_
  rotate_left
  · intro w'
    go_simp
    with_reducible rfl
  rotate_left
  · simp only [Act.put, List.setIfInBounds_toArray, List.set_cons_zero, List.set_cons_succ, i64_w, i32_w]
    rfl
  refine take_ (i := 3) (N := some 6) (v := ?_) (a' := ?_) #[true, true, true, true, false, false, false] rfl rfl (take_ofW HT_.out HW_.out (by kernel_rfl)) (fun _ _ _ h => h) (Or.inl ⟨by rfl, ?_⟩) hHeld ?_ ?_
  rotate_left
  · rintro w' ⟨s0, s1, s2⟩
    go_simp
    with_reducible rfl
  rotate_left
  · simp only [Act.put, List.setIfInBounds_toArray, List.set_cons_zero, List.set_cons_succ, i64_w, i32_w]
    rfl
  refine take_ (i := 4) (N := some 7) (v := ?_) (a' := ?_) #[true, true, true, true, true, false, false] rfl rfl (take_ofW HT_.out HW_.out (by kernel_rfl)) (fun _ _ _ h => h) (Or.inl ⟨by rfl, ?_⟩) hHeld ?_ ?_
  rotate_left
  · rintro w' ⟨s0, s1, s2⟩
    go_simp
    with_reducible rfl
  rotate_left
  · simp only [Act.put, List.setIfInBounds_toArray, List.set_cons_zero, List.set_cons_succ, i64_w, i32_w]
    rfl
  refine last_ (i := 5) (N := some 8) #[true, true, true, true, true, true, false] rfl rfl (one_of HT_.out (by kernel_rfl)) (by decide) (fun K hK => ?_)
  refine goes_ Try.func45 (by kernel_rfl) rfl #[.pointer (some ⟨p, 0, none⟩), .int .i64 a] (by rfl) rfl rfl (by (try simp only [List.map_toArray, List.map_cons, List.map_nil]); first | done | rfl) ?_
  refine (Front_T w2 HR2.out HO.out HN.out a HE.out HS.out).mono ?_
  rintro e w3 ⟨rfl, hr, hb, hk⟩
  refine ⟨_, rfl, ?_⟩
  have HR3 := Aside0.mk hr
  have HB3 := Aside0.mk (Below.trans HBd.out hb)
  have HK3 := Aside0.mk (KT.trans HKd.out hk)
  clear hr hb hk hHeld
  refine hK.out _ _ ?_
  clear hK K
  refine norm_ (a' := ?_) ?_ ?_
  rotate_left
  · show Act.put _ (some 8) _ = _
    simp only [Act.put, List.setIfInBounds_toArray, List.set_cons_zero, List.set_cons_succ, i64_w, i32_w]
    rfl
  refine pure_ (i := 6) (N := some 2) (v := ?_) (a' := ?_) #[true, true, true, true, true, true, true] rfl rfl (any_of HT_.out (by kernel_rfl)) (fun _ _ _ h => h) (Or.inl ⟨by rfl, ?_⟩) ?_ ?_
  rotate_left
  · intro w'
    go_simp
    with_reducible rfl
  rotate_left
  · simp only [Act.put, List.setIfInBounds_toArray, List.set_cons_zero, List.set_cons_succ, i64_w, i32_w]
    rfl
  refine done_ (done_of HT_.out (by kernel_rfl)) ?_
  go_wp2
  go_ret
  exact ⟨rfl, HR3.out, HB3.out, HK3.out⟩
end Go.Proofs.Ytdbkedipfpepbaa.PWal
