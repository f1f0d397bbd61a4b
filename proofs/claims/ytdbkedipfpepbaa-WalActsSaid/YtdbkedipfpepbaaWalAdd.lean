/- The walks of Log.Save, Flush, Size and Add. -/
import Derived.Test.YtdbkedipfpepbaaWalLog
namespace Go.Proofs.Ytdbkedipfpepbaa.PWal
open Go.RowKit Go.Proofs.YtdbkedipfpepbaaW.PrintWords Go.Proofs.YtdbkedipfpepbaaW.PrintLast Go.Proofs.YtdbkedipfpepbaaW.PrintMore Go.FrameMath
set_option linter.unusedVariables false
set_option linter.unusedSimpArgs false
def add_R5.T : Bool × List (List Nat × List Nat) := (true, [([], []), ([0], [0]), ([1], [1]), ([2], [2]), ([], []), ([4], [4]), ([5], [5]), ([6], [6]), ([], []), ([3, 7, 8], [3, 7, 8]), ([9, 9, 0, 1, 2, 3, 4, 5, 6, 7, 8, 9], [9])])
def add_R5.B : List Nat := [0, 1, 3, 7, 0, 16, 48, 112, 0, 511, 1023]
theorem add_R5.tab : rtab .any (opsOf Try.f19 5) = add_R5.T := by kernel_rfl
theorem add_R5.bits : waitsOk add_R5.T.2 add_R5.B = true := by kernel_rfl
variable {B B0 p q M : Nat} {t u : St} {l : List Chg} {front : Int} {rs : List (List Int)}
theorem turn_LG {A : Option Addr} {c : Nat} {rs' : List (List Int)} (w : World) (hL : LG B w p q t u l front rs) (hO : Ok M (UP t u l)) (hN : M + (flat rs').length + 3 ≤ 500000000) (hS : BS B0 w (.slice A (flat rs').length c) (flat rs')) (hb : ∀ r ∈ rs', Byt r) (hs : ∀ r ∈ rs', r.length ≤ 3000) (hl : (flat rs').length ≤ 100000) :
    Calls Try.prog 27 #[.pointer (some ⟨q, 0, none⟩), .slice A (flat rs').length c] w fun e w' => e = .returned (.int .i64 0) ∧ LG B w' p q (turnSt u (1 - front) (flat rs')) (turnSt u (1 - front) (flat rs')) [] (1 - front) rs' ∧ Ok (M + (flat rs').length + 3) (UP (turnSt u (1 - front) (flat rs')) (turnSt u (1 - front) (flat rs')) []) ∧ Below B w w' ∧ KL w w' := by
  have hst := hL.st.turned hb hs hl
  have h8 : (flat rs').length ≤ 100000000 := by omega
  obtain ⟨hR, hq, hBq, hs0⟩ := hL
  rcases hs0.fr with rfl | rfl
  · refine (turn0 w hq hR hO hN hS h8 hBq).mono ?_
    rintro e w' ⟨he, hr, hq', hb, hk⟩
    exact ⟨he, ⟨hr, hq', hBq, hst⟩, hO.t5 (.inr rfl) _, hb, hk⟩
  · refine (turn1 w hq hR hO hN hS h8 hBq).mono ?_
    rintro e w' ⟨he, hr, hq', hb, hk⟩
    exact ⟨he, ⟨hr, hq', hBq, hst⟩, hO.t5 (.inl rfl) _, hb, hk⟩
set_option maxHeartbeats 8000000 in
set_option maxRecDepth 100000 in
theorem Save_calls {A : Option Addr} {c : Nat} {b : List Int} (w : World) (hL : LG B w p q t u l front rs) (hO : Ok M (UP t u l)) (hN : M + b.length + 15 ≤ 500000000) (hC : Kd.C (Kd.int .u8) w A b.length b) (hc : b.length ≤ c) (hb : Byt b) (hl : b.length ≤ 3000) :
    Calls Try.prog 18 #[.pointer (some ⟨q, 0, none⟩), .slice A b.length c] w fun e w' => e = .returned (.int .i64 0) ∧ LG B w' p q (turnSt u (1 - front) (frame b)) (turnSt u (1 - front) (frame b)) [] (1 - front) [b] ∧ Ok (M + b.length + 15) (UP (turnSt u (1 - front) (frame b)) (turnSt u (1 - front) (frame b)) []) ∧ Below B w w' ∧ KL w w' := by
  have HL := Aside0.mk hL
  have HO := Aside0.mk hO
  have HN := Aside0.mk (show M + (flat [b]).length + 3 ≤ 500000000 by rw [flat_one, frame_length]; omega)
  have HC := Aside0.mk hC
  have HCC := Aside0.mk hc
  have HB := Aside0.mk hb
  have HLE := Aside0.mk hl
  have HFL := Aside0.mk (show (frame b).length = 12 + b.length from frame_length b)
  clear hL hO hN hC hc hb hl
  go_enter Try.func18, Try.ntmps18
  go_wp2_with (first
    | (go_at_call 30; (with_reducible refine (cloneB_calls A c b w HC.out HCC.out (by have := HLE.out; omega)).mono ?_); rintro e w1 ⟨v1, rfl, hr, hb⟩; have hbs := BS.ofR hr (by have := HLE.out; omega); obtain ⟨A1, c1, rfl, _⟩ := id hbs; have HF1 := Aside0.mk (Kd.C_F (Kd.heap_int _) (hbs.len).2.2); have HC1 := Aside0.mk (hbs.len).2.1; have HB1 := Aside0.mk hb; clear hbs hr hb)
    | (go_at_call 24; (with_reducible refine (Put_says (v := .slice none 0 0) (l0 := []) (l1 := b) w1 w1 (Below.refl _ _) (Kd.R_nil _ _ _ _ _) HF1.out HC1.out (by simp) (by have := HLE.out; omega)).mono ?_); rintro e w2 ⟨v2, rfl, hr, hb⟩; rw [List.nil_append] at hr; have hbs := BS.ofR hr (by have := HLE.out; have := HFL.out; omega); rw [← flat_one b] at hbs; obtain ⟨A2, c2, rfl, _⟩ := id hbs; have HS2 := Aside0.mk hbs; have HB2 := Aside0.mk (below_step HB1.out hb); clear hbs hr hb)
    | (go_at_call 27; (with_reducible refine (turn_LG (rs' := [b]) w2 (HL.out.below HB2.out) HO.out HN.out HS2.out (fun r hr => by rw [List.mem_singleton.1 hr]; exact HB.out) (fun r hr => by rw [List.mem_singleton.1 hr]; exact HLE.out) (by rw [flat_one]; have := HFL.out; have := HLE.out; omega)).mono ?_); rintro e w3 ⟨rfl, hg, ho, hb, hk⟩)
    | fail)
  go_ret
  rw [flat_one] at hg ho
  exact ⟨rfl, hg, ho.mono (by have := HFL.out; omega), Below.trans (Below.mono HB2.out HL.out.rep.base) hb, KL.trans (KT.below HB2.out).kl hk⟩
theorem Flush_calls (w : World) (hL : LG B w p q t u l front rs) (hO : Ok M (UP t u l)) (hN : M ≤ 500000000) :
    Calls Try.prog 22 #[.pointer (some ⟨q, 0, none⟩)] w fun e w' => e = .returned (.int .i64 0) ∧ LG B w' p q u u [] front rs ∧ Ok M (UP u u []) ∧ Below B w w' ∧ KL w w' := by
  have HL := Aside0.mk hL
  have HO := Aside0.mk hO
  have HN := Aside0.mk hN
  have z0 : w.cell? ⟨q, 0, none⟩ = some (.pointer (some ⟨p, 0, none⟩)) := (blk_cell hL.blk 0).trans rfl
  clear hL hO hN
  go_enter Try.func22, Try.ntmps22
  go_wp2_with (first
    | (go_at_call 33; (with_reducible refine (Sync_T (s' := UP u u []) w HL.out.rep HO.out HN.out up_no syncUP).mono ?_); rintro e w1 ⟨rfl, hr, hb, hk⟩)
    | fail)
  go_ret
  exact ⟨rfl, ⟨hr, hk 60 (by decide) (by decide) _ _ HL.out.blk, HL.out.hq, HL.out.st⟩, HO.out.sync, hb, hk.kl⟩
theorem Size_calls (w : World) (hL : LG B w p q t u l front rs) :
    Calls Try.prog 15 #[.pointer (some ⟨q, 0, none⟩)] w fun e w' => e = .returned (.int .i64 ((flat rs).length : Int)) ∧ w' = w := by
  have z2 : w.cell? ⟨q, 2, none⟩ = some (.int .i64 ((flat rs).length : Int)) := (blk_cell hL.blk 2).trans rfl
  clear hL
  go_enter Try.func15, Try.ntmps15
  go_wp2
  go_ret
  exact ⟨rfl, rfl⟩
theorem wr_ (a b : Nat) (h : a + b ≤ 100000000) : wrap64 ((a : Int) + (b : Int)) = ((a + b : Nat) : Int) := by unfold wrap64; omega
theorem wr64 (a b : Nat) (h : a + b ≤ 100000000) : wrap64 ((a : Int) + (b : Int)) = (a : Int) + (b : Int) := by unfold wrap64; omega
set_option maxHeartbeats 8000000 in
set_option maxRecDepth 100000 in
theorem Add_calls {A : Option Addr} {c : Nat} {r : List Int} (w : World) (hL : LG B w p q t u l front rs) (hO : Ok M (UP t u l)) (hN : M + (addB rs r).length + 1 ≤ 500000000) (hC : Kd.C (Kd.int .u8) w A r.length r) (hc : r.length ≤ c) (hb : Byt r) (hl : r.length ≤ 3000) (ht : (flat (added rs r)).length ≤ 100000) :
    Calls Try.prog 19 #[.pointer (some ⟨q, 0, none⟩), .slice A r.length c] w fun e w' => e = .returned (.int .i64 0) ∧ LG B w' p q t (doSt u (0, front, addB rs r)) (l ++ [(0, front, addB rs r)]) front (added rs r) ∧ Ok (M + (addB rs r).length + 1) (UP t (doSt u (0, front, addB rs r)) (l ++ [(0, front, addB rs r)])) ∧ Below B w w' ∧ KL w w' := by
  have HFA := Aside0.mk (show (flat (added rs r)).length = (flat rs).length + (addB rs r).length by rw [← added_flat, List.length_append])
  have HTOT := Aside0.mk (show (flat rs).length + (addB rs r).length ≤ 100000000 by have := HFA.out; omega)
  have HAL := Aside0.mk (show (addB rs r).length ≤ 100000000 by have := HTOT.out; omega)
  have HL := Aside0.mk hL
  have HO := Aside0.mk hO
  have HN := Aside0.mk (show M ≤ 500000000 by omega)
  have HC := Aside0.mk hC
  have HCC := Aside0.mk hc
  have HLE := Aside0.mk hl
  have HFR := Aside0.mk hL.st.fr
  have HST := Aside0.mk (hL.st.add r hb hl ht)
  have HOK := Aside0.mk (show Ok (M + (addB rs r).length + 1) (UP t (doSt u (0, front, addB rs r)) (l ++ [(0, front, addB rs r)])) from changeUP (c := (0, front, addB rs r)) hL.st.fr ▸ hO.change (0, front, addB rs r) ⟨.inl rfl, hL.st.fr⟩)
  clear hL hO hN hC hc hb hl ht
  by_cases hrs : rs = []
  · have HAB := Aside0.mk (show addB rs r = frame [] ++ frame r by unfold addB; rw [if_pos hrs])
    have hz : (((flat rs).length : Int) == 0) = true := by rw [hrs]; rfl
    have z2 : w.cell? ⟨q, 2, none⟩ = some (.int .i64 ((flat rs).length : Int)) := (blk_cell HL.out.blk 2).trans rfl
    have HQ2 := Aside0.mk (fun (W : World) (h : Below w.heap.size w W) => (blk_cell (blkK h HL.out.blk) 0).trans rfl)
    clear hrs
    go_enter Try.func19, Try.ntmps19
    go_wp2_with (first
      | (go_at_call 24; (with_reducible refine (Put_nil w).mono ?_); rintro e w1 ⟨v1, rfl, hr, hb⟩; have HR1 := Aside0.mk hr; have HB1 := Aside0.mk hb; clear hr hb)
      | (go_at_call 24; (with_reducible refine (Put_says (l1 := r) w w1 HB1.out HR1.out (Kd.F_below (Kd.C_F (Kd.heap_int _) HC.out) HB1.out) HCC.out (by simp [frame_length]) (by have := HLE.out; omega)).mono ?_); rintro e w2 ⟨v2, rfl, hr, hb⟩; have hbs := BS.ofR hr (by rw [List.length_append, frame_length, frame_length]; have := HLE.out; simp; omega); rw [← HAB.out] at hbs; obtain ⟨A2, c2, rfl, _⟩ := id hbs; have HS2 := Aside0.mk hbs; have HB2 := Aside0.mk hb; clear hbs hr hb)
      | fail)
    clear z2
    have BQ2 := Aside0.mk (blkK HB2.out HL.out.blk)
    refine start_ (n := 11) (S := fun w' => w'.cell? ⟨q, 0, none⟩ = some (.pointer (some ⟨p, 0, none⟩)) ∧ w'.cell? ⟨q, 1, none⟩ = some (.int .i64 front)) (ds := [9]) #[false, false, false, false, false, false, false, false, false, false, false] (by kernel_rfl) rfl rfl ⟨(blk_cell BQ2.out 0).trans rfl, (blk_cell BQ2.out 1).trans rfl⟩ (fun hHeld => ?_); refine with_tabW add_R5.tab add_R5.bits (fun HT_ HW_ => ?_)
    have HB3 := Aside0.mk (below_drew HB2.out)
    have HS3 := Aside0.mk (HS2.out.keep (Keeps.below (below_drew (Below.refl _ w2))))
    generalize w2.drew = w3 at HB3 HS3 hHeld ⊢
    refine pure_ (i := 0) (N := some 16) (v := ?_) (a' := ?_) #[true, false, false, false, false, false, false, false, false, false, false] rfl rfl (any_of HT_.out (by kernel_rfl)) (fun _ _ _ h => h) (Or.inl ⟨by rfl, ?_⟩) ?_ ?_
    rotate_left
    · intro w'
      go_simp
      with_reducible rfl
    rotate_left
    · simp only [Act.put, List.setIfInBounds_toArray, List.set_cons_zero, List.set_cons_succ, i64_w, i32_w]
      rfl
    refine pure_ (i := 1) (N := some 17) (v := ?_) (a' := ?_) #[true, true, false, false, false, false, false, false, false, false, false] rfl rfl (any_of HT_.out (by kernel_rfl)) (fun _ _ _ h => h) (Or.inl ⟨by rfl, ?_⟩) ?_ ?_
    rotate_left
    · intro w'
      go_simp
      with_reducible rfl
    rotate_left
    · simp only [Act.put, List.setIfInBounds_toArray, List.set_cons_zero, List.set_cons_succ, i64_w, i32_w]
      rfl
    refine pure_ (i := 2) (N := some 18) (v := ?_) (a' := ?_) #[true, true, true, false, false, false, false, false, false, false, false] rfl rfl (any_of HT_.out (by kernel_rfl)) (fun _ _ _ h => h) (Or.inl ⟨by rfl, ?_⟩) ?_ ?_
    rotate_left
    · intro w'
      go_simp
      with_reducible rfl
    rotate_left
    · simp only [Act.put, List.setIfInBounds_toArray, List.set_cons_zero, List.set_cons_succ, i64_w, i32_w]
      rfl
    refine pure_ (i := 4) (N := some 20) (v := ?_) (a' := ?_) #[true, true, true, false, true, false, false, false, false, false, false] rfl rfl (any_of HT_.out (by kernel_rfl)) (fun _ _ _ h => h) (Or.inl ⟨by rfl, ?_⟩) ?_ ?_
    rotate_left
    · intro w'
      go_simp
      with_reducible rfl
    rotate_left
    · simp only [Act.put, List.setIfInBounds_toArray, List.set_cons_zero, List.set_cons_succ, i64_w, i32_w]
      rfl
    refine pure_ (i := 5) (N := some 21) (v := ?_) (a' := ?_) #[true, true, true, false, true, true, false, false, false, false, false] rfl rfl (any_of HT_.out (by kernel_rfl)) (fun _ _ _ h => h) (Or.inl ⟨by rfl, ?_⟩) ?_ ?_
    rotate_left
    · intro w'
      go_simp
      with_reducible rfl
    rotate_left
    · simp only [Act.put, List.setIfInBounds_toArray, List.set_cons_zero, List.set_cons_succ, i64_w, i32_w]
      rfl
    refine pure_ (i := 6) (N := some 22) (v := ?_) (a' := ?_) #[true, true, true, false, true, true, true, false, false, false, false] rfl rfl (any_of HT_.out (by kernel_rfl)) (fun _ _ _ h => h) (Or.inl ⟨by rfl, ?_⟩) ?_ ?_
    rotate_left
    · intro w'
      go_simp
      with_reducible rfl
    rotate_left
    · simp only [Act.put, List.setIfInBounds_toArray, List.set_cons_zero, List.set_cons_succ, i64_w, i32_w]
      rfl
    refine pure_ (i := 8) (N := some 24) (v := ?_) (a' := ?_) #[true, true, true, false, true, true, true, false, true, false, false] rfl rfl (any_of HT_.out (by kernel_rfl)) (fun _ _ _ h => h) (Or.inl ⟨by rfl, ?_⟩) ?_ ?_
    rotate_left
    · intro w'
      go_simp
      with_reducible rfl
    rotate_left
    · simp only [Act.put, List.setIfInBounds_toArray, List.set_cons_zero, List.set_cons_succ, i64_w, i32_w]
      rfl
    refine take_ (i := 3) (N := some 19) (v := ?_) (a' := ?_) #[true, true, true, true, true, true, true, false, true, false, false] rfl rfl (take_ofW HT_.out HW_.out (by kernel_rfl)) (fun _ _ _ h => h) (Or.inl ⟨by rfl, ?_⟩) hHeld ?_ ?_
    rotate_left
    · rintro w' ⟨s0, s1⟩
      go_simp
      with_reducible rfl
    rotate_left
    · simp only [Act.put, List.setIfInBounds_toArray, List.set_cons_zero, List.set_cons_succ, i64_w, i32_w]
      rfl
    refine take_ (i := 7) (N := some 23) (v := ?_) (a' := ?_) #[true, true, true, true, true, true, true, true, true, false, false] rfl rfl (take_ofW HT_.out HW_.out (by kernel_rfl)) (fun _ _ _ h => h) (Or.inl ⟨by rfl, ?_⟩) hHeld ?_ ?_
    rotate_left
    · rintro w' ⟨s0, s1⟩
      go_simp
      with_reducible rfl
    rotate_left
    · simp only [Act.put, List.setIfInBounds_toArray, List.set_cons_zero, List.set_cons_succ, i64_w, i32_w]
      rfl
    refine last_ (i := 9) (N := some 25) #[true, true, true, true, true, true, true, true, true, true, false] rfl rfl (one_of HT_.out (by kernel_rfl)) (by decide) (fun K hK => ?_)
    refine goes_ Try.func32 (by kernel_rfl) rfl #[.pointer (some ⟨p, 0, none⟩), .int .i64 front, .slice A2 (addB rs r).length c2] (by rfl) rfl rfl (by (try simp only [List.map_toArray, List.map_cons, List.map_nil]); first | done | rfl) ?_
    refine (Append_T (s' := UP t (doSt u (0, front, addB rs r)) (l ++ [(0, front, addB rs r)])) w3 (HL.out.rep.below HB3.out) HO.out HN.out front (HS3.out.len).2.2 (HS3.out.len).2.1 HAL.out (mayUP HFR.out) (changeUP HFR.out)).mono ?_
    rintro e w4 ⟨rfl, hr, hb, hk⟩
    refine ⟨_, rfl, ?_⟩
    have R4 := Aside0.mk hr
    have BB4 := Aside0.mk (Below.trans (Below.mono HB3.out HL.out.rep.base) hb)
    have K4 := Aside0.mk (KT.trans (KT.below HB3.out) hk)
    have BQ4 := Aside0.mk (K4.out 60 (by decide) (by decide) _ _ HL.out.blk)
    clear hr hb hk hHeld
    refine hK.out _ _ ?_
    clear hK K
    refine norm_ (a' := ?_) ?_ ?_
    rotate_left
    · show Act.put _ (some 25) _ = _
      simp only [Act.put, List.setIfInBounds_toArray, List.set_cons_zero, List.set_cons_succ, i64_w, i32_w]
      rfl
    refine pure_ (i := 10) (N := some 6) (v := ?_) (a' := ?_) #[true, true, true, true, true, true, true, true, true, true, true] rfl rfl (any_of HT_.out (by kernel_rfl)) (fun _ _ _ h => h) (Or.inl ⟨by rfl, ?_⟩) ?_ ?_
    rotate_left
    · intro w'
      go_simp
      with_reducible rfl
    rotate_left
    · simp only [Act.put, List.setIfInBounds_toArray, List.set_cons_zero, List.set_cons_succ, i64_w, i32_w]
      rfl
    refine done_ (done_of HT_.out (by kernel_rfl)) ?_
    have z2 : w4.cell? ⟨q, 2, none⟩ = some (.int .i64 ((flat rs).length : Int)) := (blk_cell BQ4.out 2).trans rfl
    have f2 := blk_frozen BQ4.out 2
    have hwr : wrap64 (((flat rs).length : Int) + ((addB rs r).length : Int)) = ((flat (added rs r)).length : Int) := by rw [HFA.out]; exact wr_ _ _ HTOT.out
    have hw2 : wrap64 (((flat rs).length : Int) + ((addB rs r).length : Int)) = ((flat rs).length : Int) + ((addB rs r).length : Int) := wr64 _ _ HTOT.out
    go_wp2
    go_ret
    have ks := KL.set (j := 2) (v := .int .i64 ((flat (added rs r)).length : Int)) BQ4.out
    exact ⟨rfl, ⟨Rep.other36 (t := 60) R4.out (grown_set (j := 2) (u := .int .i64 ((flat (added rs r)).length : Int))) BQ4.out (by decide) (by decide) (by decide), blk_set BQ4.out 2 _, HL.out.hq, HST.out⟩, HOK.out, BB4.out.setCell (p := ⟨q, 2, none⟩) HL.out.hq _, KL.trans K4.out.kl ks⟩
  · have HAB := Aside0.mk (show addB rs r = frame r by unfold addB; rw [if_neg hrs])
    have hz : (((flat rs).length : Int) == 0) = false := beq_eq_false_iff_ne.mpr (by have := flat_pos hrs; omega)
    have z2 : w.cell? ⟨q, 2, none⟩ = some (.int .i64 ((flat rs).length : Int)) := (blk_cell HL.out.blk 2).trans rfl
    have HQ2 := Aside0.mk (fun (W : World) (h : Below w.heap.size w W) => (blk_cell (blkK h HL.out.blk) 0).trans rfl)
    clear hrs
    go_enter Try.func19, Try.ntmps19
    go_wp2_with (first
      | (go_at_call 24; (with_reducible refine (Put_says (v := .slice none 0 0) (l0 := []) (l1 := r) w w (Below.refl _ _) (Kd.R_nil _ _ _ _ _) (Kd.C_F (Kd.heap_int _) HC.out) HCC.out (by simp) (by have := HLE.out; omega)).mono ?_); rintro e w2 ⟨v2, rfl, hr, hb⟩; rw [List.nil_append] at hr; have hbs := BS.ofR hr (by rw [frame_length]; have := HLE.out; omega); rw [← HAB.out] at hbs; obtain ⟨A2, c2, rfl, _⟩ := id hbs; have HS2 := Aside0.mk hbs; have HB2 := Aside0.mk hb; clear hbs hr hb)
      | fail)
    clear z2
    have BQ2 := Aside0.mk (blkK HB2.out HL.out.blk)
    refine start_ (n := 11) (S := fun w' => w'.cell? ⟨q, 0, none⟩ = some (.pointer (some ⟨p, 0, none⟩)) ∧ w'.cell? ⟨q, 1, none⟩ = some (.int .i64 front)) (ds := [9]) #[false, false, false, false, false, false, false, false, false, false, false] (by kernel_rfl) rfl rfl ⟨(blk_cell BQ2.out 0).trans rfl, (blk_cell BQ2.out 1).trans rfl⟩ (fun hHeld => ?_); refine with_tabW add_R5.tab add_R5.bits (fun HT_ HW_ => ?_)
    have HB3 := Aside0.mk (below_drew HB2.out)
    have HS3 := Aside0.mk (HS2.out.keep (Keeps.below (below_drew (Below.refl _ w2))))
    generalize w2.drew = w3 at HB3 HS3 hHeld ⊢
    refine pure_ (i := 0) (N := some 16) (v := ?_) (a' := ?_) #[true, false, false, false, false, false, false, false, false, false, false] rfl rfl (any_of HT_.out (by kernel_rfl)) (fun _ _ _ h => h) (Or.inl ⟨by rfl, ?_⟩) ?_ ?_
    rotate_left
    · intro w'
      go_simp
      with_reducible rfl
    rotate_left
    · simp only [Act.put, List.setIfInBounds_toArray, List.set_cons_zero, List.set_cons_succ, i64_w, i32_w]
      rfl
    refine pure_ (i := 1) (N := some 17) (v := ?_) (a' := ?_) #[true, true, false, false, false, false, false, false, false, false, false] rfl rfl (any_of HT_.out (by kernel_rfl)) (fun _ _ _ h => h) (Or.inl ⟨by rfl, ?_⟩) ?_ ?_
    rotate_left
    · intro w'
      go_simp
      with_reducible rfl
    rotate_left
    · simp only [Act.put, List.setIfInBounds_toArray, List.set_cons_zero, List.set_cons_succ, i64_w, i32_w]
      rfl
    refine pure_ (i := 2) (N := some 18) (v := ?_) (a' := ?_) #[true, true, true, false, false, false, false, false, false, false, false] rfl rfl (any_of HT_.out (by kernel_rfl)) (fun _ _ _ h => h) (Or.inl ⟨by rfl, ?_⟩) ?_ ?_
    rotate_left
    · intro w'
      go_simp
      with_reducible rfl
    rotate_left
    · simp only [Act.put, List.setIfInBounds_toArray, List.set_cons_zero, List.set_cons_succ, i64_w, i32_w]
      rfl
    refine pure_ (i := 4) (N := some 20) (v := ?_) (a' := ?_) #[true, true, true, false, true, false, false, false, false, false, false] rfl rfl (any_of HT_.out (by kernel_rfl)) (fun _ _ _ h => h) (Or.inl ⟨by rfl, ?_⟩) ?_ ?_
    rotate_left
    · intro w'
      go_simp
      with_reducible rfl
    rotate_left
    · simp only [Act.put, List.setIfInBounds_toArray, List.set_cons_zero, List.set_cons_succ, i64_w, i32_w]
      rfl
    refine pure_ (i := 5) (N := some 21) (v := ?_) (a' := ?_) #[true, true, true, false, true, true, false, false, false, false, false] rfl rfl (any_of HT_.out (by kernel_rfl)) (fun _ _ _ h => h) (Or.inl ⟨by rfl, ?_⟩) ?_ ?_
    rotate_left
    · intro w'
      go_simp
      with_reducible rfl
    rotate_left
    · simp only [Act.put, List.setIfInBounds_toArray, List.set_cons_zero, List.set_cons_succ, i64_w, i32_w]
      rfl
    refine pure_ (i := 6) (N := some 22) (v := ?_) (a' := ?_) #[true, true, true, false, true, true, true, false, false, false, false] rfl rfl (any_of HT_.out (by kernel_rfl)) (fun _ _ _ h => h) (Or.inl ⟨by rfl, ?_⟩) ?_ ?_
    rotate_left
    · intro w'
      go_simp
      with_reducible rfl
    rotate_left
    · simp only [Act.put, List.setIfInBounds_toArray, List.set_cons_zero, List.set_cons_succ, i64_w, i32_w]
      rfl
    refine pure_ (i := 8) (N := some 24) (v := ?_) (a' := ?_) #[true, true, true, false, true, true, true, false, true, false, false] rfl rfl (any_of HT_.out (by kernel_rfl)) (fun _ _ _ h => h) (Or.inl ⟨by rfl, ?_⟩) ?_ ?_
    rotate_left
    · intro w'
      go_simp
      with_reducible rfl
    rotate_left
    · simp only [Act.put, List.setIfInBounds_toArray, List.set_cons_zero, List.set_cons_succ, i64_w, i32_w]
      rfl
    refine take_ (i := 3) (N := some 19) (v := ?_) (a' := ?_) #[true, true, true, true, true, true, true, false, true, false, false] rfl rfl (take_ofW HT_.out HW_.out (by kernel_rfl)) (fun _ _ _ h => h) (Or.inl ⟨by rfl, ?_⟩) hHeld ?_ ?_
    rotate_left
    · rintro w' ⟨s0, s1⟩
      go_simp
      with_reducible rfl
    rotate_left
    · simp only [Act.put, List.setIfInBounds_toArray, List.set_cons_zero, List.set_cons_succ, i64_w, i32_w]
      rfl
    refine take_ (i := 7) (N := some 23) (v := ?_) (a' := ?_) #[true, true, true, true, true, true, true, true, true, false, false] rfl rfl (take_ofW HT_.out HW_.out (by kernel_rfl)) (fun _ _ _ h => h) (Or.inl ⟨by rfl, ?_⟩) hHeld ?_ ?_
    rotate_left
    · rintro w' ⟨s0, s1⟩
      go_simp
      with_reducible rfl
    rotate_left
    · simp only [Act.put, List.setIfInBounds_toArray, List.set_cons_zero, List.set_cons_succ, i64_w, i32_w]
      rfl
    refine last_ (i := 9) (N := some 25) #[true, true, true, true, true, true, true, true, true, true, false] rfl rfl (one_of HT_.out (by kernel_rfl)) (by decide) (fun K hK => ?_)
    refine goes_ Try.func32 (by kernel_rfl) rfl #[.pointer (some ⟨p, 0, none⟩), .int .i64 front, .slice A2 (addB rs r).length c2] (by rfl) rfl rfl (by (try simp only [List.map_toArray, List.map_cons, List.map_nil]); first | done | rfl) ?_
    refine (Append_T (s' := UP t (doSt u (0, front, addB rs r)) (l ++ [(0, front, addB rs r)])) w3 (HL.out.rep.below HB3.out) HO.out HN.out front (HS3.out.len).2.2 (HS3.out.len).2.1 HAL.out (mayUP HFR.out) (changeUP HFR.out)).mono ?_
    rintro e w4 ⟨rfl, hr, hb, hk⟩
    refine ⟨_, rfl, ?_⟩
    have R4 := Aside0.mk hr
    have BB4 := Aside0.mk (Below.trans (Below.mono HB3.out HL.out.rep.base) hb)
    have K4 := Aside0.mk (KT.trans (KT.below HB3.out) hk)
    have BQ4 := Aside0.mk (K4.out 60 (by decide) (by decide) _ _ HL.out.blk)
    clear hr hb hk hHeld
    refine hK.out _ _ ?_
    clear hK K
    refine norm_ (a' := ?_) ?_ ?_
    rotate_left
    · show Act.put _ (some 25) _ = _
      simp only [Act.put, List.setIfInBounds_toArray, List.set_cons_zero, List.set_cons_succ, i64_w, i32_w]
      rfl
    refine pure_ (i := 10) (N := some 6) (v := ?_) (a' := ?_) #[true, true, true, true, true, true, true, true, true, true, true] rfl rfl (any_of HT_.out (by kernel_rfl)) (fun _ _ _ h => h) (Or.inl ⟨by rfl, ?_⟩) ?_ ?_
    rotate_left
    · intro w'
      go_simp
      with_reducible rfl
    rotate_left
    · simp only [Act.put, List.setIfInBounds_toArray, List.set_cons_zero, List.set_cons_succ, i64_w, i32_w]
      rfl
    refine done_ (done_of HT_.out (by kernel_rfl)) ?_
    have z2 : w4.cell? ⟨q, 2, none⟩ = some (.int .i64 ((flat rs).length : Int)) := (blk_cell BQ4.out 2).trans rfl
    have f2 := blk_frozen BQ4.out 2
    have hwr : wrap64 (((flat rs).length : Int) + ((addB rs r).length : Int)) = ((flat (added rs r)).length : Int) := by rw [HFA.out]; exact wr_ _ _ HTOT.out
    have hw2 : wrap64 (((flat rs).length : Int) + ((addB rs r).length : Int)) = ((flat rs).length : Int) + ((addB rs r).length : Int) := wr64 _ _ HTOT.out
    go_wp2
    go_ret
    have ks := KL.set (j := 2) (v := .int .i64 ((flat (added rs r)).length : Int)) BQ4.out
    exact ⟨rfl, ⟨Rep.other36 (t := 60) R4.out (grown_set (j := 2) (u := .int .i64 ((flat (added rs r)).length : Int))) BQ4.out (by decide) (by decide) (by decide), blk_set BQ4.out 2 _, HL.out.hq, HST.out⟩, HOK.out, BB4.out.setCell (p := ⟨q, 2, none⟩) HL.out.hq _, KL.trans K4.out.kl ks⟩
end Go.Proofs.Ytdbkedipfpepbaa.PWal
