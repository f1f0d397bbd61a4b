/- The walk of WalActs. -/
import Derived.Test.YtdbkedipfpepbaaWalPlay
import Derived.Test.YtdbkedipfpepbaaWalAwake
namespace Go.Proofs.Ytdbkedipfpepbaa.PWal
open Go.RowKit Go.Proofs.YtdbkedipfpepbaaW.PrintWords Go.Proofs.YtdbkedipfpepbaaW.PrintLast Go.Proofs.YtdbkedipfpepbaaW.PrintMore Go.FrameMath
set_option linter.unusedVariables false
set_option linter.unusedSimpArgs false
def acts8_R18.T : Bool × List (List Nat × List Nat) := (true, [([], []), ([], []), ([], []), ([1, 2], [1, 2]), ([3], [3]), ([0, 4], [0, 4]), ([5, 5, 0, 1, 2, 3, 4, 5], [5])])
def acts8_R18.B : List Nat := [0, 0, 0, 6, 14, 31, 63]
theorem acts8_R18.tab : rtab .any (opsOf Try.f3 18) = acts8_R18.T := by kernel_rfl
theorem acts8_R18.bits : waitsOk acts8_R18.T.2 acts8_R18.B = true := by kernel_rfl
set_option maxHeartbeats 16000000 in
set_option maxRecDepth 100000 in
theorem WalActs_calls (A : Option Addr) (c : Nat) (acts : List S36) (w : World) (hx : Kd.C k36 w A acts.length acts) (hc : acts.length ≤ c) (hw : ∀ x ∈ acts, 0 ≤ x.f0 ∧ x.f0 ≤ 255 ∧ Byt x.f1) :
    Calls Try.prog 3 #[.slice A acts.length c] w fun e w' => e = .returned (.bool true) ∧ Below w.heap.size w w' := by
  have HX := Aside0.mk hx
  have HC := Aside0.mk hc
  have HW := Aside0.mk hw
  clear hx hw
  obtain ⟨fb, hfb, hft⟩ := few8_f acts 101 (by decide)
  have HFB := Aside0.mk hfb
  have HFT := Aside0.mk hft
  clear hfb hft
  go_enter Try.func3, Try.ntmps3
  cases fb with
  | false =>
    go_wp2_with (first
      | (go_at_call 6; (with_reducible refine (awake_calls w).mono ?_); rintro e wa ⟨rfl, hb⟩; have HBa := Aside0.mk hb; have HXa := Aside0.mk (Kd.C_below HX.out hb); clear hb)
      | (go_at_call 7; (with_reducible refine (lockgateref08_Few.calls 101 A c acts false wa HXa.out HC.out HFB.out).mono ?_); rintro e wf ⟨rfl, hb⟩; have HBf := Aside0.mk (below_step HBa.out hb.below); clear hb)
      | (go_at_call 6; (with_reducible refine (awake_calls wf).mono ?_); rintro e wb ⟨rfl, hb⟩; have HBb := Aside0.mk (below_step HBf.out hb); clear hb)
      | fail)
    go_ret
    exact ⟨rfl, HBb.out⟩
  | true =>
    have HFW := Aside0.mk (HFT.out rfl)
    go_wp2_with (first
      | (go_at_call 6; (with_reducible refine (awake_calls w).mono ?_); rintro e wa ⟨rfl, hb⟩; have HBa := Aside0.mk hb; have HXa := Aside0.mk (Kd.C_below HX.out hb); clear hb)
      | (go_at_call 7; (with_reducible refine (lockgateref08_Few.calls 101 A c acts true wa HXa.out HC.out HFB.out).mono ?_); rintro e wf ⟨rfl, hb⟩; have HBf := Aside0.mk (below_step HBa.out hb.below); have HXf := Aside0.mk (Kd.C_below HXa.out hb.below); clear hb)
      | (go_at_call 8; (with_reducible refine (new_calls wf).mono ?_); rintro e w1 ⟨rfl, hR, hb⟩; have HR1 := Aside0.mk (show Rep wf.heap.size w1 wf.heap.size (UP U0 U0 []) from hR); have HB1 := Aside0.mk hb; clear hR hb)
      | (go_at_call 9; (with_reducible refine (Open_new w1 HR1.out ok0 n0 ls0).mono ?_); rintro e w2 ⟨q2, rfl, hg, hb⟩; have HG2 := Aside0.mk hg; have HB2 := Aside0.mk (below_step HB1.out hb); clear hg hb)
      | ((with_reducible refine gate_dst (N := 8) rfl ?_); refine box_event ?hg (N := 8) ?hd (cs := #[.slice none 0 0, .slice none 0 0, .int .i64 0]) (t := 34) ?hr ?_; (case hd => rfl); (case hg => rfl); (case hr => first | (go_simp; done) | (go_simp; rfl)); intro g8 e8 w3 b8 hb; have B83 := Aside0.mk b8; have HG3 := Aside0.mk (HG2.out.below hb); have HB3 := Aside0.mk (below_step HB2.out hb); have E8 := Aside0.mk (show wf.heap.size ≤ g8 by have h1 := e8; have h2 := HB2.out.size; omega); clear b8 hb e8)
      | ((with_reducible refine gate_ (.store 34 (.tmp 8) (.tmp 35)) rfl ?_); refine put_event (g := g8) (e := 34) rfl rfl 34 (.tmp 8) (.tmp 35) rfl rfl (.agg #[.slice none 0 0, .slice none 0 0, .int .i64 0]) rfl (cs' := #[.slice none 0 0, .slice none 0 0, .int .i64 0]) rfl (by kernel_rfl) (by simp [Value.oneCell']) B83.out rfl ?_; intro w4 b8 hg; have B84 := Aside0.mk b8; have HG4 := Aside0.mk (HG3.out.other (ty := 34) hg B83.out (by decide) (by decide) (by decide) (by decide)); have HB4 := Aside0.mk (Below.grown HB3.out hg HB3.out.size (fun k hk => by cases hk; exact E8.out)); clear b8 hg)
      | fail)
    go_loopw [4, 9, 10] (fun v4 v9 v10 W => ∃ (i q M : Nat) (t u : St) (l : List Chg) (front : Int) (rs : List (List Int)) (em : Bool) (pic : List Int) (recs : List (List Int)) (rows : List (List Value)) (A0 : Option Addr) (c0 : Nat) (A1 : Option Addr) (c1 : Nat) (s : Int), v4 = .pointer (some ⟨q, 0, none⟩) ∧ v9 = .bool em ∧ v10 = .int .i64 i ∧ i ≤ acts.length ∧ Aside0 (AS wf.heap.size wf W g8 i q M t u l front rs em pic recs rows A0 c0 A1 c1 s)) (fun v4 v9 v10 _ => acts.length - (intOf v10).toNat)
    case atStart => exact ⟨0, q2, 0, U0, U0, [], 0, [], true, [], [], [], none, 0, none, 0, 0, rfl, rfl, rfl, Nat.zero_le _, ⟨⟨HG4.out, ok0, Nat.le_refl _, Nat.le_refl _, Nat.le_refl _, ⟨B84.out, Kd.C_nil _ _, Nat.le_refl _, RW.nil _ _, EL.nil _, E8.out⟩, .inl ⟨rfl, rfl, rfl, rfl⟩, HB4.out⟩⟩⟩
    case round =>
      clear HG2 HG3 HG4 HB1 HB2 HB3 HB4 HR1 B83 B84 HXa HBa
      obtain ⟨i, q, M, t, u, l, front, rs, em, pic, recs, rows, A0, c0, A1, c1, s, rfl, rfl, rfl, hi, HS⟩ := hrel
      have hi9 : i < 500000000 := by have := HFW.out.1; omega
      by_cases hlt : i < acts.length
      · obtain ⟨ad, A2, c2, e, h0, h1, h2, h3, hl2, hC2⟩ := at_T36 HXf.out (i : Int) (by omega) (by omega)
        subst e
        rw [rdT_get acts i hlt] at h0 h1 h2 h3 hl2 hC2
        rw [Int.toNat_natCast] at h0 h1 h2 h3
        have hwx := HW.out _ (List.getElem_mem hlt)
        have hfx := HFW.out.2 _ (List.getElem_mem hlt)
        have hi25 : i < 25 := by have := HFW.out.1; omega
        generalize (acts[i]) = x at h0 h1 h2 h3 hl2 hC2 hwx hfx
        obtain ⟨x0, x1, x2, x3⟩ := x
        dsimp only at h0 h1 h2 h3 hl2 hC2 hwx hfx
        have E0 := Aside0.mk h0
        have E1 := Aside0.mk h1
        have E2 := Aside0.mk h2
        have E3 := Aside0.mk h3
        have HL2 := Aside0.mk hl2
        have HC2 := Aside0.mk hC2
        have HWX := Aside0.mk hwx
        have HFX := Aside0.mk hfx
        have HI := Aside0.mk hi25
        have LT := Aside0.mk hlt
        have hlt' : (i : Int) < (acts.length : Int) := by omega
        clear h0 h1 h2 h3 hl2 hC2 hwx hfx hi25 hlt hi
        have h0 := cellB HS.out.be E0.out
        have h1 := cellB HS.out.be E1.out
        have h2 := cellB HS.out.be E2.out
        have h3 := cellB HS.out.be E3.out
        have HADD := Aside0.mk (HS.out.sh.add x1)
        have HBY := Aside0.mk HWX.out.2.2
        have HLE := Aside0.mk (show x1.length ≤ 3000 by have := HFX.out; omega)
        have H66 := mod6 x0 HWX.out.1
        have H6 : (∃ m, Int.tmod x0 6 = m ∧ decide (m ≤ 1) = true ∧ (m == 2) = false ∧ (m == 3) = false ∧ decide (4 ≤ m) = false) ∨ Int.tmod x0 6 = 2 ∨ Int.tmod x0 6 = 3 ∨ (∃ m, Int.tmod x0 6 = m ∧ decide (4 ≤ m) = true) := by
          rcases H66 with h | h | h | h | h | h
          · exact .inl ⟨0, h, by decide, by decide, by decide, by decide⟩
          · exact .inl ⟨1, h, by decide, by decide, by decide, by decide⟩
          · exact .inr (.inl h)
          · exact .inr (.inr (.inl h))
          · exact .inr (.inr (.inr ⟨4, h, by decide⟩))
          · exact .inr (.inr (.inr ⟨5, h, by decide⟩))
        clear H66
        have HSH := HS.out.sh
        rcases HSH with ⟨rfl, rfl, hp, hq⟩ | ⟨rfl, rfl⟩
        · have HP := Aside0.mk hp
          have HQ := Aside0.mk hq
          clear hp hq
          rcases H6 with ⟨m, hm, d1, d2, d3, d4⟩ | hm | hm | ⟨m, hm, d4⟩
          · have HN := Aside0.mk (show M + (addB [] x1).length + 1 ≤ 500000000 by have h1 := HS.out.hm; have h2 := addB_len [] x1; have h3 := HFX.out; have h4 := HI.out; omega)
            have HFA := Aside0.mk (show (flat (added [] x1)).length ≤ 100000 by have h1 := HS.out.fl; have h2 := added_len [] x1; have h3 := HFX.out; have h4 := HI.out; omega)
            obtain ⟨rn, hrn⟩ : ∃ rn, rn = recs ++ [x1] := ⟨_, rfl⟩
            have HRN := Aside0.mk hrn
            rw [← hrn] at HADD
            clear hrn
            have HRL := Aside0.mk (show rn.length = recs.length + 1 by rw [HRN.out, List.length_append]; rfl)
            have HM9 := Aside0.mk (show M + (addB [] x1).length + 1 ≤ 6000 * (i + 1) by have h1 := HS.out.hm; have h2 := addB_len [] x1; have h3 := HFX.out; omega)
            have HF9 := Aside0.mk (show (flat (pic :: rn)).length ≤ 224 * (i + 1) by have h1 := HS.out.fl; have h2 := added_len [] x1; have h3 := HFX.out; rw [HADD.out] at h2; omega)
            have HR9 := Aside0.mk (show rn.length ≤ i + 1 by have h1 := HS.out.rl; have h2 := HRL.out; omega)
            have HSH9 := Aside0.mk (show SH false (pic :: rn) pic rn from .inr ⟨rfl, rfl⟩)
            have HRC := Aside0.mk (show recs.length ≤ 1000 by have h1 := HS.out.rl; have h2 := HI.out; omega)
            go_wp2_with (first
              | (go_at_call 11; (with_reducible refine (Play_add _ HS.out.lg HS.out.ok HN.out (Kd.C_below HC2.out HS.out.be) HL2.out HBY.out HLE.out HFA.out hm d2 d3).mono ?_); rintro e w5 ⟨rfl, hg, ho, hb, hk⟩; rw [HADD.out] at hg; have HL5 := Aside0.mk hg; have HO9 := Aside0.mk ho; have HH5 := Aside0.mk (HS.out.ha.kl hk); have HB5 := Aside0.mk (HS.out.be.trans hb); clear hg ho hb hk h0 h1 h2 h3)
              | fail)
            clear HS
            refine start_ (n := 7) (S := fun w' => w'.cell? ⟨g8, 0, none⟩ = some (.slice A0 pic.length c0) ∧ w'.cell? ⟨g8, 1, none⟩ = some (.slice A1 recs.length c1) ∧ w'.cell? ⟨g8, 2, none⟩ = some (.int .i64 s) ∧ w'.cell? (ad.add (i * 4)) = some (.int .u8 x0) ∧ w'.cell? ⟨(ad.add (i * 4)).block, (ad.add (i * 4)).off + 1, none⟩ = some (.slice A2 x1.length c2) ∧ w'.cell? ⟨(ad.add (i * 4)).block, (ad.add (i * 4)).off + 2, none⟩ = some (.int .i64 x2) ∧ w'.cell? ⟨(ad.add (i * 4)).block, (ad.add (i * 4)).off + 3, none⟩ = some (.int .i64 x3)) (ds := [6]) #[false, false, false, false, false, false, false] (by kernel_rfl) rfl rfl ⟨(blk_cell HH5.out.bk 0).trans rfl, (blk_cell HH5.out.bk 1).trans rfl, (blk_cell HH5.out.bk 2).trans rfl, cellB (below_drew HB5.out) E0.out, cellB (below_drew HB5.out) E1.out, cellB (below_drew HB5.out) E2.out, cellB (below_drew HB5.out) E3.out⟩ (fun hHeld => ?_); refine with_tabW acts8_R18.tab acts8_R18.bits (fun HT_ HW_ => ?_)
            have HL6 := Aside0.mk (HL5.out.below (below_drew (Below.refl _ w5)))
            have HH6 := Aside0.mk (HH5.out.below (below_drew (Below.refl _ w5)))
            have HB6 := Aside0.mk (below_drew HB5.out)
            clear HL5 HH5 HB5
            generalize w5.drew = w6 at HL6 HH6 HB6 hHeld ⊢
            refine pure_ (i := 1) (N := some 82) (v := ?_) (a' := ?_) #[false, true, false, false, false, false, false] rfl rfl (any_of HT_.out (by kernel_rfl)) (fun _ _ _ h => h) (Or.inl ⟨by rfl, ?_⟩) ?_ ?_
            rotate_left
            · intro w'
              go_simp
              with_reducible rfl
            rotate_left
            · simp only [Act.put, List.setIfInBounds_toArray, List.set_cons_zero, List.set_cons_succ, i64_w, i32_w]
              rfl
            refine pure_ (i := 2) (N := some 83) (v := ?_) (a' := ?_) #[false, true, true, false, false, false, false] rfl rfl (any_of HT_.out (by kernel_rfl)) (fun _ _ _ h => h) (Or.inl ⟨by rfl, ?_⟩) ?_ ?_
            rotate_left
            · intro w'
              go_simp
              with_reducible rfl
            rotate_left
            · simp only [Act.put, List.setIfInBounds_toArray, List.set_cons_zero, List.set_cons_succ, i64_w, i32_w]
              rfl
            refine pure_ (i := 3) (N := some 84) (v := ?_) (a' := ?_) #[false, true, true, true, false, false, false] rfl rfl (any_of HT_.out (by kernel_rfl)) (fun _ _ _ h => h) (Or.inl ⟨by rfl, ?_⟩) ?_ ?_
            rotate_left
            · intro w'
              go_simp
              with_reducible rfl
            rotate_left
            · simp only [Act.put, List.setIfInBounds_toArray, List.set_cons_zero, List.set_cons_succ, i64_w, i32_w]
              rfl
            refine take_ (i := 0) (N := some 81) (v := ?_) (a' := ?_) #[true, true, true, true, false, false, false] rfl rfl (take_ofW HT_.out HW_.out (by kernel_rfl)) (fun _ _ _ h => h) (Or.inl ⟨by rfl, ?_⟩) hHeld ?_ ?_
            rotate_left
            · rintro w' ⟨s0, s1, s2, s3, s4, s5, s6⟩
              go_simp
              with_reducible rfl
            rotate_left
            · simp only [Act.put, List.setIfInBounds_toArray, List.set_cons_zero, List.set_cons_succ, i64_w, i32_w]
              rfl
            refine take_ (i := 4) (N := some 85) (v := ?_) (a' := ?_) #[true, true, true, true, true, false, false] rfl rfl (take_ofW HT_.out HW_.out (by kernel_rfl)) (fun _ _ _ h => h) (Or.inl ⟨by rfl, ?_⟩) hHeld ?_ ?_
            rotate_left
            · rintro w' ⟨s0, s1, s2, s3, s4, s5, s6⟩
              go_simp
              with_reducible rfl
            rotate_left
            · simp only [Act.put, List.setIfInBounds_toArray, List.set_cons_zero, List.set_cons_succ, i64_w, i32_w]
              rfl
            refine one_ (i := 5) (N := some 86) #[true, true, true, true, true, true, false] rfl rfl (one_of HT_.out (by kernel_rfl)) (by decide) (fun K hK => ?_)
            refine goes_ Try.func12 (by kernel_rfl) rfl #[.agg #[.slice A0 pic.length c0, .slice A1 recs.length c1, .int .i64 s], .agg #[.int .u8 x0, .slice A2 x1.length c2, .int .i64 x2, .int .i64 x3]] (by rfl) rfl rfl (by (try simp only [List.map_toArray, List.map_cons, List.map_nil]); first | done | rfl) ?_
            refine (Do_addH w6 hm d1 d2 d3 HH6.out.rw HH6.out.el HRC.out rn HRL.out).mono ?_
            rintro e w7 ⟨AN, cN, rfl, hrw, hb⟩
            refine ⟨_, rfl, ?_⟩
            have HL7 := Aside0.mk (HL6.out.below hb)
            have HH7 := Aside0.mk (HH6.out.below hb)
            have HB7 := Aside0.mk (below_step HB6.out hb)
            have RW7 := Aside0.mk (show RW wf.heap.size w7 (.slice AN rn.length cN) (rows ++ [[.slice A2 x1.length c2]]) from Kd.R_lower hrw HL6.out.rep.base)
            clear hrw
            clear hb
            refine hK.out _ _ ⟨(blk_cell HH7.out.bk 0).trans rfl, (blk_cell HH7.out.bk 1).trans rfl, (blk_cell HH7.out.bk 2).trans rfl, cellB HB7.out E0.out, cellB HB7.out E1.out, cellB HB7.out E2.out, cellB HB7.out E3.out⟩ (fun hHeld2 => ?_)
            clear hHeld
            have hHeld := hHeld2
            clear hHeld2
            clear hK K
            refine norm_ (a' := ?_) ?_ ?_
            rotate_left
            · show Act.put _ (some 86) _ = _
              simp only [Act.put, List.setIfInBounds_toArray, List.set_cons_zero, List.set_cons_succ, i64_w, i32_w]
              rfl
            refine last_ (i := 6) (N := none) #[true, true, true, true, true, true, true] rfl rfl (one_of HT_.out (by kernel_rfl)) (by decide) (fun K hK => ?_)
            refine put_step (by rfl) rfl 34 (.tmp 8) (.tmp 86) rfl (g := g8) (by rfl) (.agg #[.slice A0 pic.length c0, .slice AN rn.length cN, .int .i64 s]) (by rfl) (cs' := #[.slice A0 pic.length c0, .slice AN rn.length cN, .int .i64 s]) rfl (by kernel_rfl) (by simp [Value.oneCell']) HH7.out.bk rfl ?_
            intro w9 b9 hg9
            have HL9 := Aside0.mk (HL7.out.other (ty := 34) hg9 HH7.out.bk (by decide) (by decide) (by decide) (by decide))
            have HB9 := Aside0.mk (Below.grown HB7.out hg9 HB7.out.size (fun k hk => by cases hk; exact HH7.out.hg))
            have HH9 := Aside0.mk (show HA wf.heap.size wf w9 g8 pic rn (rows ++ [[.slice A2 x1.length c2]]) A0 c0 AN cN s from ⟨b9, HH7.out.pc, HH7.out.pl, RW7.out.keep (Keeps.grown hg9 HH7.out.bk (by decide)), HRN.out.symm ▸ HH7.out.el.add (show (Kd.slice 5 (Kd.int .u8)).K wf x1 [.slice A2 x1.length c2] from ⟨A2, c2, rfl, HL2.out, HC2.out⟩), HH7.out.hg⟩)
            clear RW7
            clear b9 hg9 HL7 HH7 HB7 HL6 HH6 HB6
            refine hK.out _ _ ?_
            clear hK K
            refine done_ (done_of HT_.out (by kernel_rfl)) ?_
            have HN9 := Aside0.mk HN.out
            have h0 := cellB HB9.out E0.out
            have HROW := Aside0.mk (row8_f pic rn s (HL9.out.st.sm _ (List.mem_cons_self ..)) (by have := HR9.out; have := HI.out; omega) (fun y hy => HL9.out.st.sm y (List.mem_cons_of_mem _ hy)))
            go_wp2_with (first
              | (go_at_call 13; (with_reducible refine (First_T w9 HL9.out.rep HL9.out.first rfl).mono ?_); rintro e wA ⟨rfl, hwA⟩; have HLA := Aside0.mk (hwA ▸ HL9.out); have HHA := Aside0.mk (hwA ▸ HH9.out); have HBA := Aside0.mk (hwA ▸ HB9.out); clear hwA)
              | (go_at_call 14; (with_reducible refine (Read_T wA HLA.out.rep HO9.out HN9.out _ (bs := flat (pic :: rn)) (mayUP HLA.out.st.fr) HLA.out.read).mono ?_); rintro e wB ⟨AB, cB, rfl, hbs, hb⟩; have HSB := Aside0.mk hbs; have HLB := Aside0.mk (HLA.out.below hb); have HHB := Aside0.mk (HHA.out.below hb); have HBB := Aside0.mk (below_step HBA.out hb); have y0 : wB.cell? ⟨g8, 0, none⟩ = some (.slice A0 pic.length c0) := (blk_cell HHB.out.bk 0).trans rfl; have y1 : wB.cell? ⟨g8, 1, none⟩ = some (.slice AN rn.length cN) := (blk_cell HHB.out.bk 1).trans rfl; have y2 : wB.cell? ⟨g8, 2, none⟩ = some (.int .i64 s) := (blk_cell HHB.out.bk 2).trans rfl; clear hbs hb)
              | (go_at_call 17; (with_reducible refine (lockgateref08_Row.calls 5000 A0 c0 pic AN cN rn s _ wB (HHB.out.reads HBB.out).2.2 HHB.out.pl (HHB.out.reads HBB.out).2.1 (HHB.out.reads HBB.out).1 HROW.out).mono ?_); rintro e wC ⟨v0, rfl, hr, hb⟩; have hbs := BS.ofR hr (by have := HLB.out.st.le; omega); obtain ⟨AC, cC, rfl, _⟩ := id hbs; have HSC := Aside0.mk hbs; have HSBC := Aside0.mk (HSB.out.keep (Keeps.below hb)); have HLC := Aside0.mk (HLB.out.below hb); have HHC := Aside0.mk (HHB.out.below hb); have HBC := Aside0.mk (below_step HBB.out hb); clear hbs hr hb y0 y1 y2)
              | (go_at_call 16; (with_reducible refine (lockgateref03_Same.calls 200000 AB cB (flat (pic :: rn)) AC cC (flat (pic :: rn)) true wC HSBC.out.len.2.2 HSBC.out.len.2.1 HSC.out.len.2.2 HSC.out.len.2.1 (same03_f _ HLC.out.st.le)).mono ?_); rintro e wD ⟨rfl, hb⟩; have HLD := Aside0.mk (HLC.out.below hb.below); have HHD := Aside0.mk (HHC.out.below hb.below); have HBD := Aside0.mk (below_step HBC.out hb.below); clear hb)
              | (go_at_call 15; (with_reducible refine (Size_calls wD HLD.out).mono ?_); rintro e wE ⟨rfl, hwE⟩; have HLE9 := Aside0.mk (hwE ▸ HLD.out); have HHE := Aside0.mk (hwE ▸ HHD.out); have HBE := Aside0.mk (hwE ▸ HBD.out); clear hwE)
              | fail)
            go_roundw
            case rel => exact ⟨i + 1, q, _, t, doSt u (0, front, addB [] x1), l ++ [(0, front, addB [] x1)], front, pic :: rn, false, pic, rn, rows ++ [[.slice A2 x1.length c2]], A0, c0, AN, cN, s, rfl, rfl, by go_num, LT.out, ⟨⟨HLE9.out, HO9.out, HM9.out, HF9.out, HR9.out, HHE.out, HSH9.out, HBE.out⟩⟩⟩
            case measure => simp [intOf]; have := LT.out; omega
          · have HN := Aside0.mk (show M ≤ 500000000 by have h1 := HS.out.hm; have h4 := HI.out; omega)
            have HM9 := Aside0.mk (show M ≤ 6000 * (i + 1) by have h1 := HS.out.hm; omega)
            have HF9 := Aside0.mk (show (flat []).length ≤ 224 * (i + 1) by have h1 := HS.out.fl; omega)
            have HR9 := Aside0.mk (show recs.length ≤ i + 1 by have h1 := HS.out.rl; omega)
            have HSH9 := Aside0.mk HS.out.sh
            go_wp2_with (first
              | (go_at_call 11; (with_reducible refine (Play_flush _ HS.out.lg HS.out.ok HN.out hm).mono ?_); rintro e w5 ⟨rfl, hg, ho, hb, hk⟩; have HL5 := Aside0.mk hg; have HO9 := Aside0.mk ho; have HH5 := Aside0.mk (HS.out.ha.kl hk); have HB5 := Aside0.mk (HS.out.be.trans hb); clear hg ho hb hk h0 h1 h2 h3)
              | fail)
            clear HS
            refine start_ (n := 7) (S := fun w' => w'.cell? ⟨g8, 0, none⟩ = some (.slice A0 pic.length c0) ∧ w'.cell? ⟨g8, 1, none⟩ = some (.slice A1 recs.length c1) ∧ w'.cell? ⟨g8, 2, none⟩ = some (.int .i64 s) ∧ w'.cell? (ad.add (i * 4)) = some (.int .u8 x0) ∧ w'.cell? ⟨(ad.add (i * 4)).block, (ad.add (i * 4)).off + 1, none⟩ = some (.slice A2 x1.length c2) ∧ w'.cell? ⟨(ad.add (i * 4)).block, (ad.add (i * 4)).off + 2, none⟩ = some (.int .i64 x2) ∧ w'.cell? ⟨(ad.add (i * 4)).block, (ad.add (i * 4)).off + 3, none⟩ = some (.int .i64 x3)) (ds := [6]) #[false, false, false, false, false, false, false] (by kernel_rfl) rfl rfl ⟨(blk_cell HH5.out.bk 0).trans rfl, (blk_cell HH5.out.bk 1).trans rfl, (blk_cell HH5.out.bk 2).trans rfl, cellB (below_drew HB5.out) E0.out, cellB (below_drew HB5.out) E1.out, cellB (below_drew HB5.out) E2.out, cellB (below_drew HB5.out) E3.out⟩ (fun hHeld => ?_); refine with_tabW acts8_R18.tab acts8_R18.bits (fun HT_ HW_ => ?_)
            have HL6 := Aside0.mk (HL5.out.below (below_drew (Below.refl _ w5)))
            have HH6 := Aside0.mk (HH5.out.below (below_drew (Below.refl _ w5)))
            have HB6 := Aside0.mk (below_drew HB5.out)
            clear HL5 HH5 HB5
            generalize w5.drew = w6 at HL6 HH6 HB6 hHeld ⊢
            refine pure_ (i := 1) (N := some 82) (v := ?_) (a' := ?_) #[false, true, false, false, false, false, false] rfl rfl (any_of HT_.out (by kernel_rfl)) (fun _ _ _ h => h) (Or.inl ⟨by rfl, ?_⟩) ?_ ?_
            rotate_left
            · intro w'
              go_simp
              with_reducible rfl
            rotate_left
            · simp only [Act.put, List.setIfInBounds_toArray, List.set_cons_zero, List.set_cons_succ, i64_w, i32_w]
              rfl
            refine pure_ (i := 2) (N := some 83) (v := ?_) (a' := ?_) #[false, true, true, false, false, false, false] rfl rfl (any_of HT_.out (by kernel_rfl)) (fun _ _ _ h => h) (Or.inl ⟨by rfl, ?_⟩) ?_ ?_
            rotate_left
            · intro w'
              go_simp
              with_reducible rfl
            rotate_left
            · simp only [Act.put, List.setIfInBounds_toArray, List.set_cons_zero, List.set_cons_succ, i64_w, i32_w]
              rfl
            refine pure_ (i := 3) (N := some 84) (v := ?_) (a' := ?_) #[false, true, true, true, false, false, false] rfl rfl (any_of HT_.out (by kernel_rfl)) (fun _ _ _ h => h) (Or.inl ⟨by rfl, ?_⟩) ?_ ?_
            rotate_left
            · intro w'
              go_simp
              with_reducible rfl
            rotate_left
            · simp only [Act.put, List.setIfInBounds_toArray, List.set_cons_zero, List.set_cons_succ, i64_w, i32_w]
              rfl
            refine take_ (i := 0) (N := some 81) (v := ?_) (a' := ?_) #[true, true, true, true, false, false, false] rfl rfl (take_ofW HT_.out HW_.out (by kernel_rfl)) (fun _ _ _ h => h) (Or.inl ⟨by rfl, ?_⟩) hHeld ?_ ?_
            rotate_left
            · rintro w' ⟨s0, s1, s2, s3, s4, s5, s6⟩
              go_simp
              with_reducible rfl
            rotate_left
            · simp only [Act.put, List.setIfInBounds_toArray, List.set_cons_zero, List.set_cons_succ, i64_w, i32_w]
              rfl
            refine take_ (i := 4) (N := some 85) (v := ?_) (a' := ?_) #[true, true, true, true, true, false, false] rfl rfl (take_ofW HT_.out HW_.out (by kernel_rfl)) (fun _ _ _ h => h) (Or.inl ⟨by rfl, ?_⟩) hHeld ?_ ?_
            rotate_left
            · rintro w' ⟨s0, s1, s2, s3, s4, s5, s6⟩
              go_simp
              with_reducible rfl
            rotate_left
            · simp only [Act.put, List.setIfInBounds_toArray, List.set_cons_zero, List.set_cons_succ, i64_w, i32_w]
              rfl
            refine one_ (i := 5) (N := some 86) #[true, true, true, true, true, true, false] rfl rfl (one_of HT_.out (by kernel_rfl)) (by decide) (fun K hK => ?_)
            refine goes_ Try.func12 (by kernel_rfl) rfl #[.agg #[.slice A0 pic.length c0, .slice A1 recs.length c1, .int .i64 s], .agg #[.int .u8 x0, .slice A2 x1.length c2, .int .i64 x2, .int .i64 x3]] (by rfl) rfl rfl (by (try simp only [List.map_toArray, List.map_cons, List.map_nil]); first | done | rfl) ?_
            refine (Do_flush w6 hm).mono ?_
            rintro e w7 ⟨rfl, hb⟩
            refine ⟨_, rfl, ?_⟩
            have HL7 := Aside0.mk (HL6.out.below hb)
            have HH7 := Aside0.mk (HH6.out.below hb)
            have HB7 := Aside0.mk (below_step HB6.out hb)
            clear hb
            refine hK.out _ _ ⟨(blk_cell HH7.out.bk 0).trans rfl, (blk_cell HH7.out.bk 1).trans rfl, (blk_cell HH7.out.bk 2).trans rfl, cellB HB7.out E0.out, cellB HB7.out E1.out, cellB HB7.out E2.out, cellB HB7.out E3.out⟩ (fun hHeld2 => ?_)
            clear hHeld
            have hHeld := hHeld2
            clear hHeld2
            clear hK K
            refine norm_ (a' := ?_) ?_ ?_
            rotate_left
            · show Act.put _ (some 86) _ = _
              simp only [Act.put, List.setIfInBounds_toArray, List.set_cons_zero, List.set_cons_succ, i64_w, i32_w]
              rfl
            refine last_ (i := 6) (N := none) #[true, true, true, true, true, true, true] rfl rfl (one_of HT_.out (by kernel_rfl)) (by decide) (fun K hK => ?_)
            refine put_step (by rfl) rfl 34 (.tmp 8) (.tmp 86) rfl (g := g8) (by rfl) (.agg #[.slice A0 pic.length c0, .slice A1 recs.length c1, .int .i64 (recs.length : Int)]) (by rfl) (cs' := #[.slice A0 pic.length c0, .slice A1 recs.length c1, .int .i64 (recs.length : Int)]) rfl (by kernel_rfl) (by simp [Value.oneCell']) HH7.out.bk rfl ?_
            intro w9 b9 hg9
            have HL9 := Aside0.mk (HL7.out.other (ty := 34) hg9 HH7.out.bk (by decide) (by decide) (by decide) (by decide))
            have HB9 := Aside0.mk (Below.grown HB7.out hg9 HB7.out.size (fun k hk => by cases hk; exact HH7.out.hg))
            have HH9 := Aside0.mk (show HA wf.heap.size wf w9 g8 pic recs rows A0 c0 A1 c1 (recs.length : Int) from ⟨b9, HH7.out.pc, HH7.out.pl, HH7.out.rw.keep (Keeps.grown hg9 HH7.out.bk (by decide)), HH7.out.el, HH7.out.hg⟩)
            clear b9 hg9 HL7 HH7 HB7 HL6 HH6 HB6
            refine hK.out _ _ ?_
            clear hK K
            refine done_ (done_of HT_.out (by kernel_rfl)) ?_
            have HN9 := Aside0.mk HN.out
            have h0 := cellB HB9.out E0.out
            go_wp2_with (first
              | (go_at_call 13; (with_reducible refine (First_T w9 HL9.out.rep HL9.out.first rfl).mono ?_); rintro e wA ⟨rfl, hwA⟩; have HLA := Aside0.mk (hwA ▸ HL9.out); have HHA := Aside0.mk (hwA ▸ HH9.out); have HBA := Aside0.mk (hwA ▸ HB9.out); clear hwA)
              | (go_at_call 14; (with_reducible refine (Read_nil wA HLA.out HO9.out HN9.out).mono ?_); rintro e wB ⟨AB, cB, rfl, hb⟩; have HLB := Aside0.mk (HLA.out.below hb); have HHB := Aside0.mk (HHA.out.below hb); have HBB := Aside0.mk (below_step HBA.out hb); clear hb)
              | (go_at_call 15; (with_reducible refine (Size_nil wB HLB.out).mono ?_); rintro e wC ⟨rfl, hwC⟩; have HLC := Aside0.mk (hwC ▸ HLB.out); have HHC := Aside0.mk (hwC ▸ HHB.out); have HBC := Aside0.mk (hwC ▸ HBB.out); clear hwC)
              | fail)
            go_roundw
            case rel => exact ⟨i + 1, q, M, u, u, [], front, [], true, pic, recs, rows, A0, c0, A1, c1, (recs.length : Int), rfl, rfl, by go_num, LT.out, ⟨⟨HLC.out, HO9.out, HM9.out, HF9.out, HR9.out, HHC.out, HSH9.out, HBC.out⟩⟩⟩
            case measure => simp [intOf]; have := LT.out; omega
          · have HN := Aside0.mk (show M + x1.length + 15 ≤ 500000000 by have h1 := HS.out.hm; have h3 := HFX.out; have h4 := HI.out; omega)
            obtain ⟨rn, hrn⟩ : ∃ rn : List (List Int), rn = [] := ⟨_, rfl⟩
            have HRN := Aside0.mk hrn
            clear hrn
            have HM9 := Aside0.mk (show M + x1.length + 15 ≤ 6000 * (i + 1) by have h1 := HS.out.hm; have h3 := HFX.out; omega)
            have HF9 := Aside0.mk (show (flat (x1 :: rn)).length ≤ 224 * (i + 1) by rw [HRN.out, flat_one, frame_length]; have h3 := HFX.out; omega)
            have HR9 := Aside0.mk (show rn.length ≤ i + 1 by rw [HRN.out]; exact Nat.zero_le _)
            have HSH9 := Aside0.mk (show SH false (x1 :: rn) x1 rn from .inr ⟨rfl, rfl⟩)
            have HONE := Aside0.mk (show [x1] = x1 :: rn by rw [HRN.out])
            go_wp2_with (first
              | (go_at_call 11; (with_reducible refine (Play_save _ HS.out.lg HS.out.ok HN.out (Kd.C_below HC2.out HS.out.be) HL2.out HBY.out HLE.out hm).mono ?_); rintro e w5 ⟨rfl, hg, ho, hb, hk⟩; rw [HONE.out] at hg; have HL5 := Aside0.mk hg; have HO9 := Aside0.mk ho; have HH5 := Aside0.mk (HS.out.ha.kl hk); have HB5 := Aside0.mk (HS.out.be.trans hb); clear hg ho hb hk h0 h1 h2 h3)
              | fail)
            clear HS
            refine start_ (n := 7) (S := fun w' => w'.cell? ⟨g8, 0, none⟩ = some (.slice A0 pic.length c0) ∧ w'.cell? ⟨g8, 1, none⟩ = some (.slice A1 recs.length c1) ∧ w'.cell? ⟨g8, 2, none⟩ = some (.int .i64 s) ∧ w'.cell? (ad.add (i * 4)) = some (.int .u8 x0) ∧ w'.cell? ⟨(ad.add (i * 4)).block, (ad.add (i * 4)).off + 1, none⟩ = some (.slice A2 x1.length c2) ∧ w'.cell? ⟨(ad.add (i * 4)).block, (ad.add (i * 4)).off + 2, none⟩ = some (.int .i64 x2) ∧ w'.cell? ⟨(ad.add (i * 4)).block, (ad.add (i * 4)).off + 3, none⟩ = some (.int .i64 x3)) (ds := [6]) #[false, false, false, false, false, false, false] (by kernel_rfl) rfl rfl ⟨(blk_cell HH5.out.bk 0).trans rfl, (blk_cell HH5.out.bk 1).trans rfl, (blk_cell HH5.out.bk 2).trans rfl, cellB (below_drew HB5.out) E0.out, cellB (below_drew HB5.out) E1.out, cellB (below_drew HB5.out) E2.out, cellB (below_drew HB5.out) E3.out⟩ (fun hHeld => ?_); refine with_tabW acts8_R18.tab acts8_R18.bits (fun HT_ HW_ => ?_)
            have HL6 := Aside0.mk (HL5.out.below (below_drew (Below.refl _ w5)))
            have HH6 := Aside0.mk (HH5.out.below (below_drew (Below.refl _ w5)))
            have HB6 := Aside0.mk (below_drew HB5.out)
            clear HL5 HH5 HB5
            generalize w5.drew = w6 at HL6 HH6 HB6 hHeld ⊢
            refine pure_ (i := 1) (N := some 82) (v := ?_) (a' := ?_) #[false, true, false, false, false, false, false] rfl rfl (any_of HT_.out (by kernel_rfl)) (fun _ _ _ h => h) (Or.inl ⟨by rfl, ?_⟩) ?_ ?_
            rotate_left
            · intro w'
              go_simp
              with_reducible rfl
            rotate_left
            · simp only [Act.put, List.setIfInBounds_toArray, List.set_cons_zero, List.set_cons_succ, i64_w, i32_w]
              rfl
            refine pure_ (i := 2) (N := some 83) (v := ?_) (a' := ?_) #[false, true, true, false, false, false, false] rfl rfl (any_of HT_.out (by kernel_rfl)) (fun _ _ _ h => h) (Or.inl ⟨by rfl, ?_⟩) ?_ ?_
            rotate_left
            · intro w'
              go_simp
              with_reducible rfl
            rotate_left
            · simp only [Act.put, List.setIfInBounds_toArray, List.set_cons_zero, List.set_cons_succ, i64_w, i32_w]
              rfl
            refine pure_ (i := 3) (N := some 84) (v := ?_) (a' := ?_) #[false, true, true, true, false, false, false] rfl rfl (any_of HT_.out (by kernel_rfl)) (fun _ _ _ h => h) (Or.inl ⟨by rfl, ?_⟩) ?_ ?_
            rotate_left
            · intro w'
              go_simp
              with_reducible rfl
            rotate_left
            · simp only [Act.put, List.setIfInBounds_toArray, List.set_cons_zero, List.set_cons_succ, i64_w, i32_w]
              rfl
            refine take_ (i := 0) (N := some 81) (v := ?_) (a' := ?_) #[true, true, true, true, false, false, false] rfl rfl (take_ofW HT_.out HW_.out (by kernel_rfl)) (fun _ _ _ h => h) (Or.inl ⟨by rfl, ?_⟩) hHeld ?_ ?_
            rotate_left
            · rintro w' ⟨s0, s1, s2, s3, s4, s5, s6⟩
              go_simp
              with_reducible rfl
            rotate_left
            · simp only [Act.put, List.setIfInBounds_toArray, List.set_cons_zero, List.set_cons_succ, i64_w, i32_w]
              rfl
            refine take_ (i := 4) (N := some 85) (v := ?_) (a' := ?_) #[true, true, true, true, true, false, false] rfl rfl (take_ofW HT_.out HW_.out (by kernel_rfl)) (fun _ _ _ h => h) (Or.inl ⟨by rfl, ?_⟩) hHeld ?_ ?_
            rotate_left
            · rintro w' ⟨s0, s1, s2, s3, s4, s5, s6⟩
              go_simp
              with_reducible rfl
            rotate_left
            · simp only [Act.put, List.setIfInBounds_toArray, List.set_cons_zero, List.set_cons_succ, i64_w, i32_w]
              rfl
            refine one_ (i := 5) (N := some 86) #[true, true, true, true, true, true, false] rfl rfl (one_of HT_.out (by kernel_rfl)) (by decide) (fun K hK => ?_)
            refine goes_ Try.func12 (by kernel_rfl) rfl #[.agg #[.slice A0 pic.length c0, .slice A1 recs.length c1, .int .i64 s], .agg #[.int .u8 x0, .slice A2 x1.length c2, .int .i64 x2, .int .i64 x3]] (by rfl) rfl rfl (by (try simp only [List.map_toArray, List.map_cons, List.map_nil]); first | done | rfl) ?_
            refine (Do_save w6 hm).mono ?_
            rintro e w7 ⟨rfl, hb⟩
            refine ⟨_, rfl, ?_⟩
            have HL7 := Aside0.mk (HL6.out.below hb)
            have HH7 := Aside0.mk (HH6.out.below hb)
            have HB7 := Aside0.mk (below_step HB6.out hb)
            clear hb
            refine hK.out _ _ ⟨(blk_cell HH7.out.bk 0).trans rfl, (blk_cell HH7.out.bk 1).trans rfl, (blk_cell HH7.out.bk 2).trans rfl, cellB HB7.out E0.out, cellB HB7.out E1.out, cellB HB7.out E2.out, cellB HB7.out E3.out⟩ (fun hHeld2 => ?_)
            clear hHeld
            have hHeld := hHeld2
            clear hHeld2
            clear hK K
            refine norm_ (a' := ?_) ?_ ?_
            rotate_left
            · show Act.put _ (some 86) _ = _
              simp only [Act.put, List.setIfInBounds_toArray, List.set_cons_zero, List.set_cons_succ, i64_w, i32_w]
              rfl
            refine last_ (i := 6) (N := none) #[true, true, true, true, true, true, true] rfl rfl (one_of HT_.out (by kernel_rfl)) (by decide) (fun K hK => ?_)
            refine put_step (by rfl) rfl 34 (.tmp 8) (.tmp 86) rfl (g := g8) (by rfl) (.agg #[.slice A2 x1.length c2, .slice none 0 0, .int .i64 0]) (by rfl) (cs' := #[.slice A2 x1.length c2, .slice none 0 0, .int .i64 0]) rfl (by kernel_rfl) (by simp [Value.oneCell']) HH7.out.bk rfl ?_
            intro w9 b9 hg9
            have HL9 := Aside0.mk (HL7.out.other (ty := 34) hg9 HH7.out.bk (by decide) (by decide) (by decide) (by decide))
            have HB9 := Aside0.mk (Below.grown HB7.out hg9 HB7.out.size (fun k hk => by cases hk; exact HH7.out.hg))
            have HH9 := Aside0.mk (show HA wf.heap.size wf w9 g8 x1 rn [] A2 c2 none 0 0 from ⟨by rw [HRN.out]; exact b9, HC2.out, HL2.out, by rw [HRN.out]; exact RW.nil _ _, by rw [HRN.out]; exact EL.nil _, HH7.out.hg⟩)
            clear b9 hg9 HL7 HH7 HB7 HL6 HH6 HB6
            refine hK.out _ _ ?_
            clear hK K
            refine done_ (done_of HT_.out (by kernel_rfl)) ?_
            have HN9 := Aside0.mk HN.out
            have h0 := cellB HB9.out E0.out
            have HROW := Aside0.mk (row8_f x1 rn 0 (HL9.out.st.sm _ (List.mem_cons_self ..)) (by have := HR9.out; have := HI.out; omega) (fun y hy => HL9.out.st.sm y (List.mem_cons_of_mem _ hy)))
            go_wp2_with (first
              | (go_at_call 13; (with_reducible refine (First_T w9 HL9.out.rep HL9.out.first rfl).mono ?_); rintro e wA ⟨rfl, hwA⟩; have HLA := Aside0.mk (hwA ▸ HL9.out); have HHA := Aside0.mk (hwA ▸ HH9.out); have HBA := Aside0.mk (hwA ▸ HB9.out); clear hwA)
              | (go_at_call 14; (with_reducible refine (Read_T wA HLA.out.rep HO9.out HN9.out _ (bs := flat (x1 :: rn)) (mayUP HLA.out.st.fr) HLA.out.read).mono ?_); rintro e wB ⟨AB, cB, rfl, hbs, hb⟩; have HSB := Aside0.mk hbs; have HLB := Aside0.mk (HLA.out.below hb); have HHB := Aside0.mk (HHA.out.below hb); have HBB := Aside0.mk (below_step HBA.out hb); have y0 : wB.cell? ⟨g8, 0, none⟩ = some (.slice A2 x1.length c2) := (blk_cell HHB.out.bk 0).trans rfl; have y1 : wB.cell? ⟨g8, 1, none⟩ = some (.slice none rn.length 0) := (blk_cell HHB.out.bk 1).trans rfl; have y2 : wB.cell? ⟨g8, 2, none⟩ = some (.int .i64 0) := (blk_cell HHB.out.bk 2).trans rfl; clear hbs hb)
              | (go_at_call 17; (with_reducible refine (lockgateref08_Row.calls 5000 A2 c2 x1 none 0 rn 0 _ wB (HHB.out.reads HBB.out).2.2 HHB.out.pl (HHB.out.reads HBB.out).2.1 (HHB.out.reads HBB.out).1 HROW.out).mono ?_); rintro e wC ⟨v0, rfl, hr, hb⟩; have hbs := BS.ofR hr (by have := HLB.out.st.le; omega); obtain ⟨AC, cC, rfl, _⟩ := id hbs; have HSC := Aside0.mk hbs; have HSBC := Aside0.mk (HSB.out.keep (Keeps.below hb)); have HLC := Aside0.mk (HLB.out.below hb); have HHC := Aside0.mk (HHB.out.below hb); have HBC := Aside0.mk (below_step HBB.out hb); clear hbs hr hb y0 y1 y2)
              | (go_at_call 16; (with_reducible refine (lockgateref03_Same.calls 200000 AB cB (flat (x1 :: rn)) AC cC (flat (x1 :: rn)) true wC HSBC.out.len.2.2 HSBC.out.len.2.1 HSC.out.len.2.2 HSC.out.len.2.1 (same03_f _ HLC.out.st.le)).mono ?_); rintro e wD ⟨rfl, hb⟩; have HLD := Aside0.mk (HLC.out.below hb.below); have HHD := Aside0.mk (HHC.out.below hb.below); have HBD := Aside0.mk (below_step HBC.out hb.below); clear hb)
              | (go_at_call 15; (with_reducible refine (Size_calls wD HLD.out).mono ?_); rintro e wE ⟨rfl, hwE⟩; have HLE9 := Aside0.mk (hwE ▸ HLD.out); have HHE := Aside0.mk (hwE ▸ HHD.out); have HBE := Aside0.mk (hwE ▸ HBD.out); clear hwE)
              | fail)
            go_roundw
            case rel => exact ⟨i + 1, q, _, turnSt u (1 - front) (frame x1), turnSt u (1 - front) (frame x1), [], 1 - front, x1 :: rn, false, x1, rn, [], A2, c2, none, 0, 0, rfl, rfl, by go_num, LT.out, ⟨⟨HLE9.out, HO9.out, HM9.out, HF9.out, HR9.out, HHE.out, HSH9.out, HBE.out⟩⟩⟩
            case measure => simp [intOf]; have := LT.out; omega
          · have HM9 := Aside0.mk (show M ≤ 6000 * (i + 1) by have h1 := HS.out.hm; have h2 := HS.out.fl; have h4 := HI.out; omega)
            have HN := Aside0.mk (show M ≤ 500000000 by have h1 := HM9.out; have h4 := HI.out; omega)
            have HF9 := Aside0.mk (show (flat []).length ≤ 224 * (i + 1) by have h1 := HS.out.fl; omega)
            have HR9 := Aside0.mk (show recs.length ≤ i + 1 by have h1 := HS.out.rl; omega)
            have HSH9 := Aside0.mk HS.out.sh
            go_wp2_with (first
              | (go_at_call 9; (with_reducible refine (Open_new _ HS.out.lg.rep HS.out.ok HN.out HS.out.lg.st).mono ?_); rintro e w5 ⟨q5, rfl, hg, hb⟩; have HL5 := Aside0.mk hg; have HO9 := Aside0.mk HS.out.ok; have HH5 := Aside0.mk (HS.out.ha.below hb); have HB5 := Aside0.mk (below_step HS.out.be hb); clear hg hb h0 h1 h2 h3; have y0 : w5.cell? ⟨g8, 0, none⟩ = some (.slice A0 pic.length c0) := (blk_cell HH5.out.bk 0).trans rfl; have y1 : w5.cell? ⟨g8, 1, none⟩ = some (.slice A1 recs.length c1) := (blk_cell HH5.out.bk 1).trans rfl; have y2 : w5.cell? ⟨g8, 2, none⟩ = some (.int .i64 s) := (blk_cell HH5.out.bk 2).trans rfl)
              | (go_at_call 10; (with_reducible refine (Same_nil w5 HP.out HQ.out HH5.out.pl (HH5.out.reads HB5.out).2.2 (HH5.out.reads HB5.out).1 (HH5.out.reads HB5.out).2.1).mono ?_); rintro e w6 ⟨rfl, hb⟩; have HL6 := Aside0.mk (HL5.out.below hb); have HH6 := Aside0.mk (HH5.out.below hb); have HB6 := Aside0.mk (below_step HB5.out hb); clear hb y0 y1 y2; have y0 : w6.cell? ⟨g8, 0, none⟩ = some (.slice A0 pic.length c0) := (blk_cell HH6.out.bk 0).trans rfl; have y1 : w6.cell? ⟨g8, 1, none⟩ = some (.slice A1 recs.length c1) := (blk_cell HH6.out.bk 1).trans rfl; have y2 : w6.cell? ⟨g8, 2, none⟩ = some (.int .i64 s) := (blk_cell HH6.out.bk 2).trans rfl)
              | ((with_reducible refine gate_ (.store 3 (.tmp 72) (.tmp 71)) rfl ?_); refine put_field (g := g8) (j := 2) (e := 34) rfl rfl 3 (.tmp 72) (.tmp 71) rfl rfl (.int .i64 (recs.length : Int)) rfl rfl (by kernel_rfl) (by simp [Value.oneCell']) HH6.out.bk (by simp) ?_; intro w9 b9 hg9; have HL9 := Aside0.mk (HL6.out.other (ty := 34) hg9 HH6.out.bk (by decide) (by decide) (by decide) (by decide)); have HB9 := Aside0.mk (Below.grown HB6.out hg9 HB6.out.size (fun k hk => by cases hk; exact HH6.out.hg)); have HH9 := Aside0.mk (show HA wf.heap.size wf w9 g8 pic recs rows A0 c0 A1 c1 (recs.length : Int) from ⟨b9, HH6.out.pc, HH6.out.pl, HH6.out.rw.keep (Keeps.grown hg9 HH6.out.bk (by decide)), HH6.out.el, HH6.out.hg⟩); have HN9 := Aside0.mk HN.out; clear b9 hg9 y0 y1 y2)
              | (go_at_call 13; (with_reducible refine (First_T w9 HL9.out.rep HL9.out.first rfl).mono ?_); rintro e wA ⟨rfl, hwA⟩; have HLA := Aside0.mk (hwA ▸ HL9.out); have HHA := Aside0.mk (hwA ▸ HH9.out); have HBA := Aside0.mk (hwA ▸ HB9.out); clear hwA)
              | (go_at_call 14; (with_reducible refine (Read_nil wA HLA.out HO9.out HN9.out).mono ?_); rintro e wB ⟨AB, cB, rfl, hb⟩; have HLB := Aside0.mk (HLA.out.below hb); have HHB := Aside0.mk (HHA.out.below hb); have HBB := Aside0.mk (below_step HBA.out hb); clear hb)
              | (go_at_call 15; (with_reducible refine (Size_nil wB HLB.out).mono ?_); rintro e wC ⟨rfl, hwC⟩; have HLC := Aside0.mk (hwC ▸ HLB.out); have HHC := Aside0.mk (hwC ▸ HHB.out); have HBC := Aside0.mk (hwC ▸ HBB.out); clear hwC)
              | fail)
            go_roundw
            case rel => exact ⟨i + 1, q5, _, t, u, l, front, [], true, pic, recs, rows, A0, c0, A1, c1, (recs.length : Int), rfl, rfl, by go_num, LT.out, ⟨⟨HLC.out, HO9.out, HM9.out, HF9.out, HR9.out, HHC.out, HSH9.out, HBC.out⟩⟩⟩
            case measure => simp [intOf]; have := LT.out; omega
        · rcases H6 with ⟨m, hm, d1, d2, d3, d4⟩ | hm | hm | ⟨m, hm, d4⟩
          · have HN := Aside0.mk (show M + (addB (pic :: recs) x1).length + 1 ≤ 500000000 by have h1 := HS.out.hm; have h2 := addB_len (pic :: recs) x1; have h3 := HFX.out; have h4 := HI.out; omega)
            have HFA := Aside0.mk (show (flat (added (pic :: recs) x1)).length ≤ 100000 by have h1 := HS.out.fl; have h2 := added_len (pic :: recs) x1; have h3 := HFX.out; have h4 := HI.out; omega)
            obtain ⟨rn, hrn⟩ : ∃ rn, rn = recs ++ [x1] := ⟨_, rfl⟩
            have HRN := Aside0.mk hrn
            rw [← hrn] at HADD
            clear hrn
            have HRL := Aside0.mk (show rn.length = recs.length + 1 by rw [HRN.out, List.length_append]; rfl)
            have HM9 := Aside0.mk (show M + (addB (pic :: recs) x1).length + 1 ≤ 6000 * (i + 1) by have h1 := HS.out.hm; have h2 := addB_len (pic :: recs) x1; have h3 := HFX.out; omega)
            have HF9 := Aside0.mk (show (flat (pic :: rn)).length ≤ 224 * (i + 1) by have h1 := HS.out.fl; have h2 := added_len (pic :: recs) x1; have h3 := HFX.out; rw [HADD.out] at h2; omega)
            have HR9 := Aside0.mk (show rn.length ≤ i + 1 by have h1 := HS.out.rl; have h2 := HRL.out; omega)
            have HSH9 := Aside0.mk (show SH false (pic :: rn) pic rn from .inr ⟨rfl, rfl⟩)
            have HRC := Aside0.mk (show recs.length ≤ 1000 by have h1 := HS.out.rl; have h2 := HI.out; omega)
            go_wp2_with (first
              | (go_at_call 11; (with_reducible refine (Play_add _ HS.out.lg HS.out.ok HN.out (Kd.C_below HC2.out HS.out.be) HL2.out HBY.out HLE.out HFA.out hm d2 d3).mono ?_); rintro e w5 ⟨rfl, hg, ho, hb, hk⟩; rw [HADD.out] at hg; have HL5 := Aside0.mk hg; have HO9 := Aside0.mk ho; have HH5 := Aside0.mk (HS.out.ha.kl hk); have HB5 := Aside0.mk (HS.out.be.trans hb); clear hg ho hb hk h0 h1 h2 h3)
              | fail)
            clear HS
            refine start_ (n := 7) (S := fun w' => w'.cell? ⟨g8, 0, none⟩ = some (.slice A0 pic.length c0) ∧ w'.cell? ⟨g8, 1, none⟩ = some (.slice A1 recs.length c1) ∧ w'.cell? ⟨g8, 2, none⟩ = some (.int .i64 s) ∧ w'.cell? (ad.add (i * 4)) = some (.int .u8 x0) ∧ w'.cell? ⟨(ad.add (i * 4)).block, (ad.add (i * 4)).off + 1, none⟩ = some (.slice A2 x1.length c2) ∧ w'.cell? ⟨(ad.add (i * 4)).block, (ad.add (i * 4)).off + 2, none⟩ = some (.int .i64 x2) ∧ w'.cell? ⟨(ad.add (i * 4)).block, (ad.add (i * 4)).off + 3, none⟩ = some (.int .i64 x3)) (ds := [6]) #[false, false, false, false, false, false, false] (by kernel_rfl) rfl rfl ⟨(blk_cell HH5.out.bk 0).trans rfl, (blk_cell HH5.out.bk 1).trans rfl, (blk_cell HH5.out.bk 2).trans rfl, cellB (below_drew HB5.out) E0.out, cellB (below_drew HB5.out) E1.out, cellB (below_drew HB5.out) E2.out, cellB (below_drew HB5.out) E3.out⟩ (fun hHeld => ?_); refine with_tabW acts8_R18.tab acts8_R18.bits (fun HT_ HW_ => ?_)
            have HL6 := Aside0.mk (HL5.out.below (below_drew (Below.refl _ w5)))
            have HH6 := Aside0.mk (HH5.out.below (below_drew (Below.refl _ w5)))
            have HB6 := Aside0.mk (below_drew HB5.out)
            clear HL5 HH5 HB5
            generalize w5.drew = w6 at HL6 HH6 HB6 hHeld ⊢
            refine pure_ (i := 1) (N := some 82) (v := ?_) (a' := ?_) #[false, true, false, false, false, false, false] rfl rfl (any_of HT_.out (by kernel_rfl)) (fun _ _ _ h => h) (Or.inl ⟨by rfl, ?_⟩) ?_ ?_
            rotate_left
            · intro w'
              go_simp
              with_reducible rfl
            rotate_left
            · simp only [Act.put, List.setIfInBounds_toArray, List.set_cons_zero, List.set_cons_succ, i64_w, i32_w]
              rfl
            refine pure_ (i := 2) (N := some 83) (v := ?_) (a' := ?_) #[false, true, true, false, false, false, false] rfl rfl (any_of HT_.out (by kernel_rfl)) (fun _ _ _ h => h) (Or.inl ⟨by rfl, ?_⟩) ?_ ?_
            rotate_left
            · intro w'
              go_simp
              with_reducible rfl
            rotate_left
            · simp only [Act.put, List.setIfInBounds_toArray, List.set_cons_zero, List.set_cons_succ, i64_w, i32_w]
              rfl
            refine pure_ (i := 3) (N := some 84) (v := ?_) (a' := ?_) #[false, true, true, true, false, false, false] rfl rfl (any_of HT_.out (by kernel_rfl)) (fun _ _ _ h => h) (Or.inl ⟨by rfl, ?_⟩) ?_ ?_
            rotate_left
            · intro w'
              go_simp
              with_reducible rfl
            rotate_left
            · simp only [Act.put, List.setIfInBounds_toArray, List.set_cons_zero, List.set_cons_succ, i64_w, i32_w]
              rfl
            refine take_ (i := 0) (N := some 81) (v := ?_) (a' := ?_) #[true, true, true, true, false, false, false] rfl rfl (take_ofW HT_.out HW_.out (by kernel_rfl)) (fun _ _ _ h => h) (Or.inl ⟨by rfl, ?_⟩) hHeld ?_ ?_
            rotate_left
            · rintro w' ⟨s0, s1, s2, s3, s4, s5, s6⟩
              go_simp
              with_reducible rfl
            rotate_left
            · simp only [Act.put, List.setIfInBounds_toArray, List.set_cons_zero, List.set_cons_succ, i64_w, i32_w]
              rfl
            refine take_ (i := 4) (N := some 85) (v := ?_) (a' := ?_) #[true, true, true, true, true, false, false] rfl rfl (take_ofW HT_.out HW_.out (by kernel_rfl)) (fun _ _ _ h => h) (Or.inl ⟨by rfl, ?_⟩) hHeld ?_ ?_
            rotate_left
            · rintro w' ⟨s0, s1, s2, s3, s4, s5, s6⟩
              go_simp
              with_reducible rfl
            rotate_left
            · simp only [Act.put, List.setIfInBounds_toArray, List.set_cons_zero, List.set_cons_succ, i64_w, i32_w]
              rfl
            refine one_ (i := 5) (N := some 86) #[true, true, true, true, true, true, false] rfl rfl (one_of HT_.out (by kernel_rfl)) (by decide) (fun K hK => ?_)
            refine goes_ Try.func12 (by kernel_rfl) rfl #[.agg #[.slice A0 pic.length c0, .slice A1 recs.length c1, .int .i64 s], .agg #[.int .u8 x0, .slice A2 x1.length c2, .int .i64 x2, .int .i64 x3]] (by rfl) rfl rfl (by (try simp only [List.map_toArray, List.map_cons, List.map_nil]); first | done | rfl) ?_
            refine (Do_addH w6 hm d1 d2 d3 HH6.out.rw HH6.out.el HRC.out rn HRL.out).mono ?_
            rintro e w7 ⟨AN, cN, rfl, hrw, hb⟩
            refine ⟨_, rfl, ?_⟩
            have HL7 := Aside0.mk (HL6.out.below hb)
            have HH7 := Aside0.mk (HH6.out.below hb)
            have HB7 := Aside0.mk (below_step HB6.out hb)
            have RW7 := Aside0.mk (show RW wf.heap.size w7 (.slice AN rn.length cN) (rows ++ [[.slice A2 x1.length c2]]) from Kd.R_lower hrw HL6.out.rep.base)
            clear hrw
            clear hb
            refine hK.out _ _ ⟨(blk_cell HH7.out.bk 0).trans rfl, (blk_cell HH7.out.bk 1).trans rfl, (blk_cell HH7.out.bk 2).trans rfl, cellB HB7.out E0.out, cellB HB7.out E1.out, cellB HB7.out E2.out, cellB HB7.out E3.out⟩ (fun hHeld2 => ?_)
            clear hHeld
            have hHeld := hHeld2
            clear hHeld2
            clear hK K
            refine norm_ (a' := ?_) ?_ ?_
            rotate_left
            · show Act.put _ (some 86) _ = _
              simp only [Act.put, List.setIfInBounds_toArray, List.set_cons_zero, List.set_cons_succ, i64_w, i32_w]
              rfl
            refine last_ (i := 6) (N := none) #[true, true, true, true, true, true, true] rfl rfl (one_of HT_.out (by kernel_rfl)) (by decide) (fun K hK => ?_)
            refine put_step (by rfl) rfl 34 (.tmp 8) (.tmp 86) rfl (g := g8) (by rfl) (.agg #[.slice A0 pic.length c0, .slice AN rn.length cN, .int .i64 s]) (by rfl) (cs' := #[.slice A0 pic.length c0, .slice AN rn.length cN, .int .i64 s]) rfl (by kernel_rfl) (by simp [Value.oneCell']) HH7.out.bk rfl ?_
            intro w9 b9 hg9
            have HL9 := Aside0.mk (HL7.out.other (ty := 34) hg9 HH7.out.bk (by decide) (by decide) (by decide) (by decide))
            have HB9 := Aside0.mk (Below.grown HB7.out hg9 HB7.out.size (fun k hk => by cases hk; exact HH7.out.hg))
            have HH9 := Aside0.mk (show HA wf.heap.size wf w9 g8 pic rn (rows ++ [[.slice A2 x1.length c2]]) A0 c0 AN cN s from ⟨b9, HH7.out.pc, HH7.out.pl, RW7.out.keep (Keeps.grown hg9 HH7.out.bk (by decide)), HRN.out.symm ▸ HH7.out.el.add (show (Kd.slice 5 (Kd.int .u8)).K wf x1 [.slice A2 x1.length c2] from ⟨A2, c2, rfl, HL2.out, HC2.out⟩), HH7.out.hg⟩)
            clear RW7
            clear b9 hg9 HL7 HH7 HB7 HL6 HH6 HB6
            refine hK.out _ _ ?_
            clear hK K
            refine done_ (done_of HT_.out (by kernel_rfl)) ?_
            have HN9 := Aside0.mk HN.out
            have h0 := cellB HB9.out E0.out
            have HROW := Aside0.mk (row8_f pic rn s (HL9.out.st.sm _ (List.mem_cons_self ..)) (by have := HR9.out; have := HI.out; omega) (fun y hy => HL9.out.st.sm y (List.mem_cons_of_mem _ hy)))
            go_wp2_with (first
              | (go_at_call 13; (with_reducible refine (First_T w9 HL9.out.rep HL9.out.first rfl).mono ?_); rintro e wA ⟨rfl, hwA⟩; have HLA := Aside0.mk (hwA ▸ HL9.out); have HHA := Aside0.mk (hwA ▸ HH9.out); have HBA := Aside0.mk (hwA ▸ HB9.out); clear hwA)
              | (go_at_call 14; (with_reducible refine (Read_T wA HLA.out.rep HO9.out HN9.out _ (bs := flat (pic :: rn)) (mayUP HLA.out.st.fr) HLA.out.read).mono ?_); rintro e wB ⟨AB, cB, rfl, hbs, hb⟩; have HSB := Aside0.mk hbs; have HLB := Aside0.mk (HLA.out.below hb); have HHB := Aside0.mk (HHA.out.below hb); have HBB := Aside0.mk (below_step HBA.out hb); have y0 : wB.cell? ⟨g8, 0, none⟩ = some (.slice A0 pic.length c0) := (blk_cell HHB.out.bk 0).trans rfl; have y1 : wB.cell? ⟨g8, 1, none⟩ = some (.slice AN rn.length cN) := (blk_cell HHB.out.bk 1).trans rfl; have y2 : wB.cell? ⟨g8, 2, none⟩ = some (.int .i64 s) := (blk_cell HHB.out.bk 2).trans rfl; clear hbs hb)
              | (go_at_call 17; (with_reducible refine (lockgateref08_Row.calls 5000 A0 c0 pic AN cN rn s _ wB (HHB.out.reads HBB.out).2.2 HHB.out.pl (HHB.out.reads HBB.out).2.1 (HHB.out.reads HBB.out).1 HROW.out).mono ?_); rintro e wC ⟨v0, rfl, hr, hb⟩; have hbs := BS.ofR hr (by have := HLB.out.st.le; omega); obtain ⟨AC, cC, rfl, _⟩ := id hbs; have HSC := Aside0.mk hbs; have HSBC := Aside0.mk (HSB.out.keep (Keeps.below hb)); have HLC := Aside0.mk (HLB.out.below hb); have HHC := Aside0.mk (HHB.out.below hb); have HBC := Aside0.mk (below_step HBB.out hb); clear hbs hr hb y0 y1 y2)
              | (go_at_call 16; (with_reducible refine (lockgateref03_Same.calls 200000 AB cB (flat (pic :: rn)) AC cC (flat (pic :: rn)) true wC HSBC.out.len.2.2 HSBC.out.len.2.1 HSC.out.len.2.2 HSC.out.len.2.1 (same03_f _ HLC.out.st.le)).mono ?_); rintro e wD ⟨rfl, hb⟩; have HLD := Aside0.mk (HLC.out.below hb.below); have HHD := Aside0.mk (HHC.out.below hb.below); have HBD := Aside0.mk (below_step HBC.out hb.below); clear hb)
              | (go_at_call 15; (with_reducible refine (Size_calls wD HLD.out).mono ?_); rintro e wE ⟨rfl, hwE⟩; have HLE9 := Aside0.mk (hwE ▸ HLD.out); have HHE := Aside0.mk (hwE ▸ HHD.out); have HBE := Aside0.mk (hwE ▸ HBD.out); clear hwE)
              | fail)
            go_roundw
            case rel => exact ⟨i + 1, q, _, t, doSt u (0, front, addB (pic :: recs) x1), l ++ [(0, front, addB (pic :: recs) x1)], front, pic :: rn, false, pic, rn, rows ++ [[.slice A2 x1.length c2]], A0, c0, AN, cN, s, rfl, rfl, by go_num, LT.out, ⟨⟨HLE9.out, HO9.out, HM9.out, HF9.out, HR9.out, HHE.out, HSH9.out, HBE.out⟩⟩⟩
            case measure => simp [intOf]; have := LT.out; omega
          · have HN := Aside0.mk (show M ≤ 500000000 by have h1 := HS.out.hm; have h4 := HI.out; omega)
            have HM9 := Aside0.mk (show M ≤ 6000 * (i + 1) by have h1 := HS.out.hm; omega)
            have HF9 := Aside0.mk (show (flat (pic :: recs)).length ≤ 224 * (i + 1) by have h1 := HS.out.fl; omega)
            have HR9 := Aside0.mk (show recs.length ≤ i + 1 by have h1 := HS.out.rl; omega)
            have HSH9 := Aside0.mk HS.out.sh
            go_wp2_with (first
              | (go_at_call 11; (with_reducible refine (Play_flush _ HS.out.lg HS.out.ok HN.out hm).mono ?_); rintro e w5 ⟨rfl, hg, ho, hb, hk⟩; have HL5 := Aside0.mk hg; have HO9 := Aside0.mk ho; have HH5 := Aside0.mk (HS.out.ha.kl hk); have HB5 := Aside0.mk (HS.out.be.trans hb); clear hg ho hb hk h0 h1 h2 h3)
              | fail)
            clear HS
            refine start_ (n := 7) (S := fun w' => w'.cell? ⟨g8, 0, none⟩ = some (.slice A0 pic.length c0) ∧ w'.cell? ⟨g8, 1, none⟩ = some (.slice A1 recs.length c1) ∧ w'.cell? ⟨g8, 2, none⟩ = some (.int .i64 s) ∧ w'.cell? (ad.add (i * 4)) = some (.int .u8 x0) ∧ w'.cell? ⟨(ad.add (i * 4)).block, (ad.add (i * 4)).off + 1, none⟩ = some (.slice A2 x1.length c2) ∧ w'.cell? ⟨(ad.add (i * 4)).block, (ad.add (i * 4)).off + 2, none⟩ = some (.int .i64 x2) ∧ w'.cell? ⟨(ad.add (i * 4)).block, (ad.add (i * 4)).off + 3, none⟩ = some (.int .i64 x3)) (ds := [6]) #[false, false, false, false, false, false, false] (by kernel_rfl) rfl rfl ⟨(blk_cell HH5.out.bk 0).trans rfl, (blk_cell HH5.out.bk 1).trans rfl, (blk_cell HH5.out.bk 2).trans rfl, cellB (below_drew HB5.out) E0.out, cellB (below_drew HB5.out) E1.out, cellB (below_drew HB5.out) E2.out, cellB (below_drew HB5.out) E3.out⟩ (fun hHeld => ?_); refine with_tabW acts8_R18.tab acts8_R18.bits (fun HT_ HW_ => ?_)
            have HL6 := Aside0.mk (HL5.out.below (below_drew (Below.refl _ w5)))
            have HH6 := Aside0.mk (HH5.out.below (below_drew (Below.refl _ w5)))
            have HB6 := Aside0.mk (below_drew HB5.out)
            clear HL5 HH5 HB5
            generalize w5.drew = w6 at HL6 HH6 HB6 hHeld ⊢
            refine pure_ (i := 1) (N := some 82) (v := ?_) (a' := ?_) #[false, true, false, false, false, false, false] rfl rfl (any_of HT_.out (by kernel_rfl)) (fun _ _ _ h => h) (Or.inl ⟨by rfl, ?_⟩) ?_ ?_
            rotate_left
            · intro w'
              go_simp
              with_reducible rfl
            rotate_left
            · simp only [Act.put, List.setIfInBounds_toArray, List.set_cons_zero, List.set_cons_succ, i64_w, i32_w]
              rfl
            refine pure_ (i := 2) (N := some 83) (v := ?_) (a' := ?_) #[false, true, true, false, false, false, false] rfl rfl (any_of HT_.out (by kernel_rfl)) (fun _ _ _ h => h) (Or.inl ⟨by rfl, ?_⟩) ?_ ?_
            rotate_left
            · intro w'
              go_simp
              with_reducible rfl
            rotate_left
            · simp only [Act.put, List.setIfInBounds_toArray, List.set_cons_zero, List.set_cons_succ, i64_w, i32_w]
              rfl
            refine pure_ (i := 3) (N := some 84) (v := ?_) (a' := ?_) #[false, true, true, true, false, false, false] rfl rfl (any_of HT_.out (by kernel_rfl)) (fun _ _ _ h => h) (Or.inl ⟨by rfl, ?_⟩) ?_ ?_
            rotate_left
            · intro w'
              go_simp
              with_reducible rfl
            rotate_left
            · simp only [Act.put, List.setIfInBounds_toArray, List.set_cons_zero, List.set_cons_succ, i64_w, i32_w]
              rfl
            refine take_ (i := 0) (N := some 81) (v := ?_) (a' := ?_) #[true, true, true, true, false, false, false] rfl rfl (take_ofW HT_.out HW_.out (by kernel_rfl)) (fun _ _ _ h => h) (Or.inl ⟨by rfl, ?_⟩) hHeld ?_ ?_
            rotate_left
            · rintro w' ⟨s0, s1, s2, s3, s4, s5, s6⟩
              go_simp
              with_reducible rfl
            rotate_left
            · simp only [Act.put, List.setIfInBounds_toArray, List.set_cons_zero, List.set_cons_succ, i64_w, i32_w]
              rfl
            refine take_ (i := 4) (N := some 85) (v := ?_) (a' := ?_) #[true, true, true, true, true, false, false] rfl rfl (take_ofW HT_.out HW_.out (by kernel_rfl)) (fun _ _ _ h => h) (Or.inl ⟨by rfl, ?_⟩) hHeld ?_ ?_
            rotate_left
            · rintro w' ⟨s0, s1, s2, s3, s4, s5, s6⟩
              go_simp
              with_reducible rfl
            rotate_left
            · simp only [Act.put, List.setIfInBounds_toArray, List.set_cons_zero, List.set_cons_succ, i64_w, i32_w]
              rfl
            refine one_ (i := 5) (N := some 86) #[true, true, true, true, true, true, false] rfl rfl (one_of HT_.out (by kernel_rfl)) (by decide) (fun K hK => ?_)
            refine goes_ Try.func12 (by kernel_rfl) rfl #[.agg #[.slice A0 pic.length c0, .slice A1 recs.length c1, .int .i64 s], .agg #[.int .u8 x0, .slice A2 x1.length c2, .int .i64 x2, .int .i64 x3]] (by rfl) rfl rfl (by (try simp only [List.map_toArray, List.map_cons, List.map_nil]); first | done | rfl) ?_
            refine (Do_flush w6 hm).mono ?_
            rintro e w7 ⟨rfl, hb⟩
            refine ⟨_, rfl, ?_⟩
            have HL7 := Aside0.mk (HL6.out.below hb)
            have HH7 := Aside0.mk (HH6.out.below hb)
            have HB7 := Aside0.mk (below_step HB6.out hb)
            clear hb
            refine hK.out _ _ ⟨(blk_cell HH7.out.bk 0).trans rfl, (blk_cell HH7.out.bk 1).trans rfl, (blk_cell HH7.out.bk 2).trans rfl, cellB HB7.out E0.out, cellB HB7.out E1.out, cellB HB7.out E2.out, cellB HB7.out E3.out⟩ (fun hHeld2 => ?_)
            clear hHeld
            have hHeld := hHeld2
            clear hHeld2
            clear hK K
            refine norm_ (a' := ?_) ?_ ?_
            rotate_left
            · show Act.put _ (some 86) _ = _
              simp only [Act.put, List.setIfInBounds_toArray, List.set_cons_zero, List.set_cons_succ, i64_w, i32_w]
              rfl
            refine last_ (i := 6) (N := none) #[true, true, true, true, true, true, true] rfl rfl (one_of HT_.out (by kernel_rfl)) (by decide) (fun K hK => ?_)
            refine put_step (by rfl) rfl 34 (.tmp 8) (.tmp 86) rfl (g := g8) (by rfl) (.agg #[.slice A0 pic.length c0, .slice A1 recs.length c1, .int .i64 (recs.length : Int)]) (by rfl) (cs' := #[.slice A0 pic.length c0, .slice A1 recs.length c1, .int .i64 (recs.length : Int)]) rfl (by kernel_rfl) (by simp [Value.oneCell']) HH7.out.bk rfl ?_
            intro w9 b9 hg9
            have HL9 := Aside0.mk (HL7.out.other (ty := 34) hg9 HH7.out.bk (by decide) (by decide) (by decide) (by decide))
            have HB9 := Aside0.mk (Below.grown HB7.out hg9 HB7.out.size (fun k hk => by cases hk; exact HH7.out.hg))
            have HH9 := Aside0.mk (show HA wf.heap.size wf w9 g8 pic recs rows A0 c0 A1 c1 (recs.length : Int) from ⟨b9, HH7.out.pc, HH7.out.pl, HH7.out.rw.keep (Keeps.grown hg9 HH7.out.bk (by decide)), HH7.out.el, HH7.out.hg⟩)
            clear b9 hg9 HL7 HH7 HB7 HL6 HH6 HB6
            refine hK.out _ _ ?_
            clear hK K
            refine done_ (done_of HT_.out (by kernel_rfl)) ?_
            have HN9 := Aside0.mk HN.out
            have h0 := cellB HB9.out E0.out
            have HROW := Aside0.mk (row8_f pic recs (recs.length : Int) (HL9.out.st.sm _ (List.mem_cons_self ..)) (by have := HR9.out; have := HI.out; omega) (fun y hy => HL9.out.st.sm y (List.mem_cons_of_mem _ hy)))
            go_wp2_with (first
              | (go_at_call 13; (with_reducible refine (First_T w9 HL9.out.rep HL9.out.first rfl).mono ?_); rintro e wA ⟨rfl, hwA⟩; have HLA := Aside0.mk (hwA ▸ HL9.out); have HHA := Aside0.mk (hwA ▸ HH9.out); have HBA := Aside0.mk (hwA ▸ HB9.out); clear hwA)
              | (go_at_call 14; (with_reducible refine (Read_T wA HLA.out.rep HO9.out HN9.out _ (bs := flat (pic :: recs)) (mayUP HLA.out.st.fr) HLA.out.read).mono ?_); rintro e wB ⟨AB, cB, rfl, hbs, hb⟩; have HSB := Aside0.mk hbs; have HLB := Aside0.mk (HLA.out.below hb); have HHB := Aside0.mk (HHA.out.below hb); have HBB := Aside0.mk (below_step HBA.out hb); have y0 : wB.cell? ⟨g8, 0, none⟩ = some (.slice A0 pic.length c0) := (blk_cell HHB.out.bk 0).trans rfl; have y1 : wB.cell? ⟨g8, 1, none⟩ = some (.slice A1 recs.length c1) := (blk_cell HHB.out.bk 1).trans rfl; have y2 : wB.cell? ⟨g8, 2, none⟩ = some (.int .i64 (recs.length : Int)) := (blk_cell HHB.out.bk 2).trans rfl; clear hbs hb)
              | (go_at_call 17; (with_reducible refine (lockgateref08_Row.calls 5000 A0 c0 pic A1 c1 recs (recs.length : Int) _ wB (HHB.out.reads HBB.out).2.2 HHB.out.pl (HHB.out.reads HBB.out).2.1 (HHB.out.reads HBB.out).1 HROW.out).mono ?_); rintro e wC ⟨v0, rfl, hr, hb⟩; have hbs := BS.ofR hr (by have := HLB.out.st.le; omega); obtain ⟨AC, cC, rfl, _⟩ := id hbs; have HSC := Aside0.mk hbs; have HSBC := Aside0.mk (HSB.out.keep (Keeps.below hb)); have HLC := Aside0.mk (HLB.out.below hb); have HHC := Aside0.mk (HHB.out.below hb); have HBC := Aside0.mk (below_step HBB.out hb); clear hbs hr hb y0 y1 y2)
              | (go_at_call 16; (with_reducible refine (lockgateref03_Same.calls 200000 AB cB (flat (pic :: recs)) AC cC (flat (pic :: recs)) true wC HSBC.out.len.2.2 HSBC.out.len.2.1 HSC.out.len.2.2 HSC.out.len.2.1 (same03_f _ HLC.out.st.le)).mono ?_); rintro e wD ⟨rfl, hb⟩; have HLD := Aside0.mk (HLC.out.below hb.below); have HHD := Aside0.mk (HHC.out.below hb.below); have HBD := Aside0.mk (below_step HBC.out hb.below); clear hb)
              | (go_at_call 15; (with_reducible refine (Size_calls wD HLD.out).mono ?_); rintro e wE ⟨rfl, hwE⟩; have HLE9 := Aside0.mk (hwE ▸ HLD.out); have HHE := Aside0.mk (hwE ▸ HHD.out); have HBE := Aside0.mk (hwE ▸ HBD.out); clear hwE)
              | fail)
            go_roundw
            case rel => exact ⟨i + 1, q, M, u, u, [], front, (pic :: recs), false, pic, recs, rows, A0, c0, A1, c1, (recs.length : Int), rfl, rfl, by go_num, LT.out, ⟨⟨HLE9.out, HO9.out, HM9.out, HF9.out, HR9.out, HHE.out, HSH9.out, HBE.out⟩⟩⟩
            case measure => simp [intOf]; have := LT.out; omega
          · have HN := Aside0.mk (show M + x1.length + 15 ≤ 500000000 by have h1 := HS.out.hm; have h3 := HFX.out; have h4 := HI.out; omega)
            obtain ⟨rn, hrn⟩ : ∃ rn : List (List Int), rn = [] := ⟨_, rfl⟩
            have HRN := Aside0.mk hrn
            clear hrn
            have HM9 := Aside0.mk (show M + x1.length + 15 ≤ 6000 * (i + 1) by have h1 := HS.out.hm; have h3 := HFX.out; omega)
            have HF9 := Aside0.mk (show (flat (x1 :: rn)).length ≤ 224 * (i + 1) by rw [HRN.out, flat_one, frame_length]; have h3 := HFX.out; omega)
            have HR9 := Aside0.mk (show rn.length ≤ i + 1 by rw [HRN.out]; exact Nat.zero_le _)
            have HSH9 := Aside0.mk (show SH false (x1 :: rn) x1 rn from .inr ⟨rfl, rfl⟩)
            have HONE := Aside0.mk (show [x1] = x1 :: rn by rw [HRN.out])
            go_wp2_with (first
              | (go_at_call 11; (with_reducible refine (Play_save _ HS.out.lg HS.out.ok HN.out (Kd.C_below HC2.out HS.out.be) HL2.out HBY.out HLE.out hm).mono ?_); rintro e w5 ⟨rfl, hg, ho, hb, hk⟩; rw [HONE.out] at hg; have HL5 := Aside0.mk hg; have HO9 := Aside0.mk ho; have HH5 := Aside0.mk (HS.out.ha.kl hk); have HB5 := Aside0.mk (HS.out.be.trans hb); clear hg ho hb hk h0 h1 h2 h3)
              | fail)
            clear HS
            refine start_ (n := 7) (S := fun w' => w'.cell? ⟨g8, 0, none⟩ = some (.slice A0 pic.length c0) ∧ w'.cell? ⟨g8, 1, none⟩ = some (.slice A1 recs.length c1) ∧ w'.cell? ⟨g8, 2, none⟩ = some (.int .i64 s) ∧ w'.cell? (ad.add (i * 4)) = some (.int .u8 x0) ∧ w'.cell? ⟨(ad.add (i * 4)).block, (ad.add (i * 4)).off + 1, none⟩ = some (.slice A2 x1.length c2) ∧ w'.cell? ⟨(ad.add (i * 4)).block, (ad.add (i * 4)).off + 2, none⟩ = some (.int .i64 x2) ∧ w'.cell? ⟨(ad.add (i * 4)).block, (ad.add (i * 4)).off + 3, none⟩ = some (.int .i64 x3)) (ds := [6]) #[false, false, false, false, false, false, false] (by kernel_rfl) rfl rfl ⟨(blk_cell HH5.out.bk 0).trans rfl, (blk_cell HH5.out.bk 1).trans rfl, (blk_cell HH5.out.bk 2).trans rfl, cellB (below_drew HB5.out) E0.out, cellB (below_drew HB5.out) E1.out, cellB (below_drew HB5.out) E2.out, cellB (below_drew HB5.out) E3.out⟩ (fun hHeld => ?_); refine with_tabW acts8_R18.tab acts8_R18.bits (fun HT_ HW_ => ?_)
            have HL6 := Aside0.mk (HL5.out.below (below_drew (Below.refl _ w5)))
            have HH6 := Aside0.mk (HH5.out.below (below_drew (Below.refl _ w5)))
            have HB6 := Aside0.mk (below_drew HB5.out)
            clear HL5 HH5 HB5
            generalize w5.drew = w6 at HL6 HH6 HB6 hHeld ⊢
            refine pure_ (i := 1) (N := some 82) (v := ?_) (a' := ?_) #[false, true, false, false, false, false, false] rfl rfl (any_of HT_.out (by kernel_rfl)) (fun _ _ _ h => h) (Or.inl ⟨by rfl, ?_⟩) ?_ ?_
            rotate_left
            · intro w'
              go_simp
              with_reducible rfl
            rotate_left
            · simp only [Act.put, List.setIfInBounds_toArray, List.set_cons_zero, List.set_cons_succ, i64_w, i32_w]
              rfl
            refine pure_ (i := 2) (N := some 83) (v := ?_) (a' := ?_) #[false, true, true, false, false, false, false] rfl rfl (any_of HT_.out (by kernel_rfl)) (fun _ _ _ h => h) (Or.inl ⟨by rfl, ?_⟩) ?_ ?_
            rotate_left
            · intro w'
              go_simp
              with_reducible rfl
            rotate_left
            · simp only [Act.put, List.setIfInBounds_toArray, List.set_cons_zero, List.set_cons_succ, i64_w, i32_w]
              rfl
            refine pure_ (i := 3) (N := some 84) (v := ?_) (a' := ?_) #[false, true, true, true, false, false, false] rfl rfl (any_of HT_.out (by kernel_rfl)) (fun _ _ _ h => h) (Or.inl ⟨by rfl, ?_⟩) ?_ ?_
            rotate_left
            · intro w'
              go_simp
              with_reducible rfl
            rotate_left
            · simp only [Act.put, List.setIfInBounds_toArray, List.set_cons_zero, List.set_cons_succ, i64_w, i32_w]
              rfl
            refine take_ (i := 0) (N := some 81) (v := ?_) (a' := ?_) #[true, true, true, true, false, false, false] rfl rfl (take_ofW HT_.out HW_.out (by kernel_rfl)) (fun _ _ _ h => h) (Or.inl ⟨by rfl, ?_⟩) hHeld ?_ ?_
            rotate_left
            · rintro w' ⟨s0, s1, s2, s3, s4, s5, s6⟩
              go_simp
              with_reducible rfl
            rotate_left
            · simp only [Act.put, List.setIfInBounds_toArray, List.set_cons_zero, List.set_cons_succ, i64_w, i32_w]
              rfl
            refine take_ (i := 4) (N := some 85) (v := ?_) (a' := ?_) #[true, true, true, true, true, false, false] rfl rfl (take_ofW HT_.out HW_.out (by kernel_rfl)) (fun _ _ _ h => h) (Or.inl ⟨by rfl, ?_⟩) hHeld ?_ ?_
            rotate_left
            · rintro w' ⟨s0, s1, s2, s3, s4, s5, s6⟩
              go_simp
              with_reducible rfl
            rotate_left
            · simp only [Act.put, List.setIfInBounds_toArray, List.set_cons_zero, List.set_cons_succ, i64_w, i32_w]
              rfl
            refine one_ (i := 5) (N := some 86) #[true, true, true, true, true, true, false] rfl rfl (one_of HT_.out (by kernel_rfl)) (by decide) (fun K hK => ?_)
            refine goes_ Try.func12 (by kernel_rfl) rfl #[.agg #[.slice A0 pic.length c0, .slice A1 recs.length c1, .int .i64 s], .agg #[.int .u8 x0, .slice A2 x1.length c2, .int .i64 x2, .int .i64 x3]] (by rfl) rfl rfl (by (try simp only [List.map_toArray, List.map_cons, List.map_nil]); first | done | rfl) ?_
            refine (Do_save w6 hm).mono ?_
            rintro e w7 ⟨rfl, hb⟩
            refine ⟨_, rfl, ?_⟩
            have HL7 := Aside0.mk (HL6.out.below hb)
            have HH7 := Aside0.mk (HH6.out.below hb)
            have HB7 := Aside0.mk (below_step HB6.out hb)
            clear hb
            refine hK.out _ _ ⟨(blk_cell HH7.out.bk 0).trans rfl, (blk_cell HH7.out.bk 1).trans rfl, (blk_cell HH7.out.bk 2).trans rfl, cellB HB7.out E0.out, cellB HB7.out E1.out, cellB HB7.out E2.out, cellB HB7.out E3.out⟩ (fun hHeld2 => ?_)
            clear hHeld
            have hHeld := hHeld2
            clear hHeld2
            clear hK K
            refine norm_ (a' := ?_) ?_ ?_
            rotate_left
            · show Act.put _ (some 86) _ = _
              simp only [Act.put, List.setIfInBounds_toArray, List.set_cons_zero, List.set_cons_succ, i64_w, i32_w]
              rfl
            refine last_ (i := 6) (N := none) #[true, true, true, true, true, true, true] rfl rfl (one_of HT_.out (by kernel_rfl)) (by decide) (fun K hK => ?_)
            refine put_step (by rfl) rfl 34 (.tmp 8) (.tmp 86) rfl (g := g8) (by rfl) (.agg #[.slice A2 x1.length c2, .slice none 0 0, .int .i64 0]) (by rfl) (cs' := #[.slice A2 x1.length c2, .slice none 0 0, .int .i64 0]) rfl (by kernel_rfl) (by simp [Value.oneCell']) HH7.out.bk rfl ?_
            intro w9 b9 hg9
            have HL9 := Aside0.mk (HL7.out.other (ty := 34) hg9 HH7.out.bk (by decide) (by decide) (by decide) (by decide))
            have HB9 := Aside0.mk (Below.grown HB7.out hg9 HB7.out.size (fun k hk => by cases hk; exact HH7.out.hg))
            have HH9 := Aside0.mk (show HA wf.heap.size wf w9 g8 x1 rn [] A2 c2 none 0 0 from ⟨by rw [HRN.out]; exact b9, HC2.out, HL2.out, by rw [HRN.out]; exact RW.nil _ _, by rw [HRN.out]; exact EL.nil _, HH7.out.hg⟩)
            clear b9 hg9 HL7 HH7 HB7 HL6 HH6 HB6
            refine hK.out _ _ ?_
            clear hK K
            refine done_ (done_of HT_.out (by kernel_rfl)) ?_
            have HN9 := Aside0.mk HN.out
            have h0 := cellB HB9.out E0.out
            have HROW := Aside0.mk (row8_f x1 rn 0 (HL9.out.st.sm _ (List.mem_cons_self ..)) (by have := HR9.out; have := HI.out; omega) (fun y hy => HL9.out.st.sm y (List.mem_cons_of_mem _ hy)))
            go_wp2_with (first
              | (go_at_call 13; (with_reducible refine (First_T w9 HL9.out.rep HL9.out.first rfl).mono ?_); rintro e wA ⟨rfl, hwA⟩; have HLA := Aside0.mk (hwA ▸ HL9.out); have HHA := Aside0.mk (hwA ▸ HH9.out); have HBA := Aside0.mk (hwA ▸ HB9.out); clear hwA)
              | (go_at_call 14; (with_reducible refine (Read_T wA HLA.out.rep HO9.out HN9.out _ (bs := flat (x1 :: rn)) (mayUP HLA.out.st.fr) HLA.out.read).mono ?_); rintro e wB ⟨AB, cB, rfl, hbs, hb⟩; have HSB := Aside0.mk hbs; have HLB := Aside0.mk (HLA.out.below hb); have HHB := Aside0.mk (HHA.out.below hb); have HBB := Aside0.mk (below_step HBA.out hb); have y0 : wB.cell? ⟨g8, 0, none⟩ = some (.slice A2 x1.length c2) := (blk_cell HHB.out.bk 0).trans rfl; have y1 : wB.cell? ⟨g8, 1, none⟩ = some (.slice none rn.length 0) := (blk_cell HHB.out.bk 1).trans rfl; have y2 : wB.cell? ⟨g8, 2, none⟩ = some (.int .i64 0) := (blk_cell HHB.out.bk 2).trans rfl; clear hbs hb)
              | (go_at_call 17; (with_reducible refine (lockgateref08_Row.calls 5000 A2 c2 x1 none 0 rn 0 _ wB (HHB.out.reads HBB.out).2.2 HHB.out.pl (HHB.out.reads HBB.out).2.1 (HHB.out.reads HBB.out).1 HROW.out).mono ?_); rintro e wC ⟨v0, rfl, hr, hb⟩; have hbs := BS.ofR hr (by have := HLB.out.st.le; omega); obtain ⟨AC, cC, rfl, _⟩ := id hbs; have HSC := Aside0.mk hbs; have HSBC := Aside0.mk (HSB.out.keep (Keeps.below hb)); have HLC := Aside0.mk (HLB.out.below hb); have HHC := Aside0.mk (HHB.out.below hb); have HBC := Aside0.mk (below_step HBB.out hb); clear hbs hr hb y0 y1 y2)
              | (go_at_call 16; (with_reducible refine (lockgateref03_Same.calls 200000 AB cB (flat (x1 :: rn)) AC cC (flat (x1 :: rn)) true wC HSBC.out.len.2.2 HSBC.out.len.2.1 HSC.out.len.2.2 HSC.out.len.2.1 (same03_f _ HLC.out.st.le)).mono ?_); rintro e wD ⟨rfl, hb⟩; have HLD := Aside0.mk (HLC.out.below hb.below); have HHD := Aside0.mk (HHC.out.below hb.below); have HBD := Aside0.mk (below_step HBC.out hb.below); clear hb)
              | (go_at_call 15; (with_reducible refine (Size_calls wD HLD.out).mono ?_); rintro e wE ⟨rfl, hwE⟩; have HLE9 := Aside0.mk (hwE ▸ HLD.out); have HHE := Aside0.mk (hwE ▸ HHD.out); have HBE := Aside0.mk (hwE ▸ HBD.out); clear hwE)
              | fail)
            go_roundw
            case rel => exact ⟨i + 1, q, _, turnSt u (1 - front) (frame x1), turnSt u (1 - front) (frame x1), [], 1 - front, x1 :: rn, false, x1, rn, [], A2, c2, none, 0, 0, rfl, rfl, by go_num, LT.out, ⟨⟨HLE9.out, HO9.out, HM9.out, HF9.out, HR9.out, HHE.out, HSH9.out, HBE.out⟩⟩⟩
            case measure => simp [intOf]; have := LT.out; omega
          · have HM9 := Aside0.mk (show M + (flat (pic :: recs)).length + 3 ≤ 6000 * (i + 1) by have h1 := HS.out.hm; have h2 := HS.out.fl; have h4 := HI.out; omega)
            have HN := Aside0.mk (show M + (flat (pic :: recs)).length + 3 ≤ 500000000 by have h1 := HM9.out; have h4 := HI.out; omega)
            have HF9 := Aside0.mk (show (flat (pic :: recs)).length ≤ 224 * (i + 1) by have h1 := HS.out.fl; omega)
            have HR9 := Aside0.mk (show recs.length ≤ i + 1 by have h1 := HS.out.rl; omega)
            have HSH9 := Aside0.mk HS.out.sh
            have HSF := Aside0.mk (same8_f pic recs s (HS.out.lg.st.sm _ (List.mem_cons_self ..)) (fun y hy => HS.out.lg.st.sm y (List.mem_cons_of_mem _ hy)) (by have h1 := HS.out.rl; have h2 := HI.out; omega))
            have HROW := Aside0.mk (row8_f pic recs (recs.length : Int) (HS.out.lg.st.sm _ (List.mem_cons_self ..)) (by have := HR9.out; have := HI.out; omega) (fun y hy => HS.out.lg.st.sm y (List.mem_cons_of_mem _ hy)))
            go_wp2_with (first
              | (go_at_call 9; (with_reducible refine (Open_old (r := pic) (rs := recs) _ HS.out.lg.rep HS.out.ok HN.out HS.out.lg.st).mono ?_); rintro e w5 ⟨q5, gr, cap, AX, cX, rfl, hz, hv, hg, ho, hb, hk⟩; have HV5 := Aside0.mk hv; have HL5 := Aside0.mk hg; have HO9 := Aside0.mk ho; have HH5 := Aside0.mk (HS.out.ha.kl hk); have HB5 := Aside0.mk (HS.out.be.trans hb); have y0 : w5.cell? ⟨g8, 0, none⟩ = some (.slice A0 pic.length c0) := (blk_cell HH5.out.bk 0).trans rfl; have y1 : w5.cell? ⟨g8, 1, none⟩ = some (.slice A1 recs.length c1) := (blk_cell HH5.out.bk 1).trans rfl; have y2 : w5.cell? ⟨g8, 2, none⟩ = some (.int .i64 s) := (blk_cell HH5.out.bk 2).trans rfl; obtain ⟨ad', A0', c0', ead, hz0, hlc, hCr⟩ := at_BB (Kd.S_reads' HV5.out).2.2 0 (by simp); cases ead; have hz0' : w5.cell? ⟨gr, 0, none⟩ = some (.slice A0' pic.length c0') := hz0; rw [hz] at hz0'; cases hz0'; have HLC := Aside0.mk (show pic.length ≤ cX from hlc); have HCR := Aside0.mk (show Kd.C (Kd.int .u8) w5 AX pic.length pic from hCr); have HCD := Aside0.mk (show Kd.C (Kd.slice 5 (Kd.int .u8)) w5 (if cap = 1 then some ⟨gr, 0, none⟩ else some ⟨gr, 1, none⟩) recs.length recs from Kd.C_drop (m := 1) (c := cap) (Kd.S_reads' HV5.out).2.2 (by simp) (Kd.S_reads' HV5.out).2.1); have HCC := Aside0.mk (show recs.length ≤ cap - 1 by have h1 := (Kd.S_reads' HV5.out).2.1; omega); clear hz hv hg ho hb hk hz0 hlc hCr h0 h1 h2 h3; generalize (if cap = 1 then some (⟨gr, 0, none⟩ : Addr) else some ⟨gr, 1, none⟩) = AD at HCD ⊢)
              | (go_at_call 10; (with_reducible refine (lockgateref08_Same.calls 200000 (fun k => k < w5.heap.size) AX cX pic AD (cap - 1) recs (fun k => k < w5.heap.size) A0 c0 pic A1 c1 recs s true w5 (Kd.V_mk HLC.out (okx HCR.out)) HCD.out HCC.out (Kd.V_mk HH5.out.pl (okx (HH5.out.reads HB5.out).2.2)) (HH5.out.reads HB5.out).2.1 (HH5.out.reads HB5.out).1 HSF.out).mono ?_); rintro e w6 ⟨rfl, hb⟩; have HL6 := Aside0.mk (HL5.out.below hb); have HH6 := Aside0.mk (HH5.out.below hb); have HB6 := Aside0.mk (below_step HB5.out hb); clear hb y0 y1 y2; have y0 : w6.cell? ⟨g8, 0, none⟩ = some (.slice A0 pic.length c0) := (blk_cell HH6.out.bk 0).trans rfl; have y1 : w6.cell? ⟨g8, 1, none⟩ = some (.slice A1 recs.length c1) := (blk_cell HH6.out.bk 1).trans rfl; have y2 : w6.cell? ⟨g8, 2, none⟩ = some (.int .i64 s) := (blk_cell HH6.out.bk 2).trans rfl)
              | ((with_reducible refine gate_ (.store 3 (.tmp 72) (.tmp 71)) rfl ?_); refine put_field (g := g8) (j := 2) (e := 34) rfl rfl 3 (.tmp 72) (.tmp 71) rfl rfl (.int .i64 (recs.length : Int)) rfl rfl (by kernel_rfl) (by simp [Value.oneCell']) HH6.out.bk (by simp) ?_; intro w9 b9 hg9; have HL9 := Aside0.mk (HL6.out.other (ty := 34) hg9 HH6.out.bk (by decide) (by decide) (by decide) (by decide)); have HB9 := Aside0.mk (Below.grown HB6.out hg9 HB6.out.size (fun k hk => by cases hk; exact HH6.out.hg)); have HH9 := Aside0.mk (show HA wf.heap.size wf w9 g8 pic recs rows A0 c0 A1 c1 (recs.length : Int) from ⟨b9, HH6.out.pc, HH6.out.pl, HH6.out.rw.keep (Keeps.grown hg9 HH6.out.bk (by decide)), HH6.out.el, HH6.out.hg⟩); have HN9 := Aside0.mk HN.out; clear b9 hg9 y0 y1 y2)
              | (go_at_call 13; (with_reducible refine (First_T w9 HL9.out.rep HL9.out.first rfl).mono ?_); rintro e wA ⟨rfl, hwA⟩; have HLA := Aside0.mk (hwA ▸ HL9.out); have HHA := Aside0.mk (hwA ▸ HH9.out); have HBA := Aside0.mk (hwA ▸ HB9.out); clear hwA)
              | (go_at_call 14; (with_reducible refine (Read_T wA HLA.out.rep HO9.out HN9.out _ (bs := flat (pic :: recs)) (mayUP HLA.out.st.fr) HLA.out.read).mono ?_); rintro e wB ⟨AB, cB, rfl, hbs, hb⟩; have HSB := Aside0.mk hbs; have HLB := Aside0.mk (HLA.out.below hb); have HHB := Aside0.mk (HHA.out.below hb); have HBB := Aside0.mk (below_step HBA.out hb); have y0 : wB.cell? ⟨g8, 0, none⟩ = some (.slice A0 pic.length c0) := (blk_cell HHB.out.bk 0).trans rfl; have y1 : wB.cell? ⟨g8, 1, none⟩ = some (.slice A1 recs.length c1) := (blk_cell HHB.out.bk 1).trans rfl; have y2 : wB.cell? ⟨g8, 2, none⟩ = some (.int .i64 (recs.length : Int)) := (blk_cell HHB.out.bk 2).trans rfl; clear hbs hb)
              | (go_at_call 17; (with_reducible refine (lockgateref08_Row.calls 5000 A0 c0 pic A1 c1 recs (recs.length : Int) _ wB (HHB.out.reads HBB.out).2.2 HHB.out.pl (HHB.out.reads HBB.out).2.1 (HHB.out.reads HBB.out).1 HROW.out).mono ?_); rintro e wC ⟨v0, rfl, hr, hb⟩; have hbs := BS.ofR hr (by have := HLB.out.st.le; omega); obtain ⟨AC, cC, rfl, _⟩ := id hbs; have HSC := Aside0.mk hbs; have HSBC := Aside0.mk (HSB.out.keep (Keeps.below hb)); have HLC := Aside0.mk (HLB.out.below hb); have HHC := Aside0.mk (HHB.out.below hb); have HBC := Aside0.mk (below_step HBB.out hb); clear hbs hr hb y0 y1 y2)
              | (go_at_call 16; (with_reducible refine (lockgateref03_Same.calls 200000 AB cB (flat (pic :: recs)) AC cC (flat (pic :: recs)) true wC HSBC.out.len.2.2 HSBC.out.len.2.1 HSC.out.len.2.2 HSC.out.len.2.1 (same03_f _ HLC.out.st.le)).mono ?_); rintro e wD ⟨rfl, hb⟩; have HLD := Aside0.mk (HLC.out.below hb.below); have HHD := Aside0.mk (HHC.out.below hb.below); have HBD := Aside0.mk (below_step HBC.out hb.below); clear hb)
              | (go_at_call 15; (with_reducible refine (Size_calls wD HLD.out).mono ?_); rintro e wE ⟨rfl, hwE⟩; have HLE9 := Aside0.mk (hwE ▸ HLD.out); have HHE := Aside0.mk (hwE ▸ HHD.out); have HBE := Aside0.mk (hwE ▸ HBD.out); clear hwE)
              | fail)
            go_roundw
            case rel => exact ⟨i + 1, q5, _, turnSt u (1 - front) (flat (pic :: recs)), turnSt u (1 - front) (flat (pic :: recs)), [], 1 - front, (pic :: recs), false, pic, recs, rows, A0, c0, A1, c1, (recs.length : Int), rfl, rfl, by go_num, LT.out, ⟨⟨HLE9.out, HO9.out, HM9.out, HF9.out, HR9.out, HHE.out, HSH9.out, HBE.out⟩⟩⟩
            case measure => simp [intOf]; have := LT.out; omega
      · have hk' : i = acts.length := by omega
        subst hk'
        have hlt' : ¬ ((acts.length : Int) < (acts.length : Int)) := by omega
        have HBW := Aside0.mk HS.out.be
        clear hi hlt HS
        go_wp2
        go_ret
        exact ⟨rfl, below_step HBf.out HBW.out⟩
end Go.Proofs.Ytdbkedipfpepbaa.PWal
