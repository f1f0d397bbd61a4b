/- The walk of DiskActs. -/
import Derived.Test.YtpagajgpcmonkaaDiskPair
namespace Go.Proofs.Ytpagajgpcmonkaa.PDisk
open Go.RowKit Go.Proofs.YtpagajgpcmonkaaW.PrintWords Go.Proofs.YtpagajgpcmonkaaW.PrintLast Go.Proofs.YtpagajgpcmonkaaW.PrintMore
set_option linter.unusedVariables false
set_option linter.unusedSimpArgs false
def acts_R9.T : Bool × List (List Nat × List Nat) := (true, [([], []), ([], []), ([], []), ([1, 2], [1, 2]), ([3], [3]), ([0, 4], [0, 4]), ([5], [5]), ([6], [6]), ([6], [6]), ([], []), ([9, 7, 5, 0, 1, 2, 3, 4, 5, 6, 7, 9], [7, 9]), ([8, 10, 0, 1, 2, 3, 4, 5, 6, 7, 8, 9, 10], [8])])
def acts_R9.B : List Nat := [0, 0, 0, 6, 14, 31, 63, 127, 127, 0, 767, 2047]
theorem acts_R9.tab : rtab .any (opsOf Try.f4 9) = acts_R9.T := by kernel_rfl
theorem acts_R9.bits : waitsOk acts_R9.T.2 acts_R9.B = true := by kernel_rfl
set_option maxHeartbeats 16000000 in
set_option maxRecDepth 100000 in
theorem DiskActs_calls (A : Option Addr) (c : Nat) (l : List S39) (w : World) (hx : Kd.C k39 w A l.length l) (hc : l.length ≤ c) (hw : ∀ x ∈ l, okAct x) :
    Calls Try.prog 4 #[.slice A l.length c] w fun e w' => e = .returned (.bool true) ∧ Below w.heap.size w w' := by
  have HX := Aside0.mk hx
  have HW := Aside0.mk hw
  clear hx hw
  go_enter Try.func4, Try.ntmps4
  by_cases hF : Few l
  · go_wp2_with (first
      | (go_at_call 8; (with_reducible refine (awake_calls w).mono ?_); rintro e wa ⟨rfl, hb⟩; have HXa := Aside0.mk (Kd.C_below HX.out hb); have HBa := Aside0.mk hb; clear hb)
      | (go_at_call 14; (with_reducible refine (Few_true wa HXa.out hc hF).mono ?_); rintro e wf ⟨rfl, hb⟩; have HXf := Aside0.mk (Kd.C_below HXa.out hb); have HBf := Aside0.mk (below_step HBa.out hb); clear hb HX HXa HBa)
      | (go_at_call 9; (with_reducible refine (new_calls wf).mono ?_); rintro e wn ⟨rfl, hR, hb⟩; have HRn := Aside0.mk hR; have HBn := Aside0.mk hb; clear hR hb)
      | ((with_reducible refine gate_dst (N := 4) rfl ?_); refine box_event ?hg (N := 4) ?hd (cs := #[.slice none 0 0, .slice none 0 0, .int .i64 0, .bool false, .bool false]) (t := 36) ?hr ?_; (case hd => rfl); (case hg => rfl); (case hr => first | (go_simp; done) | (go_simp; rfl)); intro g4 e4 wb b4 hb; have B4 := Aside0.mk b4; have E4 := Aside0.mk e4; have HRb := Aside0.mk (RepL.below (HRn.out.freshL (Y := fun k => False ∨ k = g4) (fun k hk => by rcases hk with hk | hk; exact hk.elim; omega)) hb); have HBb := Aside0.mk (below_step HBn.out hb); clear b4 hb e4)
      | ((with_reducible refine gate_ (.store 36 (.tmp 4) (.tmp 18)) rfl ?_); refine put_event (g := g4) (e := 36) rfl rfl 36 (.tmp 4) (.tmp 18) rfl rfl (.agg #[.slice none 0 0, .slice none 0 0, .int .i64 0, .bool false, .bool false]) rfl (cs' := #[.slice none 0 0, .slice none 0 0, .int .i64 0, .bool false, .bool false]) rfl (by kernel_rfl) (by simp [Value.oneCell']) B4.out rfl ?_; intro wc b4 hg; have G4 := Aside0.mk (show wf.heap.size ≤ g4 by have h1 := E4.out; have h2 := HRn.out.lt; omega); have GP := Aside0.mk (show g4 ≠ wf.heap.size by have h1 := E4.out; have h2 := HRn.out.lt; omega); have HBc := Aside0.mk (Below.grown HBb.out hg HBb.out.size (fun k hk => by cases hk; exact G4.out)); have HAc := Aside0.mk (show AL (fun _ => False) wf.heap.size wc wf.heap.size g4 (playAll new (l.take 0)) RD.new none 0 none 0 from (AL.turned (d := RD.new) (A0 := none) (c0 := 0) (A1 := none) (c1 := 0) (ok := fun _ => False) ⟨HRb.out, B4.out, ⟨Kd.V_nil _ _ _ _ _, Kd.V_nil _ _ _ _ _⟩, fun _ h => h.elim, GP.out⟩ ⟨Kd.V_nil _ _ _ _ _, Kd.V_nil _ _ _ _ _⟩ (fun _ h => h.elim) (HRb.out) b4 hg)); clear b4 hg)
      | fail)
    go_loopw [5] (fun v5 W => ∃ (i : Nat) (d : RD) (A0 : Option Addr) (c0 : Nat) (A1 : Option Addr) (c1 : Nat) (ok : Nat → Prop), v5 = .int .i64 i ∧ i ≤ l.length ∧ Aside0 (AL ok wf.heap.size W wf.heap.size g4 (playAll new (l.take i)) d A0 c0 A1 c1) ∧ Aside0 (Sim (playAll new (l.take i)) d) ∧ Aside0 (size d ≤ i) ∧ Aside0 (Below wf.heap.size wf W)) (fun v5 _ => l.length - (intOf v5).toNat)
    case atStart => exact ⟨0, RD.new, none, 0, none, 0, _, rfl, Nat.zero_le _, HAc, ⟨Sim.new⟩, ⟨Nat.le_refl _⟩, HBc⟩
    case round =>
      clear HAc HBc HRn HBn HRb HBb B4 E4
      obtain ⟨i, d, A0, c0, A1, c1, ok, rfl, hi, HA, HS, HN, HB⟩ := hrel
      have hi9 : i < 500000000 := by have := hF.1; omega
      by_cases hlt : i < l.length
      · obtain ⟨ad, A2, c2, e, h0, h1, h2, h3, h4, hl2, hi2⟩ := at_T39 HXf.out (i : Int) (by omega) (by omega)
        subst e
        rw [rdT_get l i hlt] at h0 h1 h2 h3 h4 hl2 hi2
        rw [Int.toNat_natCast] at h0 h1 h2 h3 h4
        have HST := Aside0.mk (playAll_step new l i hlt)
        have HOK := Aside0.mk (Ok.played0 l HW.out hF i)
        have HOK1 := Aside0.mk (Ok.played0 l HW.out hF (i + 1))
        have hk := HW.out _ (List.getElem_mem hlt)
        have hf := hF.2 _ (List.getElem_mem hlt)
        obtain ⟨d', hdo, hsim, hsz⟩ := do_f 0 HS.out (l[i]) hk hf (by have := HN.out; have := hF.1; omega)
        generalize (l[i]) = x at h0 h1 h2 h3 h4 hl2 hi2 HST hk hf hdo hsim
        rw [HST.out] at HOK1
        obtain ⟨E, hE⟩ : ∃ E, playE (playAll new (l.take i)) x = E := ⟨_, rfl⟩
        obtain ⟨s', hs'⟩ : ∃ s', (playAll new (l.take i)).play x = s' := ⟨_, rfl⟩
        rw [hE] at hdo
        rw [hs'] at hsim HST HOK1
        have HE := Aside0.mk hE
        have HSP := Aside0.mk hs'
        have HDO := Aside0.mk (show lockgateref07_Do.f 2 d.safe d.loose d.left d.armed d.down x.f0 x.f1 x.f2 x.f3 x.f4 = some (d'.safe, d'.loose, d'.left, d'.armed, d'.down, E) from hdo)
        have HSIM := Aside0.mk hsim
        have HS1 := Aside0.mk (show size d' ≤ i + 1 by have := HN.out; omega)
        have HSZ := Aside0.mk (show size d' ≤ 1000 by have := HS1.out; have := hF.1; omega)
        have HF2 := Aside0.mk (okx hi2)
        have HI2 := Aside0.mk hi2
        have HL2 := Aside0.mk hl2
        have HK := Aside0.mk hk
        have HFL := Aside0.mk hf
        have E0 := Aside0.mk h0
        have E1 := Aside0.mk h1
        have E2 := Aside0.mk h2
        have E3 := Aside0.mk h3
        have E4 := Aside0.mk h4
        clear h0 h1 h2 h3 h4 hdo hsim hsz hk hf hi2 hE hs'
        have h0 := cellB HB.out E0.out
        have h1 := cellB HB.out E1.out
        have h2 := cellB HB.out E2.out
        have h3 := cellB HB.out E3.out
        have h4 := cellB HB.out E4.out
        have hlt' : (i : Int) < (l.length : Int) := by omega
        have LT := Aside0.mk hlt
        go_wp2_with fail
        refine (Play_E _ HA.out.rep HA.out.ylt HOK.out n8040 x (Kd.C_below HI2.out HB.out) HL2.out (by have := HFL.out; omega) HK.out.1 HK.out.2.1 HE.out HSP.out).mono ?_
        rintro e w2 ⟨rfl, hr, hb, hk⟩
        have HA2 := Aside0.mk (HA.out.acted hr hb.size hk)
        have HB2 := Aside0.mk (HB.out.trans hb)
        clear hr hb hk HA HB h0 h1 h2 h3 h4
        go_wp2_with fail
        refine start_ (n := 12) (S := fun w' => w'.cell? ⟨g4, 0, none⟩ = some (.slice A0 d.safe.length c0) ∧ w'.cell? ⟨g4, 1, none⟩ = some (.slice A1 d.loose.length c1) ∧ w'.cell? ⟨g4, 2, none⟩ = some (.int .i64 d.left) ∧ w'.cell? ⟨g4, 3, none⟩ = some (.bool d.armed) ∧ w'.cell? ⟨g4, 4, none⟩ = some (.bool d.down) ∧ w'.cell? (ad.add (i * 5)) = some (.int .u8 x.f0) ∧ w'.cell? ⟨(ad.add (i * 5)).block, (ad.add (i * 5)).off + 1, none⟩ = some (.int .i64 x.f1) ∧ w'.cell? ⟨(ad.add (i * 5)).block, (ad.add (i * 5)).off + 2, none⟩ = some (.slice A2 x.f2.length c2) ∧ w'.cell? ⟨(ad.add (i * 5)).block, (ad.add (i * 5)).off + 3, none⟩ = some (.int .i64 x.f3) ∧ w'.cell? ⟨(ad.add (i * 5)).block, (ad.add (i * 5)).off + 4, none⟩ = some (.int .i64 x.f4)) (ds := [10]) #[false, false, false, false, false, false, false, false, false, false, false, false] (by kernel_rfl) rfl rfl ⟨(blk_cell HA2.out.b 0).trans rfl, (blk_cell HA2.out.b 1).trans rfl, (blk_cell HA2.out.b 2).trans rfl, (blk_cell HA2.out.b 3).trans rfl, (blk_cell HA2.out.b 4).trans rfl, cellB (below_drew HB2.out) E0.out, cellB (below_drew HB2.out) E1.out, cellB (below_drew HB2.out) E2.out, cellB (below_drew HB2.out) E3.out, cellB (below_drew HB2.out) E4.out⟩ (fun hHeld => ?_); refine with_tabW acts_R9.tab acts_R9.bits (fun HT_ HW_ => ?_)
        have HA3 := Aside0.mk (HA2.out.below (below_drew (Below.refl _ w2)))
        have HB3 := Aside0.mk (below_drew HB2.out)
        clear HA2 HB2
        generalize w2.drew = w3 at HA3 HB3 hHeld ⊢
        refine pure_ (i := 1) (N := some 33) (v := ?_) (a' := ?_) #[false, true, false, false, false, false, false, false, false, false, false, false] rfl rfl (any_of HT_.out (by kernel_rfl)) (fun _ _ _ h => h) (Or.inl ⟨by rfl, ?_⟩) ?_ ?_
        rotate_left
        · intro w'
          go_simp
          with_reducible rfl
        rotate_left
        · simp only [Act.put, List.setIfInBounds_toArray, List.set_cons_zero, List.set_cons_succ, i64_w, i32_w]
          rfl
        refine pure_ (i := 2) (N := some 34) (v := ?_) (a' := ?_) #[false, true, true, false, false, false, false, false, false, false, false, false] rfl rfl (any_of HT_.out (by kernel_rfl)) (fun _ _ _ h => h) (Or.inl ⟨by rfl, ?_⟩) ?_ ?_
        rotate_left
        · intro w'
          go_simp
          with_reducible rfl
        rotate_left
        · simp only [Act.put, List.setIfInBounds_toArray, List.set_cons_zero, List.set_cons_succ, i64_w, i32_w]
          rfl
        refine pure_ (i := 3) (N := some 35) (v := ?_) (a' := ?_) #[false, true, true, true, false, false, false, false, false, false, false, false] rfl rfl (any_of HT_.out (by kernel_rfl)) (fun _ _ _ h => h) (Or.inl ⟨by rfl, ?_⟩) ?_ ?_
        rotate_left
        · intro w'
          go_simp
          with_reducible rfl
        rotate_left
        · simp only [Act.put, List.setIfInBounds_toArray, List.set_cons_zero, List.set_cons_succ, i64_w, i32_w]
          rfl
        refine take_ (i := 0) (N := some 32) (v := ?_) (a' := ?_) #[true, true, true, true, false, false, false, false, false, false, false, false] rfl rfl (take_ofW HT_.out HW_.out (by kernel_rfl)) (fun _ _ _ h => h) (Or.inl ⟨by rfl, ?_⟩) hHeld ?_ ?_
        rotate_left
        · rintro w' ⟨s0, s1, s2, s3, s4, s5, s6, s7, s8, s9⟩
          go_simp
          with_reducible rfl
        rotate_left
        · simp only [Act.put, List.setIfInBounds_toArray, List.set_cons_zero, List.set_cons_succ, i64_w, i32_w]
          rfl
        refine take_ (i := 4) (N := some 36) (v := ?_) (a' := ?_) #[true, true, true, true, true, false, false, false, false, false, false, false] rfl rfl (take_ofW HT_.out HW_.out (by kernel_rfl)) (fun _ _ _ h => h) (Or.inl ⟨by rfl, ?_⟩) hHeld ?_ ?_
        rotate_left
        · rintro w' ⟨s0, s1, s2, s3, s4, s5, s6, s7, s8, s9⟩
          go_simp
          with_reducible rfl
        rotate_left
        · simp only [Act.put, List.setIfInBounds_toArray, List.set_cons_zero, List.set_cons_succ, i64_w, i32_w]
          rfl
        refine two_ (i := 5) (j := 9) (Ni := some 37) (Nj := some 7) #[true, true, true, true, true, true, false, false, false, false, false, false] #[true, true, true, true, true, false, false, false, false, true, false, false] rfl rfl rfl rfl (two_of HT_.out (by kernel_rfl)) (by decide) (by decide) (fun K hK => ?_) (fun K hK => ?_)
        · refine goes_ Try.func16 (by kernel_rfl) rfl #[.agg #[.slice A0 d.safe.length c0, .slice A1 d.loose.length c1, .int .i64 d.left, .bool d.armed, .bool d.down], .agg #[.int .u8 x.f0, .int .i64 x.f1, .slice A2 x.f2.length c2, .int .i64 x.f3, .int .i64 x.f4]] (by rfl) rfl rfl (by (try simp only [List.map_toArray, List.map_cons, List.map_nil]); first | done | rfl) ?_
          refine (lockgateref07_Do.calls 2 ok A0 c0 d.safe ok A1 c1 d.loose d.left d.armed d.down x.f0 x.f1 (fun k => k < wf.heap.size) A2 c2 x.f2 x.f3 x.f4 d'.safe d'.loose d'.left d'.armed d'.down E w3 HA3.out.ref.v0 HA3.out.ref.v1 (Kd.V_mk HL2.out (Kd.F_below HF2.out HB3.out)) HDO.out).mono ?_
          rintro e w4 ⟨v0, v1, rfl, hv0, hv1, hb⟩
          obtain ⟨D0, n0, e0'⟩ := Kd.V_slice hv0
          obtain ⟨D1, n1, e1'⟩ := Kd.V_slice hv1
          subst e0'; subst e1'
          refine ⟨_, rfl, ?_⟩
          have BW4 := Aside0.mk hb
          have HV0 := Aside0.mk (Kd.V_mono (Kd.V_bound hv0) (ok' := (fun k => ((ok k ∨ k < wf.heap.size) ∨ w3.heap.size ≤ k) ∧ k < w4.heap.size ∧ True)) (fun k hk => ⟨hk.1.elim (fun h => h.elim (fun h => .inl (.inl h)) (fun h => h.elim (fun h => .inl (.inl h)) (fun h => .inl (.inr h)))) (fun h => .inr h), hk.2, trivial⟩))
          have HV1 := Aside0.mk (Kd.V_mono (Kd.V_bound hv1) (ok' := (fun k => ((ok k ∨ k < wf.heap.size) ∨ w3.heap.size ≤ k) ∧ k < w4.heap.size ∧ True)) (fun k hk => ⟨hk.1.elim (fun h => h.elim (fun h => .inl (.inl h)) (fun h => h.elim (fun h => .inl (.inl h)) (fun h => .inl (.inr h)))) (fun h => .inr h), hk.2, trivial⟩))
          clear hv0 hv1 hb
          refine hK.out _ _ ⟨(blk_cell (HA3.out.below BW4.out).b 0).trans rfl, (blk_cell (HA3.out.below BW4.out).b 1).trans rfl, (blk_cell (HA3.out.below BW4.out).b 2).trans rfl, (blk_cell (HA3.out.below BW4.out).b 3).trans rfl, (blk_cell (HA3.out.below BW4.out).b 4).trans rfl, cellB (below_step HB3.out BW4.out) E0.out, cellB (below_step HB3.out BW4.out) E1.out, cellB (below_step HB3.out BW4.out) E2.out, cellB (below_step HB3.out BW4.out) E3.out, cellB (below_step HB3.out BW4.out) E4.out⟩ (fun hHeld2 => ?_)
          clear hHeld
          have hHeld := hHeld2
          clear hHeld2
          clear hK K
          refine norm_ (a' := ?_) ?_ ?_
          rotate_left
          · show Act.put _ (some 37) _ = _
            simp only [Act.put, List.setIfInBounds_toArray, List.set_cons_zero, List.set_cons_succ, i64_w, i32_w]
            rfl
          refine pure_ (i := 6) (N := some 31) (v := ?_) (a' := ?_) #[true, true, true, true, true, true, true, false, false, false, false, false] rfl rfl (any_of HT_.out (by kernel_rfl)) (fun _ _ _ h => h) (Or.inl ⟨by rfl, ?_⟩) ?_ ?_
          rotate_left
          · intro w'
            go_simp
            with_reducible rfl
          rotate_left
          · simp only [Act.put, List.setIfInBounds_toArray, List.set_cons_zero, List.set_cons_succ, i64_w, i32_w]
            rfl
          refine pure_ (i := 7) (N := some 38) (v := ?_) (a' := ?_) #[true, true, true, true, true, true, true, true, false, false, false, false] rfl rfl (any_of HT_.out (by kernel_rfl)) (fun _ _ _ h => h) (Or.inl ⟨by rfl, ?_⟩) ?_ ?_
          rotate_left
          · intro w'
            go_simp
            with_reducible rfl
          rotate_left
          · simp only [Act.put, List.setIfInBounds_toArray, List.set_cons_zero, List.set_cons_succ, i64_w, i32_w]
            rfl
          refine pure_ (i := 8) (N := some 39) (v := ?_) (a' := ?_) #[true, true, true, true, true, true, true, true, true, false, false, false] rfl rfl (any_of HT_.out (by kernel_rfl)) (fun _ _ _ h => h) (Or.inl ⟨by rfl, ?_⟩) ?_ ?_
          rotate_left
          · intro w'
            go_simp
            with_reducible rfl
          rotate_left
          · simp only [Act.put, List.setIfInBounds_toArray, List.set_cons_zero, List.set_cons_succ, i64_w, i32_w]
            rfl
          refine one_ (i := 9) (N := some 7) #[true, true, true, true, true, true, true, true, true, true, false, false] rfl rfl (one_of HT_.out (by kernel_rfl)) (by decide) (fun K hK => ?_)
          refine value_ (w1 := ?_) (v := ?_) (by rfl) rfl ?_ ?_
          rotate_left 2
          · go_simp
            constructor
            · rfl
            · rfl
          have hal := below_al w4 (.cells #[.slice none 0 0, .slice none 0 0, .int .i64 0, .bool false, .bool false] 36 (0, 0))
          have B7 := Aside0.mk (heap_alloc_new w4 (.cells #[.slice none 0 0, .slice none 0 0, .int .i64 0, .bool false, .bool false] 36 (0, 0)))
          have GW7 := Aside0.mk (show w4.heap.size < (w4.alloc (.cells #[.slice none 0 0, .slice none 0 0, .int .i64 0, .bool false, .bool false] 36 (0, 0))).heap.size from blk_lt B7.out)
          have BW5 := Aside0.mk (below_step BW4.out hal)
          have n6 := Aside0.mk (Kd.V_mono (ok' := (fun k => ((ok k ∨ k < wf.heap.size) ∨ w3.heap.size ≤ k) ∧ k < (w4.alloc (.cells #[.slice none 0 0, .slice none 0 0, .int .i64 0, .bool false, .bool false] 36 (0, 0))).heap.size ∧ k ≠ w4.heap.size)) (Kd.V_below HV0.out hal) (fun k hk => ⟨hk.1, Nat.lt_of_lt_of_le hk.2.1 hal.size, Nat.ne_of_lt hk.2.1⟩))
          have n7 := Aside0.mk (Kd.V_mono (ok' := (fun k => ((ok k ∨ k < wf.heap.size) ∨ w3.heap.size ≤ k) ∧ k < (w4.alloc (.cells #[.slice none 0 0, .slice none 0 0, .int .i64 0, .bool false, .bool false] 36 (0, 0))).heap.size ∧ k ≠ w4.heap.size)) (Kd.V_below HV1.out hal) (fun k hk => ⟨hk.1, Nat.lt_of_lt_of_le hk.2.1 hal.size, Nat.ne_of_lt hk.2.1⟩))
          clear HV0 HV1
          have HV0 := n6
          have HV1 := n7
          clear n6 n7
          clear hal
          generalize w4.alloc (.cells #[.slice none 0 0, .slice none 0 0, .int .i64 0, .bool false, .bool false] 36 (0, 0)) = w5 at B7 GW7 BW5 HV0 HV1 ⊢
          have G7 := Aside0.mk (show w3.heap.size ≤ w4.heap.size from BW4.out.size)
          generalize w4.heap.size = g7 at B7 GW7 HV0 HV1 G7 ⊢
          refine hK.out _ _ ⟨(blk_cell (HA3.out.below BW5.out).b 0).trans rfl, (blk_cell (HA3.out.below BW5.out).b 1).trans rfl, (blk_cell (HA3.out.below BW5.out).b 2).trans rfl, (blk_cell (HA3.out.below BW5.out).b 3).trans rfl, (blk_cell (HA3.out.below BW5.out).b 4).trans rfl, cellB (below_step HB3.out BW5.out) E0.out, cellB (below_step HB3.out BW5.out) E1.out, cellB (below_step HB3.out BW5.out) E2.out, cellB (below_step HB3.out BW5.out) E3.out, cellB (below_step HB3.out BW5.out) E4.out⟩ (fun hHeld2 => ?_)
          clear hHeld
          have hHeld := hHeld2
          clear hHeld2
          clear hK K
          refine norm_ (a' := ?_) ?_ ?_
          rotate_left
          · show Act.put _ (some 7) _ = _
            simp only [Act.put, List.setIfInBounds_toArray, List.set_cons_zero, List.set_cons_succ, i64_w, i32_w]
            rfl
          refine last_ (i := 10) (N := none) #[true, true, true, true, true, true, true, true, true, true, true, false] rfl rfl (one_of HT_.out (by kernel_rfl)) (by decide) (fun K hK => ?_)
          refine put_step (by rfl) rfl 36 (.tmp 7) (.tmp 38) rfl (g := g7) (by rfl) (.agg #[.slice D0 d'.safe.length n0, .slice D1 d'.loose.length n1, .int .i64 d'.left, .bool d'.armed, .bool d'.down]) (by rfl) (cs' := #[.slice D0 d'.safe.length n0, .slice D1 d'.loose.length n1, .int .i64 d'.left, .bool d'.armed, .bool d'.down]) rfl (by kernel_rfl) (by simp [Value.oneCell']) B7.out rfl ?_
          intro w6 b7 hg7
          have B76 := Aside0.mk b7
          have BW6 := Aside0.mk (Below.grown BW5.out hg7 BW5.out.size (fun k hk => by cases hk; exact G7.out))
          have HV06 := Aside0.mk (Kd.V_grown HV0.out hg7 (fun k hk he => hk.2.2 (Option.some.inj he)))
          have HV16 := Aside0.mk (Kd.V_grown HV1.out hg7 (fun k hk he => hk.2.2 (Option.some.inj he)))
          have SZ6 := Aside0.mk hg7.size
          clear b7 hg7 hHeld
          refine hK.out _ _ ?_
          clear hK K
          refine pure_ (i := 11) (N := some 8) (v := ?_) (a' := ?_) #[true, true, true, true, true, true, true, true, true, true, true, true] rfl rfl (any_of HT_.out (by kernel_rfl)) (fun _ _ _ h => h) (Or.inl ⟨by rfl, ?_⟩) ?_ ?_
          rotate_left
          · intro w'
            go_simp
            with_reducible rfl
          rotate_left
          · simp only [Act.put, List.setIfInBounds_toArray, List.set_cons_zero, List.set_cons_succ, i64_w, i32_w]
            rfl
          refine done_ (done_of HT_.out (by kernel_rfl)) ?_
          have HA6 := Aside0.mk (HA3.out.below BW6.out)
          have HB6 := Aside0.mk (below_step HB3.out BW6.out)
          have HR6 := Aside0.mk (RepL.below (HA3.out.rep.or3 (Y' := fun k => (fun k => ((ok k ∨ k < wf.heap.size) ∨ w3.heap.size ≤ k) ∧ k < w5.heap.size ∧ k ≠ g7) k ∨ k = g4) (fun k hk => by
            rcases hk with hk | hk
            · rcases hk.1 with (h | h) | h
              · exact .inl (.inl h)
              · exact .inr (.inl h)
              · exact .inr (.inr h)
            · exact .inl (.inr hk))) BW6.out)
          have HOK6 := Aside0.mk (show ∀ k, (fun k => ((ok k ∨ k < wf.heap.size) ∨ w3.heap.size ≤ k) ∧ k < w5.heap.size ∧ k ≠ g7) k → k < w6.heap.size ∧ k ≠ wf.heap.size ∧ k ≠ g4 from fun k hk => by
            have h1 := hk.2.1
            have h2 := SZ6.out
            have h3 := HA3.out.rep.rep.lt
            have h4 := G4.out
            have h5 := blk_lt HA3.out.b
            refine ⟨by omega, ?_⟩
            rcases hk.1 with (h | h) | h
            · exact (HA3.out.okl k h).2
            · exact ⟨by omega, by omega⟩
            · exact ⟨by omega, by omega⟩)
          have y0 : w6.cell? ⟨g7, 0, none⟩ = some (.slice D0 d'.safe.length n0) := (blk_cell B76.out 0).trans rfl
          have y1 : w6.cell? ⟨g7, 1, none⟩ = some (.slice D1 d'.loose.length n1) := (blk_cell B76.out 1).trans rfl
          have y2 : w6.cell? ⟨g7, 2, none⟩ = some (.int .i64 d'.left) := (blk_cell B76.out 2).trans rfl
          have y3 : w6.cell? ⟨g7, 3, none⟩ = some (.bool d'.armed) := (blk_cell B76.out 3).trans rfl
          have y4 : w6.cell? ⟨g7, 4, none⟩ = some (.bool d'.down) := (blk_cell B76.out 4).trans rfl
          go_wp2_with (first
            | ((with_reducible refine gate_ (.store 36 (.tmp 4) (.tmp 40)) rfl ?_); refine put_event (g := g4) (e := 36) rfl rfl 36 (.tmp 4) (.tmp 40) rfl rfl (.agg #[.slice D0 d'.safe.length n0, .slice D1 d'.loose.length n1, .int .i64 d'.left, .bool d'.armed, .bool d'.down]) rfl (cs' := #[.slice D0 d'.safe.length n0, .slice D1 d'.loose.length n1, .int .i64 d'.left, .bool d'.armed, .bool d'.down]) rfl (by kernel_rfl) (by simp [Value.oneCell']) HA6.out.b rfl ?_; intro w7 b4 hg4; have HA7 := Aside0.mk (HA6.out.turned (d' := d') (A0' := D0) (c0' := n0) (A1' := D1) (c1' := n1) ⟨HV06.out, HV16.out⟩ HOK6.out HR6.out b4 hg4); have HB7 := Aside0.mk (Below.grown HB6.out hg4 HB6.out.size (fun k hk => by cases hk; exact G4.out)); clear b4 hg4; have z0 : w7.cell? ⟨g4, 0, none⟩ = some (.slice D0 d'.safe.length n0) := (blk_cell HA7.out.b 0).trans rfl; have z1 : w7.cell? ⟨g4, 1, none⟩ = some (.slice D1 d'.loose.length n1) := (blk_cell HA7.out.b 1).trans rfl; have z2 : w7.cell? ⟨g4, 2, none⟩ = some (.int .i64 d'.left) := (blk_cell HA7.out.b 2).trans rfl; have z3 : w7.cell? ⟨g4, 3, none⟩ = some (.bool d'.armed) := (blk_cell HA7.out.b 3).trans rfl; have z4 : w7.cell? ⟨g4, 4, none⟩ = some (.bool d'.down) := (blk_cell HA7.out.b 4).trans rfl)
            | (go_at_call 17; (with_reducible refine (Shows_says w7 HA7.out.rep.rep HOK1.out n8040 HSIM.out HSZ.out HA7.out.ref).mono ?_); rintro e w8 ⟨rfl, hb⟩; have HA8 := Aside0.mk (HA7.out.below hb); have HB8 := Aside0.mk (below_step HB7.out hb); clear hb)
            | fail)
          go_roundw
          case rel => exact ⟨i + 1, d', D0, n0, D1, n1, _, by go_num, LT.out, by rw [HST.out]; exact HA8, ⟨by rw [HST.out]; exact HSIM.out⟩, HS1, HB8⟩
          case measure => simp [intOf]; have := LT.out; omega
        · refine value_ (w1 := ?_) (v := ?_) (by rfl) rfl ?_ ?_
          rotate_left 2
          · go_simp
            constructor
            · rfl
            · rfl
          have hal := below_al w3 (.cells #[.slice none 0 0, .slice none 0 0, .int .i64 0, .bool false, .bool false] 36 (0, 0))
          have B7 := Aside0.mk (heap_alloc_new w3 (.cells #[.slice none 0 0, .slice none 0 0, .int .i64 0, .bool false, .bool false] 36 (0, 0)))
          have GW7 := Aside0.mk (show w3.heap.size < (w3.alloc (.cells #[.slice none 0 0, .slice none 0 0, .int .i64 0, .bool false, .bool false] 36 (0, 0))).heap.size from blk_lt B7.out)
          have BW4 := Aside0.mk hal
          clear hal
          generalize w3.alloc (.cells #[.slice none 0 0, .slice none 0 0, .int .i64 0, .bool false, .bool false] 36 (0, 0)) = w4 at B7 GW7 BW4 ⊢
          have G7 := Aside0.mk (show w3.heap.size ≤ w3.heap.size from Nat.le_refl _)
          obtain ⟨g7, hg7⟩ : ∃ g7, g7 = w3.heap.size := ⟨_, rfl⟩
          rw [← hg7] at B7 GW7 ⊢
          have G7 := Aside0.mk (Nat.le_of_eq hg7.symm)
          clear hg7
          refine hK.out _ _ ⟨(blk_cell (HA3.out.below BW4.out).b 0).trans rfl, (blk_cell (HA3.out.below BW4.out).b 1).trans rfl, (blk_cell (HA3.out.below BW4.out).b 2).trans rfl, (blk_cell (HA3.out.below BW4.out).b 3).trans rfl, (blk_cell (HA3.out.below BW4.out).b 4).trans rfl, cellB (below_step HB3.out BW4.out) E0.out, cellB (below_step HB3.out BW4.out) E1.out, cellB (below_step HB3.out BW4.out) E2.out, cellB (below_step HB3.out BW4.out) E3.out, cellB (below_step HB3.out BW4.out) E4.out⟩ (fun hHeld2 => ?_)
          clear hHeld
          have hHeld := hHeld2
          clear hHeld2
          clear hK K
          refine norm_ (a' := ?_) ?_ ?_
          rotate_left
          · show Act.put _ (some 7) _ = _
            simp only [Act.put, List.setIfInBounds_toArray, List.set_cons_zero, List.set_cons_succ, i64_w, i32_w]
            rfl
          refine one_ (i := 5) (N := some 37) #[true, true, true, true, true, true, false, false, false, true, false, false] rfl rfl (one_of HT_.out (by kernel_rfl)) (by decide) (fun K hK => ?_)
          refine goes_ Try.func16 (by kernel_rfl) rfl #[.agg #[.slice A0 d.safe.length c0, .slice A1 d.loose.length c1, .int .i64 d.left, .bool d.armed, .bool d.down], .agg #[.int .u8 x.f0, .int .i64 x.f1, .slice A2 x.f2.length c2, .int .i64 x.f3, .int .i64 x.f4]] (by rfl) rfl rfl (by (try simp only [List.map_toArray, List.map_cons, List.map_nil]); first | done | rfl) ?_
          refine (lockgateref07_Do.calls 2 ok A0 c0 d.safe ok A1 c1 d.loose d.left d.armed d.down x.f0 x.f1 (fun k => k < wf.heap.size) A2 c2 x.f2 x.f3 x.f4 d'.safe d'.loose d'.left d'.armed d'.down E w4 (HA3.out.below BW4.out).ref.v0 (HA3.out.below BW4.out).ref.v1 (Kd.V_mk HL2.out (Kd.F_below HF2.out (below_step HB3.out BW4.out))) HDO.out).mono ?_
          rintro e w5 ⟨v0, v1, rfl, hv0, hv1, hb⟩
          obtain ⟨D0, n0, e0'⟩ := Kd.V_slice hv0
          obtain ⟨D1, n1, e1'⟩ := Kd.V_slice hv1
          subst e0'; subst e1'
          refine ⟨_, rfl, ?_⟩
          have BW5 := Aside0.mk (below_step BW4.out hb)
          have HV0 := Aside0.mk (Kd.V_mono (Kd.V_bound hv0) (ok' := (fun k => ((ok k ∨ k < wf.heap.size) ∨ w3.heap.size ≤ k) ∧ k < w5.heap.size ∧ k ≠ g7)) (fun k hk => ⟨hk.1.elim (fun h => h.elim (fun h => .inl (.inl h)) (fun h => h.elim (fun h => .inl (.inl h)) (fun h => .inl (.inr h)))) (fun h => .inr (Nat.le_trans BW4.out.size h)), hk.2, by have h7 := G7.out; have h8 := GW7.out; have h9 := HB3.out.size; rcases hk.1 with (h1 | h1 | h1) | h1 <;> first | omega | (have h10 := (HA3.out.okl k h1).1; omega)⟩))
          have HV1 := Aside0.mk (Kd.V_mono (Kd.V_bound hv1) (ok' := (fun k => ((ok k ∨ k < wf.heap.size) ∨ w3.heap.size ≤ k) ∧ k < w5.heap.size ∧ k ≠ g7)) (fun k hk => ⟨hk.1.elim (fun h => h.elim (fun h => .inl (.inl h)) (fun h => h.elim (fun h => .inl (.inl h)) (fun h => .inl (.inr h)))) (fun h => .inr (Nat.le_trans BW4.out.size h)), hk.2, by have h7 := G7.out; have h8 := GW7.out; have h9 := HB3.out.size; rcases hk.1 with (h1 | h1 | h1) | h1 <;> first | omega | (have h10 := (HA3.out.okl k h1).1; omega)⟩))
          have n7 := Aside0.mk ((hb.block g7 (blk_lt B7.out)).trans B7.out)
          clear B7
          have B7 := n7
          clear n7
          clear hv0 hv1 hb
          refine hK.out _ _ ⟨(blk_cell (HA3.out.below BW5.out).b 0).trans rfl, (blk_cell (HA3.out.below BW5.out).b 1).trans rfl, (blk_cell (HA3.out.below BW5.out).b 2).trans rfl, (blk_cell (HA3.out.below BW5.out).b 3).trans rfl, (blk_cell (HA3.out.below BW5.out).b 4).trans rfl, cellB (below_step HB3.out BW5.out) E0.out, cellB (below_step HB3.out BW5.out) E1.out, cellB (below_step HB3.out BW5.out) E2.out, cellB (below_step HB3.out BW5.out) E3.out, cellB (below_step HB3.out BW5.out) E4.out⟩ (fun hHeld2 => ?_)
          clear hHeld
          have hHeld := hHeld2
          clear hHeld2
          clear hK K
          refine norm_ (a' := ?_) ?_ ?_
          rotate_left
          · show Act.put _ (some 37) _ = _
            simp only [Act.put, List.setIfInBounds_toArray, List.set_cons_zero, List.set_cons_succ, i64_w, i32_w]
            rfl
          refine pure_ (i := 6) (N := some 31) (v := ?_) (a' := ?_) #[true, true, true, true, true, true, true, false, false, true, false, false] rfl rfl (any_of HT_.out (by kernel_rfl)) (fun _ _ _ h => h) (Or.inl ⟨by rfl, ?_⟩) ?_ ?_
          rotate_left
          · intro w'
            go_simp
            with_reducible rfl
          rotate_left
          · simp only [Act.put, List.setIfInBounds_toArray, List.set_cons_zero, List.set_cons_succ, i64_w, i32_w]
            rfl
          refine pure_ (i := 7) (N := some 38) (v := ?_) (a' := ?_) #[true, true, true, true, true, true, true, true, false, true, false, false] rfl rfl (any_of HT_.out (by kernel_rfl)) (fun _ _ _ h => h) (Or.inl ⟨by rfl, ?_⟩) ?_ ?_
          rotate_left
          · intro w'
            go_simp
            with_reducible rfl
          rotate_left
          · simp only [Act.put, List.setIfInBounds_toArray, List.set_cons_zero, List.set_cons_succ, i64_w, i32_w]
            rfl
          refine pure_ (i := 8) (N := some 39) (v := ?_) (a' := ?_) #[true, true, true, true, true, true, true, true, true, true, false, false] rfl rfl (any_of HT_.out (by kernel_rfl)) (fun _ _ _ h => h) (Or.inl ⟨by rfl, ?_⟩) ?_ ?_
          rotate_left
          · intro w'
            go_simp
            with_reducible rfl
          rotate_left
          · simp only [Act.put, List.setIfInBounds_toArray, List.set_cons_zero, List.set_cons_succ, i64_w, i32_w]
            rfl
          refine last_ (i := 10) (N := none) #[true, true, true, true, true, true, true, true, true, true, true, false] rfl rfl (one_of HT_.out (by kernel_rfl)) (by decide) (fun K hK => ?_)
          refine put_step (by rfl) rfl 36 (.tmp 7) (.tmp 38) rfl (g := g7) (by rfl) (.agg #[.slice D0 d'.safe.length n0, .slice D1 d'.loose.length n1, .int .i64 d'.left, .bool d'.armed, .bool d'.down]) (by rfl) (cs' := #[.slice D0 d'.safe.length n0, .slice D1 d'.loose.length n1, .int .i64 d'.left, .bool d'.armed, .bool d'.down]) rfl (by kernel_rfl) (by simp [Value.oneCell']) B7.out rfl ?_
          intro w6 b7 hg7
          have B76 := Aside0.mk b7
          have BW6 := Aside0.mk (Below.grown BW5.out hg7 BW5.out.size (fun k hk => by cases hk; exact G7.out))
          have HV06 := Aside0.mk (Kd.V_grown HV0.out hg7 (fun k hk he => hk.2.2 (Option.some.inj he)))
          have HV16 := Aside0.mk (Kd.V_grown HV1.out hg7 (fun k hk he => hk.2.2 (Option.some.inj he)))
          have SZ6 := Aside0.mk hg7.size
          clear b7 hg7 hHeld
          refine hK.out _ _ ?_
          clear hK K
          refine pure_ (i := 11) (N := some 8) (v := ?_) (a' := ?_) #[true, true, true, true, true, true, true, true, true, true, true, true] rfl rfl (any_of HT_.out (by kernel_rfl)) (fun _ _ _ h => h) (Or.inl ⟨by rfl, ?_⟩) ?_ ?_
          rotate_left
          · intro w'
            go_simp
            with_reducible rfl
          rotate_left
          · simp only [Act.put, List.setIfInBounds_toArray, List.set_cons_zero, List.set_cons_succ, i64_w, i32_w]
            rfl
          refine done_ (done_of HT_.out (by kernel_rfl)) ?_
          have HA6 := Aside0.mk (HA3.out.below BW6.out)
          have HB6 := Aside0.mk (below_step HB3.out BW6.out)
          have HR6 := Aside0.mk (RepL.below (HA3.out.rep.or3 (Y' := fun k => (fun k => ((ok k ∨ k < wf.heap.size) ∨ w3.heap.size ≤ k) ∧ k < w5.heap.size ∧ k ≠ g7) k ∨ k = g4) (fun k hk => by
            rcases hk with hk | hk
            · rcases hk.1 with (h | h) | h
              · exact .inl (.inl h)
              · exact .inr (.inl h)
              · exact .inr (.inr h)
            · exact .inl (.inr hk))) BW6.out)
          have HOK6 := Aside0.mk (show ∀ k, (fun k => ((ok k ∨ k < wf.heap.size) ∨ w3.heap.size ≤ k) ∧ k < w5.heap.size ∧ k ≠ g7) k → k < w6.heap.size ∧ k ≠ wf.heap.size ∧ k ≠ g4 from fun k hk => by
            have h1 := hk.2.1
            have h2 := SZ6.out
            have h3 := HA3.out.rep.rep.lt
            have h4 := G4.out
            have h5 := blk_lt HA3.out.b
            refine ⟨by omega, ?_⟩
            rcases hk.1 with (h | h) | h
            · exact (HA3.out.okl k h).2
            · exact ⟨by omega, by omega⟩
            · exact ⟨by omega, by omega⟩)
          have y0 : w6.cell? ⟨g7, 0, none⟩ = some (.slice D0 d'.safe.length n0) := (blk_cell B76.out 0).trans rfl
          have y1 : w6.cell? ⟨g7, 1, none⟩ = some (.slice D1 d'.loose.length n1) := (blk_cell B76.out 1).trans rfl
          have y2 : w6.cell? ⟨g7, 2, none⟩ = some (.int .i64 d'.left) := (blk_cell B76.out 2).trans rfl
          have y3 : w6.cell? ⟨g7, 3, none⟩ = some (.bool d'.armed) := (blk_cell B76.out 3).trans rfl
          have y4 : w6.cell? ⟨g7, 4, none⟩ = some (.bool d'.down) := (blk_cell B76.out 4).trans rfl
          go_wp2_with (first
            | ((with_reducible refine gate_ (.store 36 (.tmp 4) (.tmp 40)) rfl ?_); refine put_event (g := g4) (e := 36) rfl rfl 36 (.tmp 4) (.tmp 40) rfl rfl (.agg #[.slice D0 d'.safe.length n0, .slice D1 d'.loose.length n1, .int .i64 d'.left, .bool d'.armed, .bool d'.down]) rfl (cs' := #[.slice D0 d'.safe.length n0, .slice D1 d'.loose.length n1, .int .i64 d'.left, .bool d'.armed, .bool d'.down]) rfl (by kernel_rfl) (by simp [Value.oneCell']) HA6.out.b rfl ?_; intro w7 b4 hg4; have HA7 := Aside0.mk (HA6.out.turned (d' := d') (A0' := D0) (c0' := n0) (A1' := D1) (c1' := n1) ⟨HV06.out, HV16.out⟩ HOK6.out HR6.out b4 hg4); have HB7 := Aside0.mk (Below.grown HB6.out hg4 HB6.out.size (fun k hk => by cases hk; exact G4.out)); clear b4 hg4; have z0 : w7.cell? ⟨g4, 0, none⟩ = some (.slice D0 d'.safe.length n0) := (blk_cell HA7.out.b 0).trans rfl; have z1 : w7.cell? ⟨g4, 1, none⟩ = some (.slice D1 d'.loose.length n1) := (blk_cell HA7.out.b 1).trans rfl; have z2 : w7.cell? ⟨g4, 2, none⟩ = some (.int .i64 d'.left) := (blk_cell HA7.out.b 2).trans rfl; have z3 : w7.cell? ⟨g4, 3, none⟩ = some (.bool d'.armed) := (blk_cell HA7.out.b 3).trans rfl; have z4 : w7.cell? ⟨g4, 4, none⟩ = some (.bool d'.down) := (blk_cell HA7.out.b 4).trans rfl)
            | (go_at_call 17; (with_reducible refine (Shows_says w7 HA7.out.rep.rep HOK1.out n8040 HSIM.out HSZ.out HA7.out.ref).mono ?_); rintro e w8 ⟨rfl, hb⟩; have HA8 := Aside0.mk (HA7.out.below hb); have HB8 := Aside0.mk (below_step HB7.out hb); clear hb)
            | fail)
          go_roundw
          case rel => exact ⟨i + 1, d', D0, n0, D1, n1, _, by go_num, LT.out, by rw [HST.out]; exact HA8, ⟨by rw [HST.out]; exact HSIM.out⟩, HS1, HB8⟩
          case measure => simp [intOf]; have := LT.out; omega
      · have hk' : i = l.length := by omega
        subst hk'
        have hlt' : ¬ ((l.length : Int) < (l.length : Int)) := by omega
        have HOK := Aside0.mk (Ok.played0 l HW.out hF l.length)
        have HSZ := Aside0.mk (show size d ≤ 1000 by have := HN.out; have := hF.1; omega)
        have z0 : wr.cell? ⟨g4, 0, none⟩ = some (.slice A0 d.safe.length c0) := (blk_cell HA.out.b 0).trans rfl
        have z1 : wr.cell? ⟨g4, 1, none⟩ = some (.slice A1 d.loose.length c1) := (blk_cell HA.out.b 1).trans rfl
        have z2 : wr.cell? ⟨g4, 2, none⟩ = some (.int .i64 d.left) := (blk_cell HA.out.b 2).trans rfl
        have z3 : wr.cell? ⟨g4, 3, none⟩ = some (.bool d.armed) := (blk_cell HA.out.b 3).trans rfl
        have z4 : wr.cell? ⟨g4, 4, none⟩ = some (.bool d.down) := (blk_cell HA.out.b 4).trans rfl
        go_wp2_with (first
          | (go_at_call 17; (with_reducible refine (Shows_says _ HA.out.rep.rep HOK.out n8040 HS.out HSZ.out HA.out.ref).mono ?_); rintro e w8 ⟨rfl, hb⟩; have HB8 := Aside0.mk (below_step HB.out hb); clear hb)
          | fail)
        go_ret
        exact ⟨rfl, below_step HBf.out HB8.out⟩
  · go_wp2_with (first
      | (go_at_call 8; (with_reducible refine (awake_calls w).mono ?_); rintro e wa ⟨rfl, hb⟩; have HXa := Aside0.mk (Kd.C_below HX.out hb); have HBa := Aside0.mk hb; clear hb)
      | (go_at_call 14; (with_reducible refine (Few_false wa HXa.out hc hF).mono ?_); rintro e wf ⟨rfl, hb⟩; have HBf := Aside0.mk (below_step HBa.out hb); clear hb HX HXa HBa)
      | (go_at_call 8; (with_reducible refine (awake_calls wf).mono ?_); rintro e wb ⟨rfl, hb⟩; have HBb := Aside0.mk (below_step HBf.out hb); clear hb)
      | fail)
    go_ret
    exact ⟨rfl, HBb.out⟩
end Go.Proofs.Ytpagajgpcmonkaa.PDisk
