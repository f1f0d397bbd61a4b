/- The walk of DiskClones. -/
import Derived.Test.YtpagajgpcmonkaaDiskPair
namespace Go.Proofs.Ytpagajgpcmonkaa.PDisk
open Go.RowKit Go.Proofs.YtpagajgpcmonkaaW.PrintWords Go.Proofs.YtpagajgpcmonkaaW.PrintLast Go.Proofs.YtpagajgpcmonkaaW.PrintMore
set_option linter.unusedVariables false
set_option linter.unusedSimpArgs false
def clones_R9.T : Bool × List (List Nat × List Nat) := (true, [([], []), ([], []), ([], []), ([1, 2], [1, 2]), ([3], [3]), ([0, 4], [0, 4]), ([5], [5]), ([6], [6]), ([6], [6]), ([7, 5, 0, 1, 2, 3, 4, 5, 6, 7], [7])])
def clones_R9.B : List Nat := [0, 0, 0, 6, 14, 31, 63, 127, 127, 255]
theorem clones_R9.tab : rtab .any (opsOf Try.f6 9) = clones_R9.T := by kernel_rfl
theorem clones_R9.bits : waitsOk clones_R9.T.2 clones_R9.B = true := by kernel_rfl
def clones_R16.T : Bool × List (List Nat × List Nat) := (true, [([], []), ([], []), ([], []), ([1, 2], [1, 2]), ([3], [3]), ([0, 4], [0, 4]), ([5], [5]), ([6], [6]), ([6], [6]), ([7, 5, 0, 1, 2, 3, 4, 5, 6, 7], [7])])
def clones_R16.B : List Nat := [0, 0, 0, 6, 14, 31, 63, 127, 127, 255]
theorem clones_R16.tab : rtab .any (opsOf Try.f6 16) = clones_R16.T := by kernel_rfl
theorem clones_R16.bits : waitsOk clones_R16.T.2 clones_R16.B = true := by kernel_rfl
theorem Rep.ge {B : Nat} {W : World} {p : Nat} {s : AD} (h : Rep B W p s) : B ≤ p := by
  obtain ⟨v0, v1, u0, u1, lo, hB, _⟩ := h
  exact hB
/-- all that lay there stays, but one variable of the law's own -/
def Agree (W0 W : World) (g : Nat) : Prop := ∀ k, k < W0.heap.size → k ≠ g → W.heap[k]? = W0.heap[k]?
theorem Agree.below {W0 W W' : World} {g : Nat} (h : Agree W0 W g) (hb : Below W0.heap.size W W') : Agree W0 W' g := fun k hk hg => (hb.block k hk).trans (h k hk hg)
theorem Agree.put {W0 W W' : World} {g : Nat} (h : Agree W0 W g) (hs : W0.heap.size ≤ W.heap.size) (hg : W.grownBy W' (some g)) : Agree W0 W' g := fun k hk hne => (hg.block k (Nat.lt_of_lt_of_le hk hs) (fun he => hne (Option.some.inj he))).trans (h k hk hne)
theorem Rep.agree {B : Nat} {W0 W : World} {p g : Nat} {s : AD} {cs : Array Value} (h : Rep B W0 p s) (ha : Agree W0 W g) (hg : W0.heap[g]? = some (.cells cs 36 (0, 0))) : Rep B W p s := by
  obtain ⟨v0, v1, u0, u1, lo, hB, hp, h0, h1, k0, k1, hl⟩ := h
  have kt : ∀ (t : TypeId), t ≠ 36 → Keeps t W0 W := fun t ht q cs' hq => (ha q (blk_lt hq) (fun he => blk_ne hq hg ht he)).trans hq
  exact ⟨v0, v1, u0, u1, lo, hB, kt 58 (by decide) _ _ hp, h0.keep (kt 5 (by decide)), h1.keep (kt 5 (by decide)), k0.keep (kt 5 (by decide)), k1.keep (kt 5 (by decide)), hl.keep (kt 5 (by decide)) (kt 62 (by decide))⟩
theorem RefAt.agree {ok : Nat → Prop} {W0 W : World} {g : Nat} {d : RD} {A0 A1 : Option Addr} {c0 c1 : Nat} (h : RefAt ok W0 d A0 c0 A1 c1) (ha : Agree W0 W g) (hg : ∀ k, ok k → k ≠ g) : RefAt ok W d A0 c0 A1 c1 :=
  ⟨Kd.V_step h.v0 (fun k ho hk => ha k hk (hg k ho)), Kd.V_step h.v1 (fun k ho hk => ha k hk (hg k ho))⟩
theorem n16080 : 16080 ≤ 500000000 := by decide
set_option maxHeartbeats 16000000 in
set_option maxRecDepth 100000 in
theorem DiskClones_calls (A : Option Addr) (c : Nat) (l : List S39) (Am : Option Addr) (cm : Nat) (m : List S39) (w : World) (hx : Kd.C k39 w A l.length l) (hc : l.length ≤ c) (hy : Kd.C k39 w Am m.length m) (hd : m.length ≤ cm) (hw : ∀ x ∈ l, okAct x) (hv : ∀ x ∈ m, okAct x) :
    Calls Try.prog 6 #[.slice A l.length c, .slice Am m.length cm] w fun e w' => e = .returned (.bool true) ∧ Below w.heap.size w w' := by
  have HX := Aside0.mk hx
  have HY := Aside0.mk hy
  have HW := Aside0.mk hw
  have HU := Aside0.mk hv
  clear hx hw hy hv
  go_enter Try.func6, Try.ntmps6
  by_cases hF : Few l
  rotate_left
  go_wp2_with (first
    | (go_at_call 8; (with_reducible refine (awake_calls w).mono ?_); rintro e wa ⟨rfl, hb⟩; have HXa := Aside0.mk (Kd.C_below HX.out hb); have HYa := Aside0.mk (Kd.C_below HY.out hb); have HBa := Aside0.mk hb; clear hb)
    | (go_at_call 14; (with_reducible refine (Few_false wa HXa.out hc hF).mono ?_); rintro e wg ⟨rfl, hb⟩; have HYg := Aside0.mk (Kd.C_below HYa.out hb); have HXg := Aside0.mk (Kd.C_below HXa.out hb); have HBg := Aside0.mk (below_step HBa.out hb); clear hb)
    | (go_at_call 8; (with_reducible refine (awake_calls wg).mono ?_); rintro e wb ⟨rfl, hb⟩; have HBb := Aside0.mk (below_step HBg.out hb); clear hb)
    | fail)
  go_ret
  exact ⟨rfl, HBb.out⟩
  by_cases hG : Few m
  rotate_left
  go_wp2_with (first
    | (go_at_call 8; (with_reducible refine (awake_calls w).mono ?_); rintro e wa ⟨rfl, hb⟩; have HXa := Aside0.mk (Kd.C_below HX.out hb); have HYa := Aside0.mk (Kd.C_below HY.out hb); have HBa := Aside0.mk hb; clear hb)
    | (go_at_call 14; (with_reducible refine (Few_true wa HXa.out hc hF).mono ?_); rintro e wg ⟨rfl, hb⟩; have HYg := Aside0.mk (Kd.C_below HYa.out hb); have HXg := Aside0.mk (Kd.C_below HXa.out hb); have HBg := Aside0.mk (below_step HBa.out hb); clear hb)
    | (go_at_call 14; (with_reducible refine (Few_false wg HYg.out hd hG).mono ?_); rintro e wf ⟨rfl, hb⟩; have HYf := Aside0.mk (Kd.C_below HYg.out hb); have HXf := Aside0.mk (Kd.C_below HXg.out hb); have HBf := Aside0.mk (below_step HBg.out hb); clear hb HX HY HXa HYa HBa HXg HYg HBg)
    | (go_at_call 8; (with_reducible refine (awake_calls wf).mono ?_); rintro e wb ⟨rfl, hb⟩; have HBb := Aside0.mk (below_step HBf.out hb); clear hb)
    | fail)
  go_ret
  exact ⟨rfl, HBb.out⟩
  go_wp2_with (first
    | (go_at_call 8; (with_reducible refine (awake_calls w).mono ?_); rintro e wa ⟨rfl, hb⟩; have HXa := Aside0.mk (Kd.C_below HX.out hb); have HYa := Aside0.mk (Kd.C_below HY.out hb); have HBa := Aside0.mk hb; clear hb)
    | (go_at_call 14; (with_reducible refine (Few_true wa HXa.out hc hF).mono ?_); rintro e wg ⟨rfl, hb⟩; have HYg := Aside0.mk (Kd.C_below HYa.out hb); have HXg := Aside0.mk (Kd.C_below HXa.out hb); have HBg := Aside0.mk (below_step HBa.out hb); clear hb)
    | (go_at_call 14; (with_reducible refine (Few_true wg HYg.out hd hG).mono ?_); rintro e wf ⟨rfl, hb⟩; have HYf := Aside0.mk (Kd.C_below HYg.out hb); have HXf := Aside0.mk (Kd.C_below HXg.out hb); have HBf := Aside0.mk (below_step HBg.out hb); clear hb HX HY HXa HYa HBa HXg HYg HBg)
    | (go_at_call 9; (with_reducible refine (new_calls wf).mono ?_); rintro e wn ⟨rfl, hR, hb⟩; have HRn := Aside0.mk hR; have HBn := Aside0.mk hb; clear hR hb)
    | ((with_reducible refine gate_dst (N := 6) rfl ?_); refine box_event ?hg (N := 6) ?hd (cs := #[.slice none 0 0, .slice none 0 0, .int .i64 0, .bool false, .bool false]) (t := 36) ?hr ?_; (case hd => rfl); (case hg => rfl); (case hr => first | (go_simp; done) | (go_simp; rfl)); intro g6 e6 wb b6 hb; have B6 := Aside0.mk b6; have E6 := Aside0.mk e6; have HRb := Aside0.mk (RepL.below (HRn.out.freshL (Y := fun k => False ∨ k = g6) (fun k hk => by rcases hk with hk | hk; exact hk.elim; omega)) hb); have HBb := Aside0.mk (below_step HBn.out hb); clear b6 hb e6)
    | ((with_reducible refine gate_ (.store 36 (.tmp 6) (.tmp 25)) rfl ?_); refine put_event (g := g6) (e := 36) rfl rfl 36 (.tmp 6) (.tmp 25) rfl rfl (.agg #[.slice none 0 0, .slice none 0 0, .int .i64 0, .bool false, .bool false]) rfl (cs' := #[.slice none 0 0, .slice none 0 0, .int .i64 0, .bool false, .bool false]) rfl (by kernel_rfl) (by simp [Value.oneCell']) B6.out rfl ?_; intro wc b6 hg; have G6 := Aside0.mk (show wf.heap.size ≤ g6 by have h1 := E6.out; have h2 := HRn.out.lt; omega); have GP := Aside0.mk (show g6 ≠ wf.heap.size by have h1 := E6.out; have h2 := HRn.out.lt; omega); have HBc := Aside0.mk (Below.grown HBb.out hg HBb.out.size (fun k hk => by cases hk; exact G6.out)); have HAc := Aside0.mk (show AL (fun _ => False) wf.heap.size wc wf.heap.size g6 (playAll new (l.take 0)) RD.new none 0 none 0 from (AL.turned (d := RD.new) (A0 := none) (c0 := 0) (A1 := none) (c1 := 0) (ok := fun _ => False) ⟨HRb.out, B6.out, ⟨Kd.V_nil _ _ _ _ _, Kd.V_nil _ _ _ _ _⟩, fun _ h => h.elim, GP.out⟩ ⟨Kd.V_nil _ _ _ _ _, Kd.V_nil _ _ _ _ _⟩ (fun _ h => h.elim) HRb.out b6 hg)); clear b6 hg)
    | fail)
  go_loopw [7] (fun v7 W => ∃ (i : Nat) (d : RD) (A0 : Option Addr) (c0 : Nat) (A1 : Option Addr) (c1 : Nat) (ok : Nat → Prop), v7 = .int .i64 i ∧ i ≤ l.length ∧ Aside0 (AL ok wf.heap.size W wf.heap.size g6 (playAll new (l.take i)) d A0 c0 A1 c1) ∧ Aside0 (Sim (playAll new (l.take i)) d) ∧ Aside0 (size d ≤ 0 + i) ∧ Aside0 (Below wf.heap.size wf W)) (fun v7 _ => l.length - (intOf v7).toNat)
  case atStart => exact ⟨0, RD.new, none, 0, none, 0, _, rfl, Nat.zero_le _, HAc, ⟨Sim.new⟩, ⟨Nat.le_refl _⟩, HBc⟩
  case round =>
    clear HAc HBc HRn HBn HRb HBb B6 E6
    obtain ⟨i, d, A0, c0, A1, c1, ok, rfl, hi, HA, HS, HN, HB⟩ := hrel
    have hi9 : i < 500000000 := by have := hF.1; omega
    by_cases hlt : i < l.length
    · have BQ := Aside0.mk (Nat.lt_succ_self wf.heap.size)
      obtain ⟨ad, A2, c2, e, h0, h1, h2, h3, h4, hl2, hi2⟩ := at_T39 HXf.out (i : Int) (by omega) (by omega)
      subst e
      rw [rdT_get l i hlt] at h0 h1 h2 h3 h4 hl2 hi2
      rw [Int.toNat_natCast] at h0 h1 h2 h3 h4
      have HST := Aside0.mk (playAll_step new l i hlt)
      have HOK := Aside0.mk (Ok.played0 l HW.out hF i)
      have hk := HW.out _ (List.getElem_mem hlt)
      have hf := hF.2 _ (List.getElem_mem hlt)
      obtain ⟨d', hdo, hsim, hsz⟩ := do_f 0 HS.out (l[i]) hk hf (by have := HN.out; have := hF.1; omega)
      generalize (l[i]) = x at h0 h1 h2 h3 h4 hl2 hi2 HST hk hf hdo hsim
      obtain ⟨E, hE⟩ : ∃ E, playE (playAll new (l.take i)) x = E := ⟨_, rfl⟩
      obtain ⟨s', hs'⟩ : ∃ s', (playAll new (l.take i)).play x = s' := ⟨_, rfl⟩
      rw [hE] at hdo
      rw [hs'] at hsim HST
      have HE := Aside0.mk hE
      have HSP := Aside0.mk hs'
      have HDO := Aside0.mk (show lockgateref07_Do.f 2 d.safe d.loose d.left d.armed d.down x.f0 x.f1 x.f2 x.f3 x.f4 = some (d'.safe, d'.loose, d'.left, d'.armed, d'.down, E) from hdo)
      have HSIM := Aside0.mk hsim
      have HS1 := Aside0.mk (show size d' ≤ 0 + (i + 1) by have := HN.out; omega)
      have HF2 := Aside0.mk (okx hi2)
      have HI2 := Aside0.mk hi2
      have HL2 := Aside0.mk hl2
      have HK := Aside0.mk hk
      have HFL := Aside0.mk hf
      have E0 := Aside0.mk h0
      have E1 := Aside0.mk h1
      have E2 := Aside0.mk h2
      have E3 := Aside0.mk h3
      have E4 := Aside0.mk h4
      clear h0 h1 h2 h3 h4 hdo hsim hsz hk hf hi2 hE hs'
      have h0 := cellB HB.out E0.out
      have h1 := cellB HB.out E1.out
      have h2 := cellB HB.out E2.out
      have h3 := cellB HB.out E3.out
      have h4 := cellB HB.out E4.out
      have hlt' : (i : Int) < (l.length : Int) := by omega
      have LT := Aside0.mk hlt
      go_wp2_with fail
      refine (Play_E _ HA.out.rep HA.out.ylt HOK.out n8040 x (Kd.C_below HI2.out HB.out) HL2.out (by have := HFL.out; omega) HK.out.1 HK.out.2.1 HE.out HSP.out).mono ?_
      rintro e w2 ⟨rfl, hr, hb, hk⟩
      have HA2 := Aside0.mk (HA.out.acted hr hb.size hk)
      have HB2 := Aside0.mk (HB.out.trans (hb.mono (Nat.le_refl _)))
      clear hr hb hk HA HB h0 h1 h2 h3 h4 BQ
      have BQ := Aside0.mk (Nat.le_refl wf.heap.size)
      have PQ := Aside0.mk (Nat.le_refl wf.heap.size)
      go_wp2_with fail
      refine start_ (n := 10) (S := fun w' => w'.cell? ⟨g6, 0, none⟩ = some (.slice A0 d.safe.length c0) ∧ w'.cell? ⟨g6, 1, none⟩ = some (.slice A1 d.loose.length c1) ∧ w'.cell? ⟨g6, 2, none⟩ = some (.int .i64 d.left) ∧ w'.cell? ⟨g6, 3, none⟩ = some (.bool d.armed) ∧ w'.cell? ⟨g6, 4, none⟩ = some (.bool d.down) ∧ w'.cell? (ad.add (i * 5)) = some (.int .u8 x.f0) ∧ w'.cell? ⟨(ad.add (i * 5)).block, (ad.add (i * 5)).off + 1, none⟩ = some (.int .i64 x.f1) ∧ w'.cell? ⟨(ad.add (i * 5)).block, (ad.add (i * 5)).off + 2, none⟩ = some (.slice A2 x.f2.length c2) ∧ w'.cell? ⟨(ad.add (i * 5)).block, (ad.add (i * 5)).off + 3, none⟩ = some (.int .i64 x.f3) ∧ w'.cell? ⟨(ad.add (i * 5)).block, (ad.add (i * 5)).off + 4, none⟩ = some (.int .i64 x.f4)) (ds := [9]) #[false, false, false, false, false, false, false, false, false, false] (by kernel_rfl) rfl rfl ⟨(blk_cell HA2.out.b 0).trans rfl, (blk_cell HA2.out.b 1).trans rfl, (blk_cell HA2.out.b 2).trans rfl, (blk_cell HA2.out.b 3).trans rfl, (blk_cell HA2.out.b 4).trans rfl, cellB (below_drew HB2.out) E0.out, cellB (below_drew HB2.out) E1.out, cellB (below_drew HB2.out) E2.out, cellB (below_drew HB2.out) E3.out, cellB (below_drew HB2.out) E4.out⟩ (fun hHeld => ?_); refine with_tabW clones_R9.tab clones_R9.bits (fun HT_ HW_ => ?_)
      have HA3 := Aside0.mk (HA2.out.below (below_drew (Below.refl _ w2)))
      have HB3 := Aside0.mk (below_drew HB2.out)
      clear HA2 HB2
      generalize w2.drew = w3 at HA3 HB3 hHeld ⊢
      refine pure_ (i := 1) (N := some 40) (v := ?_) (a' := ?_) #[false, true, false, false, false, false, false, false, false, false] rfl rfl (any_of HT_.out (by kernel_rfl)) (fun _ _ _ h => h) (Or.inl ⟨by rfl, ?_⟩) ?_ ?_
      rotate_left
      · intro w'
        go_simp
        with_reducible rfl
      rotate_left
      · simp only [Act.put, List.setIfInBounds_toArray, List.set_cons_zero, List.set_cons_succ, i64_w, i32_w]
        rfl
      refine pure_ (i := 2) (N := some 41) (v := ?_) (a' := ?_) #[false, true, true, false, false, false, false, false, false, false] rfl rfl (any_of HT_.out (by kernel_rfl)) (fun _ _ _ h => h) (Or.inl ⟨by rfl, ?_⟩) ?_ ?_
      rotate_left
      · intro w'
        go_simp
        with_reducible rfl
      rotate_left
      · simp only [Act.put, List.setIfInBounds_toArray, List.set_cons_zero, List.set_cons_succ, i64_w, i32_w]
        rfl
      refine pure_ (i := 3) (N := some 42) (v := ?_) (a' := ?_) #[false, true, true, true, false, false, false, false, false, false] rfl rfl (any_of HT_.out (by kernel_rfl)) (fun _ _ _ h => h) (Or.inl ⟨by rfl, ?_⟩) ?_ ?_
      rotate_left
      · intro w'
        go_simp
        with_reducible rfl
      rotate_left
      · simp only [Act.put, List.setIfInBounds_toArray, List.set_cons_zero, List.set_cons_succ, i64_w, i32_w]
        rfl
      refine take_ (i := 0) (N := some 39) (v := ?_) (a' := ?_) #[true, true, true, true, false, false, false, false, false, false] rfl rfl (take_ofW HT_.out HW_.out (by kernel_rfl)) (fun _ _ _ h => h) (Or.inl ⟨by rfl, ?_⟩) hHeld ?_ ?_
      rotate_left
      · rintro w' ⟨s0, s1, s2, s3, s4, s5, s6, s7, s8, s9⟩
        go_simp
        with_reducible rfl
      rotate_left
      · simp only [Act.put, List.setIfInBounds_toArray, List.set_cons_zero, List.set_cons_succ, i64_w, i32_w]
        rfl
      refine take_ (i := 4) (N := some 43) (v := ?_) (a' := ?_) #[true, true, true, true, true, false, false, false, false, false] rfl rfl (take_ofW HT_.out HW_.out (by kernel_rfl)) (fun _ _ _ h => h) (Or.inl ⟨by rfl, ?_⟩) hHeld ?_ ?_
      rotate_left
      · rintro w' ⟨s0, s1, s2, s3, s4, s5, s6, s7, s8, s9⟩
        go_simp
        with_reducible rfl
      rotate_left
      · simp only [Act.put, List.setIfInBounds_toArray, List.set_cons_zero, List.set_cons_succ, i64_w, i32_w]
        rfl
      refine one_ (i := 5) (N := some 44) #[true, true, true, true, true, true, false, false, false, false] rfl rfl (one_of HT_.out (by kernel_rfl)) (by decide) (fun K hK => ?_)
      refine goes_ Try.func16 (by kernel_rfl) rfl #[.agg #[.slice A0 d.safe.length c0, .slice A1 d.loose.length c1, .int .i64 d.left, .bool d.armed, .bool d.down], .agg #[.int .u8 x.f0, .int .i64 x.f1, .slice A2 x.f2.length c2, .int .i64 x.f3, .int .i64 x.f4]] (by rfl) rfl rfl (by (try simp only [List.map_toArray, List.map_cons, List.map_nil]); first | done | rfl) ?_
      refine (lockgateref07_Do.calls 2 ok A0 c0 d.safe ok A1 c1 d.loose d.left d.armed d.down x.f0 x.f1 (fun k => k < wf.heap.size) A2 c2 x.f2 x.f3 x.f4 d'.safe d'.loose d'.left d'.armed d'.down E w3 HA3.out.ref.v0 HA3.out.ref.v1 (Kd.V_mk HL2.out (Kd.F_below HF2.out HB3.out)) HDO.out).mono ?_
      rintro e w4 ⟨v0, v1, rfl, hv0, hv1, hb⟩
      obtain ⟨D0, n0, e0'⟩ := Kd.V_slice hv0
      obtain ⟨D1, n1, e1'⟩ := Kd.V_slice hv1
      subst e0'; subst e1'
      refine ⟨_, rfl, ?_⟩
      have BW4 := Aside0.mk hb
      have HV0 := Aside0.mk (Kd.V_mono (Kd.V_bound hv0) (ok' := (fun k => ((ok k ∨ k < wf.heap.size) ∨ w3.heap.size ≤ k) ∧ k < w4.heap.size)) (fun k hk => ⟨hk.1.elim (fun h => h.elim (fun h => .inl (.inl h)) (fun h => h.elim (fun h => .inl (.inl h)) (fun h => .inl (.inr h)))) (fun h => .inr h), hk.2⟩))
      have HV1 := Aside0.mk (Kd.V_mono (Kd.V_bound hv1) (ok' := (fun k => ((ok k ∨ k < wf.heap.size) ∨ w3.heap.size ≤ k) ∧ k < w4.heap.size)) (fun k hk => ⟨hk.1.elim (fun h => h.elim (fun h => .inl (.inl h)) (fun h => h.elim (fun h => .inl (.inl h)) (fun h => .inl (.inr h)))) (fun h => .inr h), hk.2⟩))
      clear hv0 hv1 hb
      refine hK.out _ _ ⟨(blk_cell (HA3.out.below BW4.out).b 0).trans rfl, (blk_cell (HA3.out.below BW4.out).b 1).trans rfl, (blk_cell (HA3.out.below BW4.out).b 2).trans rfl, (blk_cell (HA3.out.below BW4.out).b 3).trans rfl, (blk_cell (HA3.out.below BW4.out).b 4).trans rfl, cellB (below_step HB3.out BW4.out) E0.out, cellB (below_step HB3.out BW4.out) E1.out, cellB (below_step HB3.out BW4.out) E2.out, cellB (below_step HB3.out BW4.out) E3.out, cellB (below_step HB3.out BW4.out) E4.out⟩ (fun hHeld2 => ?_)
      clear hHeld hHeld2
      clear hK K
      refine norm_ (a' := ?_) ?_ ?_
      rotate_left
      · show Act.put _ (some 44) _ = _
        simp only [Act.put, List.setIfInBounds_toArray, List.set_cons_zero, List.set_cons_succ, i64_w, i32_w]
        rfl
      refine pure_ (i := 6) (N := some 38) (v := ?_) (a' := ?_) #[true, true, true, true, true, true, true, false, false, false] rfl rfl (any_of HT_.out (by kernel_rfl)) (fun _ _ _ h => h) (Or.inl ⟨by rfl, ?_⟩) ?_ ?_
      rotate_left
      · intro w'
        go_simp
        with_reducible rfl
      rotate_left
      · simp only [Act.put, List.setIfInBounds_toArray, List.set_cons_zero, List.set_cons_succ, i64_w, i32_w]
        rfl
      refine pure_ (i := 7) (N := some 45) (v := ?_) (a' := ?_) #[true, true, true, true, true, true, true, true, false, false] rfl rfl (any_of HT_.out (by kernel_rfl)) (fun _ _ _ h => h) (Or.inl ⟨by rfl, ?_⟩) ?_ ?_
      rotate_left
      · intro w'
        go_simp
        with_reducible rfl
      rotate_left
      · simp only [Act.put, List.setIfInBounds_toArray, List.set_cons_zero, List.set_cons_succ, i64_w, i32_w]
        rfl
      refine pure_ (i := 8) (N := some 46) (v := ?_) (a' := ?_) #[true, true, true, true, true, true, true, true, true, false] rfl rfl (any_of HT_.out (by kernel_rfl)) (fun _ _ _ h => h) (Or.inl ⟨by rfl, ?_⟩) ?_ ?_
      rotate_left
      · intro w'
        go_simp
        with_reducible rfl
      rotate_left
      · simp only [Act.put, List.setIfInBounds_toArray, List.set_cons_zero, List.set_cons_succ, i64_w, i32_w]
        rfl
      refine last_ (i := 9) (N := none) #[true, true, true, true, true, true, true, true, true, true] rfl rfl (one_of HT_.out (by kernel_rfl)) (by decide) (fun K hK => ?_)
      have HR4 := Aside0.mk (RepL.below (HA3.out.rep.or3 (Y' := fun k => (fun k => ((ok k ∨ k < wf.heap.size) ∨ w3.heap.size ≤ k) ∧ k < w4.heap.size) k ∨ k = g6) (fun k hk => by
        rcases hk with hk | hk
        · rcases hk.1 with (h | h) | h
          · exact .inl (.inl h)
          · exact .inr (.inl (by have := BQ.out; omega))
          · exact .inr (.inr h)
        · exact .inl (.inr hk))) BW4.out)
      have HOK4 := Aside0.mk (show ∀ k, (fun k => ((ok k ∨ k < wf.heap.size) ∨ w3.heap.size ≤ k) ∧ k < w4.heap.size) k → k < w4.heap.size ∧ k ≠ wf.heap.size ∧ k ≠ g6 from fun k hk => by
        have h1 := hk.2
        have h3 := HA3.out.rep.rep.lt
        have h4 := G6.out
        have h5 := blk_lt HA3.out.b
        have h6 := PQ.out
        refine ⟨by omega, ?_⟩
        rcases hk.1 with (h | h) | h
        · exact (HA3.out.okl k h).2
        · exact ⟨by omega, by omega⟩
        · exact ⟨by omega, by omega⟩)
      refine put_step (by rfl) rfl 36 (.tmp 6) (.tmp 45) rfl (g := g6) (by rfl) (.agg #[.slice D0 d'.safe.length n0, .slice D1 d'.loose.length n1, .int .i64 d'.left, .bool d'.armed, .bool d'.down]) (by rfl) (cs' := #[.slice D0 d'.safe.length n0, .slice D1 d'.loose.length n1, .int .i64 d'.left, .bool d'.armed, .bool d'.down]) rfl (by kernel_rfl) (by simp [Value.oneCell']) (HA3.out.below BW4.out).b rfl ?_
      intro w6 b6 hg6
      have HA6 := Aside0.mk ((HA3.out.below BW4.out).turned (d' := d') (A0' := D0) (c0' := n0) (A1' := D1) (c1' := n1) ⟨HV0.out, HV1.out⟩ HOK4.out HR4.out b6 hg6)
      have HB6 := Aside0.mk (Below.grown (below_step HB3.out BW4.out) hg6 (below_step HB3.out BW4.out).size (fun k hk => by cases hk; exact G6.out))
      clear b6 hg6
      refine hK.out _ _ ?_
      clear hK K
      refine done_ (done_of HT_.out (by kernel_rfl)) ?_
      go_wp2
      go_roundw
      case rel => exact ⟨i + 1, d', D0, n0, D1, n1, _, by go_num, LT.out, by rw [HST.out]; exact HA6, ⟨by rw [HST.out]; exact HSIM.out⟩, HS1, HB6⟩
      case measure => simp [intOf]; have := LT.out; omega
    · have hk' : i = l.length := by omega
      subst hk'
      have hlt' : ¬ ((l.length : Int) < (l.length : Int)) := by omega
      have HOK := Aside0.mk (Ok.played0 l HW.out hF l.length)
      have HSZ := Aside0.mk (show size d ≤ 40 by have := HN.out; have := hF.1; omega)
      obtain ⟨wq, hwq⟩ : ∃ wq, wq = wr := ⟨_, rfl⟩
      subst hwq
      generalize playAll new (l.take l.length) = P at HA HS HOK
      clear hlt hi HN
      go_wp2_with (first
        | (go_at_call 24; (with_reducible refine (Clone_calls wq HA.out.rep.rep HOK.out n8040).mono ?_); rintro e wc ⟨q, rfl, hR, hb⟩; have HRq := Aside0.mk hR; have HBq := Aside0.mk hb; have HAq := Aside0.mk (HA.out.below hb); have z0 : wc.cell? ⟨g6, 0, none⟩ = some (.slice A0 d.safe.length c0) := (blk_cell HAq.out.b 0).trans rfl; have z1 : wc.cell? ⟨g6, 1, none⟩ = some (.slice A1 d.loose.length c1) := (blk_cell HAq.out.b 1).trans rfl; have z2 : wc.cell? ⟨g6, 2, none⟩ = some (.int .i64 d.left) := (blk_cell HAq.out.b 2).trans rfl; have z3 : wc.cell? ⟨g6, 3, none⟩ = some (.bool d.armed) := (blk_cell HAq.out.b 3).trans rfl; have z4 : wc.cell? ⟨g6, 4, none⟩ = some (.bool d.down) := (blk_cell HAq.out.b 4).trans rfl; clear hR hb)
        | ((with_reducible refine gate_dst (N := 9) rfl ?_); refine box_event ?hg (N := 9) ?hd (cs := #[.slice none 0 0, .slice none 0 0, .int .i64 0, .bool false, .bool false]) (t := 36) ?hr ?_; (case hd => rfl); (case hg => rfl); (case hr => first | (go_simp; done) | (go_simp; rfl)); intro g9 e9 wd b9 hb; have B9 := Aside0.mk b9; have E9 := Aside0.mk e9; have HBd := Aside0.mk hb; clear b9 hb e9 z0 z1 z2 z3 z4)
        | ((with_reducible refine gate_ (.store 36 (.tmp 9) (.tmp 49)) rfl ?_); refine put_event (g := g9) (e := 36) rfl rfl 36 (.tmp 9) (.tmp 49) rfl rfl (.agg #[.slice A0 d.safe.length c0, .slice A1 d.loose.length c1, .int .i64 d.left, .bool d.armed, .bool d.down]) rfl (cs' := #[.slice A0 d.safe.length c0, .slice A1 d.loose.length c1, .int .i64 d.left, .bool d.armed, .bool d.down]) rfl (by kernel_rfl) (by simp [Value.oneCell']) B9.out rfl ?_; intro we b9 hg; have B9e := Aside0.mk b9; have HBe := Aside0.mk (Below.grown HBd.out hg HBd.out.size (fun k hk => by cases hk; exact Nat.le_of_eq E9.out.symm)); clear b9 hg)
        | fail)
      have QG := Aside0.mk HRq.out.ge
      have QL := Aside0.mk HRq.out.lt
      have G9 := Aside0.mk (show wq.heap.size ≤ g9 by have := E9.out; have := HBq.out.size; omega)
      have BWe := Aside0.mk (below_step HBq.out HBe.out)
      have HBe2 := Aside0.mk (below_step HB.out BWe.out)
      have HAG := Aside0.mk (show Agree wq we g6 from fun k hk _ => BWe.out.block k hk)
      have BQ := Aside0.mk (show wf.heap.size < wq.heap.size from HA.out.rep.rep.lt)
      have HAe := Aside0.mk (show AL (fun k => ok k ∨ k = g9) wq.heap.size we q g6 (playAll P (m.take 0)) d A0 c0 A1 c1 from
        ⟨RepL.below ((HRq.out.freshL (Y := fun _ => False) (fun _ h => h.elim)).or3 (fun k hk => by
          rcases hk with (hk | hk) | hk
          · exact .inr (.inl (HA.out.okl k hk).1)
          · exact .inr (.inr (by have := E9.out; omega))
          · exact .inr (.inl (hk ▸ blk_lt HA.out.b)))) HBe.out, (HA.out.below BWe.out).b, ⟨Kd.V_mono (HA.out.below BWe.out).ref.v0 (fun k hk => .inl hk), Kd.V_mono (HA.out.below BWe.out).ref.v1 (fun k hk => .inl hk)⟩, fun k hk => by
          have h1 := QG.out
          have h2 := QL.out
          have h3 := BWe.out.size
          have h4 := blk_lt HA.out.b
          rcases hk with hk | rfl
          · have h5 := HA.out.okl k hk
            exact ⟨by omega, by omega, h5.2.2⟩
          · have h5 := E9.out
            have h6 := blk_lt B9e.out
            have h7 := HBq.out.size
            exact ⟨h6, by omega, by omega⟩, by have h1 := QG.out; have h4 := blk_lt HA.out.b; omega⟩)
      have HRP := Aside0.mk HA.out.rep.rep
      have HOKP := Aside0.mk HOK.out
      clear HOK
      have HB6P := Aside0.mk HA.out.b
      have HREF := Aside0.mk HA.out.ref
      have HO6 := Aside0.mk (fun k hk => (HA.out.okl k hk).2.2)
      have HS0 := Aside0.mk HS.out
      clear HA HAq HBq HBd HBe HB B9 HRq BWe
      obtain ⟨d1, hd1⟩ : ∃ d1, d1 = d := ⟨_, rfl⟩
      obtain ⟨a0, ha0⟩ : ∃ a0, a0 = A0 := ⟨_, rfl⟩
      obtain ⟨k0, hk0⟩ : ∃ k0, k0 = c0 := ⟨_, rfl⟩
      obtain ⟨a1, ha1⟩ : ∃ a1, a1 = A1 := ⟨_, rfl⟩
      obtain ⟨k1, hk1⟩ : ∃ k1, k1 = c1 := ⟨_, rfl⟩
      obtain ⟨ok1, hok1⟩ : ∃ ok1, ok1 = ok := ⟨_, rfl⟩
      rw [← hd1, ← ha0, ← hk0, ← ha1, ← hk1] at B9e
      rw [← hd1, ← ha0, ← hk0, ← ha1, ← hk1, ← hok1] at HREF
      rw [← hd1] at HS0
      rw [← hok1] at HO6
      have HSZ1 := Aside0.mk (show size d1 ≤ 1000 by rw [hd1]; have := HSZ.out; omega)
      clear hd1 ha0 hk0 ha1 hk1 hok1
      go_loopw [10] (fun v10 W => ∃ (i : Nat) (d : RD) (A0 : Option Addr) (c0 : Nat) (A1 : Option Addr) (c1 : Nat) (ok : Nat → Prop), v10 = .int .i64 i ∧ i ≤ m.length ∧ Aside0 (AL ok wq.heap.size W q g6 (playAll P (m.take i)) d A0 c0 A1 c1) ∧ Aside0 (Sim (playAll P (m.take i)) d) ∧ Aside0 (size d ≤ 40 + i) ∧ Aside0 (Below wf.heap.size wf W) ∧ Aside0 (ok g9) ∧ Aside0 (W.heap[g9]? = some (.cells #[.slice a0 d1.safe.length k0, .slice a1 d1.loose.length k1, .int .i64 d1.left, .bool d1.armed, .bool d1.down] 36 (0, 0))) ∧ Aside0 (Agree wq W g6)) (fun v10 _ => m.length - (intOf v10).toNat)
      case atStart => exact ⟨0, d, A0, c0, A1, c1, _, rfl, Nat.zero_le _, HAe, HS, HSZ, HBe2, ⟨.inr rfl⟩, B9e, HAG⟩
      case round =>
        clear HAe HS HBe2 B9e HAG HSZ
        obtain ⟨i, d, A0, c0, A1, c1, ok, rfl, hi, HA, HS, HN, HB, HK9, B9, HAG⟩ := hrel
        have hi9 : i < 500000000 := by have := hG.1; omega
        by_cases hlt : i < m.length
        · have HWR := Aside0.mk HA.out.rep.rep.base
          obtain ⟨ad, A2, c2, e, h0, h1, h2, h3, h4, hl2, hi2⟩ := at_T39 HYf.out (i : Int) (by omega) (by omega)
          subst e
          rw [rdT_get m i hlt] at h0 h1 h2 h3 h4 hl2 hi2
          rw [Int.toNat_natCast] at h0 h1 h2 h3 h4
          have HST := Aside0.mk (playAll_step P m i hlt)
          have HOK := Aside0.mk (HOKP.out.played m HU.out hG i)
          have hk := HU.out _ (List.getElem_mem hlt)
          have hf := hG.2 _ (List.getElem_mem hlt)
          obtain ⟨d', hdo, hsim, hsz⟩ := do_f 0 HS.out (m[i]) hk hf (by have := HN.out; have := hG.1; omega)
          generalize (m[i]) = x at h0 h1 h2 h3 h4 hl2 hi2 HST hk hf hdo hsim
          obtain ⟨E, hE⟩ : ∃ E, playE (playAll P (m.take i)) x = E := ⟨_, rfl⟩
          obtain ⟨s', hs'⟩ : ∃ s', (playAll P (m.take i)).play x = s' := ⟨_, rfl⟩
          rw [hE] at hdo
          rw [hs'] at hsim HST
          have HE := Aside0.mk hE
          have HSP := Aside0.mk hs'
          have HDO := Aside0.mk (show lockgateref07_Do.f 2 d.safe d.loose d.left d.armed d.down x.f0 x.f1 x.f2 x.f3 x.f4 = some (d'.safe, d'.loose, d'.left, d'.armed, d'.down, E) from hdo)
          have HSIM := Aside0.mk hsim
          have HS1 := Aside0.mk (show size d' ≤ 40 + (i + 1) by have := HN.out; omega)
          have HF2 := Aside0.mk (okx hi2)
          have HI2 := Aside0.mk hi2
          have HL2 := Aside0.mk hl2
          have HK := Aside0.mk hk
          have HFL := Aside0.mk hf
          have E0 := Aside0.mk h0
          have E1 := Aside0.mk h1
          have E2 := Aside0.mk h2
          have E3 := Aside0.mk h3
          have E4 := Aside0.mk h4
          clear h0 h1 h2 h3 h4 hdo hsim hsz hk hf hi2 hE hs'
          have h0 := cellB HB.out E0.out
          have h1 := cellB HB.out E1.out
          have h2 := cellB HB.out E2.out
          have h3 := cellB HB.out E3.out
          have h4 := cellB HB.out E4.out
          have hlt' : (i : Int) < (m.length : Int) := by omega
          have LT := Aside0.mk hlt
          go_wp2_with fail
          refine (Play_E _ HA.out.rep HA.out.ylt HOK.out n16080 x (Kd.C_below HI2.out HB.out) HL2.out (by have := HFL.out; omega) HK.out.1 HK.out.2.1 HE.out HSP.out).mono ?_
          rintro e w2 ⟨rfl, hr, hb, hk⟩
          have HA2 := Aside0.mk (HA.out.acted hr hb.size hk)
          have HB2 := Aside0.mk (HB.out.trans (hb.mono (Nat.le_of_lt BQ.out)))
          have B92 := Aside0.mk ((hk g9 (.inl HK9.out) (HA.out.okl g9 HK9.out).2.1).trans B9.out)
          have HAG2 := Aside0.mk (HAG.out.below hb)
          clear hr hb hk HA HB h0 h1 h2 h3 h4 B9 HAG
          have BQS := Aside0.mk (Nat.le_of_lt BQ.out)
          have PQ := Aside0.mk (show wf.heap.size ≤ q by have := BQ.out; have := QG.out; omega)
          go_wp2_with fail
          refine start_ (n := 10) (S := fun w' => w'.cell? ⟨g6, 0, none⟩ = some (.slice A0 d.safe.length c0) ∧ w'.cell? ⟨g6, 1, none⟩ = some (.slice A1 d.loose.length c1) ∧ w'.cell? ⟨g6, 2, none⟩ = some (.int .i64 d.left) ∧ w'.cell? ⟨g6, 3, none⟩ = some (.bool d.armed) ∧ w'.cell? ⟨g6, 4, none⟩ = some (.bool d.down) ∧ w'.cell? (ad.add (i * 5)) = some (.int .u8 x.f0) ∧ w'.cell? ⟨(ad.add (i * 5)).block, (ad.add (i * 5)).off + 1, none⟩ = some (.int .i64 x.f1) ∧ w'.cell? ⟨(ad.add (i * 5)).block, (ad.add (i * 5)).off + 2, none⟩ = some (.slice A2 x.f2.length c2) ∧ w'.cell? ⟨(ad.add (i * 5)).block, (ad.add (i * 5)).off + 3, none⟩ = some (.int .i64 x.f3) ∧ w'.cell? ⟨(ad.add (i * 5)).block, (ad.add (i * 5)).off + 4, none⟩ = some (.int .i64 x.f4)) (ds := [9]) #[false, false, false, false, false, false, false, false, false, false] (by kernel_rfl) rfl rfl ⟨(blk_cell HA2.out.b 0).trans rfl, (blk_cell HA2.out.b 1).trans rfl, (blk_cell HA2.out.b 2).trans rfl, (blk_cell HA2.out.b 3).trans rfl, (blk_cell HA2.out.b 4).trans rfl, cellB (below_drew HB2.out) E0.out, cellB (below_drew HB2.out) E1.out, cellB (below_drew HB2.out) E2.out, cellB (below_drew HB2.out) E3.out, cellB (below_drew HB2.out) E4.out⟩ (fun hHeld => ?_); refine with_tabW clones_R16.tab clones_R16.bits (fun HT_ HW_ => ?_)
          have HA3 := Aside0.mk (HA2.out.below (below_drew (Below.refl _ w2)))
          have HB3 := Aside0.mk (below_drew HB2.out)
          have B93 := Aside0.mk (show w2.drew.heap[g9]? = some (.cells #[.slice a0 d1.safe.length k0, .slice a1 d1.loose.length k1, .int .i64 d1.left, .bool d1.armed, .bool d1.down] 36 (0, 0)) from B92.out)
          have HAG3 := Aside0.mk (show Agree wq w2.drew g6 from HAG2.out)
          have HWR3 := Aside0.mk (show wq.heap.size ≤ w2.drew.heap.size from HA3.out.rep.rep.base)
          clear B92 HAG2 HWR
          clear HA2 HB2
          generalize w2.drew = w3 at HA3 HB3 hHeld B93 HAG3 HWR3 ⊢
          refine pure_ (i := 1) (N := some 64) (v := ?_) (a' := ?_) #[false, true, false, false, false, false, false, false, false, false] rfl rfl (any_of HT_.out (by kernel_rfl)) (fun _ _ _ h => h) (Or.inl ⟨by rfl, ?_⟩) ?_ ?_
          rotate_left
          · intro w'
            go_simp
            with_reducible rfl
          rotate_left
          · simp only [Act.put, List.setIfInBounds_toArray, List.set_cons_zero, List.set_cons_succ, i64_w, i32_w]
            rfl
          refine pure_ (i := 2) (N := some 65) (v := ?_) (a' := ?_) #[false, true, true, false, false, false, false, false, false, false] rfl rfl (any_of HT_.out (by kernel_rfl)) (fun _ _ _ h => h) (Or.inl ⟨by rfl, ?_⟩) ?_ ?_
          rotate_left
          · intro w'
            go_simp
            with_reducible rfl
          rotate_left
          · simp only [Act.put, List.setIfInBounds_toArray, List.set_cons_zero, List.set_cons_succ, i64_w, i32_w]
            rfl
          refine pure_ (i := 3) (N := some 66) (v := ?_) (a' := ?_) #[false, true, true, true, false, false, false, false, false, false] rfl rfl (any_of HT_.out (by kernel_rfl)) (fun _ _ _ h => h) (Or.inl ⟨by rfl, ?_⟩) ?_ ?_
          rotate_left
          · intro w'
            go_simp
            with_reducible rfl
          rotate_left
          · simp only [Act.put, List.setIfInBounds_toArray, List.set_cons_zero, List.set_cons_succ, i64_w, i32_w]
            rfl
          refine take_ (i := 0) (N := some 63) (v := ?_) (a' := ?_) #[true, true, true, true, false, false, false, false, false, false] rfl rfl (take_ofW HT_.out HW_.out (by kernel_rfl)) (fun _ _ _ h => h) (Or.inl ⟨by rfl, ?_⟩) hHeld ?_ ?_
          rotate_left
          · rintro w' ⟨s0, s1, s2, s3, s4, s5, s6, s7, s8, s9⟩
            go_simp
            with_reducible rfl
          rotate_left
          · simp only [Act.put, List.setIfInBounds_toArray, List.set_cons_zero, List.set_cons_succ, i64_w, i32_w]
            rfl
          refine take_ (i := 4) (N := some 67) (v := ?_) (a' := ?_) #[true, true, true, true, true, false, false, false, false, false] rfl rfl (take_ofW HT_.out HW_.out (by kernel_rfl)) (fun _ _ _ h => h) (Or.inl ⟨by rfl, ?_⟩) hHeld ?_ ?_
          rotate_left
          · rintro w' ⟨s0, s1, s2, s3, s4, s5, s6, s7, s8, s9⟩
            go_simp
            with_reducible rfl
          rotate_left
          · simp only [Act.put, List.setIfInBounds_toArray, List.set_cons_zero, List.set_cons_succ, i64_w, i32_w]
            rfl
          refine one_ (i := 5) (N := some 68) #[true, true, true, true, true, true, false, false, false, false] rfl rfl (one_of HT_.out (by kernel_rfl)) (by decide) (fun K hK => ?_)
          refine goes_ Try.func16 (by kernel_rfl) rfl #[.agg #[.slice A0 d.safe.length c0, .slice A1 d.loose.length c1, .int .i64 d.left, .bool d.armed, .bool d.down], .agg #[.int .u8 x.f0, .int .i64 x.f1, .slice A2 x.f2.length c2, .int .i64 x.f3, .int .i64 x.f4]] (by rfl) rfl rfl (by (try simp only [List.map_toArray, List.map_cons, List.map_nil]); first | done | rfl) ?_
          refine (lockgateref07_Do.calls 2 ok A0 c0 d.safe ok A1 c1 d.loose d.left d.armed d.down x.f0 x.f1 (fun k => k < wf.heap.size) A2 c2 x.f2 x.f3 x.f4 d'.safe d'.loose d'.left d'.armed d'.down E w3 HA3.out.ref.v0 HA3.out.ref.v1 (Kd.V_mk HL2.out (Kd.F_below HF2.out HB3.out)) HDO.out).mono ?_
          rintro e w4 ⟨v0, v1, rfl, hv0, hv1, hb⟩
          obtain ⟨D0, n0, e0'⟩ := Kd.V_slice hv0
          obtain ⟨D1, n1, e1'⟩ := Kd.V_slice hv1
          subst e0'; subst e1'
          refine ⟨_, rfl, ?_⟩
          have BW4 := Aside0.mk hb
          have HV0 := Aside0.mk (Kd.V_mono (Kd.V_bound hv0) (ok' := (fun k => ((ok k ∨ k < wf.heap.size) ∨ w3.heap.size ≤ k) ∧ k < w4.heap.size)) (fun k hk => ⟨hk.1.elim (fun h => h.elim (fun h => .inl (.inl h)) (fun h => h.elim (fun h => .inl (.inl h)) (fun h => .inl (.inr h)))) (fun h => .inr h), hk.2⟩))
          have HV1 := Aside0.mk (Kd.V_mono (Kd.V_bound hv1) (ok' := (fun k => ((ok k ∨ k < wf.heap.size) ∨ w3.heap.size ≤ k) ∧ k < w4.heap.size)) (fun k hk => ⟨hk.1.elim (fun h => h.elim (fun h => .inl (.inl h)) (fun h => h.elim (fun h => .inl (.inl h)) (fun h => .inl (.inr h)))) (fun h => .inr h), hk.2⟩))
          clear hv0 hv1 hb
          refine hK.out _ _ ⟨(blk_cell (HA3.out.below BW4.out).b 0).trans rfl, (blk_cell (HA3.out.below BW4.out).b 1).trans rfl, (blk_cell (HA3.out.below BW4.out).b 2).trans rfl, (blk_cell (HA3.out.below BW4.out).b 3).trans rfl, (blk_cell (HA3.out.below BW4.out).b 4).trans rfl, cellB (below_step HB3.out BW4.out) E0.out, cellB (below_step HB3.out BW4.out) E1.out, cellB (below_step HB3.out BW4.out) E2.out, cellB (below_step HB3.out BW4.out) E3.out, cellB (below_step HB3.out BW4.out) E4.out⟩ (fun hHeld2 => ?_)
          clear hHeld hHeld2
          clear hK K
          refine norm_ (a' := ?_) ?_ ?_
          rotate_left
          · show Act.put _ (some 68) _ = _
            simp only [Act.put, List.setIfInBounds_toArray, List.set_cons_zero, List.set_cons_succ, i64_w, i32_w]
            rfl
          refine pure_ (i := 6) (N := some 62) (v := ?_) (a' := ?_) #[true, true, true, true, true, true, true, false, false, false] rfl rfl (any_of HT_.out (by kernel_rfl)) (fun _ _ _ h => h) (Or.inl ⟨by rfl, ?_⟩) ?_ ?_
          rotate_left
          · intro w'
            go_simp
            with_reducible rfl
          rotate_left
          · simp only [Act.put, List.setIfInBounds_toArray, List.set_cons_zero, List.set_cons_succ, i64_w, i32_w]
            rfl
          refine pure_ (i := 7) (N := some 69) (v := ?_) (a' := ?_) #[true, true, true, true, true, true, true, true, false, false] rfl rfl (any_of HT_.out (by kernel_rfl)) (fun _ _ _ h => h) (Or.inl ⟨by rfl, ?_⟩) ?_ ?_
          rotate_left
          · intro w'
            go_simp
            with_reducible rfl
          rotate_left
          · simp only [Act.put, List.setIfInBounds_toArray, List.set_cons_zero, List.set_cons_succ, i64_w, i32_w]
            rfl
          refine pure_ (i := 8) (N := some 70) (v := ?_) (a' := ?_) #[true, true, true, true, true, true, true, true, true, false] rfl rfl (any_of HT_.out (by kernel_rfl)) (fun _ _ _ h => h) (Or.inl ⟨by rfl, ?_⟩) ?_ ?_
          rotate_left
          · intro w'
            go_simp
            with_reducible rfl
          rotate_left
          · simp only [Act.put, List.setIfInBounds_toArray, List.set_cons_zero, List.set_cons_succ, i64_w, i32_w]
            rfl
          refine last_ (i := 9) (N := none) #[true, true, true, true, true, true, true, true, true, true] rfl rfl (one_of HT_.out (by kernel_rfl)) (by decide) (fun K hK => ?_)
          have HR4 := Aside0.mk (RepL.below (HA3.out.rep.or3 (Y' := fun k => (fun k => ((ok k ∨ k < wf.heap.size) ∨ w3.heap.size ≤ k) ∧ k < w4.heap.size) k ∨ k = g6) (fun k hk => by
            rcases hk with hk | hk
            · rcases hk.1 with (h | h) | h
              · exact .inl (.inl h)
              · exact .inr (.inl (by have := BQS.out; omega))
              · exact .inr (.inr h)
            · exact .inl (.inr hk))) BW4.out)
          have HOK4 := Aside0.mk (show ∀ k, (fun k => ((ok k ∨ k < wf.heap.size) ∨ w3.heap.size ≤ k) ∧ k < w4.heap.size) k → k < w4.heap.size ∧ k ≠ q ∧ k ≠ g6 from fun k hk => by
            have h1 := hk.2
            have h3 := HA3.out.rep.rep.lt
            have h4 := G6.out
            have h5 := blk_lt HA3.out.b
            have h6 := PQ.out
            refine ⟨by omega, ?_⟩
            rcases hk.1 with (h | h) | h
            · exact (HA3.out.okl k h).2
            · exact ⟨by omega, by omega⟩
            · exact ⟨by omega, by omega⟩)
          refine put_step (by rfl) rfl 36 (.tmp 6) (.tmp 69) rfl (g := g6) (by rfl) (.agg #[.slice D0 d'.safe.length n0, .slice D1 d'.loose.length n1, .int .i64 d'.left, .bool d'.armed, .bool d'.down]) (by rfl) (cs' := #[.slice D0 d'.safe.length n0, .slice D1 d'.loose.length n1, .int .i64 d'.left, .bool d'.armed, .bool d'.down]) rfl (by kernel_rfl) (by simp [Value.oneCell']) (HA3.out.below BW4.out).b rfl ?_
          intro w6 b6 hg6
          have HA6 := Aside0.mk ((HA3.out.below BW4.out).turned (d' := d') (A0' := D0) (c0' := n0) (A1' := D1) (c1' := n1) ⟨HV0.out, HV1.out⟩ HOK4.out HR4.out b6 hg6)
          have HB6 := Aside0.mk (Below.grown (below_step HB3.out BW4.out) hg6 (below_step HB3.out BW4.out).size (fun k hk => by cases hk; exact G6.out))
          have B96 := Aside0.mk ((hg6.block g9 (Nat.lt_of_lt_of_le (blk_lt B93.out) BW4.out.size) (fun he => (HA3.out.okl g9 HK9.out).2.2 (Option.some.inj he))).trans ((BW4.out.block g9 (blk_lt B93.out)).trans B93.out))
          have HAG6 := Aside0.mk ((HAG3.out.below (BW4.out.mono HWR3.out)).put (Nat.le_trans HWR3.out BW4.out.size) hg6)
          have HK96 := Aside0.mk (show (fun k => ((ok k ∨ k < wf.heap.size) ∨ w3.heap.size ≤ k) ∧ k < w4.heap.size) g9 from ⟨.inl (.inl HK9.out), Nat.lt_of_lt_of_le (blk_lt B93.out) BW4.out.size⟩)
          clear b6 hg6
          refine hK.out _ _ ?_
          clear hK K
          refine done_ (done_of HT_.out (by kernel_rfl)) ?_
          go_wp2
          go_roundw
          case rel => exact ⟨i + 1, d', D0, n0, D1, n1, _, by go_num, LT.out, by rw [HST.out]; exact HA6, ⟨by rw [HST.out]; exact HSIM.out⟩, HS1, HB6, HK96, B96, HAG6⟩
          case measure => simp [intOf]; have := LT.out; omega
        · have hk' : i = m.length := by omega
          subst hk'
          have hlt' : ¬ ((m.length : Int) < (m.length : Int)) := by omega
          have HOK2 := Aside0.mk (HOKP.out.played m HU.out hG m.length)
          have HSZ := Aside0.mk (show size d ≤ 1000 by have := HN.out; have := hG.1; omega)
          have HRPW := Aside0.mk (HRP.out.agree HAG.out HB6P.out)
          have HREFW := Aside0.mk (HREF.out.agree HAG.out HO6.out)
          have y0 : wr.cell? ⟨g9, 0, none⟩ = some (.slice a0 d1.safe.length k0) := (blk_cell B9.out 0).trans rfl
          have y1 : wr.cell? ⟨g9, 1, none⟩ = some (.slice a1 d1.loose.length k1) := (blk_cell B9.out 1).trans rfl
          have y2 : wr.cell? ⟨g9, 2, none⟩ = some (.int .i64 d1.left) := (blk_cell B9.out 2).trans rfl
          have y3 : wr.cell? ⟨g9, 3, none⟩ = some (.bool d1.armed) := (blk_cell B9.out 3).trans rfl
          have y4 : wr.cell? ⟨g9, 4, none⟩ = some (.bool d1.down) := (blk_cell B9.out 4).trans rfl
          go_wp2_with (first
            | (go_at_call 17; (with_reducible refine (Shows_says wr HRPW.out HOKP.out n8040 HS0.out HSZ1.out HREFW.out).mono ?_); rintro e w8 ⟨rfl, hb⟩; have HA8 := Aside0.mk (HA.out.below hb); have HB8 := Aside0.mk (below_step HB.out hb); have z0 : w8.cell? ⟨g6, 0, none⟩ = some (.slice A0 d.safe.length c0) := (blk_cell HA8.out.b 0).trans rfl; have z1 : w8.cell? ⟨g6, 1, none⟩ = some (.slice A1 d.loose.length c1) := (blk_cell HA8.out.b 1).trans rfl; have z2 : w8.cell? ⟨g6, 2, none⟩ = some (.int .i64 d.left) := (blk_cell HA8.out.b 2).trans rfl; have z3 : w8.cell? ⟨g6, 3, none⟩ = some (.bool d.armed) := (blk_cell HA8.out.b 3).trans rfl; have z4 : w8.cell? ⟨g6, 4, none⟩ = some (.bool d.down) := (blk_cell HA8.out.b 4).trans rfl; clear hb)
            | (go_at_call 17; (with_reducible refine (Shows_says w8 HA8.out.rep.rep HOK2.out n16080 HS.out HSZ.out HA8.out.ref).mono ?_); rintro e w9 ⟨rfl, hb⟩; have HB9 := Aside0.mk (below_step HB8.out hb); clear hb)
            | fail)
          go_ret
          exact ⟨rfl, below_step HBf.out HB9.out⟩
end Go.Proofs.Ytpagajgpcmonkaa.PDisk
