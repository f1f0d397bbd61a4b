/- The walk of WalSaves. -/
import Derived.Test.YtdbkedipfpepbaaWalAwake
namespace Go.Proofs.Ytdbkedipfpepbaa.PWal
open Go.RowKit Go.Proofs.YtdbkedipfpepbaaW.PrintWords Go.Proofs.YtdbkedipfpepbaaW.PrintLast Go.Proofs.YtdbkedipfpepbaaW.PrintMore Go.FrameMath
set_option linter.unusedVariables false
set_option linter.unusedSimpArgs false
theorem mem_tot {m : List (List Int)} {r : List Int} (h : r ∈ m) : r.length ≤ FramePure.tot m := by
  induction m with
  | nil => cases h
  | cons x m ih =>
    have e : FramePure.tot (x :: m) = x.length + FramePure.tot m := by simp [FramePure.tot]
    rw [e]
    rcases List.mem_cons.1 h with rfl | h
    · omega
    · have := ih h; omega
theorem flat_take (m : List (List Int)) (i : Nat) : (flat (m.take i)).length ≤ (flat m).length := by
  have : flat m = flat (m.take i) ++ flat (m.drop i) := by rw [← flat_append, List.take_append_drop]
  rw [this, List.length_append]; omega
theorem flat_tot (m : List (List Int)) : (flat m).length = FramePure.tot m + 12 * m.length := FramePure.flat_length m
theorem old3 : ∀ (j : Nat) (b : Int), [(111 : Int), 108, 100][j]? = some b → #[Value.int .u8 111, Value.int .u8 108, Value.int .u8 100][j]? = some (.int .u8 b)
  | 0, b, h => by simpa using h
  | 1, b, h => by simpa using h
  | 2, b, h => by simpa using h
  | j + 3, b, h => by simp at h
def Old : List Int := [111, 108, 100]
theorem bold : Byt Old := fun x hx => by
  rcases List.mem_cons.1 hx with rfl | hx
  · decide
  · rcases List.mem_cons.1 hx with rfl | hx
    · decide
    · rw [List.mem_singleton.1 hx]; decide
theorem lo : (addB [] Old).length = 27 := by simp [addB, frame_length, Old]
theorem fo : (flat (added [] Old)).length = 27 := by simp [added, flat, frame_length, Old]
def UO : St := doSt U0 (0, 0, addB [] Old)
theorem okO : Ok 28 (UP U0 UO [(0, 0, addB [] Old)]) := (changeUP (t := U0) (u := U0) (l := []) (c := (0, 0, addB [] Old)) (.inl rfl) ▸ ok0.change (0, 0, addB [] Old) ⟨.inl rfl, .inl rfl⟩ : Ok _ (UP U0 UO [(0, 0, addB [] Old)])).mono (by show 0 + (addB [] Old).length + 1 ≤ 28; rw [lo]; decide)
theorem AddO {B p q : Nat} {A : Option Addr} {c : Nat} (w : World) (hL : LG B w p q U0 U0 [] 0 []) (hC : Kd.C (Kd.int .u8) w A 3 Old) (hc : 3 ≤ c) :
    Calls Try.prog 19 #[.pointer (some ⟨q, 0, none⟩), .slice A 3 c] w fun e w' => e = .returned (.int .i64 0) ∧ LG B w' p q U0 UO [(0, 0, addB [] Old)] 0 (added [] Old) ∧ Below B w w' ∧ KL w w' :=
  (Add_calls (r := Old) w hL ok0 (by rw [lo]; decide) hC hc bold (by simp [Old]) (by rw [fo]; decide)).mono fun e w' h => ⟨h.1, h.2.1, h.2.2.2⟩
/-- one record more behind a picture -/
theorem AddM {B p q M : Nat} {t u : St} {l : List Chg} {A : Option Addr} {c : Nat} {pic r : List Int} {m : List (List Int)} {i : Nat} {front : Int} (w : World) (hL : LG B w p q t u l front (pic :: m.take i)) (hO : Ok M (UP t u l)) (hi : i < m.length) (hr : m[i] = r) (hN : M ≤ 1000 + i * 4000) (hm : m.length ≤ 40) (hp : pic.length ≤ 500) (ht : FramePure.tot m ≤ 3000) (hb : Byt r)
    (hC : Kd.C (Kd.int .u8) w A r.length r) (hc : r.length ≤ c) :
    Calls Try.prog 19 #[.pointer (some ⟨q, 0, none⟩), .slice A r.length c] w fun e w' => e = .returned (.int .i64 0) ∧ ∃ M' u' l', LG B w' p q t u' l' front (pic :: m.take (i + 1)) ∧ Ok M' (UP t u' l') ∧ M' ≤ 1000 + (i + 1) * 4000 ∧ Below B w w' ∧ KL w w' := by
  have hl : r.length ≤ 3000 := Nat.le_trans (hr ▸ mem_tot (List.getElem_mem hi)) ht
  have e1 : addB (pic :: m.take i) r = frame r := by unfold addB; rw [if_neg (by simp)]
  have e2 : added (pic :: m.take i) r = pic :: m.take (i + 1) := by unfold added; rw [if_neg (by simp), List.take_succ_eq_append_getElem hi, hr]; rfl
  have h3 := flat_take m (i + 1)
  have h4 := flat_tot m
  refine (Add_calls (r := r) w hL hO (by rw [e1, frame_length]; omega) hC hc hb hl (by rw [e2, flat_cons, List.length_append, frame_length]; omega)).mono ?_
  rintro e w' ⟨he, hg, ho, hb', hk⟩
  rw [e2] at hg
  exact ⟨he, _, _, _, hg, ho, by rw [e1, frame_length]; omega, hb', hk⟩
set_option maxHeartbeats 16000000 in
set_option maxRecDepth 100000 in
theorem WalSaves_calls (A : Option Addr) (c : Nat) (pic : List Int) (Am : Option Addr) (cm : Nat) (m : List (List Int)) (w : World) (hx : Kd.C (Kd.int .u8) w A pic.length pic) (hc : pic.length ≤ c) (hy : Kd.C (Kd.slice 5 (Kd.int .u8)) w Am m.length m) (hcm : m.length ≤ cm) (hbp : Byt pic) (hbm : ∀ r ∈ m, Byt r) :
    Calls Try.prog 5 #[.slice A pic.length c, .slice Am m.length cm] w fun e w' => e = .returned (.bool true) ∧ Below w.heap.size w w' := by
  have HX := Aside0.mk hx
  have HY := Aside0.mk hy
  have HBP := Aside0.mk hbp
  have HBM := Aside0.mk hbm
  have HCM := Aside0.mk hcm
  have HC := Aside0.mk hc
  clear hx hy hbp hbm
  obtain ⟨fb, hfb, hft⟩ := FramePure.few_f m 101 (by decide)
  have HFB := Aside0.mk hfb
  have HFT := Aside0.mk hft
  clear hfb hft
  go_enter Try.func5, Try.ntmps5
  by_cases hp : pic.length ≤ 500
  rotate_left
  · have hd : decide ((500 : Int) < (pic.length : Int)) = true := decide_eq_true (by omega)
    go_wp2_with (first
      | (go_at_call 6; (with_reducible refine (awake_calls w).mono ?_); rintro e wa ⟨rfl, hb⟩; have HBa := Aside0.mk hb; clear hb)
      | (go_at_call 6; (with_reducible refine (awake_calls wa).mono ?_); rintro e wb ⟨rfl, hb⟩; have HBb := Aside0.mk (below_step HBa.out hb); clear hb)
      | fail)
    go_ret
    exact ⟨rfl, HBb.out⟩
  have hd : decide ((500 : Int) < (pic.length : Int)) = false := decide_eq_false (by omega)
  have HP := Aside0.mk hp
  cases fb with
  | false =>
    go_wp2_with (first
      | (go_at_call 6; (with_reducible refine (awake_calls w).mono ?_); rintro e wa ⟨rfl, hb⟩; have HBa := Aside0.mk hb; have HYa := Aside0.mk (Kd.C_below HY.out hb); clear hb)
      | (go_at_call 21; (with_reducible refine (lockgateref04_Few.calls 101 Am cm m false wa HYa.out HCM.out HFB.out).mono ?_); rintro e wf ⟨rfl, hb⟩; have HBf := Aside0.mk (below_step HBa.out hb.below); clear hb)
      | (go_at_call 6; (with_reducible refine (awake_calls wf).mono ?_); rintro e wb ⟨rfl, hb⟩; have HBb := Aside0.mk (below_step HBf.out hb); clear hb)
      | fail)
    go_ret
    exact ⟨rfl, HBb.out⟩
  | true =>
    have HTOT := Aside0.mk (HFT.out rfl)
    go_wp2_with (first
      | (go_at_call 6; (with_reducible refine (awake_calls w).mono ?_); rintro e wa ⟨rfl, hb⟩; have HBa := Aside0.mk hb; have HYa := Aside0.mk (Kd.C_below HY.out hb); have HXa := Aside0.mk (Kd.C_below HX.out hb); clear hb)
      | (go_at_call 21; (with_reducible refine (lockgateref04_Few.calls 101 Am cm m true wa HYa.out HCM.out HFB.out).mono ?_); rintro e wf ⟨rfl, hb⟩; have HBf := Aside0.mk (below_step HBa.out hb.below); have HYf := Aside0.mk (Kd.C_below HYa.out hb.below); have HXf := Aside0.mk (Kd.C_below HXa.out hb.below); clear hb)
      | (go_at_call 8; (with_reducible refine (new_calls wf).mono ?_); rintro e w1 ⟨rfl, hR, hb⟩; have HR1 := Aside0.mk (show Rep wf.heap.size w1 wf.heap.size (UP U0 U0 []) from hR); have HB1 := Aside0.mk hb; clear hR hb)
      | (go_at_call 9; (with_reducible refine (Open_new w1 HR1.out ok0 n0 ls0).mono ?_); rintro e w2 ⟨q, rfl, hg, hb⟩; have HG2 := Aside0.mk hg; have HB2 := Aside0.mk (below_step HB1.out hb); have hcb := Go.Lib.run_convert_bytes_const (P := Try.prog) w2 28 5 #[.int .u8 111, .int .u8 108, .int .u8 100] 3 3 Try.underlying28 Try.underlying5; clear hg hb)
      | fail)
    clear hcb
    have LIT := Aside0.mk (C_of_block (bs := Old) (heap_alloc_new w2 (.cells #[.int .u8 111, .int .u8 108, .int .u8 100] 5 (3, 4))) (by simp [Old]) old3)
    have HG3 := Aside0.mk (HG2.out.below (below_al w2 (.cells #[.int .u8 111, .int .u8 108, .int .u8 100] 5 (3, 4))))
    have HB3 := Aside0.mk (below_step HB2.out (below_al w2 (.cells #[.int .u8 111, .int .u8 108, .int .u8 100] 5 (3, 4))))
    clear HG2 HB2
    generalize w2.alloc (.cells #[.int .u8 111, .int .u8 108, .int .u8 100] 5 (3, 4)) = w3 at LIT HG3 HB3 ⊢
    generalize w2.heap.size = glo at LIT ⊢
    refine (AddO w3 HG3.out LIT.out (by decide)).mono ?_
    rintro e w4 ⟨rfl, hg, hb, hk⟩
    have HG4 := Aside0.mk hg
    have HB4 := Aside0.mk (HB3.out.trans hb)
    clear hg hb hk HG3 HB3 LIT
    go_wp2_with (first
      | (go_at_call 18; (with_reducible refine (Save_calls (b := pic) w4 HG4.out okO (by have := HP.out; omega) (Kd.C_below HXf.out HB4.out) HC.out HBP.out (by have := HP.out; omega)).mono ?_); rintro e w5 ⟨rfl, hg, ho, hb, hk⟩; have HG5 := Aside0.mk hg; have HO5 := Aside0.mk ho; have HB5 := Aside0.mk (HB4.out.trans hb); clear hg ho hb hk)
      | fail)
    generalize turnSt UO (1 - 0) (frame pic) = ua at HG5 HO5
    go_loopw [10] (fun v10 W => ∃ (i M : Nat) (t u : St) (l : List Chg), v10 = .int .i64 i ∧ i ≤ m.length ∧ Aside0 (LG wf.heap.size W wf.heap.size q t u l (1 - 0) (pic :: m.take i)) ∧ Aside0 (Ok M (UP t u l)) ∧ Aside0 (M ≤ 1000 + i * 4000) ∧ Aside0 (Below wf.heap.size wf W)) (fun v10 _ => m.length - (intOf v10).toNat)
    case atStart => exact ⟨0, _, ua, ua, [], rfl, Nat.zero_le _, HG5, HO5, ⟨by have := HP.out; omega⟩, HB5⟩
    case round =>
      clear HG5 HO5 HB5 HG4 HB4 HR1 HB1
      obtain ⟨i, M, t, u, l, rfl, hi, HG, HO, HM, HB⟩ := hrel
      have hi9 : i < 500000000 := by have := HTOT.out.2; omega
      by_cases hlt : i < m.length
      · obtain ⟨ad, A2, c2, e, hz, hl2, hC2⟩ := at_BB (Kd.C_below HYf.out HB.out) i hlt
        subst e
        have HI := Aside0.mk hlt
        have HBY := Aside0.mk (HBM.out _ (List.getElem_mem hlt))
        obtain ⟨b, hb⟩ : ∃ b, m[i] = b := ⟨_, rfl⟩
        rw [hb] at hz hl2 hC2 HBY
        have HMB := Aside0.mk hb
        have HC2 := Aside0.mk hC2
        have HL2 := Aside0.mk hl2
        have hlt' : (i : Int) < (m.length : Int) := by omega
        clear hC2 hl2 hb
        go_wp2_with (first
          | (go_at_call 19; (with_reducible refine (AddM _ HG.out HO.out HI.out HMB.out HM.out HTOT.out.2 HP.out HTOT.out.1 HBY.out HC2.out HL2.out).mono ?_); rintro e w6 ⟨rfl, M', u', l', hg, ho, hm', hb, hk⟩; have HG6 := Aside0.mk hg; have HO6 := Aside0.mk ho; have HM6 := Aside0.mk hm'; have HB6 := Aside0.mk (HB.out.trans hb); clear hg ho hm' hb hk)
          | fail)
        go_roundw
        case rel => exact ⟨i + 1, M', t, u', l', by go_num, HI.out, HG6, HO6, HM6, HB6⟩
        case measure => simp [intOf]; have := HI.out; omega
      · have hk' : i = m.length := by omega
        subst hk'
        have hlt' : ¬ ((m.length : Int) < (m.length : Int)) := by omega
        rw [List.take_of_length_le (Nat.le_refl _)] at HG
        have HFL := Aside0.mk (show (flat (pic :: m)).length ≤ 5000 by rw [flat_cons, List.length_append, frame_length, flat_tot]; have h1 := HTOT.out; have h2 := HP.out; omega)
        have HN1 := Aside0.mk (show M + (flat (pic :: m)).length + 3 ≤ 500000000 by have h1 := HM.out; have h2 := HTOT.out.2; have h3 := HFL.out; omega)
        have HN2 := Aside0.mk (show M + (flat (pic :: m)).length + 3 + (flat (pic :: m)).length + 3 ≤ 500000000 by have h1 := HM.out; have h2 := HTOT.out.2; have h3 := HFL.out; omega)
        clear hi hlt
        go_wp2_with (first
          | ((with_reducible refine gate_dst (N := 11) rfl ?_); refine box_event ?hg (N := 11) ?hd (cs := #[.slice none 0 0, .slice none 0 0, .int .i64 0]) (t := 34) ?hr ?_; (case hd => rfl); (case hg => rfl); (case hr => first | (go_simp; done) | (go_simp; rfl)); intro g11 e11 wb b11 hb; have B11 := Aside0.mk b11; have HGb := Aside0.mk (HG.out.below hb); have HBb := Aside0.mk (below_step HB.out hb); have E11 := Aside0.mk e11; clear b11 hb e11)
          | ((with_reducible refine gate_ (.store 34 (.tmp 11) (.tmp 63)) rfl ?_); refine put_event (g := g11) (e := 34) rfl rfl 34 (.tmp 11) (.tmp 63) rfl rfl (.agg #[.slice A pic.length c, .slice Am m.length cm, .int .i64 0]) rfl (cs' := #[.slice A pic.length c, .slice Am m.length cm, .int .i64 0]) rfl (by kernel_rfl) (by simp [Value.oneCell']) B11.out rfl ?_; intro wc b11 hg; have B11c := Aside0.mk b11; have HRc := Aside0.mk (Rep.other36 (t := 34) HGb.out.rep hg B11.out (by decide) (by decide) (by decide)); have HBc := Aside0.mk (Below.grown HBb.out hg HBb.out.size (fun k hk => by cases hk; have h1 := E11.out; have h2 := HB.out.size; omega)); have z0 : wc.cell? ⟨g11, 0, none⟩ = some (.slice A pic.length c) := (blk_cell B11c.out 0).trans rfl; have z1 : wc.cell? ⟨g11, 1, none⟩ = some (.slice Am m.length cm) := (blk_cell B11c.out 1).trans rfl; have z2 : wc.cell? ⟨g11, 2, none⟩ = some (.int .i64 0) := (blk_cell B11c.out 2).trans rfl; clear b11 hg)
          | (go_at_call 20; (with_reducible refine (Opened_calls wc HRc.out HO.out HN1.out HG.out.st (fun W hb _ => Kd.C_below HXf.out (HBc.out.trans hb)) HC.out (fun W hb _ => Kd.C_below HYf.out (HBc.out.trans hb)) HCM.out).mono ?_); rintro e wd ⟨rfl, v, hr, hs, ho, hb, hk⟩; have HRd := Aside0.mk hr; have HSd := Aside0.mk hs; have HOd := Aside0.mk ho; have HBd := Aside0.mk (HBc.out.trans hb); have B11d := Aside0.mk (hk 34 (by decide) (by decide) (by decide) _ _ B11c.out); have z0 : wd.cell? ⟨g11, 0, none⟩ = some (.slice A pic.length c) := (blk_cell B11d.out 0).trans rfl; have z1 : wd.cell? ⟨g11, 1, none⟩ = some (.slice Am m.length cm) := (blk_cell B11d.out 1).trans rfl; have z2 : wd.cell? ⟨g11, 2, none⟩ = some (.int .i64 0) := (blk_cell B11d.out 2).trans rfl; clear hr hs ho hb hk)
          | (go_at_call 20; (with_reducible refine (Opened_calls wd HRd.out HOd.out HN2.out HSd.out (fun W hb _ => Kd.C_below HXf.out (HBd.out.trans hb)) HC.out (fun W hb _ => Kd.C_below HYf.out (HBd.out.trans hb)) HCM.out).mono ?_); rintro e we ⟨rfl, v2, _, _, _, hb, _⟩; have HBe := Aside0.mk (HBd.out.trans hb); clear hb)
          | fail)
        go_ret
        exact ⟨rfl, below_step HBf.out HBe.out⟩
end Go.Proofs.Ytdbkedipfpepbaa.PWal
