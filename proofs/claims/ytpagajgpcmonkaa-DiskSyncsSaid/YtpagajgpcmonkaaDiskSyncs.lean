/- The walk of DiskSyncs. -/
import Derived.Test.YtpagajgpcmonkaaDiskLib
namespace Go.Proofs.Ytpagajgpcmonkaa.PDisk
open Go.RowKit Go.Proofs.YtpagajgpcmonkaaW.PrintWords Go.Proofs.YtpagajgpcmonkaaW.PrintLast Go.Proofs.YtpagajgpcmonkaaW.PrintMore
set_option linter.unusedVariables false
set_option linter.unusedSimpArgs false
set_option maxHeartbeats 8000000 in
set_option maxRecDepth 100000 in
theorem DiskSyncs_calls (A : Option Addr) (c : Nat) (l : List S39) (keep torn : Int) (w : World) (hx : Kd.C k39 w A l.length l) (hc : l.length ≤ c) (hw : ∀ x ∈ l, okAct x) :
    Calls Try.prog 7 #[.slice A l.length c, .int .i64 keep, .int .i64 torn] w fun e w' => e = .returned (.bool true) ∧ Below w.heap.size w w' := by
  have HX := Aside0.mk hx
  have HW := Aside0.mk hw
  clear hx hw
  go_enter Try.func7, Try.ntmps7
  by_cases hF : Few l
  · go_wp2_with (first
      | (go_at_call 8; (with_reducible refine (awake_calls w).mono ?_); rintro e wa ⟨rfl, hb⟩; have HXa := Aside0.mk (Kd.C_below HX.out hb); have HBa := Aside0.mk hb; clear hb)
      | (go_at_call 14; (with_reducible refine (Few_true wa HXa.out hc hF).mono ?_); rintro e wf ⟨rfl, hb⟩; have HXf := Aside0.mk (Kd.C_below HXa.out hb); have HBf := Aside0.mk (below_step HBa.out hb); clear hb HX HXa HBa)
      | (go_at_call 9; (with_reducible refine (new_calls wf).mono ?_); rintro e wn ⟨rfl, hR, hb⟩; have HRn := Aside0.mk hR; have HBn := Aside0.mk hb; clear hR hb)
      | fail)
    go_loopw [8] (fun v8 W => ∃ i : Nat, v8 = .int .i64 i ∧ i ≤ l.length ∧ Aside0 (Rep wf.heap.size W wf.heap.size (playAll new (l.take i))) ∧ Aside0 (Below wf.heap.size wf W)) (fun v8 _ => l.length - (intOf v8).toNat)
    case atStart => exact ⟨0, rfl, Nat.zero_le _, HRn, HBn⟩
    case round =>
      obtain ⟨i, rfl, hi, HR, HB⟩ := hrel
      clear HRn HBn
      by_cases hlt : i < l.length
      · have HC := Aside0.mk (Kd.C_below HXf.out HB.out)
        obtain ⟨ad, A2, c2, e, h0, h1, h2, h3, h4, hl2, hi2⟩ := at_T39 HC.out (i : Int) (by omega) (by omega)
        subst e
        rw [rdT_get l i hlt] at h0 h1 h2 h3 h4 hl2 hi2
        rw [Int.toNat_natCast] at h0 h1 h2 h3 h4
        have HST := Aside0.mk (playAll_step new l i hlt)
        have HOK := Aside0.mk (Ok.played0 l HW.out hF i)
        have hk := HW.out _ (List.getElem_mem hlt)
        have hf := hF.2 _ (List.getElem_mem hlt)
        generalize (l[i]) = x at h0 h1 h2 h3 h4 hl2 hi2 HST hk hf
        have HI2 := Aside0.mk hi2
        have HK := Aside0.mk hk
        have HF2 := Aside0.mk hf
        have hlt' : (i : Int) < (l.length : Int) := by omega
        have LT := Aside0.mk hlt
        have hi9 : i < 500000000 := by have := hF.1; omega
        clear hi2 hk hf
        go_wp2_with fail
        refine (Play_calls (s := playAll new (l.take i)) _ HR.out HOK.out n8040 x HI2.out hl2 (by have := HF2.out; omega) HK.out.1 HK.out.2.1).mono ?_
        rintro e w2 ⟨rfl, hR2, hb2⟩
        have HR2 := Aside0.mk hR2
        have HB2 := Aside0.mk (HB.out.trans hb2)
        clear hR2 hb2
        go_wp2
        go_roundw
        case rel => exact ⟨i + 1, by go_num, LT.out, ⟨by rw [HST.out]; exact HR2.out⟩, HB2⟩
        case measure => simp [intOf]; have := LT.out; omega
      · have hk' : i = l.length := by omega
        subst hk'
        have hlt' : ¬ ((l.length : Int) < (l.length : Int)) := by omega
        have HOK := Aside0.mk (Ok.played0 l HW.out hF l.length)
        generalize playAll new (l.take l.length) = S at HR HOK
        have HOA := Aside0.mk (HOK.out.arm (-1) (by omega) (by omega))
        clear HW
        by_cases hd : S.down = true
        · obtain ⟨e1, e2⟩ := synced_not hd
          have E1 := Aside0.mk e1
          have E2 := Aside0.mk e2
          clear e1 e2
          go_wp2_with (first
            | (go_at_call 18; (with_reducible refine (Arm_calls _ HR.out (-1)).mono ?_); rintro e w3 ⟨rfl, hR3, hb3⟩; have HR3 := Aside0.mk hR3; have HB3 := Aside0.mk (HB.out.trans hb3); clear hR3 hb3)
            | (go_at_call 19; (with_reducible refine (Sync_E w3 HR3.out HOA.out n8040 (syncE_no E2.out) E1.out).mono ?_); rintro e w4 ⟨rfl, hR4, hb4⟩; have HR4 := Aside0.mk hR4; have HB4 := Aside0.mk (HB3.out.trans hb4); clear hR4 hb4)
            | (go_at_call 20; (with_reducible refine (Down_calls w4 HR4.out).mono ?_); rintro e w5 ⟨rfl, rfl⟩)
            | fail)
          go_ret
          exact ⟨by rw [E2.out]; rfl, below_step HBf.out HB4.out⟩
        · have hd : S.down = false := by simpa using hd
          have E1 := Aside0.mk (synced hd)
          have E2 := Aside0.mk (armed_no hd)
          have OT := Aside0.mk (E1.out ▸ HOA.out.sync)
          generalize S.now = t at E1 OT
          have L0 := Aside0.mk (show t.1.length ≤ 1000000000 from OT.out.n0s)
          have L1 := Aside0.mk (show t.2.1.length ≤ 1000000000 from OT.out.n1s)
          go_wp2_with (first
            | (go_at_call 18; (with_reducible refine (Arm_calls _ HR.out (-1)).mono ?_); rintro e w3 ⟨rfl, hR3, hb3⟩; have HR3 := Aside0.mk hR3; have HB3 := Aside0.mk (HB.out.trans hb3); clear hR3 hb3)
            | (go_at_call 19; (with_reducible refine (Sync_E w3 HR3.out HOA.out n8040 (syncE_ok E2.out) E1.out).mono ?_); rintro e w4 ⟨rfl, hR4, hb4⟩; have HR4 := Aside0.mk hR4; have HB4 := Aside0.mk (HB3.out.trans hb4); clear hR4 hb4)
            | (go_at_call 11; (with_reducible refine (Read_E w4 HR4.out OT.out n8040 0 (mayS 0 (.inl rfl)) readS0).mono ?_); rintro e w5 ⟨A5, c5, rfl, hS, hb⟩; have HS5 := Aside0.mk hS; have HR5 := Aside0.mk (HR4.out.below hb); have HB5 := Aside0.mk (below_step HB4.out hb); clear hS hb)
            | (go_at_call 11; (with_reducible refine (Read_E w5 HR5.out OT.out n8040 1 (mayS 1 (.inr rfl)) readS1).mono ?_); rintro e w6 ⟨A6, c6, rfl, hS, hb⟩; have HS6 := Aside0.mk hS; have HT6 := Aside0.mk (HS5.out.keep (Keeps.below hb)); have HR6 := Aside0.mk (HR5.out.below hb); have HB6 := Aside0.mk (below_step HB5.out hb); clear hS hb)
            | (go_at_call 21; (with_reducible refine (First_E w6 HR6.out (F := t.2.2) (E := 0) rfl rfl).mono ?_); rintro e w7 ⟨rfl, rfl⟩)
            | (go_at_call 12; (with_reducible refine (Crash_E w7 HR6.out OT.out n8040 keep torn (still t keep torn)).mono ?_); rintro e w8 ⟨rfl, hR, hb, hg⟩; obtain ⟨cs8, hp8⟩ := HR6.out.blk; have HS8 := Aside0.mk (HS6.out.keep (Keeps.grown (t := 5) hg hp8 (by decide))); have HT8 := Aside0.mk (HT6.out.keep (Keeps.grown (t := 5) hg hp8 (by decide))); have HR8 := Aside0.mk hR; have HB8 := Aside0.mk (HB6.out.trans hb); clear hR hb hg hp8 cs8 HS6 HT6 HS5)
            | (go_at_call 11; (with_reducible refine (Read_E w8 HR8.out OT.out n8040 0 (mayS 0 (.inl rfl)) readS0).mono ?_); rintro e w9 ⟨A9, c9, rfl, hS, hb⟩; have HU9 := Aside0.mk hS; have HS9 := Aside0.mk (HS8.out.keep (Keeps.below hb)); have HT9 := Aside0.mk (HT8.out.keep (Keeps.below hb)); have HR9 := Aside0.mk (HR8.out.below hb); have HB9 := Aside0.mk (below_step HB8.out hb); clear hS hb HS8 HT8)
            | (go_at_call 11; (with_reducible refine (Read_E w9 HR9.out OT.out n8040 1 (mayS 1 (.inr rfl)) readS1).mono ?_); rintro e w10 ⟨A10, c10, rfl, hS, hb⟩; have HV10 := Aside0.mk hS; have HU10 := Aside0.mk (HU9.out.keep (Keeps.below hb)); have HS10 := Aside0.mk (HS9.out.keep (Keeps.below hb)); have HT10 := Aside0.mk (HT9.out.keep (Keeps.below hb)); have HR10 := Aside0.mk (HR9.out.below hb); have HB10 := Aside0.mk (below_step HB9.out hb); clear hS hb HS9 HT9 HU9)
            | (go_at_call 21; (with_reducible refine (First_E w10 HR10.out (F := t.2.2) (E := 0) rfl rfl).mono ?_); rintro e w11 ⟨rfl, rfl⟩)
            | (go_at_call 13; (with_reducible refine (Same_bs w11 HT10.out HU10.out L0.out (decide_eq_true rfl)).mono ?_); rintro e w12 ⟨rfl, hb⟩; have HS12 := Aside0.mk (HS10.out.keep (Keeps.below hb)); have HV12 := Aside0.mk (HV10.out.keep (Keeps.below hb)); have HR12 := Aside0.mk (HR10.out.below hb); have HB12 := Aside0.mk (below_step HB10.out hb); clear hb)
            | (go_at_call 13; (with_reducible refine (Same_bs w12 HS12.out HV12.out L1.out (decide_eq_true rfl)).mono ?_); rintro e w13 ⟨rfl, hb⟩; have HR13 := Aside0.mk (HR12.out.below hb); have HB13 := Aside0.mk (below_step HB12.out hb); clear hb)
            | (go_at_call 23; (with_reducible refine (Loose_calls w13 HR13.out).mono ?_); rintro e w14 ⟨rfl, rfl⟩)
            | fail)
          go_ret
          exact ⟨rfl, below_step HBf.out HB13.out⟩
  · go_wp2_with (first
      | (go_at_call 8; (with_reducible refine (awake_calls w).mono ?_); rintro e wa ⟨rfl, hb⟩; have HXa := Aside0.mk (Kd.C_below HX.out hb); have HBa := Aside0.mk hb; clear hb)
      | (go_at_call 14; (with_reducible refine (Few_false wa HXa.out hc hF).mono ?_); rintro e wf ⟨rfl, hb⟩; have HBf := Aside0.mk (below_step HBa.out hb); clear hb HX HXa HBa)
      | (go_at_call 8; (with_reducible refine (awake_calls wf).mono ?_); rintro e wb ⟨rfl, hb⟩; have HBb := Aside0.mk (below_step HBf.out hb); clear hb)
      | fail)
    go_ret
    exact ⟨rfl, HBb.out⟩
end Go.Proofs.Ytpagajgpcmonkaa.PDisk
