/- The walk of DiskKeeps. -/
import Derived.Test.YtpagajgpcmonkaaDiskKeepsPure
namespace Go.Proofs.Ytpagajgpcmonkaa.PDisk
open Go.RowKit Go.Proofs.YtpagajgpcmonkaaW.PrintWords Go.Proofs.YtpagajgpcmonkaaW.PrintLast Go.Proofs.YtpagajgpcmonkaaW.PrintMore
set_option linter.unusedVariables false
set_option linter.unusedSimpArgs false
theorem Append_XE {B p N : Nat} {s s' : AD} {E : Int} {X : Nat → Prop} (w : World) (hR : RepX X B w p s) (hXl : ∀ k, X k → k < w.heap.size) (hO : Ok N s) (hN : N ≤ 500000000) (a : Int) {A : Option Addr} {c : Nat} {bs : List Int} (hb : Kd.C (Kd.int .u8) w A bs.length bs) (hc : bs.length ≤ c) (hl : bs.length ≤ 100000000) (hE : mayE s a = E) (hs : s.change (0, a, bs) = s') :
    Calls Try.prog 10 #[.pointer (some ⟨p, 0, none⟩), .int .i64 a, .slice A bs.length c] w fun e w' => e = .returned (.int .i64 E) ∧ RepX X B w' p s' ∧ Below B w w' ∧ Keeps 5 w w' := hE ▸ hs ▸ Append_X w hR hXl hO hN a hb hc hl
theorem readC1 {a b : List Int} {f : Int} : readB ⟨(a, b, f), (a, b, f), [], -1, false⟩ 1 = b := rfl
theorem readC0 {a b : List Int} {f : Int} : readB ⟨(a, b, f), (a, b, f), [], -1, false⟩ 0 = a := rfl
theorem firstC {a b : List Int} {f : Int} : (if (⟨(a, b, f), (a, b, f), [], -1, false⟩ : AD).down = true then (0 : Int) else (⟨(a, b, f), (a, b, f), [], -1, false⟩ : AD).now.2.2) = f := rfl
theorem may_app (t : St) (bs : List (List Int)) : mayE (app t bs) 1 = 0 := rfl
theorem app_take (t : St) (m : List (List Int)) (i : Nat) (h : i < m.length) : (app t (m.take i)).change (0, 1, m[i]) = app t (m.take (i + 1)) := by
  rw [app_step, List.take_succ_eq_append_getElem h]
theorem len_al (m : List (List Int)) (i : Nat) (hm : m.length ≤ 20) (hb : ∀ b ∈ m.take i, b.length ≤ 200) : (m.take i).flatten.length ≤ 4000 := by
  have := len_flat (m.take i) hb
  rw [List.length_take] at this
  omega
set_option maxHeartbeats 8000000 in
set_option maxRecDepth 100000 in
theorem DiskKeeps_calls (A : Option Addr) (c : Nat) (l : List S39) (Am : Option Addr) (cm : Nat) (m : List (List Int)) (keep torn : Int) (w : World) (hx : Kd.C k39 w A l.length l) (hc : l.length ≤ c) (hy : Kd.C (Kd.slice 5 (Kd.int .u8)) w Am m.length m) (hcm : m.length ≤ cm) (hw : ∀ x ∈ l, okAct x) :
    Calls Try.prog 5 #[.slice A l.length c, .slice Am m.length cm, .int .i64 keep, .int .i64 torn] w fun e w' => e = .returned (.bool true) ∧ Below w.heap.size w w' := by
  have HX := Aside0.mk hx
  have HY := Aside0.mk hy
  have HW := Aside0.mk hw
  clear hx hw hy
  go_enter Try.func5, Try.ntmps5
  by_cases hF : Few l
  · by_cases hM : m.length ≤ 20
    · have hm20 : decide ((20 : Int) < (m.length : Int)) = false := decide_eq_false (by omega)
      have HM := Aside0.mk hM
      go_wp2_with (first
        | (go_at_call 8; (with_reducible refine (awake_calls w).mono ?_); rintro e wa ⟨rfl, hb⟩; have HXa := Aside0.mk (Kd.C_below HX.out hb); have HBa := Aside0.mk hb; clear hb)
        | (go_at_call 14; (with_reducible refine (Few_true wa HXa.out hc hF).mono ?_); rintro e wf ⟨rfl, hb⟩; have HXf := Aside0.mk (Kd.C_below HXa.out hb); have HBf := Aside0.mk (below_step HBa.out hb); clear hb HX HXa HBa)
        | (go_at_call 9; (with_reducible refine (new_calls wf).mono ?_); rintro e wn ⟨rfl, hR, hb⟩; have HRn := Aside0.mk hR; have HBn := Aside0.mk hb; clear hR hb)
        | fail)
      go_loopw [10] (fun v10 W => ∃ i : Nat, v10 = .int .i64 i ∧ i ≤ l.length ∧ Aside0 (Rep wf.heap.size W wf.heap.size (playAll new (l.take i))) ∧ Aside0 (Below wf.heap.size wf W)) (fun v10 _ => l.length - (intOf v10).toNat)
      case atStart => exact ⟨0, rfl, Nat.zero_le _, HRn, HBn⟩
      case round =>
        obtain ⟨i, rfl, hi, HR, HB⟩ := hrel
        clear HRn HBn
        by_cases hlt : i < l.length
        · have HC := Aside0.mk (Kd.C_below HXf.out HB.out)
          obtain ⟨ad, A2, c2, e, h0, h1, h2, h3, h4, hl2, hi2⟩ := at_T39 HC.out (i : Int) (by omega) (by omega)
          subst e
          rw [rdT_get l i hlt] at h0 h1 h2 h3 h4 hl2 hi2
          rw [Int.toNat_natCast] at h0 h1 h2 h3 h4
          have HST := Aside0.mk (playAll_step new l i hlt)
          have HOK := Aside0.mk (Ok.played0 l HW.out hF i)
          have hk := HW.out _ (List.getElem_mem hlt)
          have hf := hF.2 _ (List.getElem_mem hlt)
          generalize (l[i]) = x at h0 h1 h2 h3 h4 hl2 hi2 HST hk hf
          have HI2 := Aside0.mk hi2
          have HK := Aside0.mk hk
          have HF2 := Aside0.mk hf
          have hlt' : (i : Int) < (l.length : Int) := by omega
          have LT := Aside0.mk hlt
          have hi9 : i < 500000000 := by have := hF.1; omega
          clear hi2 hk hf
          go_wp2_with fail
          refine (Play_calls (s := playAll new (l.take i)) _ HR.out HOK.out n8040 x HI2.out hl2 (by have := HF2.out; omega) HK.out.1 HK.out.2.1).mono ?_
          rintro e w2 ⟨rfl, hR2, hb2⟩
          have HR2 := Aside0.mk hR2
          have HB2 := Aside0.mk (HB.out.trans hb2)
          clear hR2 hb2
          go_wp2
          go_roundw
          case rel => exact ⟨i + 1, by go_num, LT.out, ⟨by rw [HST.out]; exact HR2.out⟩, HB2⟩
          case measure => simp [intOf]; have := LT.out; omega
        · have hk' : i = l.length := by omega
          subst hk'
          have hlt' : ¬ ((l.length : Int) < (l.length : Int)) := by omega
          have HOK := Aside0.mk (Ok.played0 l HW.out hF l.length)
          generalize playAll new (l.take l.length) = S at HR HOK
          have HOA := Aside0.mk (HOK.out.arm (-1) (by omega) (by omega))
          clear HW
          by_cases hd : S.down = true
          · obtain ⟨e1, e2⟩ := synced_not hd
            have E1 := Aside0.mk e1
            have E2 := Aside0.mk e2
            clear e1 e2
            go_wp2_with (first
              | (go_at_call 18; (with_reducible refine (Arm_calls _ HR.out (-1)).mono ?_); rintro e w3 ⟨rfl, hR3, hb3⟩; have HR3 := Aside0.mk hR3; have HB3 := Aside0.mk (HB.out.trans hb3); clear hR3 hb3)
              | (go_at_call 19; (with_reducible refine (Sync_E w3 HR3.out HOA.out n8040 (syncE_no E2.out) E1.out).mono ?_); rintro e w4 ⟨rfl, hR4, hb4⟩; have HR4 := Aside0.mk hR4; have HB4 := Aside0.mk (HB3.out.trans hb4); clear hR4 hb4)
              | (go_at_call 20; (with_reducible refine (Down_calls w4 HR4.out).mono ?_); rintro e w5 ⟨rfl, rfl⟩)
              | fail)
            go_ret
            exact ⟨by rw [E2.out]; rfl, below_step HBf.out HB4.out⟩
          · have hd : S.down = false := by simpa using hd
            have E1 := Aside0.mk (synced hd)
            have E2 := Aside0.mk (armed_no hd)
            have OT := Aside0.mk (E1.out ▸ HOA.out.sync)
            generalize S.now = t at E1 OT
            have L0 := Aside0.mk (show t.1.length ≤ 1000000000 from OT.out.n0s)
            have L1 := Aside0.mk (show t.2.1.length ≤ 1000000000 from OT.out.n1s)
            go_wp2_with (first
              | (go_at_call 18; (with_reducible refine (Arm_calls _ HR.out (-1)).mono ?_); rintro e w3 ⟨rfl, hR3, hb3⟩; have HR3 := Aside0.mk hR3; have HB3 := Aside0.mk (HB.out.trans hb3); clear hR3 hb3)
              | (go_at_call 19; (with_reducible refine (Sync_E w3 HR3.out HOA.out n8040 (syncE_ok E2.out) E1.out).mono ?_); rintro e w4 ⟨rfl, hR4, hb4⟩; have HR4 := Aside0.mk hR4; have HB4 := Aside0.mk (HB3.out.trans hb4); clear hR4 hb4)
              | (go_at_call 11; (with_reducible refine (Read_E w4 HR4.out OT.out n8040 1 (mayS 1 (.inr rfl)) readS1).mono ?_); rintro e w5 ⟨A5, c5, rfl, hS, hb⟩; have HS5 := Aside0.mk hS; have HR5 := Aside0.mk (HR4.out.below hb); have HB5 := Aside0.mk (below_step HB4.out hb); clear hS hb)
              | (go_at_call 11; (with_reducible refine (Read_E w5 HR5.out OT.out n8040 0 (mayS 0 (.inl rfl)) readS0).mono ?_); rintro e w6 ⟨A6, c6, rfl, hS, hb⟩; have HT6 := Aside0.mk (hS.lower HB5.out.size); have HS6 := Aside0.mk ((HS5.out.keep (Keeps.below hb)).lower HB4.out.size); have HR6 := Aside0.mk (HR5.out.below hb); have HB6 := Aside0.mk (below_step HB5.out hb); clear hS hb HS5)
              | (go_at_call 21; (with_reducible refine (First_E w6 HR6.out (F := t.2.2) (E := 0) rfl rfl).mono ?_); rintro e w7 ⟨rfl, rfl⟩; have HK7 := Aside0.mk (show KL wf.heap.size (fun _ => False) w7 wf.heap.size (app t []) (.slice none 0 0) [] (.slice A5 t.2.1.length c5) (.slice A6 t.1.length c6) t.2.1 t.1 from ⟨app_nil t ▸ HR6.out.fresh (fun _ h => h.elim), Kd.R_nil _ _ _ _ _, fun _ h => h.elim, HS6.out, fun _ _ h => h, HT6.out, fun _ _ h => h⟩); have HSC := Aside0.mk HS6.out.len.2; clear HS6 HT6)
              | (at_builtin; refine Kd.R_append_rows (Kd.int .u8) (w0 := wf) wf.heap.size rfl (.tmp 73) (.tmp 74) 22 5 (.int .u8 0) 1 rfl Try.underlying22 infoU8' rfl (by decide) (by omega) (.slice none 0 0) ([] : List Int) t.2.1 _ _ _ (fun k => False ∨ w7.heap.size ≤ k) (fun _ => False) rfl rfl (Kd.R_nil _ _ _ _ _) HSC.out.2 (fun _ _ h => h) (fun _ h => h.elim) (fun _ h => .inr h) HB6.out HB6.out.size (by have := L1.out; simp; omega) ?_; intro v1 w8 ho hb hg hat; obtain ⟨A8, c8, e8⟩ := Kd.R_slice ho; subst e8; have HK8 := Aside0.mk (HK7.out.grew hg ho); have HB8 := Aside0.mk hb; clear ho hb hg hat)
              | fail)
            have hlt' := hlt
            clear hlt hi hlt'
            have HYf := Aside0.mk (Kd.C_below HY.out HBf.out)
            go_loopw [17, 18] (fun v17 v18 W => ∃ (i : Nat) (A' : Option Addr) (c' : Nat) (al : List Int) (X : Nat → Prop), v17 = .slice A' al.length c' ∧ v18 = .int .i64 i ∧ i ≤ m.length ∧ Aside0 (al = t.2.1 ++ (m.take i).flatten) ∧ Aside0 (∀ b ∈ m.take i, b.length ≤ 200) ∧ Aside0 (KL wf.heap.size X W wf.heap.size (app t (m.take i)) (.slice A' al.length c') al (.slice A5 t.2.1.length c5) (.slice A6 t.1.length c6) t.2.1 t.1) ∧ Aside0 (Below wf.heap.size wf W)) (fun _ v18 _ => m.length - (intOf v18).toNat)
            case atStart => exact ⟨0, A8, c8, [] ++ t.2.1, _, rfl, rfl, Nat.zero_le _, ⟨by simp⟩, ⟨by simp⟩, HK8, HB8⟩
            case round =>
              obtain ⟨i, A', c', al, X, rfl, rfl, hi, HAL, HLE, HK, HB⟩ := hrel
              clear HK7 HK8 HB8 HB6 HSC
              have HOA2 := Aside0.mk (app_ok' OT.out (m.take i) HLE.out (by have := HM.out; rw [List.length_take]; omega))
              have HALN := Aside0.mk (show al.length ≤ 12060 by
                have h1 := len_al m i HM.out HLE.out
                have h2 : t.2.1.length ≤ 8040 := OT.out.n1
                rw [HAL.out, List.length_append]; omega)
              have hi9 : i < 500000000 := by have := HM.out; omega
              by_cases hlt : i < m.length
              · obtain ⟨ad, A2, c2, e, hz, hl2, hC2⟩ := at_BB (Kd.C_below HYf.out HB.out) i hlt
                subst e
                have HST := Aside0.mk (app_take t m i hlt)
                have HTK := Aside0.mk (List.take_succ_eq_append_getElem hlt)
                have HAT := Aside0.mk (fun (W : World) (hW : Below wf.heap.size wf W) => at_BB (Kd.C_below HYf.out hW) i hlt)
                have HC2 := Aside0.mk hC2
                have HL2 := Aside0.mk hl2
                have LT := Aside0.mk hlt
                generalize (m[i]) = b at hz HST HTK HAT HC2 HL2
                have hlt' : (i : Int) < (m.length : Int) := by omega
                clear hC2 hl2
                by_cases hb2 : b.length ≤ 200
                · have hd2 : decide ((200 : Int) < (b.length : Int)) = false := decide_eq_false (by omega)
                  have LB := Aside0.mk hb2
                  clear hb2
                  go_wp2_with (first
                    | (go_at_call 10; (with_reducible refine (Append_XE (bs := b) _ HK.out.rep HK.out.xl HOA2.out n12060 1 HC2.out HL2.out (by have := LB.out; omega) (may_app t (m.take i)) HST.out).mono ?_); rintro e w2 ⟨rfl, hR2, hb2, hk2⟩; have HK2 := Aside0.mk (HK.out.acted hR2 hb2.size hk2); have HB2 := Aside0.mk (HB.out.trans hb2); clear hR2 hb2 hk2 HK HB hz; obtain ⟨ad', A3, c3, e3, hz3, hl3, hC3⟩ := HAT.out w2 HB2.out; cases e3; have HC3 := Aside0.mk hC3; clear hl3 hC3)
                    | (at_builtin; refine Kd.R_append_rows (Kd.int .u8) (w0 := wf) wf.heap.size rfl (.tmp 97) (.tmp 101) 22 5 (.int .u8 0) 1 rfl Try.underlying22 infoU8' rfl (by decide) (by omega) (.slice A' al.length c') al b _ _ _ (fun k => X k ∨ w2.heap.size ≤ k) (fun _ => False) rfl rfl (Kd.R_mono HK2.out.row (fun _ h => .inl h)) HC3.out (fun _ _ h => h) (fun _ h => h.elim) (fun _ h => .inr h) HB2.out HB2.out.size (by have := LB.out; have := HALN.out; omega) ?_; intro v1 w8 ho hb hg hat; obtain ⟨A8, c8, e8⟩ := Kd.R_slice ho; subst e8; have HK8 := Aside0.mk (HK2.out.grew hg ho); have HB8 := Aside0.mk hb; clear ho hb hg hat)
                    | fail)
                  go_roundw
                  case rel =>
                    refine ⟨i + 1, A8, c8, al ++ b, _, by rw [List.length_append], by go_num, LT.out, ⟨?_⟩, ⟨?_⟩, HK8, HB8⟩
                    · rw [HTK.out, HAL.out, List.flatten_append, List.append_assoc]; simp
                    · rw [HTK.out]
                      intro x hx
                      rcases List.mem_append.1 hx with hx | hx
                      · exact HLE.out x hx
                      · rw [List.mem_singleton.1 hx]; exact LB.out
                  case measure => simp [intOf]; have := LT.out; omega
                · have hd2 : decide ((200 : Int) < (b.length : Int)) = true := decide_eq_true (by omega)
                  clear hb2
                  go_wp2
                  go_ret
                  exact ⟨rfl, below_step HBf.out HB.out⟩
              · have hk' : i = m.length := by omega
                subst hk'
                have hlt' : ¬ ((m.length : Int) < (m.length : Int)) := by omega
                rw [List.take_of_length_le (Nat.le_refl _)] at HAL HK HOA2
                obtain ⟨pre, hp, hcr⟩ := app_crash t m keep torn
                have OKM := Aside0.mk (hcr ▸ HOA2.out.crash keep torn)
                have HCR := Aside0.mk hcr
                have B0 := Aside0.mk (begins0 t.2.1 pre)
                have B1 := Aside0.mk (show t.2.1 ++ pre = al.take (t.2.1 ++ pre).length by rw [HAL.out]; exact begins1 hp)
                clear hcr hp HAL
                generalize t.2.1 ++ pre = now at OKM HCR B0 B1
                have LN := Aside0.mk (show now.length ≤ 1000000000 from Nat.le_trans OKM.out.n1 (by decide))
                have LA := Aside0.mk (show al.length ≤ 1000000000 from Nat.le_trans HALN.out (by decide))
                have LAX := Aside0.mk (show al.length ≤ 9223372036854775807 from Nat.le_trans HALN.out (by decide))
                go_wp2_with (first
                  | (go_at_call 12; (with_reducible refine (Crash_E _ HK.out.rep.rep HOA2.out n12060 keep torn HCR.out).mono ?_); rintro e w8 ⟨rfl, hR, hb, hg⟩; obtain ⟨cs8, hp8⟩ := HK.out.rep.rep.blk; have hk5 := Keeps.grown (t := 5) hg hp8 (by decide); have HS8 := Aside0.mk (HK.out.w0.keep hk5); have HT8 := Aside0.mk (HK.out.o0.keep hk5); have HA8 := Aside0.mk (BS.ofR (R_keep HK.out.row hk5) LAX.out); have HR8 := Aside0.mk hR; have HB8 := Aside0.mk (HB.out.trans hb); clear hR hb hg hp8 cs8 hk5 HK HB)
                  | (go_at_call 11; (with_reducible refine (Read_E w8 HR8.out OKM.out n12060 1 (mayS 1 (.inr rfl)) readC1).mono ?_); rintro e w9 ⟨A9, c9, rfl, hS, hb⟩; have HN9 := Aside0.mk hS; have HS9 := Aside0.mk (HS8.out.keep (Keeps.below hb)); have HT9 := Aside0.mk (HT8.out.keep (Keeps.below hb)); have HA9 := Aside0.mk (HA8.out.keep (Keeps.below hb)); have HR9 := Aside0.mk (HR8.out.below hb); have HB9 := Aside0.mk (below_step HB8.out hb); clear hS hb HS8 HT8 HA8)
                  | (go_at_call 11; (with_reducible refine (Read_E w9 HR9.out OKM.out n12060 0 (mayS 0 (.inl rfl)) readC0).mono ?_); rintro e w10 ⟨A10, c10, rfl, hS, hb⟩; have HO10 := Aside0.mk hS; have HN10 := Aside0.mk (HN9.out.keep (Keeps.below hb)); have HS10 := Aside0.mk (HS9.out.keep (Keeps.below hb)); have HT10 := Aside0.mk (HT9.out.keep (Keeps.below hb)); have HA10 := Aside0.mk (HA9.out.keep (Keeps.below hb)); have HR10 := Aside0.mk (HR9.out.below hb); have HB10 := Aside0.mk (below_step HB9.out hb); clear hS hb HS9 HT9 HA9 HN9)
                  | (go_at_call 21; (with_reducible refine (First_E w10 HR10.out (F := t.2.2) (E := 0) rfl rfl).mono ?_); rintro e w11 ⟨rfl, rfl⟩)
                  | (go_at_call 13; (with_reducible refine (Same_bs w11 HO10.out HT10.out L0.out (decide_eq_true rfl)).mono ?_); rintro e w12 ⟨rfl, hb⟩; have HN12 := Aside0.mk (HN10.out.keep (Keeps.below hb)); have HS12 := Aside0.mk (HS10.out.keep (Keeps.below hb)); have HA12 := Aside0.mk (HA10.out.keep (Keeps.below hb)); have HR12 := Aside0.mk (HR10.out.below hb); have HB12 := Aside0.mk (below_step HB10.out hb); clear hb)
                  | (go_at_call 22; (with_reducible refine (Begins_bs w12 HN12.out HS12.out LN.out L1.out (decide_eq_true B0.out)).mono ?_); rintro e w13 ⟨rfl, hb⟩; have HN13 := Aside0.mk (HN12.out.keep (Keeps.below hb)); have HA13 := Aside0.mk (HA12.out.keep (Keeps.below hb)); have HR13 := Aside0.mk (HR12.out.below hb); have HB13 := Aside0.mk (below_step HB12.out hb); clear hb)
                  | (go_at_call 22; (with_reducible refine (Begins_bs w13 HA13.out HN13.out LA.out LN.out (decide_eq_true B1.out)).mono ?_); rintro e w14 ⟨rfl, hb⟩; have HR14 := Aside0.mk (HR13.out.below hb); have HB14 := Aside0.mk (below_step HB13.out hb); clear hb)
                  | (go_at_call 23; (with_reducible refine (Loose_calls w14 HR14.out).mono ?_); rintro e w15 ⟨rfl, rfl⟩)
                  | fail)
                go_ret
                exact ⟨rfl, below_step HBf.out HB14.out⟩
    · have hm20 : decide ((20 : Int) < (m.length : Int)) = true := decide_eq_true (by omega)
      go_wp2_with (first
        | (go_at_call 8; (with_reducible refine (awake_calls w).mono ?_); rintro e wa ⟨rfl, hb⟩; have HXa := Aside0.mk (Kd.C_below HX.out hb); have HBa := Aside0.mk hb; clear hb)
        | (go_at_call 14; (with_reducible refine (Few_true wa HXa.out hc hF).mono ?_); rintro e wf ⟨rfl, hb⟩; have HBf := Aside0.mk (below_step HBa.out hb); clear hb HX HXa HBa)
        | (go_at_call 8; (with_reducible refine (awake_calls wf).mono ?_); rintro e wb ⟨rfl, hb⟩; have HBb := Aside0.mk (below_step HBf.out hb); clear hb)
        | fail)
      go_ret
      exact ⟨rfl, HBb.out⟩
  · go_wp2_with (first
      | (go_at_call 8; (with_reducible refine (awake_calls w).mono ?_); rintro e wa ⟨rfl, hb⟩; have HXa := Aside0.mk (Kd.C_below HX.out hb); have HBa := Aside0.mk hb; clear hb)
      | (go_at_call 14; (with_reducible refine (Few_false wa HXa.out hc hF).mono ?_); rintro e wf ⟨rfl, hb⟩; have HBf := Aside0.mk (below_step HBa.out hb); clear hb HX HXa HBa)
      | (go_at_call 8; (with_reducible refine (awake_calls wf).mono ?_); rintro e wb ⟨rfl, hb⟩; have HBb := Aside0.mk (below_step HBf.out hb); clear hb)
      | fail)
    go_ret
    exact ⟨rfl, HBb.out⟩
end Go.Proofs.Ytpagajgpcmonkaa.PDisk
