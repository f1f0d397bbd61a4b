/- The walk of DiskMemory. -/
import Derived.Test.YtpagajgpcmonkaaDiskLib
namespace Go.Proofs.Ytpagajgpcmonkaa.PDisk
open Go.RowKit Go.Proofs.YtpagajgpcmonkaaW.PrintWords Go.Proofs.YtpagajgpcmonkaaW.PrintLast Go.Proofs.YtpagajgpcmonkaaW.PrintMore
set_option linter.unusedVariables false
set_option linter.unusedSimpArgs false
/-- a byte of bytes of one's own, written -/
theorem BS.put {B : Nat} {W : World} {A : Option Addr} {n c j : Nat} {bs : List Int} (h : BS B W (.slice A n c) bs) (hj : j < n) :
    ∃ g, A = some ⟨g, 0, none⟩ ∧ B ≤ g ∧ g < W.heap.size ∧ (∃ b, W.cell? ⟨g, j, none⟩ = some (.int .u8 b)) ∧ W.frozen? ⟨g, j, none⟩ = false ∧ ∀ y : Int, ∃ bs', bs'.length = bs.length ∧ BS B (W.setCell ⟨g, j, none⟩ (.int .u8 y)) (.slice (some ⟨g, 0, none⟩) n c) bs' := by
  obtain ⟨A', c', e, hl, hm, h⟩ := h
  injection e with e1 e2 e3
  subst e1; subst e2; subst e3
  rcases h with ⟨_, rfl⟩ | ⟨g, cs, rfl, hB, hg, hc⟩
  · omega
  · refine ⟨g, rfl, hB, blk_lt hg, ⟨bs[j], (blk_cell hg j).trans (hc j _ (List.getElem?_eq_getElem hj))⟩, blk_frozen hg j, fun y => ⟨bs.set j y, by rw [List.length_set], _, _, by rw [List.length_set], by rw [List.length_set]; exact hl, by rw [List.length_set]; exact hm, .inr ⟨g, _, rfl, hB, blk_set hg j (.int .u8 y), fun i b hb => ?_⟩⟩⟩
    rw [Array.getElem?_setIfInBounds]
    by_cases he : j = i
    · subst he
      rw [List.getElem?_set_self hj] at hb
      cases hb
      have := hc j _ (List.getElem?_eq_getElem hj)
      rw [if_pos rfl, if_pos (Array.getElem?_eq_some_iff.1 this).1]
    · rw [List.getElem?_set_ne he] at hb
      rw [if_neg he]
      exact hc i b hb
def M1 (l : List Int) : AD := ⟨([], [], 0), (l, [], 0), [(0, 0, l)], -1, false⟩
def M2 (l : List Int) : AD := ⟨(l, [], 0), (l, [], 0), [], -1, false⟩
theorem m1 (l : List Int) : new.change (0, 0, l) = M1 l := rfl
theorem m2 (l : List Int) : (M1 l).crash 5 0 = M2 l := rfl
theorem mo1 (l : List Int) (h : l.length ≤ 500) : Ok 501 (M1 l) := m1 l ▸ (Ok.new.change (0, 0, l) ⟨.inl rfl, .inl rfl⟩).mono (by show 0 + l.length + 1 ≤ 501; omega)
theorem mo2 (l : List Int) (h : l.length ≤ 500) : Ok 501 (M2 l) := m2 l ▸ (mo1 l h).crash 5 0
theorem mayNew : mayE new 0 = 0 := rfl
theorem mayM1 (l : List Int) : mayE (M1 l) 0 = 0 := rfl
theorem mayM2 (l : List Int) : mayE (M2 l) 0 = 0 := rfl
theorem readM1 (l : List Int) : readB (M1 l) 0 = l := rfl
theorem readM2 (l : List Int) : readB (M2 l) 0 = l := rfl
theorem n501 : 501 ≤ 500000000 := by decide
theorem n0 : 0 ≤ 500000000 := by decide
set_option maxHeartbeats 8000000 in
set_option maxRecDepth 100000 in
theorem DiskMemory_calls (A : Option Addr) (c : Nat) (l : List Int) (w : World) (hx : Kd.C (Kd.int .u8) w A l.length l) (hc : l.length ≤ c) :
    Calls Try.prog 3 #[.slice A l.length c] w fun e w' => e = .returned (.bool true) ∧ Below w.heap.size w w' := by
  have HX := Aside0.mk hx
  clear hx
  go_enter Try.func3, Try.ntmps3
  by_cases hF : l.length ≤ 500
  · have h5 : decide ((500 : Int) < (l.length : Int)) = false := decide_eq_false (by omega)
    have HF := Aside0.mk hF
    have HF8 := Aside0.mk (show l.length ≤ 1000000000 by omega)
    go_wp2_with (first
      | (go_at_call 8; (with_reducible refine (awake_calls w).mono ?_); rintro e wa ⟨rfl, hb⟩; have HXa := Aside0.mk (Kd.C_below HX.out hb); have HBa := Aside0.mk hb; clear hb; have HO := Aside0.mk (own_empty (Kd.int .u8) 5 wa wa.heap.size (fun _ => True) (Nat.le_refl _) trivial); have HB := Aside0.mk (below_alloc (Below.refl wa.heap.size wa) (.cells #[] 5)))
      | (at_builtin; refine Kd.R_append_rows (Kd.int .u8) (w0 := wa) wa.heap.size rfl (.tmp 21) (.tmp 22) 22 5 (.int .u8 0) 1 rfl Try.underlying22 infoU8' rfl (by decide) (by omega) (.slice (some ⟨wa.heap.size, 0, none⟩) 0 0) ([] : List Int) l _ _ _ (fun _ => True) (fun _ => False) rfl rfl HO.out (Kd.C_below HXa.out HB.out) (fun _ _ h => h) (fun _ h => h.elim) (fun _ _ => trivial) HB.out (below_size HB.out) (by have := HF.out; simp; omega) ?_; intro v1 w1 ho hb1 hg1 hat1; have hBS := BS.ofR (bs := l) ho (by have := HF.out; omega); obtain ⟨A1, c1, rfl, _⟩ := id hBS; have HB1 := Aside0.mk hb1; have HS1 := Aside0.mk hBS; clear hBS ho hb1 hg1 hat1 HO HB)
      | (go_at_call 9; (with_reducible refine (new_calls w1).mono ?_); rintro e w2 ⟨rfl, hR, hb⟩; have HRn := Aside0.mk hR; have HBn := Aside0.mk hb; have HS2 := Aside0.mk (HS1.out.keep (Keeps.below hb)); have HB2 := Aside0.mk (below_step HB1.out hb); have HZ := Aside0.mk (HB1.out.size); have HC2 := Aside0.mk (HS2.out.len.2); clear hR hb)
      | (go_at_call 10; (with_reducible refine (Append_E (bs := l) w2 HRn.out Ok.new n0 0 HC2.out.2 HC2.out.1 (by have := HF.out; omega) mayNew (m1 l)).mono ?_); rintro e w3 ⟨rfl, hR, hb⟩; have HR3 := Aside0.mk hR; have HBp := Aside0.mk (HBn.out.trans hb); clear hR hb HRn HS2 HB2 HC2 HBn)
      | (go_at_call 11; (with_reducible refine (Read_E w3 HR3.out (mo1 l HF.out) n501 0 (mayM1 l) (readM1 l)).mono ?_); rintro e w4 ⟨A5, c5, rfl, hS, hb⟩; have HS4 := Aside0.mk hS; have HB4 := Aside0.mk hb; clear hS hb)
      | fail)
    have HG := Aside0.mk (show ∀ g, A1 = some ⟨g, 0, none⟩ → 0 < l.length → g < w1.heap.size from fun g hg h0 => by
      obtain ⟨g', e, _, hlt, _⟩ := HS1.out.put h0
      rw [hg] at e
      cases e
      exact hlt)
    have HLE := Aside0.mk HF.out
    have HSZ := Aside0.mk HBp.out.size
    go_loopw [7] (fun v7 W => ∃ (j : Nat) (bs : List Int), v7 = .int .i64 j ∧ j ≤ l.length ∧ Aside0 (BS w3.heap.size W (.slice A5 l.length c5) bs) ∧ Aside0 (Below w3.heap.size w3 W)) (fun v7 _ => l.length - (intOf v7).toNat)
    case atStart => exact ⟨0, l, rfl, Nat.zero_le _, HS4, HB4⟩
    case round =>
      clear HS4 HB4
      obtain ⟨j, bs, rfl, hj, HS, HB⟩ := hrel
      have hi9 : j < 500000000 := by have := HF.out; omega
      by_cases hjl : j < l.length
      · have hjl' : (j : Int) < (l.length : Int) := by omega
        obtain ⟨g, hA5, hgb, hgl, ⟨x, hx⟩, hfx, hput⟩ := HS.out.put hjl
        subst hA5
        have GB := Aside0.mk hgb
        have HP := Aside0.mk hput
        have LT := Aside0.mk hjl
        clear hput hgb hgl
        go_wp2
        obtain ⟨bs', hbl, hbR⟩ := HP.out 9
        have n1 := Aside0.mk hbR
        have n4 := Aside0.mk (below_set (g := g) (j := j) (v := .int .u8 9) HB.out GB.out)
        clear hbl hbR HP
        go_roundw
        case rel => exact ⟨j + 1, bs', by go_num, LT.out, n1, n4⟩
        case measure => simp [intOf]; have := LT.out; omega
      · have hk : j = l.length := by omega
        subst hk
        have hjl' : ¬ ((l.length : Int) < (l.length : Int)) := by omega
        have HR5 := Aside0.mk (HR3.out.below HB.out)
        have HC5 := Aside0.mk (HS1.out.keep (Keeps.below (below_step HBp.out HB.out)))
        have HB5 := Aside0.mk (below_step (below_step (below_step HBa.out HB1.out) HBp.out) HB.out)
        clear HB HS HR3 HBp
        go_wp2
        clear hjl'
        go_loopw [8] (fun v8 W => ∃ (j : Nat) (bs : List Int), v8 = .int .i64 j ∧ j ≤ l.length ∧ Aside0 (BS wa.heap.size W (.slice A1 l.length c1) bs) ∧ Aside0 (Rep w1.heap.size W w1.heap.size (M1 l)) ∧ Aside0 (Below w.heap.size w W)) (fun v8 _ => l.length - (intOf v8).toNat)
        case atStart => exact ⟨0, l, rfl, Nat.zero_le _, HC5, HR5, HB5⟩
        case round =>
          clear HC5 HR5 HB5
          obtain ⟨j, bs, rfl, hj, HS, HR, HB⟩ := hrel
          have hi9 : j < 500000000 := by have := HF.out; omega
          by_cases hjl : j < l.length
          · have hjl' : (j : Int) < (l.length : Int) := by omega
            obtain ⟨g, hA5, hgb, hgl, ⟨x, hx⟩, hfx, hput⟩ := HS.out.put hjl
            have GB := Aside0.mk (Nat.le_trans HBa.out.size hgb)
            have GL := Aside0.mk (HG.out g hA5 (by omega))
            subst hA5
            have HP := Aside0.mk hput
            have LT := Aside0.mk hjl
            clear hput hgb hgl
            go_wp2
            obtain ⟨bs', hbl, hbR⟩ := HP.out 7
            have n1 := Aside0.mk hbR
            have n2 := Aside0.mk (HR.out.far (W' := World.setCell _ ⟨g, j, none⟩ (.int .u8 7)) (fun k hk hk2 => Below.heap_setCell _ _ _ k (by show k ≠ g; have := GL.out; omega)))
            have n4 := Aside0.mk (below_set (g := g) (j := j) (v := .int .u8 7) HB.out GB.out)
            clear hbl hbR HP
            go_roundw
            case rel => exact ⟨j + 1, bs', by go_num, LT.out, n1, n2, n4⟩
            case measure => simp [intOf]; have := LT.out; omega
          · have hk : j = l.length := by omega
            subst hk
            have hjl' : ¬ ((l.length : Int) < (l.length : Int)) := by omega
            clear HS
            go_wp2_with (first
              | (go_at_call 11; (with_reducible refine (Read_E _ HR.out (mo1 l HF.out) n501 0 (mayM1 l) (readM1 l)).mono ?_); rintro e w7 ⟨A9, c9, rfl, hS, hb⟩; have HS7 := Aside0.mk hS; have HR7 := Aside0.mk (HR.out.below hb); have HB7 := Aside0.mk (below_step HB.out hb); clear hS hb HR HB)
              | (go_at_call 12; (with_reducible refine (Crash_E w7 HR7.out (mo1 l HF.out) n501 5 0 (m2 l)).mono ?_); rintro e w8 ⟨rfl, hR, hb, hg⟩; obtain ⟨cs8, hp8⟩ := HR7.out.blk; have HS8 := Aside0.mk (HS7.out.keep (Keeps.grown (t := 5) hg hp8 (by decide))); have HR8 := Aside0.mk hR; have HB8 := Aside0.mk (HB7.out.trans (hb.mono (Nat.le_trans HBa.out.size HB1.out.size))); clear hR hb hg hp8 cs8 HS7)
              | (go_at_call 11; (with_reducible refine (Read_E w8 HR8.out (mo2 l HF.out) n501 0 (mayM2 l) (readM2 l)).mono ?_); rintro e w9 ⟨A11, c11, rfl, hS, hb⟩; have HU9 := Aside0.mk hS; have HS9 := Aside0.mk (HS8.out.keep (Keeps.below hb)); have HB9 := Aside0.mk (below_step HB8.out hb); clear hS hb)
              | (go_at_call 13; (with_reducible refine (Same_says (a := l) (b := l) w9 HS9.out.len.2.2 HS9.out.len.2.1 (Kd.C_below HX.out HB9.out) hc HF8.out).mono ?_); rintro e wx ⟨rfl, hb⟩; have ht := decide_eq_true (rfl : l = l); have HUx := Aside0.mk (HU9.out.keep (Keeps.below hb)); have HBx := Aside0.mk (below_step HB9.out hb); clear hb)
              | (go_at_call 13; (with_reducible refine (Same_says (a := l) (b := l) wx HUx.out.len.2.2 HUx.out.len.2.1 (Kd.C_below HX.out HBx.out) hc HF8.out).mono ?_); rintro e wy ⟨rfl, hb⟩; have HBy := Aside0.mk (below_step HBx.out hb); clear hb)
              | fail)
            go_ret
            exact ⟨rfl, HBy.out⟩
  · have h5 : decide ((500 : Int) < (l.length : Int)) = true := decide_eq_true (by omega)
    go_wp2_with (first
      | (go_at_call 8; (with_reducible refine (awake_calls w).mono ?_); rintro e wa ⟨rfl, hb⟩; have HBa := Aside0.mk hb; clear hb)
      | (go_at_call 8; (with_reducible refine (awake_calls wa).mono ?_); rintro e wb ⟨rfl, hb⟩; have HBb := Aside0.mk (below_step HBa.out hb); clear hb)
      | fail)
    go_ret
    exact ⟨rfl, HBb.out⟩
end Go.Proofs.Ytpagajgpcmonkaa.PDisk
