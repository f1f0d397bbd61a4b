/- The walk of Shows. -/
import Derived.Test.YtpagajgpcmonkaaDiskBytes
namespace Go.Proofs.Ytpagajgpcmonkaa.PDisk
open Go.RowKit Go.Proofs.YtpagajgpcmonkaaW.PrintWords Go.Proofs.YtpagajgpcmonkaaW.PrintLast Go.Proofs.YtpagajgpcmonkaaW.PrintMore
set_option linter.unusedVariables false
set_option linter.unusedSimpArgs false
/-- the document's disk, as it lies -/
structure RefAt (ok : Nat → Prop) (W : World) (d : RD) (A0 : Option Addr) (c0 : Nat) (A1 : Option Addr) (c1 : Nat) : Prop where
  v0 : Kd.V k39 39 W W.heap.size ok (.slice A0 d.safe.length c0) d.safe
  v1 : Kd.V k39 39 W W.heap.size ok (.slice A1 d.loose.length c1) d.loose
theorem Rep.drawnN {B p : Nat} {W : World} {s : AD} (h : Rep B W p s) (m : Nat) : Rep B (W.drewN m) p s := h.below (pw_below_drewN (Below.refl _ _) m)
theorem mayUp {s : AD} {a : Int} (h : s.down = false) (ha : a = 0 ∨ a = 1) : mayE s a = 0 := by unfold mayE; rw [if_neg (by omega), h]; rfl
theorem readUp {s : AD} {a : Int} (h : s.down = false) (ha : a = 0 ∨ a = 1) : readB s a = if a = 0 then s.now.1 else s.now.2.1 := by unfold readB; rw [mayUp h ha, if_pos rfl]
theorem mayDn {s : AD} {a : Int} (h : s.down = true) (ha : a = 0 ∨ a = 1) : mayE s a = 4 := by unfold mayE; rw [if_neg (by omega), h]; rfl
theorem readDn {s : AD} {a : Int} (h : s.down = true) (ha : a = 0 ∨ a = 1) : readB s a = [] := by unfold readB; rw [mayDn h ha]; rfl
theorem firstUp {s : AD} (h : s.down = false) : (if s.down = true then (0 : Int) else s.now.2.2) = s.now.2.2 := by rw [h]; rfl
theorem firstDn {s : AD} (h : s.down = true) : (if s.down = true then (0 : Int) else s.now.2.2) = 0 := by rw [h]; rfl
set_option maxHeartbeats 16000000 in
set_option maxRecDepth 100000 in
theorem Shows_says {ok : Nat → Prop} {B p N : Nat} {s : AD} {d : RD} {A0 A1 : Option Addr} {c0 c1 : Nat} (w : World) (hR : Rep B w p s) (hO : Ok N s) (hN : N ≤ 500000000) (hS : Sim s d) (hn : size d ≤ 1000) (hD : RefAt ok w d A0 c0 A1 c1) :
    Calls Try.prog 17 #[.pointer (some ⟨p, 0, none⟩), .agg #[.slice A0 d.safe.length c0, .slice A1 d.loose.length c1, .int .i64 d.left, .bool d.armed, .bool d.down]] w fun e w' => e = .returned (.bool true) ∧ Below w.heap.size w w' := by
  have HR := Aside0.mk hR
  have HO := Aside0.mk hO
  have HS := Aside0.mk hS
  have HD := Aside0.mk hD
  have HL := Aside0.mk (show s.loose.length = d.loose.length by rw [hS.lo, List.length_map])
  have HF := Aside0.mk (fun a ha => bytes_f hS hn a ha)
  have hdn := hS.dn
  have hlen : (s.loose.length : Int) = (d.loose.length : Int) := by rw [HL.out]
  clear hR hO hS hD
  go_enter Try.func17, Try.ntmps17
  cases hd : s.down
  · rw [hd] at hdn
    rw [← hdn]
    have HDN := Aside0.mk hdn
    have HDS := Aside0.mk hd
    clear hdn hd
    go_wp2_with (first
      | ((with_reducible refine gate_dst (N := 3) rfl ?_); refine box_event ?hg (N := 3) ?hd (cs := #[.slice A0 d.safe.length c0, .slice A1 d.loose.length c1, .int .i64 d.left, .bool d.armed, .bool false]) (t := 36) ?hr ?_; (case hd => rfl); (case hg => rfl); (case hr => first | (go_simp; done) | (go_simp; rfl)); intro g3 e3 w1 b3 hb1; have B3 := Aside0.mk b3; have BB1 := Aside0.mk hb1; have HR1 := Aside0.mk (HR.out.below hb1); have z30 : w1.cell? ⟨g3, 0, none⟩ = some (.slice A0 d.safe.length c0) := (blk_cell b3 0).trans rfl; have z31 : w1.cell? ⟨g3, 1, none⟩ = some (.slice A1 d.loose.length c1) := (blk_cell b3 1).trans rfl; have z32 : w1.cell? ⟨g3, 2, none⟩ = some (.int .i64 d.left) := (blk_cell b3 2).trans rfl; have z33 : w1.cell? ⟨g3, 3, none⟩ = some (.bool d.armed) := (blk_cell b3 3).trans rfl; have z34 : w1.cell? ⟨g3, 4, none⟩ = some (.bool false) := (blk_cell b3 4).trans rfl; clear b3 hb1 e3)
      | fail)
    go_quiet (first
      | (go_at_call 20; refine Calls.quiet_of_same (HDS.out ▸ Down_calls _ (HR1.out.drawnN _)))
      | (go_at_call 23; refine Calls.quiet_of_same (Loose_calls _ (HR1.out.drawnN _))))
    have B32 := Aside0.mk (show (w1.drewN nq).heap[g3]? = some (.cells #[.slice A0 d.safe.length c0, .slice A1 d.loose.length c1, .int .i64 d.left, .bool d.armed, .bool false] 36 (0, 0)) from B3.out)
    have BB2 := Aside0.mk (pw_below_drewN BB1.out nq)
    have HR2 := Aside0.mk (HR1.out.drawnN nq)
    clear B3 BB1 HR1 z30 z31 z32 z33 z34 hlen
    generalize w1.drewN nq = w2 at B32 BB2 HR2 ⊢
    go_wp2_with fail
    go_loopw [5] (fun v5 W => ∃ i : Nat, v5 = .int .i64 i ∧ i ≤ 2 ∧ Aside0 (Below w.heap.size w W) ∧ Aside0 (Rep B W p s) ∧ Aside0 (W.heap[g3]? = some (.cells #[.slice A0 d.safe.length c0, .slice A1 d.loose.length c1, .int .i64 d.left, .bool d.armed, .bool false] 36 (0, 0)))) (fun v5 _ => 2 - (intOf v5).toNat)
    case atStart => exact ⟨0, rfl, Nat.zero_le _, BB2, HR2, B32⟩
    case round =>
      clear BB2 HR2 B32
      obtain ⟨i, rfl, hi, BB, HRW, B3⟩ := hrel
      have hi9 : i < 500000000 := by omega
      by_cases hlt : i < 2
      · have ha : (i : Int) = 0 ∨ (i : Int) = 1 := by omega
        have hlt' : (i : Int) < 2 := by omega
        have HA := Aside0.mk ha
        have LT := Aside0.mk hlt
        clear ha
        have LN := Aside0.mk (show (if (i : Int) = 0 then s.now.1 else s.now.2.1).length ≤ 1000000000 by have h0 := HO.out.n0; have h1 := HO.out.n1; split <;> omega)
        have HBY := Aside0.mk (HF.out (i : Int) HA.out)
        have HE := Aside0.mk (mayUp HDS.out HA.out)
        have HRD := Aside0.mk (readUp HDS.out HA.out)
        have HFI := Aside0.mk (firstUp HDS.out)
        have HFE := Aside0.mk (syncE_ok HDS.out)
        generalize (if (i : Int) = 0 then s.now.1 else s.now.2.1) = bs at LN HBY HRD
        go_wp2_with (first
          | (go_at_call 11; (with_reducible refine (Read_E _ HRW.out HO.out hN (i : Int) HE.out HRD.out).mono ?_); rintro e w5 ⟨A5, c5, rfl, hS, hb⟩; have HS5 := Aside0.mk hS; have HR5 := Aside0.mk (HRW.out.below hb); have BB5 := Aside0.mk (below_step BB.out hb); have B35 := Aside0.mk (blkK hb B3.out); clear hS hb)
          | (go_at_call 21; (with_reducible refine (First_E w5 HR5.out HFI.out HFE.out).mono ?_); rintro e w6 ⟨rfl, rfl⟩; have z30 : w6.cell? ⟨g3, 0, none⟩ = some (.slice A0 d.safe.length c0) := (blk_cell B35.out 0).trans rfl; have z31 : w6.cell? ⟨g3, 1, none⟩ = some (.slice A1 d.loose.length c1) := (blk_cell B35.out 1).trans rfl; have z32 : w6.cell? ⟨g3, 2, none⟩ = some (.int .i64 d.left) := (blk_cell B35.out 2).trans rfl; have z33 : w6.cell? ⟨g3, 3, none⟩ = some (.bool d.armed) := (blk_cell B35.out 3).trans rfl; have z34 : w6.cell? ⟨g3, 4, none⟩ = some (.bool false) := (blk_cell B35.out 4).trans rfl; have V0 := Aside0.mk (show Kd.V k39 39 w6 w6.heap.size (fun k_ => ok k_) (.slice A0 d.safe.length c0) d.safe from Kd.V_below HD.out.v0 BB5.out); have V1 := Aside0.mk (show Kd.V k39 39 w6 w6.heap.size (fun k_ => ok k_) (.slice A1 d.loose.length c1) d.loose from Kd.V_below HD.out.v1 BB5.out); have HBZ := Aside0.mk (show lockgateref07_Bytes.f 2002 d.safe d.loose d.left d.armed false (i : Int) = some (bs, s.now.2.2) from HDN.out ▸ HBY.out))
          | (go_at_call 33; (with_reducible refine (lockgateref07_Bytes.calls 2002 ok A0 c0 d.safe ok A1 c1 d.loose d.left d.armed false (i : Int) bs s.now.2.2 w6 V0.out V1.out HBZ.out).mono ?_); rintro e w7 ⟨v7, rfl, hr, hb⟩; have hbs := BS.ofR hr (by have := LN.out; omega); obtain ⟨A7, c7, rfl, _⟩ := id hbs; have HW7 := Aside0.mk hbs; have HS7 := Aside0.mk (HS5.out.keep (Keeps.below hb)); have HR7 := Aside0.mk (HR5.out.below hb); have BB7 := Aside0.mk (below_step BB5.out hb); have B37 := Aside0.mk (blkK hb B35.out); have z37 : w7.cell? ⟨g3, 4, none⟩ = some (.bool false) := (blk_cell B37.out 4).trans rfl; clear hbs hr hb z30 z31 z32 z33 z34)
          | (go_at_call 13; (with_reducible refine (Same_bs w7 HS7.out HW7.out LN.out (decide_eq_true rfl)).mono ?_); rintro e w8 ⟨rfl, hb⟩; have HR8 := Aside0.mk (HR7.out.below hb); have BB8 := Aside0.mk (below_step BB7.out hb); have B38 := Aside0.mk (blkK hb B37.out); clear hb)
          | fail)
        go_roundw
        case rel => exact ⟨i + 1, by go_num, LT.out, BB8, HR8, B38⟩
        case measure => simp [intOf]; have := LT.out; omega
      · have hk : i = 2 := by omega
        subst hk
        go_wp2
        go_ret
        exact ⟨rfl, BB.out⟩
  · rw [hd] at hdn
    rw [← hdn]
    have HDN := Aside0.mk hdn
    have HDS := Aside0.mk hd
    clear hdn hd
    go_wp2_with (first
      | ((with_reducible refine gate_dst (N := 3) rfl ?_); refine box_event ?hg (N := 3) ?hd (cs := #[.slice A0 d.safe.length c0, .slice A1 d.loose.length c1, .int .i64 d.left, .bool d.armed, .bool true]) (t := 36) ?hr ?_; (case hd => rfl); (case hg => rfl); (case hr => first | (go_simp; done) | (go_simp; rfl)); intro g3 e3 w1 b3 hb1; have B3 := Aside0.mk b3; have BB1 := Aside0.mk hb1; have HR1 := Aside0.mk (HR.out.below hb1); have z30 : w1.cell? ⟨g3, 0, none⟩ = some (.slice A0 d.safe.length c0) := (blk_cell b3 0).trans rfl; have z31 : w1.cell? ⟨g3, 1, none⟩ = some (.slice A1 d.loose.length c1) := (blk_cell b3 1).trans rfl; have z32 : w1.cell? ⟨g3, 2, none⟩ = some (.int .i64 d.left) := (blk_cell b3 2).trans rfl; have z33 : w1.cell? ⟨g3, 3, none⟩ = some (.bool d.armed) := (blk_cell b3 3).trans rfl; have z34 : w1.cell? ⟨g3, 4, none⟩ = some (.bool true) := (blk_cell b3 4).trans rfl; clear b3 hb1 e3)
      | fail)
    go_quiet (first
      | (go_at_call 20; refine Calls.quiet_of_same (HDS.out ▸ Down_calls _ (HR1.out.drawnN _)))
      | (go_at_call 23; refine Calls.quiet_of_same (Loose_calls _ (HR1.out.drawnN _))))
    have B32 := Aside0.mk (show (w1.drewN nq).heap[g3]? = some (.cells #[.slice A0 d.safe.length c0, .slice A1 d.loose.length c1, .int .i64 d.left, .bool d.armed, .bool true] 36 (0, 0)) from B3.out)
    have BB2 := Aside0.mk (pw_below_drewN BB1.out nq)
    have HR2 := Aside0.mk (HR1.out.drawnN nq)
    clear B3 BB1 HR1 z30 z31 z32 z33 z34 hlen
    generalize w1.drewN nq = w2 at B32 BB2 HR2 ⊢
    go_wp2_with fail
    go_loopw [5] (fun v5 W => ∃ i : Nat, v5 = .int .i64 i ∧ i ≤ 2 ∧ Aside0 (Below w.heap.size w W) ∧ Aside0 (Rep B W p s) ∧ Aside0 (W.heap[g3]? = some (.cells #[.slice A0 d.safe.length c0, .slice A1 d.loose.length c1, .int .i64 d.left, .bool d.armed, .bool true] 36 (0, 0)))) (fun v5 _ => 2 - (intOf v5).toNat)
    case atStart => exact ⟨0, rfl, Nat.zero_le _, BB2, HR2, B32⟩
    case round =>
      clear BB2 HR2 B32
      obtain ⟨i, rfl, hi, BB, HRW, B3⟩ := hrel
      have hi9 : i < 500000000 := by omega
      by_cases hlt : i < 2
      · have ha : (i : Int) = 0 ∨ (i : Int) = 1 := by omega
        have hlt' : (i : Int) < 2 := by omega
        have HA := Aside0.mk ha
        have LT := Aside0.mk hlt
        clear ha
        have LN := Aside0.mk (show (if (i : Int) = 0 then s.now.1 else s.now.2.1).length ≤ 1000000000 by have h0 := HO.out.n0; have h1 := HO.out.n1; split <;> omega)
        have HBY := Aside0.mk (HF.out (i : Int) HA.out)
        have HE := Aside0.mk (mayDn HDS.out HA.out)
        have HRD := Aside0.mk (readDn HDS.out HA.out)
        have HFI := Aside0.mk (firstDn HDS.out)
        have HFE := Aside0.mk (syncE_no HDS.out)
        generalize (if (i : Int) = 0 then s.now.1 else s.now.2.1) = bs at LN HBY
        go_wp2_with (first
          | (go_at_call 11; (with_reducible refine (Read_E _ HRW.out HO.out hN (i : Int) HE.out HRD.out).mono ?_); rintro e w5 ⟨A5, c5, rfl, hS, hb⟩; have HS5 := Aside0.mk hS; have HR5 := Aside0.mk (HRW.out.below hb); have BB5 := Aside0.mk (below_step BB.out hb); have B35 := Aside0.mk (blkK hb B3.out); clear hS hb)
          | (go_at_call 21; (with_reducible refine (First_E w5 HR5.out HFI.out HFE.out).mono ?_); rintro e w6 ⟨rfl, rfl⟩; have z30 : w6.cell? ⟨g3, 0, none⟩ = some (.slice A0 d.safe.length c0) := (blk_cell B35.out 0).trans rfl; have z31 : w6.cell? ⟨g3, 1, none⟩ = some (.slice A1 d.loose.length c1) := (blk_cell B35.out 1).trans rfl; have z32 : w6.cell? ⟨g3, 2, none⟩ = some (.int .i64 d.left) := (blk_cell B35.out 2).trans rfl; have z33 : w6.cell? ⟨g3, 3, none⟩ = some (.bool d.armed) := (blk_cell B35.out 3).trans rfl; have z34 : w6.cell? ⟨g3, 4, none⟩ = some (.bool true) := (blk_cell B35.out 4).trans rfl; have V0 := Aside0.mk (show Kd.V k39 39 w6 w6.heap.size (fun k_ => ok k_) (.slice A0 d.safe.length c0) d.safe from Kd.V_below HD.out.v0 BB5.out); have V1 := Aside0.mk (show Kd.V k39 39 w6 w6.heap.size (fun k_ => ok k_) (.slice A1 d.loose.length c1) d.loose from Kd.V_below HD.out.v1 BB5.out); have HBZ := Aside0.mk (show lockgateref07_Bytes.f 2002 d.safe d.loose d.left d.armed true (i : Int) = some (bs, s.now.2.2) from HDN.out ▸ HBY.out))
          | (go_at_call 33; (with_reducible refine (lockgateref07_Bytes.calls 2002 ok A0 c0 d.safe ok A1 c1 d.loose d.left d.armed true (i : Int) bs s.now.2.2 w6 V0.out V1.out HBZ.out).mono ?_); rintro e w7 ⟨v7, rfl, hr, hb⟩; have hbs := BS.ofR hr (by have := LN.out; omega); obtain ⟨A7, c7, rfl, _⟩ := id hbs; have HW7 := Aside0.mk hbs; have HS7 := Aside0.mk (HS5.out.keep (Keeps.below hb)); have HR7 := Aside0.mk (HR5.out.below hb); have BB7 := Aside0.mk (below_step BB5.out hb); have B37 := Aside0.mk (blkK hb B35.out); have z37 : w7.cell? ⟨g3, 4, none⟩ = some (.bool true) := (blk_cell B37.out 4).trans rfl; clear hbs hr hb z30 z31 z32 z33 z34)
          | fail)
        go_roundw
        case rel => exact ⟨i + 1, by go_num, LT.out, BB7, HR7, B37⟩
        case measure => simp [intOf]; have := LT.out; omega
      · have hk : i = 2 := by omega
        subst hk
        go_wp2
        go_ret
        exact ⟨rfl, BB.out⟩
end Go.Proofs.Ytpagajgpcmonkaa.PDisk
