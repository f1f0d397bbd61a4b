/- Of whatever net: taken at the place 0, one by one, its packets come in the order in which they stand: NetTakes answers true. -/
import Derived.Test.YtaphejpphlcchaaNetLaws
import Derived.Deep.RegionLaw
import Derived.WalkSpells
import Derived.WalkLawsBesides
namespace Go.Proofs.Ytaphejpphlcchaa.NetTakes
open Go.RowKit Go.Proofs.YtaphejpphlcchaaW.PrintWords Go.Proofs.YtaphejpphlcchaaW.PrintLast Go.Proofs.YtaphejpphlcchaaW.PrintMore Go.Proofs.Ytaphejpphlcchaa.PNet Go.Proofs.Ytaphejpphlcchaa.NetPure
attribute [local go_sem] max2_int min2_int max_two min_two max_three min_three max_four min_four   -- for this text's walks alone
set_option linter.unusedVariables false
set_option linter.unusedSimpArgs false
theorem take0_f (k : Nat) (hk : 70 ≤ k) (a0 : Int) (l : List S29) (ok : Okay l) (i : Nat) (hi : i < l.length) : net_Take.f k a0 (l.drop i) 0 = some (l[i].f0, l[i].f1, l[i].f2, a0, l.drop (i + 1), true) := by
  have ok' : Okay (l.drop i) := ⟨by rw [List.length_drop]; have := ok.len; omega, fun x hx => ok.bytes x (List.mem_of_mem_drop hx)⟩
  unfold net_Take.f takeF
  rw [copied_f k hk a0 _ ok', Option.bind_some]
  have h0 : ¬ (((l.drop i).length : Int) = 0) := by rw [List.length_drop]; omega
  have h1 : rd_T29 (l.drop i) 0 = l[i] := by
    have := rd29 (l.drop i) 0 (by rw [List.length_drop]; omega)
    rw [show ((0 : Nat) : Int) = 0 from rfl] at this
    rw [this]
    simp
  simp only [Int.zero_tmod]
  rw [if_neg h0, if_pos (Int.le_refl 0), h1, List.drop_eq_getElem_cons hi]
  rfl
theorem takeNil_f (k : Nat) (hk : 70 ≤ k) (a0 : Int) : net_Take.f k a0 [] 0 = some (0, 0, [], a0, [], false) := by
  unfold net_Take.f takeF
  rw [copied_f k hk a0 [] ⟨by simp, fun x hx => by cases hx⟩]
  rfl

/-- what stands in the block of m, behind i rounds -/
def Has (w : World) (g3 : Nat) (A : Option Addr) (c : Nat) (l : List S29) (w' : World) (i : Nat) (v : Value) : Prop :=
  (i = 0 ∧ v = .slice A l.length c ∧ Below w.heap.size w w') ∨ ∃ base, Kd.R k29 29 w' base (fun k => g3 < k) v (l.drop i)
theorem Has.reads {w w' : World} {g3 : Nat} {A : Option Addr} {c : Nat} {l : List S29} {i : Nat} {v : Value} (hr : Kd.C k29 w A l.length l) (hc : l.length ≤ c) (h : Has w g3 A c l w' i v) : ∃ A1 c1, v = .slice A1 (l.drop i).length c1 ∧ (l.drop i).length ≤ c1 ∧ Kd.C k29 w' A1 (l.drop i).length (l.drop i) := by
  rcases h with ⟨rfl, rfl, hb⟩ | ⟨base, h⟩
  · exact ⟨A, c, rfl, hc, Kd.C_below hr hb⟩
  · exact Kd.R_reads h

set_option maxHeartbeats 8000000 in
set_option maxRecDepth 100000 in
theorem netTakes_no (k : Nat) (a0 : Int) (A : Option Addr) (c : Nat) (l : List S29) (w : World) (hr : Kd.C k29 w A l.length l) (hc : l.length ≤ c) (h : lockgateref11_Right.f k a0 l = some false) :
    Calls Try.prog 4 #[.agg #[.int .i64 a0, .slice A l.length c]] w fun e w' => e = .returned (.bool true) ∧ Below w.heap.size w w' := by
  have HR := Aside0.mk hr
  have HC := Aside0.mk hc
  have HK := Aside0.mk h
  clear hr hc h
  go_enter Try.func4, Try.ntmps4
  go_wp2_with (first
    | ((with_reducible refine gate_dst (N := 1) rfl ?_); refine box_event ?hg (N := 1) ?hd (cs := #[.int .i64 a0, .slice A l.length c]) (t := 24) ?hr ?_; (case hd => rfl); (case hg => rfl); (case hr => first | (go_simp; done) | (go_simp; rfl)); intro g1 e1 w1 b1 hb1; have B1 := Aside0.mk b1; have HB := Aside0.mk hb1; clear b1 hb1 e1)
    | fail)
  refine (lockgatelaw11_awake.calls true w1 rfl).mono ?_
  rintro e w2 ⟨rfl, hb⟩
  have n1 := Aside0.mk (blk_b B1.out hb)
  have n2 := Aside0.mk (below_step HB.out hb)
  clear B1 HB hb
  have hz0 : w2.cell? ⟨g1, 0, none⟩ = some (.int .i64 a0) := (blk_cell n1.out 0).trans rfl
  have hz1 : w2.cell? ⟨g1, 1, none⟩ = some (.slice A l.length c) := (blk_cell n1.out 1).trans rfl
  go_wp2_with fail
  refine (lockgateref11_Right.calls k a0 A c l false w2 (Kd.C_below HR.out n2.out) HC.out HK.out).mono ?_
  rintro e w3 ⟨rfl, hb⟩
  have n3 := Aside0.mk (below_step n2.out hb)
  clear n1 n2 hb hz0 hz1
  go_wp2_with fail
  refine (lockgatelaw11_awake.calls true w3 rfl).mono ?_
  rintro e w4 ⟨rfl, hb⟩
  have n4 := Aside0.mk (below_step n3.out hb)
  clear n3 hb
  go_wp2
  go_ret
  exact ⟨rfl, n4.out⟩

set_option maxHeartbeats 8000000 in
set_option maxRecDepth 100000 in
theorem netTakes_yes (k : Nat) (a0 : Int) (A : Option Addr) (c : Nat) (l : List S29) (w : World) (hr : Kd.C k29 w A l.length l) (hc : l.length ≤ c) (h : lockgateref11_Right.f k a0 l = some true) (ok : Okay l) :
    Calls Try.prog 4 #[.agg #[.int .i64 a0, .slice A l.length c]] w fun e w' => e = .returned (.bool true) ∧ Below w.heap.size w w' := by
  have hll := ok.len
  have HT := Aside0.mk (fun i hi => take0_f 1000 (by decide) a0 l ok i hi)
  have HN := Aside0.mk (takeNil_f 1000 (by decide) a0)
  have HP := Aside0.mk (fun (x : S29) (hx : x ∈ l) => samePacket_f 1000 (by decide) x.f0 x.f1 x.f2 (ok.bytes x hx))
  have HR := Aside0.mk hr
  have HC := Aside0.mk hc
  have HK := Aside0.mk h
  clear hr hc h ok
  go_enter Try.func4, Try.ntmps4
  go_wp2_with (first
    | ((with_reducible refine gate_dst (N := 1) rfl ?_); refine box_event ?hg (N := 1) ?hd (cs := #[.int .i64 a0, .slice A l.length c]) (t := 24) ?hr ?_; (case hd => rfl); (case hg => rfl); (case hr => first | (go_simp; done) | (go_simp; rfl)); intro g1 e1 w1 b1 hb1; have B1 := Aside0.mk b1; have HB := Aside0.mk hb1; have L1 := Aside0.mk (Nat.le_of_eq e1.symm); clear b1 hb1 e1)
    | fail)
  refine (lockgatelaw11_awake.calls true w1 rfl).mono ?_
  rintro e w2 ⟨rfl, hb⟩
  have n1 := Aside0.mk (blk_b B1.out hb)
  have n2 := Aside0.mk (below_step HB.out hb)
  clear B1 HB hb
  have hz0 : w2.cell? ⟨g1, 0, none⟩ = some (.int .i64 a0) := (blk_cell n1.out 0).trans rfl
  have hz1 : w2.cell? ⟨g1, 1, none⟩ = some (.slice A l.length c) := (blk_cell n1.out 1).trans rfl
  go_wp2_with fail
  refine (lockgateref11_Right.calls k a0 A c l true w2 (Kd.C_below HR.out n2.out) HC.out HK.out).mono ?_
  rintro e w3 ⟨rfl, hb⟩
  have B1 := Aside0.mk (blk_b n1.out hb)
  have HB := Aside0.mk (below_step n2.out hb)
  clear n1 n2 hb hz0 hz1
  have hz0 : w3.cell? ⟨g1, 0, none⟩ = some (.int .i64 a0) := (blk_cell B1.out 0).trans rfl
  have hz1 : w3.cell? ⟨g1, 1, none⟩ = some (.slice A l.length c) := (blk_cell B1.out 1).trans rfl
  go_wp2_with (first
    | ((with_reducible refine gate_dst (N := 3) rfl ?_); refine box_event ?hg (N := 3) ?hd (cs := #[.int .i64 0, .slice none 0 0]) (t := 24) ?hr ?_; (case hd => rfl); (case hg => rfl); (case hr => first | (go_simp; done) | (go_simp; rfl)); intro g3 e3 w4 b3 hb1; have B3 := Aside0.mk b3; have L3 := Aside0.mk (show g1 < g3 by rw [e3]; exact blk_lt B1.out); have n1 := Aside0.mk (blk_b B1.out hb1); have n2 := Aside0.mk (below_step HB.out hb1); clear B1 HB b3 hb1 e3 hz0 hz1; have B1 := n1; have HB := n2; clear n1 n2)
    | ((with_reducible refine gate_ (.store 24 (.tmp 3) (.tmp 19)) rfl ?_); refine put_event (g := g3) (e := 24) rfl rfl 24 (.tmp 3) (.tmp 19) rfl rfl (.agg #[.int .i64 a0, .slice A l.length c]) rfl (cs' := #[.int .i64 a0, .slice A l.length c]) rfl (by kernel_rfl) (by simp [Value.oneCell']) B3.out rfl ?_; intro w5 b3 hg1; have n1 := Aside0.mk (below_g HB.out hg1 HB.out.size (by have := L1.out; have := L3.out; omega)); have n3 := Aside0.mk (blk_g B1.out hg1 (by have := L3.out; omega)); clear HB B1 B3 hg1; have HB := n1; have B1 := n3; have B3 := Aside0.mk b3; clear n1 n3 b3)
    | fail)
  go_loopw [4] (fun v4 w' => ∃ (i : Nat) (v : Value), v4 = .int .i64 i ∧ i ≤ l.length ∧ Aside0 (w'.heap[g3]? = some (.cells #[.int .i64 a0, v] 24 (0, 0))) ∧ Aside0 (Has w g3 A c l w' i v) ∧ Aside0 (w'.heap[g1]? = some (.cells #[.int .i64 a0, .slice A l.length c] 24 (0, 0))) ∧ Aside0 (Below w.heap.size w w')) (fun v4 _ => l.length - (intOf v4).toNat)
  case atStart => exact ⟨0, _, rfl, Nat.zero_le _, B3, ⟨.inl ⟨rfl, rfl, HB.out⟩⟩, B1, HB⟩
  case round =>
    clear B1 B3 HB
    obtain ⟨i, v, rfl, hi, B3, HH, B1, HB⟩ := hrel
    obtain ⟨A1, c1, rfl, hc1, hC1⟩ := HH.out.reads HR.out HC.out
    have HC1 := Aside0.mk hC1
    have hc1' := Aside0.mk hc1
    clear hC1 hc1 HH
    have hz0 : wr.cell? ⟨g1, 0, none⟩ = some (.int .i64 a0) := (blk_cell B1.out 0).trans rfl
    have hz1 : wr.cell? ⟨g1, 1, none⟩ = some (.slice A l.length c) := (blk_cell B1.out 1).trans rfl
    have hy0 : wr.cell? ⟨g3, 0, none⟩ = some (.int .i64 a0) := (blk_cell B3.out 0).trans rfl
    have hy1 : wr.cell? ⟨g3, 1, none⟩ = some (.slice A1 (l.drop i).length c1) := (blk_cell B3.out 1).trans rfl
    generalize hdl : (l.drop i).length = dl at *
    have HDL := Aside0.mk hdl
    clear hdl
    by_cases hlt : i < l.length
    · go_wp2_with fail
      have hk := HT.out i hlt
      have h1 := HC1.out
      have h2 := hc1'.out
      have hcall := net_Take.calls 1000 a0 A1 c1 (l.drop i) 0 _ _ _ _ _ _ wr (by rw [HDL.out]; exact h1) (by rw [HDL.out]; exact h2) hk
      rw [HDL.out] at hcall
      refine hcall.mono ?_
      rintro e w6 ⟨v2, v4, rfl, hr2, hs4, hb⟩
      obtain ⟨x, hx⟩ : ∃ x, x = l[i] := ⟨_, rfl⟩
      have HXM := Aside0.mk (show x ∈ l by rw [hx]; exact List.getElem_mem hlt)
      have HXR := Aside0.mk (show rd_T29 l (i : Int) = x by rw [rd29 l i hlt, hx])
      rw [← hx] at hr2
      obtain ⟨A5, c5, hv5⟩ := Kd.R_slice hr2
      obtain ⟨A6, c6, hv6⟩ := Kd.S_slice hs4
      subst hv5
      subst hv6
      have R5 := Aside0.mk (Kd.R_mono (Kd.R_bound hr2) (ok' := fun k => wr.heap.size ≤ k ∧ k < w6.heap.size) (fun k hk => ⟨hk.2.1, hk.2.2.1⟩))
      have R6 := Aside0.mk (Kd.R_mono (Kd.R_bound (Kd.S_R hs4)) (ok' := fun k => wr.heap.size ≤ k ∧ k < w6.heap.size) (fun k hk => ⟨hk.2.1, hk.2.2.1⟩))
      have LW := Aside0.mk (show g3 < wr.heap.size from blk_lt B3.out)
      have LW6 := Aside0.mk (show wr.heap.size ≤ w6.heap.size from hb.size)
      generalize hd2 : (l.drop (i + 1)).length = d2 at R6
      have HD2 := Aside0.mk hd2
      have n1 := Aside0.mk (blk_b B1.out hb)
      have n2 := Aside0.mk (blk_b B3.out hb)
      have n3 := Aside0.mk (below_step HB.out hb)
      clear B1 B3 HB hb hr2 hs4 hcall h1 h2 hk hz0 hz1 hy0 hy1 HC1 hc1' HDL
      have B1 := n1
      have B3 := n2
      have HB := n3
      clear n1 n2 n3
      rw [← hx]
      clear hd2 hx
      go_wp2_with (first
        | ((with_reducible refine gate_dst (N := 5) rfl ?_); refine box_event ?hg (N := 5) ?hd (cs := #[.int .i64 0, .int .i64 0, .slice none 0 0]) (t := 29) ?hr ?_; (case hd => rfl); (case hg => rfl); (case hr => first | (go_simp; done) | (go_simp; rfl)); intro g5 e5 w7 b5 hb1; have B5 := Aside0.mk b5; have L5 := Aside0.mk (Nat.le_of_eq e5.symm); have n1 := Aside0.mk (blk_b B1.out hb1); have n2 := Aside0.mk (blk_b B3.out hb1); have n3 := Aside0.mk (below_step HB.out hb1); have n4 := Aside0.mk (Kd.R_below R5.out hb1); have n5 := Aside0.mk (Kd.R_below R6.out hb1); clear B1 B3 HB R5 R6 b5 hb1 e5; have B1 := n1; have B3 := n2; have HB := n3; have R5 := n4; have R6 := n5; clear n1 n2 n3 n4 n5)
        | ((with_reducible refine gate_dst (N := 6) rfl ?_); refine box_event ?hg (N := 6) ?hd (cs := #[.int .i64 0, .slice none 0 0]) (t := 24) ?hr ?_; (case hd => rfl); (case hg => rfl); (case hr => first | (go_simp; done) | (go_simp; rfl)); intro g6 e6 w8 b6 hb1; have B6 := Aside0.mk b6; have L6 := Aside0.mk (show g5 < g6 by rw [e6]; exact blk_lt B5.out); have n1 := Aside0.mk (blk_b B1.out hb1); have n2 := Aside0.mk (blk_b B3.out hb1); have n3 := Aside0.mk (below_step HB.out hb1); have n4 := Aside0.mk (Kd.R_below R5.out hb1); have n5 := Aside0.mk (Kd.R_below R6.out hb1); have n6 := Aside0.mk (blk_b B5.out hb1); clear B1 B3 HB R5 R6 B5 b6 hb1 e6; have B1 := n1; have B3 := n2; have HB := n3; have R5 := n4; have R6 := n5; have B5 := n6; clear n1 n2 n3 n4 n5 n6)
        | ((with_reducible refine gate_ (.store 29 (.tmp 5) (.tmp 30)) rfl ?_); refine put_event (g := g5) (e := 29) rfl rfl 29 (.tmp 5) (.tmp 30) rfl rfl (.agg #[.int .i64 x.f0, .int .i64 x.f1, .slice A5 x.f2.length c5]) rfl (cs' := #[.int .i64 x.f0, .int .i64 x.f1, .slice A5 x.f2.length c5]) rfl (by kernel_rfl) (by simp [Value.oneCell']) B5.out rfl ?_; intro w9 b5 hg1; have n1 := Aside0.mk (blk_g B1.out hg1 (by have := L3.out; have := LW.out; have := LW6.out; have := L5.out; omega)); have n2 := Aside0.mk (blk_g B3.out hg1 (by have := LW.out; have := LW6.out; have := L5.out; omega)); have n3 := Aside0.mk (below_g HB.out hg1 HB.out.size (by have := L1.out; have := L3.out; have := LW.out; have := LW6.out; have := L5.out; omega)); have n4 := Aside0.mk (Kd.R_grown R5.out hg1 (fun k hk he => by have := Option.some.inj he; have := L5.out; omega)); have n5 := Aside0.mk (Kd.R_grown R6.out hg1 (fun k hk he => by have := Option.some.inj he; have := L5.out; omega)); have n6 := Aside0.mk (blk_g B6.out hg1 (by have := L6.out; omega)); clear B1 B3 HB R5 R6 B5 B6 hg1; have B1 := n1; have B3 := n2; have HB := n3; have R5 := n4; have R6 := n5; have B6 := n6; have B5 := Aside0.mk b5; clear n1 n2 n3 n4 n5 n6 b5)
        | ((with_reducible refine gate_ (.store 24 (.tmp 6) (.tmp 31)) rfl ?_); refine put_event (g := g6) (e := 24) rfl rfl 24 (.tmp 6) (.tmp 31) rfl rfl (.agg #[.int .i64 a0, .slice A6 d2 c6]) rfl (cs' := #[.int .i64 a0, .slice A6 d2 c6]) rfl (by kernel_rfl) (by simp [Value.oneCell']) B6.out rfl ?_; intro w10 b6 hg1; have n1 := Aside0.mk (blk_g B1.out hg1 (by have := L3.out; have := LW.out; have := LW6.out; have := L5.out; have := L6.out; omega)); have n2 := Aside0.mk (blk_g B3.out hg1 (by have := LW.out; have := LW6.out; have := L5.out; have := L6.out; omega)); have n3 := Aside0.mk (below_g HB.out hg1 HB.out.size (by have := L1.out; have := L3.out; have := LW.out; have := LW6.out; have := L5.out; have := L6.out; omega)); have n4 := Aside0.mk (Kd.R_grown R5.out hg1 (fun k hk he => by have := Option.some.inj he; have := L5.out; have := L6.out; omega)); have n5 := Aside0.mk (Kd.R_grown R6.out hg1 (fun k hk he => by have := Option.some.inj he; have := L5.out; have := L6.out; omega)); have n6 := Aside0.mk (blk_g B5.out hg1 (by have := L6.out; omega)); clear B1 B3 HB R5 R6 B5 B6 hg1; have B1 := n1; have B3 := n2; have HB := n3; have R5 := n4; have R6 := n5; have B5 := n6; have B6 := Aside0.mk b6; clear n1 n2 n3 n4 n5 n6 b6)
        | fail)
      obtain ⟨ad, A7, c7, e7, hx0, hx1, hx2, hl7, hC7⟩ := at_T29 (Kd.C_below HR.out HB.out) (i : Int) (by omega) (by omega)
      rw [Int.toNat_natCast, HXR.out] at hx0 hx1 hx2
      rw [HXR.out] at hl7 hC7
      have HC7 := Aside0.mk hC7
      have HL7 := Aside0.mk hl7
      clear hC7 hl7
      subst e7
      have hz1 : w10.cell? ⟨g1, 1, none⟩ = some (.slice (some ad) l.length c) := (blk_cell B1.out 1).trans rfl
      have hy0 : w10.cell? ⟨g5, 0, none⟩ = some (.int .i64 x.f0) := (blk_cell B5.out 0).trans rfl
      have hy1 : w10.cell? ⟨g5, 1, none⟩ = some (.int .i64 x.f1) := (blk_cell B5.out 1).trans rfl
      have hy2 : w10.cell? ⟨g5, 2, none⟩ = some (.slice A5 x.f2.length c5) := (blk_cell B5.out 2).trans rfl
      have HSP := Aside0.mk (fun W' (hb : Below w10.heap.size w10 W') => lockgateref11_SamePacket.calls 1000 x.f0 x.f1 A5 c5 x.f2 x.f0 x.f1 A7 c7 x.f2 true W' (Kd.C_below (Kd.R_reads' R5.out).2.2 hb) (Kd.R_reads' R5.out).2.1 (Kd.C_below HC7.out hb) HL7.out (HP.out x HXM.out))
      go_region_with (go_at_call 14; refine (HSP.out _ (by first | exact below_drew (Below.refl _ _) | exact Below.refl _ _)).mono ?_; rintro e w11 ⟨rfl, hb⟩; have HB11 := Aside0.mk (below_step (below_drew (Below.refl w10.heap.size w10)) hb); clear hb)
      all_goals
        have n1 := Aside0.mk (blk_b B1.out HB11.out)
        have n2 := Aside0.mk (blk_b B3.out HB11.out)
        have n3 := Aside0.mk (below_step HB.out HB11.out)
        have n5 := Aside0.mk (Kd.R_below R6.out HB11.out)
        have n6 := blk_b B6.out HB11.out
        clear B1 B3 HB R6 R5 B5 B6 HB11 hx0 hx1 hx2 hz1 hy0 hy1 hy2 HSP HC7
        have hy0 : w11.cell? ⟨g6, 0, none⟩ = some (.int .i64 a0) := (blk_cell n6 0).trans rfl
        have hy1 : w11.cell? ⟨g6, 1, none⟩ = some (.slice A6 d2 c6) := (blk_cell n6 1).trans rfl
        clear n6
        go_wp2_with (first
          | ((with_reducible refine gate_ (.store 24 (.tmp 3) (.tmp 45)) rfl ?_); refine put_event (g := g3) (e := 24) rfl rfl 24 (.tmp 3) (.tmp 45) rfl rfl (.agg #[.int .i64 a0, .slice A6 d2 c6]) rfl (cs' := #[.int .i64 a0, .slice A6 d2 c6]) rfl (by kernel_rfl) (by simp [Value.oneCell']) n2.out rfl ?_; intro w12 b3 hg1; have B3 := Aside0.mk b3; have B1 := Aside0.mk (blk_g n1.out hg1 (by have := L3.out; omega)); have HB := Aside0.mk (below_g n3.out hg1 n3.out.size (by have := L1.out; have := L3.out; omega)); have R6 := Aside0.mk (Kd.R_grown n5.out hg1 (fun k hk he => by have := Option.some.inj he; have := LW.out; omega)); clear n1 n2 n3 n5 b3 hg1)
          | fail)
        go_roundw
        case rel => exact ⟨i + 1, .slice A6 d2 c6, by go_num, by omega, B3, ⟨.inr ⟨_, Kd.R_mono R6.out (fun k hk => by have := LW.out; omega)⟩⟩, B1, HB⟩
        case measure => simp [intOf]; omega
    · have hil : i = l.length := by omega
      subst hil
      rw [List.drop_length] at HDL HC1
      obtain rfl : 0 = dl := by have := HDL.out; simpa using this
      go_wp2_with fail
      have h1 := HC1.out
      have h2 := hc1'.out
      have hcall := net_Take.calls 1000 a0 A1 c1 [] 0 _ _ _ _ _ _ wr h1 h2 HN.out
      refine hcall.mono ?_
      rintro e w6 ⟨v2, v4, rfl, hr2, hs4, hb⟩
      obtain ⟨A5, c5, hv5⟩ := Kd.R_slice hr2
      obtain ⟨A6, c6, hv6⟩ := Kd.S_slice hs4
      subst hv5
      subst hv6
      have LW := Aside0.mk (show g1 < wr.heap.size from blk_lt B1.out)
      have LW6 := Aside0.mk (show wr.heap.size ≤ w6.heap.size from hb.size)
      have n1 := Aside0.mk (blk_b B1.out hb)
      have n3 := Aside0.mk (below_step HB.out hb)
      clear B1 B3 HB hb hr2 hs4 hcall h1 h2 hz0 hz1 hy0 hy1 HC1 hc1' HDL
      have B1 := n1
      have HB := n3
      clear n1 n3
      go_wp2_with (first
        | ((with_reducible refine gate_dst (N := 8) rfl ?_); refine box_event ?hg (N := 8) ?hd (cs := #[.int .i64 0, .int .i64 0, .slice none 0 0]) (t := 29) ?hr ?_; (case hd => rfl); (case hg => rfl); (case hr => first | (go_simp; done) | (go_simp; rfl)); intro g5 e5 w7 b5 hb1; have B5 := Aside0.mk b5; have L5 := Aside0.mk (Nat.le_of_eq e5.symm); have n1 := Aside0.mk (blk_b B1.out hb1); have n3 := Aside0.mk (below_step HB.out hb1); clear B1 HB b5 hb1 e5; have B1 := n1; have HB := n3; clear n1 n3)
        | ((with_reducible refine gate_dst (N := 9) rfl ?_); refine box_event ?hg (N := 9) ?hd (cs := #[.int .i64 0, .slice none 0 0]) (t := 24) ?hr ?_; (case hd => rfl); (case hg => rfl); (case hr => first | (go_simp; done) | (go_simp; rfl)); intro g6 e6 w8 b6 hb1; have B6 := Aside0.mk b6; have L6 := Aside0.mk (show g5 < g6 by rw [e6]; exact blk_lt B5.out); have n1 := Aside0.mk (blk_b B1.out hb1); have n3 := Aside0.mk (below_step HB.out hb1); have n6 := Aside0.mk (blk_b B5.out hb1); clear B1 HB B5 b6 hb1 e6; have B1 := n1; have HB := n3; have B5 := n6; clear n1 n3 n6)
        | ((with_reducible refine gate_ (.store 29 (.tmp 8) (.tmp 49)) rfl ?_); refine put_event (g := g5) (e := 29) rfl rfl 29 (.tmp 8) (.tmp 49) rfl rfl (.agg #[.int .i64 0, .int .i64 0, .slice A5 0 c5]) rfl (cs' := #[.int .i64 0, .int .i64 0, .slice A5 0 c5]) rfl (by kernel_rfl) (by simp [Value.oneCell']) B5.out rfl ?_; intro w9 b5 hg1; have n1 := Aside0.mk (blk_g B1.out hg1 (by have := LW.out; have := LW6.out; have := L5.out; omega)); have n3 := Aside0.mk (below_g HB.out hg1 HB.out.size (by have := L1.out; have := LW.out; have := LW6.out; have := L5.out; omega)); have n6 := Aside0.mk (blk_g B6.out hg1 (by have := L6.out; omega)); clear B1 HB B5 B6 hg1; have B1 := n1; have HB := n3; have B6 := n6; clear n1 n3 n6 b5)
        | ((with_reducible refine gate_ (.store 24 (.tmp 9) (.tmp 50)) rfl ?_); refine put_event (g := g6) (e := 24) rfl rfl 24 (.tmp 9) (.tmp 50) rfl rfl (.agg #[.int .i64 a0, .slice A6 0 c6]) rfl (cs' := #[.int .i64 a0, .slice A6 0 c6]) rfl (by kernel_rfl) (by simp [Value.oneCell']) B6.out rfl ?_; intro w10 b6 hg1; have n1 := Aside0.mk (blk_g B1.out hg1 (by have := LW.out; have := LW6.out; have := L5.out; have := L6.out; omega)); have n3 := Aside0.mk (below_g HB.out hg1 HB.out.size (by have := L1.out; have := LW.out; have := LW6.out; have := L5.out; have := L6.out; omega)); clear B1 HB B6 hg1; have HB := n3; have hz0 : w10.cell? ⟨g1, 0, none⟩ = some (.int .i64 a0) := (blk_cell n1.out 0).trans rfl; have hy0 : w10.cell? ⟨g6, 0, none⟩ = some (.int .i64 a0) := (blk_cell b6 0).trans rfl; have hy1 : w10.cell? ⟨g6, 1, none⟩ = some (.slice A6 0 c6) := (blk_cell b6 1).trans rfl; clear n1 n3 b6)
        | fail)
      go_ret
      exact ⟨by simp, HB.out⟩

theorem netTakes_calls (a0 : Int) (A : Option Addr) (c : Nat) (l : List S29) (w : World) (hr : Kd.C k29 w A l.length l) (hc : l.length ≤ c) :
    Calls Try.prog 4 #[.agg #[.int .i64 a0, .slice A l.length c]] w fun e w' => e = .returned (.bool true) ∧ Below w.heap.size w w' := by
  obtain ⟨r, hr1, hr2⟩ := right_f 70 (Nat.le_refl _) a0 l
  cases r with
  | false => exact netTakes_no 70 a0 A c l w hr hc hr1
  | true => exact netTakes_yes 70 a0 A c l w hr hc hr1 (hr2 rfl).2
end Go.Proofs.Ytaphejpphlcchaa.NetTakes
