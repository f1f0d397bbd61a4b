/- The walk of WalMemory -/
import Derived.Test.YtdbkedipfpepbaaWalX
import Derived.Test.YtdbkedipfpepbaaWalAwake
namespace Go.Proofs.Ytdbkedipfpepbaa.PWal
open Go.RowKit Go.Proofs.YtdbkedipfpepbaaW.PrintWords Go.Proofs.YtdbkedipfpepbaaW.PrintLast Go.Proofs.YtdbkedipfpepbaaW.PrintMore Go.FrameMath
set_option linter.unusedVariables false
set_option linter.unusedSimpArgs false
/-- a byte of bytes of one's own, written -/
theorem BS.put {B : Nat} {W : World} {A : Option Addr} {n c j : Nat} {bs : List Int} (h : BS B W (.slice A n c) bs) (hj : j < n) :
    ∃ g, A = some ⟨g, 0, none⟩ ∧ B ≤ g ∧ g < W.heap.size ∧ (∃ b, W.cell? ⟨g, j, none⟩ = some (.int .u8 b)) ∧ W.frozen? ⟨g, j, none⟩ = false ∧ ∀ y : Int, ∃ bs', bs'.length = bs.length ∧ BS B (W.setCell ⟨g, j, none⟩ (.int .u8 y)) (.slice (some ⟨g, 0, none⟩) n c) bs' := by
  obtain ⟨A', c', e, hl, hm, h⟩ := h
  injection e with e1 e2 e3
  subst e1; subst e2; subst e3
  rcases h with ⟨_, rfl⟩ | ⟨g, cs, rfl, hB, hg, hc⟩
  · omega
  · refine ⟨g, rfl, hB, blk_lt hg, ⟨bs[j], (blk_cell hg j).trans (hc j _ (List.getElem?_eq_getElem hj))⟩, blk_frozen hg j, fun y => ⟨bs.set j y, by rw [List.length_set], _, _, by rw [List.length_set], by rw [List.length_set]; exact hl, by rw [List.length_set]; exact hm, .inr ⟨g, _, rfl, hB, blk_set hg j (.int .u8 y), fun i b hb => ?_⟩⟩⟩
    rw [Array.getElem?_setIfInBounds]
    by_cases he : j = i
    · subst he
      rw [List.getElem?_set_self hj] at hb
      cases hb
      have := hc j _ (List.getElem?_eq_getElem hj)
      rw [if_pos rfl, if_pos (Array.getElem?_eq_some_iff.1 this).1]
    · rw [List.getElem?_set_ne he] at hb
      rw [if_neg he]
      exact hc i b hb
theorem LG.far {B : Nat} {W W' : World} {p q : Nat} {t u : St} {l : List Chg} {front : Int} {rs : List (List Int)} (h : LG B W p q t u l front rs) (hk : ∀ g, B ≤ g → g < W.heap.size → W'.heap[g]? = W.heap[g]?) : LG B W' p q t u l front rs :=
  ⟨h.rep.far hk, (hk q h.hq (blk_lt h.blk)).trans h.blk, h.hq, h.st⟩
variable {B p q M : Nat} {t u : St} {l : List Chg} {front : Int} {a b : List Int}
theorem flat2 (a b : List Int) : (flat [a, b]).length = a.length + b.length + 24 := by
  rw [flat_cons, flat_one, List.length_append, frame_length, frame_length]; omega
theorem AddC {A : Option Addr} {c : Nat} (w : World) (hL : LG B w p q t u l front [a]) (hO : Ok M (UP t u l)) (hM : M ≤ 600) (ha : a.length ≤ 500) (hl : b.length ≤ 500) (hb : Byt b) (hC : Kd.C (Kd.int .u8) w A b.length b) (hc : b.length ≤ c) :
    Calls Try.prog 19 #[.pointer (some ⟨q, 0, none⟩), .slice A b.length c] w fun e w' => e = .returned (.int .i64 0) ∧ ∃ u' l', LG B w' p q t u' l' front [a, b] ∧ Ok 2000 (UP t u' l') ∧ Below B w w' ∧ KL w w' := by
  have e1 : addB [a] b = frame b := by unfold addB; rw [if_neg (by simp)]
  have e2 : added [a] b = [a, b] := by unfold added; rw [if_neg (by simp)]; rfl
  refine (Add_calls (r := b) w hL hO (by rw [e1, frame_length]; omega) hC hc hb (by omega) (by rw [e2, flat2]; omega)).mono ?_
  rintro e w' ⟨he, hg, ho, hb', hk⟩
  rw [e2] at hg
  exact ⟨he, _, _, hg, ho.mono (by rw [e1, frame_length]; omega), hb', hk⟩
theorem SaveC {A : Option Addr} {c : Nat} (w : World) (hL : LG B w p q U0 U0 [] 0 []) (ha : a.length ≤ 500) (hb : Byt a) (hC : Kd.C (Kd.int .u8) w A a.length a) (hc : a.length ≤ c) :
    Calls Try.prog 18 #[.pointer (some ⟨q, 0, none⟩), .slice A a.length c] w fun e w' => e = .returned (.int .i64 0) ∧ ∃ u', LG B w' p q u' u' [] (1 - 0) [a] ∧ Ok 600 (UP u' u' []) ∧ Below B w w' ∧ KL w w' :=
  (Save_calls (b := a) w hL ok0 (by omega) hC hc hb (by omega)).mono fun e w' ⟨he, hg, ho, hb, hk⟩ => ⟨he, _, hg, ho.mono (by omega), hb, hk⟩
theorem own_some {g n c : Nat} : (Value.slice (some ⟨g, 0, none⟩) n c).ownBlock = some g := by simp [Value.ownBlock]
theorem Open_mem (w : World) (hL : LG B w p q t u l front [a, b]) (hO : Ok 2000 (UP t u l)) (ha : a.length ≤ 500) (hb : b.length ≤ 500) :
    Calls Try.prog 9 #[.pointer (some ⟨p, 0, none⟩)] w fun e w' => ∃ q' gr cap A0 c0 v, ∃ oki : Nat → Prop, e = .returned (.tuple #[.pointer (some ⟨q', 0, none⟩), .slice A0 a.length c0, .slice (some ⟨gr, 1, none⟩) 1 (cap - 1), .int .i64 0]) ∧ 2 ≤ cap ∧
      (Kd.int .u8).R 5 w' w.heap.size oki (.slice A0 a.length c0) a ∧
      (∀ (w1 : World) (bs : List Int), w'.grownBy w1 (Value.slice A0 a.length c0).ownBlock → (Kd.int .u8).R 5 w1 w.heap.size oki (.slice A0 a.length c0) bs →
        Rep B w1 p (UP v v []) ∧ ∃ A2 c2, w1.cell? ⟨gr, 1, none⟩ = some (.slice A2 b.length c2) ∧ b.length ≤ c2 ∧ (Kd.int .u8).C w1 A2 b.length b) ∧
      LS8 v (1 - front) [a, b] ∧ Ok 4000 (UP v v []) ∧ Below B w w' := by
  refine (Open_oldX (r := a) (rs := [b]) w hL.rep hO (by rw [flat2]; omega) hL.st).mono ?_
  rintro e w' ⟨Z, q', gr, cap, A0, c0, rfl, hz, hv, hx, hg, ho, hbw, hk⟩
  have hcap : 2 ≤ cap := (Kd.S_reads' hv).2.1
  obtain ⟨oki, hoki, hR, hback⟩ := lend_first hv hz
  refine ⟨q', gr, cap, A0, c0, _, oki, ?_, hcap, hR, fun w1 bs hg1 hR1 => ?_, hg.st, ho.mono (by rw [flat2]; omega), hbw⟩
  · rw [if_neg (by omega)]; rfl
  · have hrow : ∀ k, (Value.slice A0 a.length c0).ownBlock = some k → oki k := fun k hk => hR.1 k hk
    have hS := hback hg1 hrow hR1
    obtain ⟨ad, A2, c2, e, hc2, hl2, hC2⟩ := at_BB (Kd.S_reads' hS).2.2 1 (by simp)
    cases e
    refine ⟨(hx.stored hg1 (fun k hk => ⟨hoki k (hrow k hk), ((BS.ofR hR (by omega)).own_at k hk).2.2⟩)).1.rep, A2, c2, hc2, hl2, hC2⟩
theorem same_t (b : List Int) (h : b.length ≤ 500) : lockgateref03_Same.f 600 b b = some true := by
  rw [FramePure.same_f b b (by omega) 600 (by omega)]; simp
theorem OpenedC {Ap : Option Addr} {cp gh : Nat} {Ab : Option Addr} {cb : Nat} {x : Int} (w : World) (hR : Rep B w p (UP t u l)) (hO : Ok 4000 (UP t u l)) (ha : a.length ≤ 500) (hb : b.length ≤ 500) (hs : LS8 u front [a, b])
    (hP : ∀ W, Below B w W → KL w W → Kd.C (Kd.int .u8) W Ap a.length a) (hpc : a.length ≤ cp) (hg : w.heap[gh]? = some (.cells #[.slice Ab b.length cb] 28 (0, 0))) (hQ : ∀ W, Below B w W → KL w W → Kd.C (Kd.int .u8) W Ab b.length b) (hqc : b.length ≤ cb) :
    Calls Try.prog 20 #[.pointer (some ⟨p, 0, none⟩), .agg #[.slice Ap a.length cp, .slice (some ⟨gh, 0, none⟩) 1 1, .int .i64 x]] w fun e w' => e = .returned (.bool true) ∧ Below B w w' :=
  (Opened_calls (r := a) (rs := [b]) (Ar := some ⟨gh, 0, none⟩) (cr := 1) w hR hO (by rw [flat2]; omega) hs hP hpc (fun W h1 h2 => C_row1 (h2 28 (by decide) (by decide) (by decide) _ _ hg) hqc (hQ W h1 h2)) (by simp)).mono fun e w' ⟨he, _, _, _, _, h, _⟩ => ⟨he, h⟩
end Go.Proofs.Ytdbkedipfpepbaa.PWal
namespace Go.Proofs.Ytdbkedipfpepbaa.PWal
open Go.RowKit Go.Proofs.YtdbkedipfpepbaaW.PrintWords Go.Proofs.YtdbkedipfpepbaaW.PrintLast Go.Proofs.YtdbkedipfpepbaaW.PrintMore Go.FrameMath
set_option linter.unusedVariables false
set_option linter.unusedSimpArgs false
set_option maxHeartbeats 16000000 in
set_option maxRecDepth 100000 in
theorem WalMemory_calls (A : Option Addr) (c : Nat) (a : List Int) (A' : Option Addr) (c' : Nat) (b : List Int) (w : World) (hx : Kd.C (Kd.int .u8) w A a.length a) (hc : a.length ≤ c) (hy : Kd.C (Kd.int .u8) w A' b.length b) (hc' : b.length ≤ c') (hba : Byt a) (hbb : Byt b) :
    Calls Try.prog 4 #[.slice A a.length c, .slice A' b.length c'] w fun e w' => e = .returned (.bool true) ∧ Below w.heap.size w w' := by
  have HX := Aside0.mk hx
  have HY := Aside0.mk hy
  have HC := Aside0.mk hc
  have HD := Aside0.mk hc'
  have HBA := Aside0.mk hba
  have HBB := Aside0.mk hbb
  clear hx hy hba hbb hc hc'
  go_enter Try.func4, Try.ntmps4
  by_cases ha : a.length ≤ 500
  rotate_left
  · have hd : decide ((500 : Int) < (a.length : Int)) = true := decide_eq_true (by omega)
    go_wp2_with (first
      | (go_at_call 6; (with_reducible refine (awake_calls w).mono ?_); rintro e wa ⟨rfl, hb⟩; have HBa := Aside0.mk hb; clear hb)
      | (go_at_call 6; (with_reducible refine (awake_calls wa).mono ?_); rintro e wb ⟨rfl, hb⟩; have HBb := Aside0.mk (below_step HBa.out hb); clear hb)
      | fail)
    go_ret
    exact ⟨rfl, HBb.out⟩
  have hd : decide ((500 : Int) < (a.length : Int)) = false := decide_eq_false (by omega)
  by_cases hb : b.length ≤ 500
  rotate_left
  · have he : decide ((500 : Int) < (b.length : Int)) = true := decide_eq_true (by omega)
    go_wp2_with (first
      | (go_at_call 6; (with_reducible refine (awake_calls w).mono ?_); rintro e wa ⟨rfl, hb⟩; have HBa := Aside0.mk hb; clear hb)
      | (go_at_call 6; (with_reducible refine (awake_calls wa).mono ?_); rintro e wb ⟨rfl, hb⟩; have HBb := Aside0.mk (below_step HBa.out hb); clear hb)
      | fail)
    go_ret
    exact ⟨rfl, HBb.out⟩
  have he : decide ((500 : Int) < (b.length : Int)) = false := decide_eq_false (by omega)
  have LA := Aside0.mk ha
  have LB := Aside0.mk hb
  go_wp2_with (first
    | (go_at_call 6; (with_reducible refine (awake_calls w).mono ?_); rintro e wa ⟨rfl, hb⟩; have HXa := Aside0.mk (Kd.C_below HX.out hb); have HYa := Aside0.mk (Kd.C_below HY.out hb); have HBa := Aside0.mk hb; clear hb; have HO := Aside0.mk (own_empty (Kd.int .u8) 5 wa wa.heap.size (fun _ => True) (Nat.le_refl _) trivial); have HB := Aside0.mk (below_alloc (Below.refl wa.heap.size wa) (.cells #[] 5)))
    | (at_builtin; refine Kd.R_append_rows (Kd.int .u8) (w0 := wa) wa.heap.size rfl (.tmp 30) (.tmp 31) 28 5 (.int .u8 0) 1 rfl Try.underlying28 infoU8' rfl (by decide) (by omega) (.slice (some ⟨wa.heap.size, 0, none⟩) 0 0) ([] : List Int) a _ _ _ (fun _ => True) (fun _ => False) rfl rfl HO.out (Kd.C_below HXa.out HB.out) (fun _ _ h => h) (fun _ h => h.elim) (fun _ _ => trivial) HB.out (below_size HB.out) (by have := LA.out; simp; omega) ?_; intro v1 w1 ho hb1 hg1 hat1; have hBS := BS.ofR (bs := a) ho (by have := LA.out; omega); obtain ⟨A1, c1, rfl, _⟩ := id hBS; have HB1 := Aside0.mk hb1; have HS1 := Aside0.mk hBS; clear hBS ho hb1 hg1 hat1 HO HB)
    | (go_at_call 8; (with_reducible refine (new_calls w1).mono ?_); rintro e w2 ⟨rfl, hR, hb⟩; have HR2 := Aside0.mk (show Rep w1.heap.size w2 w1.heap.size (UP U0 U0 []) from hR); have HB2 := Aside0.mk (below_step HB1.out hb); have HS2 := Aside0.mk (HS1.out.keep (Keeps.below hb)); clear hR hb)
    | (go_at_call 9; (with_reducible refine (Open_new w2 HR2.out ok0 n0 ls0).mono ?_); rintro e w3 ⟨q, rfl, hg, hb⟩; have HG3 := Aside0.mk hg; have HB3 := Aside0.mk (below_step HB2.out hb); have HS3 := Aside0.mk (HS2.out.keep (Keeps.below hb)); clear hg hb)
    | (go_at_call 18; (with_reducible refine (SaveC (a := a) w3 HG3.out LA.out HBA.out HS3.out.len.2.2 HS3.out.len.2.1).mono ?_); rintro e w4 ⟨rfl, u', hg, ho, hb, hk⟩; have HG4 := Aside0.mk hg; have HO4 := Aside0.mk ho; have HB4 := Aside0.mk (HB3.out.trans (hb.mono HB1.out.size)); have HS4 := Aside0.mk (hk.bs HS3.out); clear hg ho hb hk)
    | (go_at_call 19; (with_reducible refine (AddC (a := a) (b := b) w4 HG4.out HO4.out (Nat.le_refl _) LA.out LB.out HBB.out (Kd.C_below HYa.out HB4.out) HD.out).mono ?_); rintro e w5 ⟨rfl, u5, l5, hg, ho, hb, hk⟩; have HG5 := Aside0.mk hg; have HO5 := Aside0.mk ho; have HB5 := Aside0.mk (HB4.out.trans (hb.mono HB1.out.size)); have HS5 := Aside0.mk (hk.bs HS4.out); clear hg ho hb hk)
    | fail)
  have HG := Aside0.mk (show ∀ g, A1 = some ⟨g, 0, none⟩ → 0 < a.length → g < w1.heap.size from fun g hg h0 => by
    obtain ⟨g', e, _, hlt, _⟩ := HS1.out.put h0
    rw [hg] at e
    cases e
    exact hlt)
  have HW1 := Aside0.mk HB1.out.size
  go_loopw [11] (fun v11 W => ∃ (j : Nat) (bs : List Int), v11 = .int .i64 j ∧ j ≤ a.length ∧ Aside0 (BS wa.heap.size W (.slice A1 a.length c1) bs) ∧ Aside0 (LG w1.heap.size W w1.heap.size q u' u5 l5 (1 - 0) [a, b]) ∧ Aside0 (Below wa.heap.size wa W)) (fun v11 _ => a.length - (intOf v11).toNat)
  case atStart => exact ⟨0, a, rfl, Nat.zero_le _, HS5, HG5, HB5⟩
  case round =>
    clear HS5 HG5 HB5 HS1 HS2 HS3 HS4 HG3 HG4 HB2 HB3 HB4 HR2 HO4
    obtain ⟨j, bs, rfl, hj, HS, HL, HB⟩ := hrel
    have hi9 : j < 500000000 := by have := LA.out; omega
    by_cases hjl : j < a.length
    · have hjl' : (j : Int) < (a.length : Int) := by omega
      obtain ⟨g, hA1, hgb, hgl, ⟨x, hx⟩, hfx, hput⟩ := HS.out.put hjl
      have GB := Aside0.mk hgb
      have GL := Aside0.mk (HG.out g hA1 (by omega))
      subst hA1
      have HP := Aside0.mk hput
      have LT := Aside0.mk hjl
      clear hput hgb hgl
      go_wp2
      obtain ⟨bs', hbl, hbR⟩ := HP.out 9
      have n1 := Aside0.mk hbR
      have n2 := Aside0.mk (HL.out.far (W' := World.setCell _ ⟨g, j, none⟩ (.int .u8 9)) (fun k hk hk2 => Below.heap_setCell _ _ _ k (by show k ≠ g; have := GL.out; omega)))
      have n4 := Aside0.mk (below_set (g := g) (j := j) (v := .int .u8 9) HB.out GB.out)
      clear hbl hbR HP
      go_roundw
      case rel => exact ⟨j + 1, bs', by go_num, LT.out, n1, n2, n4⟩
      case measure => simp [intOf]; have := LT.out; omega
    · have hk : j = a.length := by omega
      subst hk
      have hjl' : ¬ ((a.length : Int) < (a.length : Int)) := by omega
      clear HS
      go_wp2_with (first
        | (go_at_call 9; (with_reducible refine (Open_mem _ HL.out HO5.out LA.out LB.out).mono ?_); rintro e w6 ⟨q6, gr, cap, A0, c0, v, oki, rfl, hcap, hR, hback, hs, ho, hb⟩; have HCAP := Aside0.mk hcap; have HR6 := Aside0.mk hR; have HK6 := Aside0.mk hback; have HS6 := Aside0.mk hs; have HO6 := Aside0.mk ho; have HB6 := Aside0.mk (HB.out.trans (hb.mono HW1.out)); have HBS := Aside0.mk (Nat.le_trans HW1.out HL.out.rep.base); have HG6 := Aside0.mk (World.grownBy.refl w6 (Value.slice A0 a.length c0).ownBlock); clear hcap hR hback hs ho hb)
        | fail)
      clear hjl' HB HL HG HO5
      generalize wr.heap.size = base at HR6 HK6 HBS
      go_loopw [16] (fun v16 W => ∃ (j : Nat) (bs : List Int), v16 = .int .i64 j ∧ j ≤ a.length ∧ Aside0 ((Kd.int .u8).R 5 W base oki (.slice A0 a.length c0) bs) ∧ Aside0 (w6.grownBy W (Value.slice A0 a.length c0).ownBlock) ∧ Aside0 (Below wa.heap.size wa W)) (fun v16 _ => a.length - (intOf v16).toNat)
      case atStart => exact ⟨0, a, rfl, Nat.zero_le _, HR6, HG6, HB6⟩
      case round =>
        clear HR6 HG6 HB6
        obtain ⟨j, bs, rfl, hj, HR, HG, HB⟩ := hrel
        have hi9 : j < 500000000 := by have := LA.out; omega
        by_cases hjl : j < a.length
        · have hjl' : (j : Int) < (a.length : Int) := by omega
          obtain ⟨g, hA0, hgb, hok, ⟨x, hx⟩, hfx, hput⟩ := put_byte HR.out hjl
          have GB := Aside0.mk (Nat.le_trans HBS.out hgb)
          subst hA0
          have HP := Aside0.mk hput
          have LT := Aside0.mk hjl
          clear hput hgb hok
          go_wp2
          obtain ⟨hg, bs', hbl, hbR⟩ := HP.out 7
          have n1 := Aside0.mk hbR
          have n2 := Aside0.mk (World.grownBy.trans HG.out (own_some (g := g) (n := a.length) (c := c0) ▸ hg))
          have n4 := Aside0.mk (below_set (g := g) (j := j) (v := .int .u8 7) HB.out GB.out)
          clear hbl hbR HP hg
          go_roundw
          case rel => exact ⟨j + 1, bs', by go_num, LT.out, n1, n2, n4⟩
          case measure => simp [intOf]; have := LT.out; omega
        · have hk : j = a.length := by omega
          subst hk
          have hjl' : ¬ ((a.length : Int) < (a.length : Int)) := by omega
          obtain ⟨hrep, A2, c2, hz2, hl2, hC2⟩ := HK6.out _ bs HG.out HR.out
          have HRP := Aside0.mk hrep
          have HL2 := Aside0.mk hl2
          have HC2 := Aside0.mk hC2
          clear hrep hl2 hC2 HR HG HK6
          go_wp2_with (first
            | (go_at_call 16; (with_reducible refine (lockgateref03_Same.calls 600 A2 c2 b A' c' b true _ HC2.out HL2.out (Kd.C_below HYa.out HB.out) HD.out (same_t b LB.out)).mono ?_); rintro e w7 ⟨rfl, hb⟩; have HR7 := Aside0.mk (HRP.out.below hb.below); have HB7 := Aside0.mk (below_step HB.out hb.below); clear hb)
            | fail)
          have hal := below_al w7 (.cells #[.slice A' b.length c'] 28 (0, 0))
          have BK := Aside0.mk (heap_alloc_new w7 (.cells #[.slice A' b.length c'] 28 (0, 0)))
          have HR8 := Aside0.mk (HR7.out.below hal)
          have HB8 := Aside0.mk (below_step HB7.out hal)
          clear hal HR7 HB7
          generalize w7.alloc (.cells #[.slice A' b.length c'] 28 (0, 0)) = w8 at BK HR8 HB8 ⊢
          generalize w7.heap.size = gh at BK ⊢
          refine (OpenedC w8 HR8.out HO6.out LA.out LB.out HS6.out (fun W hb _ => Kd.C_below HXa.out (HB8.out.trans (hb.mono HW1.out))) HC.out BK.out (fun W hb _ => Kd.C_below HYa.out (HB8.out.trans (hb.mono HW1.out))) HD.out).mono ?_
          rintro e w9 ⟨rfl, hb⟩
          have HB9 := Aside0.mk (HB8.out.trans (hb.mono HW1.out))
          clear hb
          go_wp2
          go_ret
          exact ⟨rfl, below_step HBa.out HB9.out⟩
end Go.Proofs.Ytdbkedipfpepbaa.PWal
