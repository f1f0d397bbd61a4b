/- The walks of the disk's acts but Crash and Clone. -/
import Derived.Test.YtdbkedipfpepbaaDiskChange
namespace Go.Proofs.Ytdbkedipfpepbaa.PWal
open Go.RowKit Go.Proofs.YtdbkedipfpepbaaW.PrintWords Go.Proofs.YtdbkedipfpepbaaW.PrintLast Go.Proofs.YtdbkedipfpepbaaW.PrintMore
set_option linter.unusedVariables false
set_option linter.unusedSimpArgs false
variable {B p N : Nat} {s : AD}
set_option maxHeartbeats 8000000 in
set_option maxRecDepth 100000 in
theorem Append_X {X : Nat → Prop} (w : World) (hR : RepX X B w p s) (hXl : ∀ k, X k → k < w.heap.size) (hO : Ok N s) (hN : N ≤ 500000000) (a : Int) {A : Option Addr} {c : Nat} {bs : List Int} (hb : Kd.C (Kd.int .u8) w A bs.length bs) (hc : bs.length ≤ c) (hl : bs.length ≤ 100000000) :
    Calls Try.prog 32 #[.pointer (some ⟨p, 0, none⟩), .int .i64 a, .slice A bs.length c] w fun e w' => e = .returned (.int .i64 (mayE s a)) ∧ RepX X B w' p (s.change (0, a, bs)) ∧ Below B w w' ∧ Keeps 5 w w' := by
  have HXL := Aside0.mk hXl
  have HR := Aside0.mk hR
  have HO := Aside0.mk hO
  have HN := Aside0.mk hN
  have HB := Aside0.mk hb
  have HC := Aside0.mk hc
  have HL := Aside0.mk hl
  clear hR hO hN hb hc hl hXl
  go_enter Try.func32, Try.ntmps32
  go_wp2_with (first
    | (go_at_call 30; (with_reducible refine (cloneB_calls A c bs w HB.out HC.out (by have := HL.out; omega)).mono ?_); rintro e w1 ⟨v, rfl, hR1, hb1⟩; have hBS := BS.ofR hR1 (by have := HL.out; omega); obtain ⟨A1, c1, rfl, _⟩ := id hBS; have HBS := Aside0.mk hBS; have BB := Aside0.mk hb1; have HX1 := Aside0.mk (show ∀ k, X k → k < w1.heap.size from fun k hk => Nat.lt_of_lt_of_le (HXL.out k hk) hb1.size); have HOF := Aside0.mk (show Off X (.slice A1 bs.length c1) from fun k hk hx => by have := HXL.out k hx; have := (hBS.own_at k hk).1; omega); clear hBS hR1 hb1)
    | (go_at_call 49; (with_reducible refine (change_callsX w1 (HR.out.below BB.out) HX1.out HO.out HN.out 0 a (HBS.out.lower HR.out.rep.base) HL.out HOF.out (.inl rfl)).mono ?_); rintro e w2 ⟨rfl, h1, h2, h3⟩)
    | fail)
  go_ret
  exact ⟨rfl, h1, Below.trans (Below.mono BB.out HR.out.rep.base) h2, Keeps.trans (Keeps.below BB.out) h3⟩
set_option maxHeartbeats 8000000 in
set_option maxRecDepth 100000 in
theorem Append_L {Y : Nat → Prop} (w : World) (hR : RepL Y B w p s) (hXl : ∀ k, Y k → k < w.heap.size) (hO : Ok N s) (hN : N ≤ 500000000) (a : Int) {A : Option Addr} {c : Nat} {bs : List Int} (hb : Kd.C (Kd.int .u8) w A bs.length bs) (hc : bs.length ≤ c) (hl : bs.length ≤ 100000000) :
    Calls Try.prog 32 #[.pointer (some ⟨p, 0, none⟩), .int .i64 a, .slice A bs.length c] w fun e w' => e = .returned (.int .i64 (mayE s a)) ∧ RepL Y B w' p (s.change (0, a, bs)) ∧ Below B w w' ∧ Kp Y p w w' := by
  have HXL := Aside0.mk hXl
  have HR := Aside0.mk hR
  have HO := Aside0.mk hO
  have HN := Aside0.mk hN
  have HB := Aside0.mk hb
  have HC := Aside0.mk hc
  have HL := Aside0.mk hl
  clear hR hO hN hb hc hl hXl
  go_enter Try.func32, Try.ntmps32
  go_wp2_with (first
    | (go_at_call 30; (with_reducible refine (cloneB_calls A c bs w HB.out HC.out (by have := HL.out; omega)).mono ?_); rintro e w1 ⟨v, rfl, hR1, hb1⟩; have hBS := BS.ofR hR1 (by have := HL.out; omega); obtain ⟨A1, c1, rfl, _⟩ := id hBS; have HBS := Aside0.mk hBS; have BB := Aside0.mk hb1; have HX1 := Aside0.mk (show ∀ k, Y k → k < w1.heap.size from fun k hk => Nat.lt_of_lt_of_le (HXL.out k hk) hb1.size); clear hBS hR1 hb1)
    | (go_at_call 49; (with_reducible refine (change_callsL w1 (HR.out.below BB.out) HX1.out HO.out HN.out 0 a (HBS.out.lower HR.out.rep.base) HL.out (.inl rfl)).mono ?_); rintro e w2 ⟨rfl, h1, h2, h3⟩)
    | fail)
  go_ret
  exact ⟨rfl, h1, Below.trans (Below.mono BB.out HR.out.rep.base) h2, fun k hk hp => (h3 k hk hp).trans (BB.out.block k (HXL.out k hk))⟩
theorem Append_keeps (w : World) (hR : Rep B w p s) (hO : Ok N s) (hN : N ≤ 500000000) (a : Int) {A : Option Addr} {c : Nat} {bs : List Int} (hb : Kd.C (Kd.int .u8) w A bs.length bs) (hc : bs.length ≤ c) (hl : bs.length ≤ 100000000) :
    Calls Try.prog 32 #[.pointer (some ⟨p, 0, none⟩), .int .i64 a, .slice A bs.length c] w fun e w' => e = .returned (.int .i64 (mayE s a)) ∧ Rep B w' p (s.change (0, a, bs)) ∧ Below B w w' ∧ Keeps 5 w w' :=
  (Append_X w (hR.fresh (X := fun _ => False) (fun _ h => h.elim)) (fun _ h => h.elim) hO hN a hb hc hl).mono fun e w' h => ⟨h.1, h.2.1.rep, h.2.2⟩
theorem Append_calls (w : World) (hR : Rep B w p s) (hO : Ok N s) (hN : N ≤ 500000000) (a : Int) {A : Option Addr} {c : Nat} {bs : List Int} (hb : Kd.C (Kd.int .u8) w A bs.length bs) (hc : bs.length ≤ c) (hl : bs.length ≤ 100000000) :
    Calls Try.prog 32 #[.pointer (some ⟨p, 0, none⟩), .int .i64 a, .slice A bs.length c] w fun e w' => e = .returned (.int .i64 (mayE s a)) ∧ Rep B w' p (s.change (0, a, bs)) ∧ Below B w w' :=
  (Append_keeps w hR hO hN a hb hc hl).mono fun e w' h => ⟨h.1, h.2.1, h.2.2.1⟩
set_option maxHeartbeats 8000000 in
set_option maxRecDepth 100000 in
theorem Wipe_L {Y : Nat → Prop} (w : World) (hR : RepL Y B w p s) (hY : ∀ k, Y k → k < w.heap.size) (hO : Ok N s) (hN : N ≤ 500000000) (a : Int) :
    Calls Try.prog 42 #[.pointer (some ⟨p, 0, none⟩), .int .i64 a] w fun e w' => e = .returned (.int .i64 (mayE s a)) ∧ RepL Y B w' p (s.change (1, a, [])) ∧ Below B w w' ∧ Kp Y p w w' := by
  have HY := Aside0.mk hY
  have HR := Aside0.mk hR
  have HO := Aside0.mk hO
  have HN := Aside0.mk hN
  clear hR hO hN hY
  go_enter Try.func42, Try.ntmps42
  go_wp2_with (first
    | (go_at_call 49; (with_reducible refine (change_callsL w HR.out HY.out HO.out HN.out 1 a (BS.nil B w) (by simp) (.inr (.inl rfl))).mono ?_); rintro e w2 ⟨rfl, h1, h2, h3⟩)
    | fail)
  go_ret
  exact ⟨rfl, h1, h2, h3⟩
theorem Wipe_calls (w : World) (hR : Rep B w p s) (hO : Ok N s) (hN : N ≤ 500000000) (a : Int) :
    Calls Try.prog 42 #[.pointer (some ⟨p, 0, none⟩), .int .i64 a] w fun e w' => e = .returned (.int .i64 (mayE s a)) ∧ Rep B w' p (s.change (1, a, [])) ∧ Below B w w' :=
  (Wipe_L w (hR.freshL (Y := fun _ => False) (fun _ h => h.elim)) (fun _ h => h.elim) hO hN a).mono fun e w' h => ⟨h.1, h.2.1.rep, h.2.2.1⟩
set_option maxHeartbeats 8000000 in
set_option maxRecDepth 100000 in
theorem Front_L {Y : Nat → Prop} (w : World) (hR : RepL Y B w p s) (hY : ∀ k, Y k → k < w.heap.size) (hO : Ok N s) (hN : N ≤ 500000000) (a : Int) :
    Calls Try.prog 45 #[.pointer (some ⟨p, 0, none⟩), .int .i64 a] w fun e w' => e = .returned (.int .i64 (mayE s a)) ∧ RepL Y B w' p (s.change (2, a, [])) ∧ Below B w w' ∧ Kp Y p w w' := by
  have HY := Aside0.mk hY
  have HR := Aside0.mk hR
  have HO := Aside0.mk hO
  have HN := Aside0.mk hN
  clear hR hO hN hY
  go_enter Try.func45, Try.ntmps45
  go_wp2_with (first
    | (go_at_call 49; (with_reducible refine (change_callsL w HR.out HY.out HO.out HN.out 2 a (BS.nil B w) (by simp) (.inr (.inr rfl))).mono ?_); rintro e w2 ⟨rfl, h1, h2, h3⟩)
    | fail)
  go_ret
  exact ⟨rfl, h1, h2, h3⟩
theorem Front_calls (w : World) (hR : Rep B w p s) (hO : Ok N s) (hN : N ≤ 500000000) (a : Int) :
    Calls Try.prog 45 #[.pointer (some ⟨p, 0, none⟩), .int .i64 a] w fun e w' => e = .returned (.int .i64 (mayE s a)) ∧ Rep B w' p (s.change (2, a, [])) ∧ Below B w w' :=
  (Front_L w (hR.freshL (Y := fun _ => False) (fun _ h => h.elim)) (fun _ h => h.elim) hO hN a).mono fun e w' h => ⟨h.1, h.2.1.rep, h.2.2.1⟩
theorem First_calls (w : World) (hR : Rep B w p s) :
    Calls Try.prog 13 #[.pointer (some ⟨p, 0, none⟩)] w fun e w' => e = .returned (.tuple #[.int .i64 (if s.down = true then 0 else s.now.2.2), .int .i64 (if s.down = true then 4 else 0)]) ∧ w' = w := by
  obtain ⟨v0, v1, u0, u1, lo, hR⟩ := hR
  exact first_calls w hR.hp
def readB (s : AD) (a : Int) : List Int := if mayE s a = 0 then (if a = 0 then s.now.1 else s.now.2.1) else []
set_option maxHeartbeats 8000000 in
set_option maxRecDepth 100000 in
theorem Read_calls (w : World) (hR : Rep B w p s) (hO : Ok N s) (hN : N ≤ 500000000) (a : Int) :
    Calls Try.prog 14 #[.pointer (some ⟨p, 0, none⟩), .int .i64 a] w fun e w' => ∃ A c, e = .returned (.tuple #[.slice A (readB s a).length c, .int .i64 (mayE s a)]) ∧ BS w.heap.size w' (.slice A (readB s a).length c) (readB s a) ∧ Below w.heap.size w w' := by
  have HRR := Aside0.mk hR
  obtain ⟨v0, v1, u0, u1, lo, hR⟩ := hR
  have HR := Aside0.mk hR
  by_cases hE : mayE s a = 0
  · have hE0 := Aside0.mk hE
    have HE := Aside0.mk (show (if a ≠ 0 ∧ a ≠ 1 then 1 else if s.down = true then 4 else 0) = (0 : Int) from hE)
    rw [hE]
    have ha : a = 0 ∨ a = 1 := by
      unfold mayE at hE
      split at hE
      · omega
      · omega
    have L0 := Aside0.mk (show s.now.1.length ≤ 1000000000 by have := hO.n0; omega)
    have L1 := Aside0.mk (show s.now.2.1.length ≤ 1000000000 by have := hO.n1; omega)
    obtain ⟨A0, c0, rfl, _⟩ := id hR.k0
    obtain ⟨A1, c1, rfl, _⟩ := id hR.k1
    have hp := HR.out.hp
    clear hR hE hO hN
    rcases ha with rfl | rfl
    · rw [show readB s 0 = s.now.1 by unfold readB; rw [if_pos hE0.out, if_pos rfl]]
      have h3 : w.cell? ⟨p, 3, none⟩ = some (.slice A0 s.now.1.length c0) := (blk_cell hp 3).trans rfl
      have HP := Aside0.mk hp
      clear hp
      go_enter Try.func14, Try.ntmps14
      go_wp2_with (first
        | (go_at_call 29; (with_reducible refine (may_says w 0 0 HE.out HP.out).mono ?_); rintro e w' ⟨rfl, ⟨nd, rfl⟩⟩)
        | (go_at_call 30; (with_reducible refine (clone_calls (w.drewN nd) (HR.out.k0.keep (Keeps.below (pw_below_drewN (Below.refl _ _) nd))) L0.out).mono ?_); rintro e w2 ⟨A', c', rfl, hbs, hbw⟩)
        | fail)
      go_ret2
      exact ⟨A', c', rfl, hbs, below_step (pw_below_drewN (Below.refl _ _) nd) hbw⟩
    · rw [show readB s 1 = s.now.2.1 by unfold readB; rw [if_pos hE0.out, if_neg (by decide)]]
      have h3 : w.cell? ⟨p, 4, none⟩ = some (.slice A1 s.now.2.1.length c1) := (blk_cell hp 4).trans rfl
      have HP := Aside0.mk hp
      clear hp
      go_enter Try.func14, Try.ntmps14
      go_wp2_with (first
        | (go_at_call 29; (with_reducible refine (may_says w 1 0 HE.out HP.out).mono ?_); rintro e w' ⟨rfl, ⟨nd, rfl⟩⟩)
        | (go_at_call 30; (with_reducible refine (clone_calls (w.drewN nd) (HR.out.k1.keep (Keeps.below (pw_below_drewN (Below.refl _ _) nd))) L1.out).mono ?_); rintro e w2 ⟨A', c', rfl, hbs, hbw⟩)
        | fail)
      go_ret2
      exact ⟨A', c', rfl, hbs, below_step (pw_below_drewN (Below.refl _ _) nd) hbw⟩
  · have hr : readB s a = [] := by unfold readB; rw [if_neg hE]
    rw [hr]
    obtain ⟨E, hE1⟩ : ∃ E, mayE s a = E := ⟨_, rfl⟩
    have HE := Aside0.mk (show (if a ≠ 0 ∧ a ≠ 1 then 1 else if s.down = true then 4 else 0) = E from hE1)
    rw [hE1]
    rw [hE1] at hE
    have hne : (E != 0) = true := bne_iff_ne.2 hE
    have HP := Aside0.mk hR.hp
    clear hR hE1 hE hO hN hr
    go_enter Try.func14, Try.ntmps14
    go_wp2_with (first
      | (go_at_call 29; (with_reducible refine (may_says w a E HE.out HP.out).mono ?_); rintro e w' ⟨rfl, ⟨nd, rfl⟩⟩)
      | fail)
    go_ret2
    exact ⟨none, 0, rfl, BS.nil _ _, pw_below_drewN (Below.refl _ _) nd⟩
set_option maxHeartbeats 8000000 in
set_option maxRecDepth 100000 in
theorem Sync_L {Y : Nat → Prop} (w : World) (hRL : RepL Y B w p s) (hY : ∀ k, Y k → k < w.heap.size) (hO : Ok N s) (hN : N ≤ 500000000) :
    Calls Try.prog 33 #[.pointer (some ⟨p, 0, none⟩)] w fun e w' => e = .returned (.int .i64 (if s.down = true then 4 else 0)) ∧ RepL Y B w' p s.sync ∧ Below B w w' ∧ Kp Y p w w' := by
  have HRL := Aside0.mk hRL
  have HRR := Aside0.mk hRL.rep
  have HY := Aside0.mk hY
  obtain ⟨v0, v1, u0, u1, lo, hR, hl⟩ := hRL
  have HLO := Aside0.mk hl
  obtain ⟨A0, c0, rfl, _⟩ := id hR.k0
  obtain ⟨A1, c1, rfl, _⟩ := id hR.k1
  have HR := Aside0.mk hR
  have h8 : w.cell? ⟨p, 8, none⟩ = some (.bool s.down) := (blk_cell hR.hp 8).trans rfl
  have L0 := Aside0.mk (show s.now.1.length ≤ 1000000000 by have := hO.n0; omega)
  have L1 := Aside0.mk (show s.now.2.1.length ≤ 1000000000 by have := hO.n1; omega)
  have F0 := Aside0.mk hO.f0
  have F1 := Aside0.mk hO.f1
  have hch := Aside0.mk (show s.sync = if s.down = true then s else { s with safe := s.now, loose := [] : AD }.count from rfl)
  clear hR hO hN hl hY
  cases hd : s.down with
  | true =>
    rw [hd] at hch h8
    rw [hch.out, if_pos rfl, if_pos rfl]
    go_enter Try.func33, Try.ntmps33
    go_wp2
    go_ret
    exact ⟨rfl, HRL.out, Below.refl _ _, fun _ _ _ => rfl⟩
  | false =>
    rw [hd] at hch h8
    rw [hch.out, if_neg (by decide), if_neg (by decide)]
    have HD := Aside0.mk hd
    clear hd hch
    go_enter Try.func33, Try.ntmps33
    go_wp2_with (first
      | (go_at_call 35; (with_reducible refine (copied_calls (o := 3) w HR.out.hp rfl rfl rfl HR.out.k0 HR.out.k1 L0.out L1.out).mono ?_); rintro e w1 ⟨B0, d0, B1, d1, rfl, hb0, hb1, hbw⟩; have BB := Aside0.mk hbw; have HB0 := Aside0.mk (hb0.lower HRR.out.base); have HB1 := Aside0.mk (hb1.lower HRR.out.base); have HP := Aside0.mk (blkK hbw HR.out.hp); clear hb0 hb1 hbw h8;
          have z0 : w1.cell? ⟨p, 0, none⟩ = some v0 := (blk_cell HP.out 0).trans rfl; have z1 : w1.cell? ⟨p, 1, none⟩ = some v1 := (blk_cell HP.out 1).trans rfl; have z2 : w1.cell? ⟨p, 2, none⟩ = some (.int .i64 s.safe.2.2) := (blk_cell HP.out 2).trans rfl; have z6 : w1.cell? ⟨p, 6, none⟩ = some lo := (blk_cell HP.out 6).trans rfl;
          have y0 := blk_frozen HP.out 0; have y1 := blk_frozen HP.out 1; have y2 := blk_frozen HP.out 2; have y6 := blk_frozen HP.out 6)
      | (go_at_call 50; fail)
      | fail)
    have HP2 := Aside0.mk (show ((((w1.setCell ⟨p, 0, none⟩ (.slice B0 s.now.1.length d0)).setCell ⟨p, 1, none⟩ (.slice B1 s.now.2.1.length d1)).setCell ⟨p, 2, none⟩ (.int .i64 s.now.2.2)).setCell ⟨p, 6, none⟩ (.slice none 0 0)).heap[p]? = some (.cells (dcells (.slice B0 s.now.1.length d0) (.slice B1 s.now.2.1.length d1) s.now.2.2 (.slice A0 s.now.1.length c0) (.slice A1 s.now.2.1.length c1) s.now.2.2 (.slice none 0 0) s.left s.down) 58 (0, 0)) from blk_set (blk_set (blk_set (blk_set HP.out 0 _) 1 _) 2 _) 6 _)
    have HG2 := Aside0.mk (World.grownBy.trans (World.grownBy.trans (World.grownBy.trans (grown_set (W := w1) (k := p) (j := 0) (u := .slice B0 s.now.1.length d0)) (grown_set (j := 1) (u := .slice B1 s.now.2.1.length d1))) (grown_set (j := 2) (u := .int .i64 s.now.2.2))) (grown_set (j := 6) (u := .slice none 0 0)))
    generalize (((w1.setCell ⟨p, 0, none⟩ (.slice B0 s.now.1.length d0)).setCell ⟨p, 1, none⟩ (.slice B1 s.now.2.1.length d1)).setCell ⟨p, 2, none⟩ (.int .i64 s.now.2.2)).setCell ⟨p, 6, none⟩ (.slice none 0 0) = w2 at HP2 HG2 ⊢
    go_wp2_with (first
      | (go_at_call 50; (with_reducible refine (count_calls w2 HP2.out F0.out F1.out).mono ?_); rintro e w3 ⟨rfl, hp3, hg3⟩)
      | fail)
    go_ret
    rw [HD.out] at hp3
    have k1 := Keeps.grown (t := 5) HG2.out HP.out (by decide)
    have k2 := Keeps.grown (t := 5) hg3 HP2.out (by decide)
    have k0 := Keeps.below (t := 5) BB.out
    have k := Keeps.trans k1 k2
    have hb2 := Below.grown (Below.mono BB.out HRR.out.base) HG2.out (Nat.le_trans HRR.out.base BB.out.size) (fun k hk => by cases hk; exact HR.out.hB)
    exact ⟨rfl, ⟨_, _, _, _, _, ⟨HR.out.hB, hp3, HB0.out.keep k, HB1.out.keep k, HR.out.k0.keep (k0.trans k), HR.out.k1.keep (k0.trans k), LS.nil _ _⟩, fun k hk => by cases hk⟩, Below.grown hb2 hg3 (Nat.le_trans HRR.out.base hb2.size) (fun k hk => by cases hk; exact HR.out.hB), (FrameL.trans (FrameL.below BB.out) (FrameL.trans (FrameL.grown HG2.out) (FrameL.grown hg3))).kp HLO.out HY.out⟩
theorem Sync_calls (w : World) (hR : Rep B w p s) (hO : Ok N s) (hN : N ≤ 500000000) :
    Calls Try.prog 33 #[.pointer (some ⟨p, 0, none⟩)] w fun e w' => e = .returned (.int .i64 (if s.down = true then 4 else 0)) ∧ Rep B w' p s.sync ∧ Below B w w' :=
  (Sync_L w (hR.freshL (Y := fun _ => False) (fun _ h => h.elim)) (fun _ h => h.elim) hO hN).mono fun e w' h => ⟨h.1, h.2.1.rep, h.2.2.1⟩
end Go.Proofs.Ytdbkedipfpepbaa.PWal
