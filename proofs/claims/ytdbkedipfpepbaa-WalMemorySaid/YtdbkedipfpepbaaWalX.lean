/- turn and Open, with bytes off given blocks -/
import Derived.Test.YtdbkedipfpepbaaWalDisk
import Derived.Test.YtdbkedipfpepbaaWalClo
import Derived.Test.YtdbkedipfpepbaaWalSteps
import Derived.Test.YtdbkedipfpepbaaWalTurn
import Derived.Test.YtdbkedipfpepbaaWalOpened
namespace Go.Proofs.Ytdbkedipfpepbaa.PWal
open Go.RowKit Go.Proofs.YtdbkedipfpepbaaW.PrintWords Go.Proofs.YtdbkedipfpepbaaW.PrintLast Go.Proofs.YtdbkedipfpepbaaW.PrintMore
set_option linter.unusedVariables false
set_option linter.unusedSimpArgs false
/-- a disk none of whose bytes lie in these blocks; all these blocks are there -/
def RepB (X : Nat → Prop) (B : Nat) (W : World) (p : Nat) (s : AD) : Prop := RepX X B W p s ∧ ∀ k, X k → k < W.heap.size
theorem RepB.base {X : Nat → Prop} {B : Nat} {W : World} {p : Nat} {s : AD} (h : RepB X B W p s) : B ≤ W.heap.size := h.1.rep.base
theorem RepB.below {X : Nat → Prop} {B : Nat} {W W' : World} {p : Nat} {s : AD} (h : RepB X B W p s) (hb : Below W.heap.size W W') : RepB X B W' p s :=
  ⟨h.1.below hb, fun k hk => Nat.lt_of_lt_of_le (h.2 k hk) hb.size⟩
theorem yt_off {B n : Nat} {W : World} {lo : Value} {cells : List Value} (ho : W.ownsRow B 69 3 lo n cells) : Off (YT W) lo := fun k hk ⟨cs, t, hc, _, h69⟩ => by
  rcases ho.2 with ⟨rfl, _⟩ | ⟨g, cap, cur, rfl, _, hg, _⟩
  · cases hk
  · obtain rfl : g = k := by simpa [Value.ownBlock] using hk
    exact blk_ne hg hc (fun e => h69 e.symm) rfl
theorem off_new {X : Nat → Prop} {W W' : World} {v : Value} {bs : List Int} (h : BS W.heap.size W' v bs) (hX : ∀ k, X k → k < W.heap.size) : Off X v := fun k hk hx => by
  have h1 := hX k hx
  have h2 := (h.own_at k hk).1
  omega
theorem off_nil (X : Nat → Prop) : Off X (.slice none 0 0) := fun k hk => by cases hk
variable {B p N : Nat} {s s' : AD} {E : Int}
theorem change_A {X : Nat → Prop} (w : World) (hR : RepB X B w p s) (hO : Ok N s) (hN : N ≤ 500000000) (k a : Int) {A2 : Option Addr} {m c2 : Nat} {bs : List Int} (hb : BS B w (.slice A2 m c2) bs) (hl : bs.length ≤ 100000000) (hnu : Off X (.slice A2 m c2)) (hk : k = 0 ∨ k = 1 ∨ k = 2) :
    Calls Try.prog 49 #[.pointer (some ⟨p, 0, none⟩), .agg #[.int .i64 k, .int .i64 a, .slice A2 m c2]] w fun e w' => e = .returned (.int .i64 (mayE s a)) ∧ RepB X B w' p (s.change (k, a, bs)) ∧ Below B w w' ∧ KT w w' := by
  have hrep := hR.1.rep
  by_cases hE : mayE s a = 0
  · rw [hE]
    obtain ⟨v0, v1, u0, u1, lo, ys, hR0, ⟨n0, n1, n2, n3⟩, ey, ho, hys⟩ := hR.1
    refine (change_yes0 w hR0 n0 n1 n2 n3 ey ho hys hR.2 hO hN k a hb hl hnu ⟨hk, ?_⟩ hE).mono ?_
    · unfold mayE at hE
      split at hE
      · omega
      · dsimp only; omega
    · rintro e w' ⟨he, y0, y1, lo', ys', h, hb, hk, hf, hlo⟩
      exact ⟨he, ⟨⟨v0, v1, y0, y1, lo', ys', h⟩, fun q hq => Nat.lt_of_lt_of_le (hR.2 q hq) hb.size⟩, hb, (hf.kp (yt_off ho) YT.lt).kt hrep⟩
  · rw [show s.change (k, a, bs) = s by unfold AD.change; rw [if_neg hE]]
    obtain ⟨v0, v1, u0, u1, lo, hR0⟩ := id hrep
    refine (change_no0 w hR0 k a A2 m c2 hE).mono ?_
    rintro e w' ⟨he, hb⟩
    exact ⟨he, hR.below hb, hb.mono hrep.base, KT.below hb⟩
set_option maxHeartbeats 8000000 in
set_option maxRecDepth 100000 in
theorem Append_A {X : Nat → Prop} (w : World) (hR : RepB X B w p s) (hO : Ok N s) (hN : N ≤ 500000000) (a : Int) {A : Option Addr} {c : Nat} {bs : List Int} (hb : Kd.C (Kd.int .u8) w A bs.length bs) (hc : bs.length ≤ c) (hl : bs.length ≤ 100000000) :
    Calls Try.prog 32 #[.pointer (some ⟨p, 0, none⟩), .int .i64 a, .slice A bs.length c] w fun e w' => e = .returned (.int .i64 (mayE s a)) ∧ RepB X B w' p (s.change (0, a, bs)) ∧ Below B w w' ∧ KT w w' := by
  have HXL := Aside0.mk hR.2
  have HR := Aside0.mk hR
  have HO := Aside0.mk hO
  have HN := Aside0.mk hN
  have HB := Aside0.mk hb
  have HC := Aside0.mk hc
  have HL := Aside0.mk hl
  clear hR hO hN hb hc hl
  go_enter Try.func32, Try.ntmps32
  go_wp2_with (first
    | (go_at_call 30; (with_reducible refine (cloneB_calls A c bs w HB.out HC.out (by have := HL.out; omega)).mono ?_); rintro e w1 ⟨v, rfl, hR1, hb1⟩; have hBS := BS.ofR hR1 (by have := HL.out; omega); obtain ⟨A1, c1, rfl, _⟩ := id hBS; have HBS := Aside0.mk hBS; have BB := Aside0.mk hb1; have HOF := Aside0.mk (show Off X (.slice A1 bs.length c1) from fun k hk hx => by have := HXL.out k hx; have := (hBS.own_at k hk).1; omega); clear hBS hR1 hb1)
    | (go_at_call 49; (with_reducible refine (change_A w1 (HR.out.below BB.out) HO.out HN.out 0 a (HBS.out.lower HR.out.base) HL.out HOF.out (.inl rfl)).mono ?_); rintro e w2 ⟨rfl, h1, h2, h3⟩)
    | fail)
  go_ret
  exact ⟨rfl, h1, Below.trans (Below.mono BB.out HR.out.base) h2, KT.trans (KT.below BB.out) h3⟩
set_option maxHeartbeats 8000000 in
set_option maxRecDepth 100000 in
theorem Wipe_A {X : Nat → Prop} (w : World) (hR : RepB X B w p s) (hO : Ok N s) (hN : N ≤ 500000000) (a : Int) :
    Calls Try.prog 42 #[.pointer (some ⟨p, 0, none⟩), .int .i64 a] w fun e w' => e = .returned (.int .i64 (mayE s a)) ∧ RepB X B w' p (s.change (1, a, [])) ∧ Below B w w' ∧ KT w w' := by
  have HR := Aside0.mk hR
  have HO := Aside0.mk hO
  have HN := Aside0.mk hN
  clear hR hO hN
  go_enter Try.func42, Try.ntmps42
  go_wp2_with (first
    | (go_at_call 49; (with_reducible refine (change_A w HR.out HO.out HN.out 1 a (BS.nil B w) (by simp) (off_nil X) (.inr (.inl rfl))).mono ?_); rintro e w2 ⟨rfl, h1, h2, h3⟩)
    | fail)
  go_ret
  exact ⟨rfl, h1, h2, h3⟩
set_option maxHeartbeats 8000000 in
set_option maxRecDepth 100000 in
theorem Front_A {X : Nat → Prop} (w : World) (hR : RepB X B w p s) (hO : Ok N s) (hN : N ≤ 500000000) (a : Int) :
    Calls Try.prog 45 #[.pointer (some ⟨p, 0, none⟩), .int .i64 a] w fun e w' => e = .returned (.int .i64 (mayE s a)) ∧ RepB X B w' p (s.change (2, a, [])) ∧ Below B w w' ∧ KT w w' := by
  have HR := Aside0.mk hR
  have HO := Aside0.mk hO
  have HN := Aside0.mk hN
  clear hR hO hN
  go_enter Try.func45, Try.ntmps45
  go_wp2_with (first
    | (go_at_call 49; (with_reducible refine (change_A w HR.out HO.out HN.out 2 a (BS.nil B w) (by simp) (off_nil X) (.inr (.inr rfl))).mono ?_); rintro e w2 ⟨rfl, h1, h2, h3⟩)
    | fail)
  go_ret
  exact ⟨rfl, h1, h2, h3⟩
set_option maxHeartbeats 8000000 in
set_option maxRecDepth 100000 in
theorem Sync_A {X : Nat → Prop} (w : World) (hRB : RepB X B w p s) (hO : Ok N s) (hN : N ≤ 500000000) :
    Calls Try.prog 33 #[.pointer (some ⟨p, 0, none⟩)] w fun e w' => e = .returned (.int .i64 (if s.down = true then 4 else 0)) ∧ RepB X B w' p s.sync ∧ Below B w w' ∧ KT w w' := by
  have HRL := Aside0.mk hRB
  have HRR := Aside0.mk hRB.1.rep
  have HXL := Aside0.mk hRB.2
  obtain ⟨v0, v1, u0, u1, lo, ys, hR, ⟨n0, n1, n2, n3⟩, ey, ho, hys⟩ := hRB.1
  have HLO := Aside0.mk (yt_off ho)
  have HN2 := Aside0.mk n2
  have HN3 := Aside0.mk n3
  clear hRB n0 n1 n2 n3 ey ho hys
  obtain ⟨A0, c0, rfl, _⟩ := id hR.k0
  obtain ⟨A1, c1, rfl, _⟩ := id hR.k1
  have HR := Aside0.mk hR
  have h8 : w.cell? ⟨p, 8, none⟩ = some (.bool s.down) := (blk_cell hR.hp 8).trans rfl
  have L0 := Aside0.mk (show s.now.1.length ≤ 1000000000 by have := hO.n0; omega)
  have L1 := Aside0.mk (show s.now.2.1.length ≤ 1000000000 by have := hO.n1; omega)
  have F0 := Aside0.mk hO.f0
  have F1 := Aside0.mk hO.f1
  have hch := Aside0.mk (show s.sync = if s.down = true then s else { s with safe := s.now, loose := [] : AD }.count from rfl)
  clear hR hO hN
  cases hd : s.down with
  | true =>
    rw [hd] at hch h8
    rw [hch.out, if_pos rfl, if_pos rfl]
    go_enter Try.func33, Try.ntmps33
    go_wp2
    go_ret
    exact ⟨rfl, HRL.out, Below.refl _ _, KT.refl _⟩
  | false =>
    rw [hd] at hch h8
    rw [hch.out, if_neg (by decide), if_neg (by decide)]
    have HD := Aside0.mk hd
    clear hd hch
    go_enter Try.func33, Try.ntmps33
    go_wp2_with (first
      | (go_at_call 35; (with_reducible refine (copied_calls (o := 3) w HR.out.hp rfl rfl rfl HR.out.k0 HR.out.k1 L0.out L1.out).mono ?_); rintro e w1 ⟨B0, d0, B1, d1, rfl, hb0, hb1, hbw⟩; have BB := Aside0.mk hbw; have HB0 := Aside0.mk (hb0.lower HRR.out.base); have HB1 := Aside0.mk (hb1.lower HRR.out.base); have HF0 := Aside0.mk (off_new hb0 HXL.out); have HF1 := Aside0.mk (off_new hb1 HXL.out); have HP := Aside0.mk (blkK hbw HR.out.hp); clear hb0 hb1 hbw h8;
          have z0 : w1.cell? ⟨p, 0, none⟩ = some v0 := (blk_cell HP.out 0).trans rfl; have z1 : w1.cell? ⟨p, 1, none⟩ = some v1 := (blk_cell HP.out 1).trans rfl; have z2 : w1.cell? ⟨p, 2, none⟩ = some (.int .i64 s.safe.2.2) := (blk_cell HP.out 2).trans rfl; have z6 : w1.cell? ⟨p, 6, none⟩ = some lo := (blk_cell HP.out 6).trans rfl;
          have y0 := blk_frozen HP.out 0; have y1 := blk_frozen HP.out 1; have y2 := blk_frozen HP.out 2; have y6 := blk_frozen HP.out 6)
      | (go_at_call 50; fail)
      | fail)
    have HP2 := Aside0.mk (show ((((w1.setCell ⟨p, 0, none⟩ (.slice B0 s.now.1.length d0)).setCell ⟨p, 1, none⟩ (.slice B1 s.now.2.1.length d1)).setCell ⟨p, 2, none⟩ (.int .i64 s.now.2.2)).setCell ⟨p, 6, none⟩ (.slice none 0 0)).heap[p]? = some (.cells (dcells (.slice B0 s.now.1.length d0) (.slice B1 s.now.2.1.length d1) s.now.2.2 (.slice A0 s.now.1.length c0) (.slice A1 s.now.2.1.length c1) s.now.2.2 (.slice none 0 0) s.left s.down) 58 (0, 0)) from blk_set (blk_set (blk_set (blk_set HP.out 0 _) 1 _) 2 _) 6 _)
    have HG2 := Aside0.mk (World.grownBy.trans (World.grownBy.trans (World.grownBy.trans (grown_set (W := w1) (k := p) (j := 0) (u := .slice B0 s.now.1.length d0)) (grown_set (j := 1) (u := .slice B1 s.now.2.1.length d1))) (grown_set (j := 2) (u := .int .i64 s.now.2.2))) (grown_set (j := 6) (u := .slice none 0 0)))
    generalize (((w1.setCell ⟨p, 0, none⟩ (.slice B0 s.now.1.length d0)).setCell ⟨p, 1, none⟩ (.slice B1 s.now.2.1.length d1)).setCell ⟨p, 2, none⟩ (.int .i64 s.now.2.2)).setCell ⟨p, 6, none⟩ (.slice none 0 0) = w2 at HP2 HG2 ⊢
    go_wp2_with (first
      | (go_at_call 50; (with_reducible refine (count_calls w2 HP2.out F0.out F1.out).mono ?_); rintro e w3 ⟨rfl, hp3, hg3⟩)
      | fail)
    go_ret
    rw [HD.out] at hp3
    have k1 := Keeps.grown (t := 5) HG2.out HP.out (by decide)
    have k2 := Keeps.grown (t := 5) hg3 HP2.out (by decide)
    have k0 := Keeps.below (t := 5) BB.out
    have k := Keeps.trans k1 k2
    have hb2 := Below.grown (Below.mono BB.out HRR.out.base) HG2.out (Nat.le_trans HRR.out.base BB.out.size) (fun k hk => by cases hk; exact HR.out.hB)
    have hl := LS.nil B w3
    obtain ⟨ys', ey', ho', hys'⟩ := id hl
    obtain rfl := List.map_eq_nil_iff.1 ey'
    have hkp := (FrameL.trans (FrameL.below BB.out) (FrameL.trans (FrameL.grown HG2.out) (FrameL.grown hg3))).kp HLO.out YT.lt
    have hbw := Below.grown hb2 hg3 (Nat.le_trans HRR.out.base hb2.size) (fun k hk => by cases hk; exact HR.out.hB)
    exact ⟨rfl, ⟨⟨_, _, _, _, _, [], ⟨HR.out.hB, hp3, HB0.out.keep k, HB1.out.keep k, HR.out.k0.keep (k0.trans k), HR.out.k1.keep (k0.trans k), hl⟩, ⟨HF0.out, HF1.out, HN2.out, HN3.out⟩, ey', ho', fun y hy => by cases hy⟩, fun k hk => Nat.lt_of_lt_of_le (HXL.out k hk) hbw.size⟩, hbw, hkp.kt HRR.out⟩
theorem Append_B {X : Nat → Prop} (w : World) (hR : RepB X B w p s) (hO : Ok N s) (hN : N ≤ 500000000) (a : Int) {A : Option Addr} {c : Nat} {bs : List Int} (hb : Kd.C (Kd.int .u8) w A bs.length bs) (hc : bs.length ≤ c) (hl : bs.length ≤ 100000000) (hE : mayE s a = E) (hs : s.change (0, a, bs) = s') :
    Calls Try.prog 32 #[.pointer (some ⟨p, 0, none⟩), .int .i64 a, .slice A bs.length c] w fun e w' => e = .returned (.int .i64 E) ∧ RepB X B w' p s' ∧ Below B w w' ∧ KT w w' :=
  hE ▸ hs ▸ (Append_A w hR hO hN a hb hc hl)
theorem Wipe_B {X : Nat → Prop} (w : World) (hR : RepB X B w p s) (hO : Ok N s) (hN : N ≤ 500000000) (a : Int) (hE : mayE s a = E) (hs : s.change (1, a, []) = s') :
    Calls Try.prog 42 #[.pointer (some ⟨p, 0, none⟩), .int .i64 a] w fun e w' => e = .returned (.int .i64 E) ∧ RepB X B w' p s' ∧ Below B w w' ∧ KT w w' :=
  hE ▸ hs ▸ (Wipe_A w hR hO hN a)
theorem Front_B {X : Nat → Prop} (w : World) (hR : RepB X B w p s) (hO : Ok N s) (hN : N ≤ 500000000) (a : Int) (hE : mayE s a = E) (hs : s.change (2, a, []) = s') :
    Calls Try.prog 45 #[.pointer (some ⟨p, 0, none⟩), .int .i64 a] w fun e w' => e = .returned (.int .i64 E) ∧ RepB X B w' p s' ∧ Below B w w' ∧ KT w w' :=
  hE ▸ hs ▸ (Front_A w hR hO hN a)
theorem Sync_B {X : Nat → Prop} (w : World) (hR : RepB X B w p s) (hO : Ok N s) (hN : N ≤ 500000000) (hE : (if s.down = true then (4 : Int) else 0) = E) (hs : s.sync = s') :
    Calls Try.prog 33 #[.pointer (some ⟨p, 0, none⟩)] w fun e w' => e = .returned (.int .i64 E) ∧ RepB X B w' p s' ∧ Below B w w' ∧ KT w w' :=
  hE ▸ hs ▸ (Sync_A w hR hO hN)
end Go.Proofs.Ytdbkedipfpepbaa.PWal
namespace Go.Proofs.Ytdbkedipfpepbaa.PWal
open Go.RowKit Go.Proofs.YtdbkedipfpepbaaW.PrintWords Go.Proofs.YtdbkedipfpepbaaW.PrintLast Go.Proofs.YtdbkedipfpepbaaW.PrintMore
set_option linter.unusedVariables false
set_option linter.unusedSimpArgs false
variable {X : Nat → Prop}
variable {B p q g2 g3 g5 M : Nat} {s s' : AD} {a front size : Int}
set_option maxHeartbeats 8000000 in
set_option maxRecDepth 100000 in
theorem clo41_callsX (w : World) (hg2 : w.heap[g2]? = some (.cells #[.pointer (some ⟨q, 0, none⟩)] 27 (0, 0))) (hq : w.heap[q]? = some (.cells #[.pointer (some ⟨p, 0, none⟩), .int .i64 front, .int .i64 size] 60 (0, 0))) (hg5 : w.heap[g5]? = some (.cells #[.int .i64 a] 3 (0, 0)))
    (hR : RepB X B w p s) (hO : Ok M s) (hN : M ≤ 500000000) (hE : mayE s a = 0) (hs : s.change (1, a, []) = s') :
    Calls Try.prog 41 #[.pointer (some ⟨g2, 0, none⟩), .pointer (some ⟨g5, 0, none⟩)] w fun e w' => e = .returned (.int .i64 0) ∧ RepB X B w' p s' ∧ Below B w w' ∧ KT w w' := by
  have HG2 := Aside0.mk hg2
  have HQ := Aside0.mk hq
  have HG5 := Aside0.mk hg5
  have HR := Aside0.mk hR
  have HO := Aside0.mk hO
  have HN := Aside0.mk hN
  have HE := Aside0.mk hE
  have HS := Aside0.mk hs
  clear hg2 hq hg5 hR hO hN hE hs
  go_enter Try.func41, Try.ntmps41
  go_wp2_with fail
  refine start_ (n := 7) (S := fun w' => w'.cell? ⟨g2, 0, none⟩ = some (.pointer (some ⟨q, 0, none⟩)) ∧ w'.cell? ⟨q, 0, none⟩ = some (.pointer (some ⟨p, 0, none⟩)) ∧ w'.cell? ⟨g5, 0, none⟩ = some (.int .i64 a)) (ds := [5]) #[false, false, false, false, false, false, false] (by kernel_rfl) rfl rfl ⟨(blk_cell HG2.out 0).trans rfl, (blk_cell HQ.out 0).trans rfl, (blk_cell HG5.out 0).trans rfl⟩ (fun hHeld => ?_); refine with_tabW clo41.tab clo41.bits (fun HT_ HW_ => ?_)
  have HR2 := Aside0.mk (HR.out.below (below_drew (Below.refl _ w)))
  have HBd := Aside0.mk (below_drew (Below.refl B w))
  have HKd := Aside0.mk (KT.below (below_drew (Below.refl w.heap.size w)))
  generalize w.drew = w2 at HR2 HBd HKd hHeld ⊢
  refine take_ (i := 0) (N := some 3) (v := ?_) (a' := ?_) #[true, false, false, false, false, false, false] rfl rfl (take_ofW HT_.out HW_.out (by kernel_rfl)) (fun _ _ _ h => h) (Or.inl ⟨by rfl, ?_⟩) hHeld ?_ ?_
  rotate_left
  · rintro w' ⟨s0, s1, s2⟩
    go_simp
    with_reducible rfl
  rotate_left
  · simp only [Act.put, List.setIfInBounds_toArray, List.set_cons_zero, List.set_cons_succ, i64_w, i32_w]
    rfl
  refine pure_ (i := 1) (N := some 4) (v := ?_) (a' := ?_) #[true, true, false, false, false, false, false] rfl rfl (any_of HT_.out (by kernel_rfl)) (fun _ _ _ h => h) (Or.inl ⟨by rfl, ?_⟩) ?_ ?_
  rotate_left
  · intro w'
    go_simp
    with_reducible rfl
  rotate_left
  · simp only [Act.put, List.setIfInBounds_toArray, List.set_cons_zero, List.set_cons_succ, i64_w, i32_w]
    rfl
  refine pure_ (i := 2) (N := some 5) (v := ?_) (a' := ?_) #[true, true, true, false, false, false, false] rfl rfl (any_of HT_.out (by kernel_rfl)) (fun _ _ _ h => h) (Or.inl ⟨by rfl, ?_⟩) ?_ ?_
  rotate_left
  · intro w'
    go_simp
    with_reducible rfl
  rotate_left
  · simp only [Act.put, List.setIfInBounds_toArray, List.set_cons_zero, List.set_cons_succ, i64_w, i32_w]
    rfl
  refine take_ (i := 3) (N := some 6) (v := ?_) (a' := ?_) #[true, true, true, true, false, false, false] rfl rfl (take_ofW HT_.out HW_.out (by kernel_rfl)) (fun _ _ _ h => h) (Or.inl ⟨by rfl, ?_⟩) hHeld ?_ ?_
  rotate_left
  · rintro w' ⟨s0, s1, s2⟩
    go_simp
    with_reducible rfl
  rotate_left
  · simp only [Act.put, List.setIfInBounds_toArray, List.set_cons_zero, List.set_cons_succ, i64_w, i32_w]
    rfl
  refine take_ (i := 4) (N := some 7) (v := ?_) (a' := ?_) #[true, true, true, true, true, false, false] rfl rfl (take_ofW HT_.out HW_.out (by kernel_rfl)) (fun _ _ _ h => h) (Or.inl ⟨by rfl, ?_⟩) hHeld ?_ ?_
  rotate_left
  · rintro w' ⟨s0, s1, s2⟩
    go_simp
    with_reducible rfl
  rotate_left
  · simp only [Act.put, List.setIfInBounds_toArray, List.set_cons_zero, List.set_cons_succ, i64_w, i32_w]
    rfl
  refine last_ (i := 5) (N := some 8) #[true, true, true, true, true, true, false] rfl rfl (one_of HT_.out (by kernel_rfl)) (by decide) (fun K hK => ?_)
  refine goes_ Try.func42 (by kernel_rfl) rfl #[.pointer (some ⟨p, 0, none⟩), .int .i64 a] (by rfl) rfl rfl (by (try simp only [List.map_toArray, List.map_cons, List.map_nil]); first | done | rfl) ?_
  refine (Wipe_B w2 HR2.out HO.out HN.out a HE.out HS.out).mono ?_
  rintro e w3 ⟨rfl, hr, hb, hk⟩
  refine ⟨_, rfl, ?_⟩
  have HR3 := Aside0.mk hr
  have HB3 := Aside0.mk (Below.trans HBd.out hb)
  have HK3 := Aside0.mk (KT.trans HKd.out hk)
  clear hr hb hk hHeld
  refine hK.out _ _ ?_
  clear hK K
  refine norm_ (a' := ?_) ?_ ?_
  rotate_left
  · show Act.put _ (some 8) _ = _
    simp only [Act.put, List.setIfInBounds_toArray, List.set_cons_zero, List.set_cons_succ, i64_w, i32_w]
    rfl
  refine pure_ (i := 6) (N := some 2) (v := ?_) (a' := ?_) #[true, true, true, true, true, true, true] rfl rfl (any_of HT_.out (by kernel_rfl)) (fun _ _ _ h => h) (Or.inl ⟨by rfl, ?_⟩) ?_ ?_
  rotate_left
  · intro w'
    go_simp
    with_reducible rfl
  rotate_left
  · simp only [Act.put, List.setIfInBounds_toArray, List.set_cons_zero, List.set_cons_succ, i64_w, i32_w]
    rfl
  refine done_ (done_of HT_.out (by kernel_rfl)) ?_
  go_wp2
  go_ret
  exact ⟨rfl, HR3.out, HB3.out, HK3.out⟩
set_option maxHeartbeats 8000000 in
set_option maxRecDepth 100000 in
theorem clo43_callsX {A : Option Addr} {c : Nat} {bs : List Int} (w : World) (hg2 : w.heap[g2]? = some (.cells #[.pointer (some ⟨q, 0, none⟩)] 27 (0, 0))) (hq : w.heap[q]? = some (.cells #[.pointer (some ⟨p, 0, none⟩), .int .i64 front, .int .i64 size] 60 (0, 0))) (hg5 : w.heap[g5]? = some (.cells #[.int .i64 a] 3 (0, 0))) (hg3 : w.heap[g3]? = some (.cells #[.slice A bs.length c] 28 (0, 0)))
    (hR : RepB X B w p s) (hO : Ok M s) (hN : M ≤ 500000000) (hC : Kd.C (Kd.int .u8) w A bs.length bs) (hc : bs.length ≤ c) (hl : bs.length ≤ 100000000) (hE : mayE s a = 0) (hs : s.change (0, a, bs) = s') :
    Calls Try.prog 43 #[.pointer (some ⟨g2, 0, none⟩), .pointer (some ⟨g5, 0, none⟩), .pointer (some ⟨g3, 0, none⟩)] w fun e w' => e = .returned (.int .i64 0) ∧ RepB X B w' p s' ∧ Below B w w' ∧ KT w w' := by
  have HG2 := Aside0.mk hg2
  have HQ := Aside0.mk hq
  have HG5 := Aside0.mk hg5
  have HR := Aside0.mk hR
  have HO := Aside0.mk hO
  have HN := Aside0.mk hN
  have HE := Aside0.mk hE
  have HS := Aside0.mk hs
  have HG3 := Aside0.mk hg3
  have HC := Aside0.mk hC
  have HCC := Aside0.mk hc
  have HL := Aside0.mk hl
  clear hg2 hq hg5 hR hO hN hE hs hg3 hC hc hl
  go_enter Try.func43, Try.ntmps43
  go_wp2_with fail
  refine start_ (n := 8) (S := fun w' => w'.cell? ⟨g2, 0, none⟩ = some (.pointer (some ⟨q, 0, none⟩)) ∧ w'.cell? ⟨q, 0, none⟩ = some (.pointer (some ⟨p, 0, none⟩)) ∧ w'.cell? ⟨g5, 0, none⟩ = some (.int .i64 a) ∧ w'.cell? ⟨g3, 0, none⟩ = some (.slice A bs.length c)) (ds := [6]) #[false, false, false, false, false, false, false, false] (by kernel_rfl) rfl rfl ⟨(blk_cell HG2.out 0).trans rfl, (blk_cell HQ.out 0).trans rfl, (blk_cell HG5.out 0).trans rfl, (blk_cell HG3.out 0).trans rfl⟩ (fun hHeld => ?_); refine with_tabW clo43.tab clo43.bits (fun HT_ HW_ => ?_)
  have HR2 := Aside0.mk (HR.out.below (below_drew (Below.refl _ w)))
  have HBd := Aside0.mk (below_drew (Below.refl B w))
  have HKd := Aside0.mk (KT.below (below_drew (Below.refl w.heap.size w)))
  have HC2 := Aside0.mk (Kd.C_below HC.out (below_drew (Below.refl _ w)))
  generalize w.drew = w2 at HR2 HBd HKd HC2 hHeld ⊢
  refine take_ (i := 0) (N := some 4) (v := ?_) (a' := ?_) #[true, false, false, false, false, false, false, false] rfl rfl (take_ofW HT_.out HW_.out (by kernel_rfl)) (fun _ _ _ h => h) (Or.inl ⟨by rfl, ?_⟩) hHeld ?_ ?_
  rotate_left
  · rintro w' ⟨s0, s1, s2, s3⟩
    go_simp
    with_reducible rfl
  rotate_left
  · simp only [Act.put, List.setIfInBounds_toArray, List.set_cons_zero, List.set_cons_succ, i64_w, i32_w]
    rfl
  refine pure_ (i := 1) (N := some 5) (v := ?_) (a' := ?_) #[true, true, false, false, false, false, false, false] rfl rfl (any_of HT_.out (by kernel_rfl)) (fun _ _ _ h => h) (Or.inl ⟨by rfl, ?_⟩) ?_ ?_
  rotate_left
  · intro w'
    go_simp
    with_reducible rfl
  rotate_left
  · simp only [Act.put, List.setIfInBounds_toArray, List.set_cons_zero, List.set_cons_succ, i64_w, i32_w]
    rfl
  refine pure_ (i := 2) (N := some 6) (v := ?_) (a' := ?_) #[true, true, true, false, false, false, false, false] rfl rfl (any_of HT_.out (by kernel_rfl)) (fun _ _ _ h => h) (Or.inl ⟨by rfl, ?_⟩) ?_ ?_
  rotate_left
  · intro w'
    go_simp
    with_reducible rfl
  rotate_left
  · simp only [Act.put, List.setIfInBounds_toArray, List.set_cons_zero, List.set_cons_succ, i64_w, i32_w]
    rfl
  refine take_ (i := 3) (N := some 7) (v := ?_) (a' := ?_) #[true, true, true, true, false, false, false, false] rfl rfl (take_ofW HT_.out HW_.out (by kernel_rfl)) (fun _ _ _ h => h) (Or.inl ⟨by rfl, ?_⟩) hHeld ?_ ?_
  rotate_left
  · rintro w' ⟨s0, s1, s2, s3⟩
    go_simp
    with_reducible rfl
  rotate_left
  · simp only [Act.put, List.setIfInBounds_toArray, List.set_cons_zero, List.set_cons_succ, i64_w, i32_w]
    rfl
  refine take_ (i := 4) (N := some 8) (v := ?_) (a' := ?_) #[true, true, true, true, true, false, false, false] rfl rfl (take_ofW HT_.out HW_.out (by kernel_rfl)) (fun _ _ _ h => h) (Or.inl ⟨by rfl, ?_⟩) hHeld ?_ ?_
  rotate_left
  · rintro w' ⟨s0, s1, s2, s3⟩
    go_simp
    with_reducible rfl
  rotate_left
  · simp only [Act.put, List.setIfInBounds_toArray, List.set_cons_zero, List.set_cons_succ, i64_w, i32_w]
    rfl
  refine take_ (i := 5) (N := some 9) (v := ?_) (a' := ?_) #[true, true, true, true, true, true, false, false] rfl rfl (take_ofW HT_.out HW_.out (by kernel_rfl)) (fun _ _ _ h => h) (Or.inl ⟨by rfl, ?_⟩) hHeld ?_ ?_
  rotate_left
  · rintro w' ⟨s0, s1, s2, s3⟩
    go_simp
    with_reducible rfl
  rotate_left
  · simp only [Act.put, List.setIfInBounds_toArray, List.set_cons_zero, List.set_cons_succ, i64_w, i32_w]
    rfl
  refine last_ (i := 6) (N := some 10) #[true, true, true, true, true, true, true, false] rfl rfl (one_of HT_.out (by kernel_rfl)) (by decide) (fun K hK => ?_)
  refine goes_ Try.func32 (by kernel_rfl) rfl #[.pointer (some ⟨p, 0, none⟩), .int .i64 a, .slice A bs.length c] (by rfl) rfl rfl (by (try simp only [List.map_toArray, List.map_cons, List.map_nil]); first | done | rfl) ?_
  refine (Append_B w2 HR2.out HO.out HN.out a HC2.out HCC.out HL.out HE.out HS.out).mono ?_
  rintro e w3 ⟨rfl, hr, hb, hk⟩
  refine ⟨_, rfl, ?_⟩
  have HR3 := Aside0.mk hr
  have HB3 := Aside0.mk (Below.trans HBd.out hb)
  have HK3 := Aside0.mk (KT.trans HKd.out hk)
  clear hr hb hk hHeld
  refine hK.out _ _ ?_
  clear hK K
  refine norm_ (a' := ?_) ?_ ?_
  rotate_left
  · show Act.put _ (some 10) _ = _
    simp only [Act.put, List.setIfInBounds_toArray, List.set_cons_zero, List.set_cons_succ, i64_w, i32_w]
    rfl
  refine pure_ (i := 7) (N := some 3) (v := ?_) (a' := ?_) #[true, true, true, true, true, true, true, true] rfl rfl (any_of HT_.out (by kernel_rfl)) (fun _ _ _ h => h) (Or.inl ⟨by rfl, ?_⟩) ?_ ?_
  rotate_left
  · intro w'
    go_simp
    with_reducible rfl
  rotate_left
  · simp only [Act.put, List.setIfInBounds_toArray, List.set_cons_zero, List.set_cons_succ, i64_w, i32_w]
    rfl
  refine done_ (done_of HT_.out (by kernel_rfl)) ?_
  go_wp2
  go_ret
  exact ⟨rfl, HR3.out, HB3.out, HK3.out⟩
set_option maxHeartbeats 8000000 in
set_option maxRecDepth 100000 in
theorem clo44_callsX (w : World) (hg2 : w.heap[g2]? = some (.cells #[.pointer (some ⟨q, 0, none⟩)] 27 (0, 0))) (hq : w.heap[q]? = some (.cells #[.pointer (some ⟨p, 0, none⟩), .int .i64 front, .int .i64 size] 60 (0, 0))) (hg5 : w.heap[g5]? = some (.cells #[.int .i64 a] 3 (0, 0)))
    (hR : RepB X B w p s) (hO : Ok M s) (hN : M ≤ 500000000) (hE : mayE s a = 0) (hs : s.change (2, a, []) = s') :
    Calls Try.prog 44 #[.pointer (some ⟨g2, 0, none⟩), .pointer (some ⟨g5, 0, none⟩)] w fun e w' => e = .returned (.int .i64 0) ∧ RepB X B w' p s' ∧ Below B w w' ∧ KT w w' := by
  have HG2 := Aside0.mk hg2
  have HQ := Aside0.mk hq
  have HG5 := Aside0.mk hg5
  have HR := Aside0.mk hR
  have HO := Aside0.mk hO
  have HN := Aside0.mk hN
  have HE := Aside0.mk hE
  have HS := Aside0.mk hs
  clear hg2 hq hg5 hR hO hN hE hs
  go_enter Try.func44, Try.ntmps44
  go_wp2_with fail
  refine start_ (n := 7) (S := fun w' => w'.cell? ⟨g2, 0, none⟩ = some (.pointer (some ⟨q, 0, none⟩)) ∧ w'.cell? ⟨q, 0, none⟩ = some (.pointer (some ⟨p, 0, none⟩)) ∧ w'.cell? ⟨g5, 0, none⟩ = some (.int .i64 a)) (ds := [5]) #[false, false, false, false, false, false, false] (by kernel_rfl) rfl rfl ⟨(blk_cell HG2.out 0).trans rfl, (blk_cell HQ.out 0).trans rfl, (blk_cell HG5.out 0).trans rfl⟩ (fun hHeld => ?_); refine with_tabW clo44.tab clo44.bits (fun HT_ HW_ => ?_)
  have HR2 := Aside0.mk (HR.out.below (below_drew (Below.refl _ w)))
  have HBd := Aside0.mk (below_drew (Below.refl B w))
  have HKd := Aside0.mk (KT.below (below_drew (Below.refl w.heap.size w)))
  generalize w.drew = w2 at HR2 HBd HKd hHeld ⊢
  refine take_ (i := 0) (N := some 3) (v := ?_) (a' := ?_) #[true, false, false, false, false, false, false] rfl rfl (take_ofW HT_.out HW_.out (by kernel_rfl)) (fun _ _ _ h => h) (Or.inl ⟨by rfl, ?_⟩) hHeld ?_ ?_
  rotate_left
  · rintro w' ⟨s0, s1, s2⟩
    go_simp
    with_reducible rfl
  rotate_left
  · simp only [Act.put, List.setIfInBounds_toArray, List.set_cons_zero, List.set_cons_succ, i64_w, i32_w]
    rfl
  refine pure_ (i := 1) (N := some 4) (v := ?_) (a' := ?_) #[true, true, false, false, false, false, false] rfl rfl (any_of HT_.out (by kernel_rfl)) (fun _ _ _ h => h) (Or.inl ⟨by rfl, ?_⟩) ?_ ?_
  rotate_left
  · intro w'
    go_simp
    with_reducible rfl
  rotate_left
  · simp only [Act.put, List.setIfInBounds_toArray, List.set_cons_zero, List.set_cons_succ, i64_w, i32_w]
    rfl
  refine pure_ (i := 2) (N := some 5) (v := ?_) (a' := ?_) #[true, true, true, false, false, false, false] rfl rfl (any_of HT_.out (by kernel_rfl)) (fun _ _ _ h => h) (Or.inl ⟨by rfl, ?_⟩) ?_ ?_
  rotate_left
  · intro w'
    go_simp
    with_reducible rfl
  rotate_left
  · simp only [Act.put, List.setIfInBounds_toArray, List.set_cons_zero, List.set_cons_succ, i64_w, i32_w]
    rfl
  refine take_ (i := 3) (N := some 6) (v := ?_) (a' := ?_) #[true, true, true, true, false, false, false] rfl rfl (take_ofW HT_.out HW_.out (by kernel_rfl)) (fun _ _ _ h => h) (Or.inl ⟨by rfl, ?_⟩) hHeld ?_ ?_
  rotate_left
  · rintro w' ⟨s0, s1, s2⟩
    go_simp
    with_reducible rfl
  rotate_left
  · simp only [Act.put, List.setIfInBounds_toArray, List.set_cons_zero, List.set_cons_succ, i64_w, i32_w]
    rfl
  refine take_ (i := 4) (N := some 7) (v := ?_) (a' := ?_) #[true, true, true, true, true, false, false] rfl rfl (take_ofW HT_.out HW_.out (by kernel_rfl)) (fun _ _ _ h => h) (Or.inl ⟨by rfl, ?_⟩) hHeld ?_ ?_
  rotate_left
  · rintro w' ⟨s0, s1, s2⟩
    go_simp
    with_reducible rfl
  rotate_left
  · simp only [Act.put, List.setIfInBounds_toArray, List.set_cons_zero, List.set_cons_succ, i64_w, i32_w]
    rfl
  refine last_ (i := 5) (N := some 8) #[true, true, true, true, true, true, false] rfl rfl (one_of HT_.out (by kernel_rfl)) (by decide) (fun K hK => ?_)
  refine goes_ Try.func45 (by kernel_rfl) rfl #[.pointer (some ⟨p, 0, none⟩), .int .i64 a] (by rfl) rfl rfl (by (try simp only [List.map_toArray, List.map_cons, List.map_nil]); first | done | rfl) ?_
  refine (Front_B w2 HR2.out HO.out HN.out a HE.out HS.out).mono ?_
  rintro e w3 ⟨rfl, hr, hb, hk⟩
  refine ⟨_, rfl, ?_⟩
  have HR3 := Aside0.mk hr
  have HB3 := Aside0.mk (Below.trans HBd.out hb)
  have HK3 := Aside0.mk (KT.trans HKd.out hk)
  clear hr hb hk hHeld
  refine hK.out _ _ ?_
  clear hK K
  refine norm_ (a' := ?_) ?_ ?_
  rotate_left
  · show Act.put _ (some 8) _ = _
    simp only [Act.put, List.setIfInBounds_toArray, List.set_cons_zero, List.set_cons_succ, i64_w, i32_w]
    rfl
  refine pure_ (i := 6) (N := some 2) (v := ?_) (a' := ?_) #[true, true, true, true, true, true, true] rfl rfl (any_of HT_.out (by kernel_rfl)) (fun _ _ _ h => h) (Or.inl ⟨by rfl, ?_⟩) ?_ ?_
  rotate_left
  · intro w'
    go_simp
    with_reducible rfl
  rotate_left
  · simp only [Act.put, List.setIfInBounds_toArray, List.set_cons_zero, List.set_cons_succ, i64_w, i32_w]
    rfl
  refine done_ (done_of HT_.out (by kernel_rfl)) ?_
  go_wp2
  go_ret
  exact ⟨rfl, HR3.out, HB3.out, HK3.out⟩
end Go.Proofs.Ytdbkedipfpepbaa.PWal
namespace Go.Proofs.Ytdbkedipfpepbaa.PWal
open Go.RowKit Go.Proofs.YtdbkedipfpepbaaW.PrintWords Go.Proofs.YtdbkedipfpepbaaW.PrintLast Go.Proofs.YtdbkedipfpepbaaW.PrintMore
set_option linter.unusedVariables false
set_option linter.unusedSimpArgs false
variable {X : Nat → Prop}
variable {B B0 p q g2 g3 g5 gf M : Nat} {t u : St} {l : List Chg} {a front size : Int}
set_option maxHeartbeats 8000000 in
set_option maxRecDepth 100000 in
theorem steps_callsX {A : Option Addr} {c : Nat} {bs : List Int} (w : World) (hf : w.heap[gf]? = some (.cells #[.func (.func 41) #[] #[.pointer (some ⟨g2, 0, none⟩), .pointer (some ⟨g5, 0, none⟩)], .func (.func 43) #[] #[.pointer (some ⟨g2, 0, none⟩), .pointer (some ⟨g5, 0, none⟩), .pointer (some ⟨g3, 0, none⟩)], .func (.func 33) #[.pointer (some ⟨p, 0, none⟩)] #[], .func (.func 44) #[] #[.pointer (some ⟨g2, 0, none⟩), .pointer (some ⟨g5, 0, none⟩)], .func (.func 33) #[.pointer (some ⟨p, 0, none⟩)] #[]] 51 (0, 0))) (hg2 : w.heap[g2]? = some (.cells #[.pointer (some ⟨q, 0, none⟩)] 27 (0, 0))) (hq : w.heap[q]? = some (.cells #[.pointer (some ⟨p, 0, none⟩), .int .i64 front, .int .i64 size] 60 (0, 0))) (hg5 : w.heap[g5]? = some (.cells #[.int .i64 a] 3 (0, 0))) (hg3 : w.heap[g3]? = some (.cells #[.slice A bs.length c] 28 (0, 0)))
    (hR : RepB X B w p (UP t u l)) (hO : Ok M (UP t u l)) (hN : M + bs.length + 3 ≤ 500000000) (ha : a = 0 ∨ a = 1) (hS : BS B0 w (.slice A bs.length c) bs) (hl : bs.length ≤ 100000000) :
    Calls Try.prog 40 #[.slice (some ⟨gf, 0, none⟩) 5 5] w fun e w' => e = .returned (.int .i64 0) ∧ RepB X B w' p (T5 u a bs) ∧ Below B w w' ∧ KT w w' := by
  have F0 := Aside0.mk hf
  have G20 := Aside0.mk hg2
  have GQ0 := Aside0.mk hq
  have G50 := Aside0.mk hg5
  have G30 := Aside0.mk hg3
  have HR0 := Aside0.mk hR
  have HS0 := Aside0.mk hS
  have HL := Aside0.mk hl
  have O1 := Aside0.mk (hO.t1 ha)
  have O2 := Aside0.mk (hO.t2 ha bs)
  have O3 := Aside0.mk (hO.t3 ha bs)
  have O4 := Aside0.mk (hO.t4 ha bs)
  have O0 := Aside0.mk hO
  have N0 := Aside0.mk (show M ≤ 500000000 by omega)
  have N1 := Aside0.mk (show M + 1 ≤ 500000000 by omega)
  have N2 := Aside0.mk (show M + bs.length + 2 ≤ 500000000 by omega)
  have N4 := Aside0.mk hN
  have HA := Aside0.mk ha
  have E1 := Aside0.mk (t1 (t := t) (u := u) (l := l) ha)
  have E2 := Aside0.mk (t2 (t := t) (u := u) (l := l) ha bs)
  have E4 := Aside0.mk (t4 (u := u) ha bs)
  have M1 := Aside0.mk (m1 (t := t) (u := u) (l := l) ha)
  have M2 := Aside0.mk (m2 (t := t) (u := u) (l := l) ha)
  have M4 := Aside0.mk (m4 (u := u) ha bs)
  have HB0 := Aside0.mk (Below.refl B w)
  have HK0 := Aside0.mk (KT.refl w)
  clear hf hg2 hq hg5 hg3 hR hO hN ha hS hl
  obtain ⟨w0, hw0⟩ : ∃ w0, w0 = w := ⟨_, rfl⟩
  rw [← hw0] at F0 G20 GQ0 G50 G30 HR0 HS0
  have HB0' := Aside0.mk (show Below B w w0 from hw0 ▸ HB0.out)
  have HK0' := Aside0.mk (show KT w w0 from hw0 ▸ HK0.out)
  clear HB0 HK0
  have HB0 := HB0'
  have HK0 := HK0'
  clear HB0' HK0'
  rw [show Calls Try.prog 40 #[.slice (some ⟨gf, 0, none⟩) 5 5] w = Calls Try.prog 40 #[.slice (some ⟨gf, 0, none⟩) 5 5] w0 from by rw [hw0]]
  clear hw0
  have y0 : w0.cell? ⟨gf, 0, none⟩ = some (.func (.func 41) #[] #[.pointer (some ⟨g2, 0, none⟩), .pointer (some ⟨g5, 0, none⟩)]) := (blk_cell F0.out 0).trans rfl
  have y1 : w0.cell? ⟨gf, 1, none⟩ = some (.func (.func 43) #[] #[.pointer (some ⟨g2, 0, none⟩), .pointer (some ⟨g5, 0, none⟩), .pointer (some ⟨g3, 0, none⟩)]) := (blk_cell F0.out 1).trans rfl
  have y2 : w0.cell? ⟨gf, 2, none⟩ = some (.func (.func 33) #[.pointer (some ⟨p, 0, none⟩)] #[]) := (blk_cell F0.out 2).trans rfl
  have y3 : w0.cell? ⟨gf, 3, none⟩ = some (.func (.func 44) #[] #[.pointer (some ⟨g2, 0, none⟩), .pointer (some ⟨g5, 0, none⟩)]) := (blk_cell F0.out 3).trans rfl
  have y4 : w0.cell? ⟨gf, 4, none⟩ = some (.func (.func 33) #[.pointer (some ⟨p, 0, none⟩)] #[]) := (blk_cell F0.out 4).trans rfl
  go_enter Try.func40, Try.ntmps40
  go_wp2
  refine wp_loop_rounds 6 ?_
  iterate 6
    rw [rounds_succ]
    go_wp2_with (first
      | (go_at_call 41; (with_reducible refine (clo41_callsX (s' := T1 t u l a) w0 G20.out GQ0.out G50.out HR0.out O0.out N0.out M1.out E1.out).mono ?_); rintro e w1 ⟨rfl, hr, hb, hk⟩; have HR1 := Aside0.mk hr; have HB1 := Aside0.mk (Below.trans HB0.out hb); have HK1 := Aside0.mk (KT.trans HK0.out hk); have F1 := Aside0.mk (hk 51 (by decide) (by decide) _ _ F0.out); have G21 := Aside0.mk (hk 27 (by decide) (by decide) _ _ G20.out); have G31 := Aside0.mk (hk 28 (by decide) (by decide) _ _ G30.out); have G51 := Aside0.mk (hk 3 (by decide) (by decide) _ _ G50.out); have GQ1 := Aside0.mk (hk 60 (by decide) (by decide) _ _ GQ0.out); have HS1 := Aside0.mk (hk.bs HS0.out); have y0 : w1.cell? ⟨gf, 0, none⟩ = some (.func (.func 41) #[] #[.pointer (some ⟨g2, 0, none⟩), .pointer (some ⟨g5, 0, none⟩)]) := (blk_cell F1.out 0).trans rfl; have y1 : w1.cell? ⟨gf, 1, none⟩ = some (.func (.func 43) #[] #[.pointer (some ⟨g2, 0, none⟩), .pointer (some ⟨g5, 0, none⟩), .pointer (some ⟨g3, 0, none⟩)]) := (blk_cell F1.out 1).trans rfl; have y2 : w1.cell? ⟨gf, 2, none⟩ = some (.func (.func 33) #[.pointer (some ⟨p, 0, none⟩)] #[]) := (blk_cell F1.out 2).trans rfl; have y3 : w1.cell? ⟨gf, 3, none⟩ = some (.func (.func 44) #[] #[.pointer (some ⟨g2, 0, none⟩), .pointer (some ⟨g5, 0, none⟩)]) := (blk_cell F1.out 3).trans rfl; have y4 : w1.cell? ⟨gf, 4, none⟩ = some (.func (.func 33) #[.pointer (some ⟨p, 0, none⟩)] #[]) := (blk_cell F1.out 4).trans rfl; clear hr hb hk)
      | (go_at_call 43; (with_reducible refine (clo43_callsX (s' := T2 t u l a bs) w1 G21.out GQ1.out G51.out G31.out HR1.out O1.out N1.out HS1.out.len.2.2 HS1.out.len.2.1 HL.out M2.out E2.out).mono ?_); rintro e w2 ⟨rfl, hr, hb, hk⟩; have HR2 := Aside0.mk hr; have HB2 := Aside0.mk (Below.trans HB1.out hb); have HK2 := Aside0.mk (KT.trans HK1.out hk); have F2 := Aside0.mk (hk 51 (by decide) (by decide) _ _ F1.out); have G22 := Aside0.mk (hk 27 (by decide) (by decide) _ _ G21.out); have G32 := Aside0.mk (hk 28 (by decide) (by decide) _ _ G31.out); have G52 := Aside0.mk (hk 3 (by decide) (by decide) _ _ G51.out); have GQ2 := Aside0.mk (hk 60 (by decide) (by decide) _ _ GQ1.out); have HS2 := Aside0.mk (hk.bs HS1.out); have y0 : w2.cell? ⟨gf, 0, none⟩ = some (.func (.func 41) #[] #[.pointer (some ⟨g2, 0, none⟩), .pointer (some ⟨g5, 0, none⟩)]) := (blk_cell F2.out 0).trans rfl; have y1 : w2.cell? ⟨gf, 1, none⟩ = some (.func (.func 43) #[] #[.pointer (some ⟨g2, 0, none⟩), .pointer (some ⟨g5, 0, none⟩), .pointer (some ⟨g3, 0, none⟩)]) := (blk_cell F2.out 1).trans rfl; have y2 : w2.cell? ⟨gf, 2, none⟩ = some (.func (.func 33) #[.pointer (some ⟨p, 0, none⟩)] #[]) := (blk_cell F2.out 2).trans rfl; have y3 : w2.cell? ⟨gf, 3, none⟩ = some (.func (.func 44) #[] #[.pointer (some ⟨g2, 0, none⟩), .pointer (some ⟨g5, 0, none⟩)]) := (blk_cell F2.out 3).trans rfl; have y4 : w2.cell? ⟨gf, 4, none⟩ = some (.func (.func 33) #[.pointer (some ⟨p, 0, none⟩)] #[]) := (blk_cell F2.out 4).trans rfl; clear hr hb hk)
      | (go_at_call 33; (with_reducible refine (Sync_B (s' := T3 u a bs) w2 HR2.out O2.out N2.out T2_no (t3 bs)).mono ?_); rintro e w3 ⟨rfl, hr, hb, hk⟩; have HR3 := Aside0.mk hr; have HB3 := Aside0.mk (Below.trans HB2.out hb); have HK3 := Aside0.mk (KT.trans HK2.out hk); have F3 := Aside0.mk (hk 51 (by decide) (by decide) _ _ F2.out); have G23 := Aside0.mk (hk 27 (by decide) (by decide) _ _ G22.out); have G33 := Aside0.mk (hk 28 (by decide) (by decide) _ _ G32.out); have G53 := Aside0.mk (hk 3 (by decide) (by decide) _ _ G52.out); have GQ3 := Aside0.mk (hk 60 (by decide) (by decide) _ _ GQ2.out); have HS3 := Aside0.mk (hk.bs HS2.out); have y0 : w3.cell? ⟨gf, 0, none⟩ = some (.func (.func 41) #[] #[.pointer (some ⟨g2, 0, none⟩), .pointer (some ⟨g5, 0, none⟩)]) := (blk_cell F3.out 0).trans rfl; have y1 : w3.cell? ⟨gf, 1, none⟩ = some (.func (.func 43) #[] #[.pointer (some ⟨g2, 0, none⟩), .pointer (some ⟨g5, 0, none⟩), .pointer (some ⟨g3, 0, none⟩)]) := (blk_cell F3.out 1).trans rfl; have y2 : w3.cell? ⟨gf, 2, none⟩ = some (.func (.func 33) #[.pointer (some ⟨p, 0, none⟩)] #[]) := (blk_cell F3.out 2).trans rfl; have y3 : w3.cell? ⟨gf, 3, none⟩ = some (.func (.func 44) #[] #[.pointer (some ⟨g2, 0, none⟩), .pointer (some ⟨g5, 0, none⟩)]) := (blk_cell F3.out 3).trans rfl; have y4 : w3.cell? ⟨gf, 4, none⟩ = some (.func (.func 33) #[.pointer (some ⟨p, 0, none⟩)] #[]) := (blk_cell F3.out 4).trans rfl; clear hr hb hk)
      | (go_at_call 44; (with_reducible refine (clo44_callsX (s' := T4 u a bs) w3 G23.out GQ3.out G53.out HR3.out O3.out N2.out M4.out E4.out).mono ?_); rintro e w4 ⟨rfl, hr, hb, hk⟩; have HR4 := Aside0.mk hr; have HB4 := Aside0.mk (Below.trans HB3.out hb); have HK4 := Aside0.mk (KT.trans HK3.out hk); have F4 := Aside0.mk (hk 51 (by decide) (by decide) _ _ F3.out); have G24 := Aside0.mk (hk 27 (by decide) (by decide) _ _ G23.out); have G34 := Aside0.mk (hk 28 (by decide) (by decide) _ _ G33.out); have G54 := Aside0.mk (hk 3 (by decide) (by decide) _ _ G53.out); have GQ4 := Aside0.mk (hk 60 (by decide) (by decide) _ _ GQ3.out); have HS4 := Aside0.mk (hk.bs HS3.out); have y0 : w4.cell? ⟨gf, 0, none⟩ = some (.func (.func 41) #[] #[.pointer (some ⟨g2, 0, none⟩), .pointer (some ⟨g5, 0, none⟩)]) := (blk_cell F4.out 0).trans rfl; have y1 : w4.cell? ⟨gf, 1, none⟩ = some (.func (.func 43) #[] #[.pointer (some ⟨g2, 0, none⟩), .pointer (some ⟨g5, 0, none⟩), .pointer (some ⟨g3, 0, none⟩)]) := (blk_cell F4.out 1).trans rfl; have y2 : w4.cell? ⟨gf, 2, none⟩ = some (.func (.func 33) #[.pointer (some ⟨p, 0, none⟩)] #[]) := (blk_cell F4.out 2).trans rfl; have y3 : w4.cell? ⟨gf, 3, none⟩ = some (.func (.func 44) #[] #[.pointer (some ⟨g2, 0, none⟩), .pointer (some ⟨g5, 0, none⟩)]) := (blk_cell F4.out 3).trans rfl; have y4 : w4.cell? ⟨gf, 4, none⟩ = some (.func (.func 33) #[.pointer (some ⟨p, 0, none⟩)] #[]) := (blk_cell F4.out 4).trans rfl; clear hr hb hk)
      | (go_at_call 33; (with_reducible refine (Sync_B (s' := T5 u a bs) w4 HR4.out O4.out N4.out T4_no (t5 bs)).mono ?_); rintro e w5 ⟨rfl, hr, hb, hk⟩; have HR5 := Aside0.mk hr; have HB5 := Aside0.mk (Below.trans HB4.out hb); have HK5 := Aside0.mk (KT.trans HK4.out hk); have F5 := Aside0.mk (hk 51 (by decide) (by decide) _ _ F4.out); have G25 := Aside0.mk (hk 27 (by decide) (by decide) _ _ G24.out); have G35 := Aside0.mk (hk 28 (by decide) (by decide) _ _ G34.out); have G55 := Aside0.mk (hk 3 (by decide) (by decide) _ _ G54.out); have GQ5 := Aside0.mk (hk 60 (by decide) (by decide) _ _ GQ4.out); have HS5 := Aside0.mk (hk.bs HS4.out); have y0 : w5.cell? ⟨gf, 0, none⟩ = some (.func (.func 41) #[] #[.pointer (some ⟨g2, 0, none⟩), .pointer (some ⟨g5, 0, none⟩)]) := (blk_cell F5.out 0).trans rfl; have y1 : w5.cell? ⟨gf, 1, none⟩ = some (.func (.func 43) #[] #[.pointer (some ⟨g2, 0, none⟩), .pointer (some ⟨g5, 0, none⟩), .pointer (some ⟨g3, 0, none⟩)]) := (blk_cell F5.out 1).trans rfl; have y2 : w5.cell? ⟨gf, 2, none⟩ = some (.func (.func 33) #[.pointer (some ⟨p, 0, none⟩)] #[]) := (blk_cell F5.out 2).trans rfl; have y3 : w5.cell? ⟨gf, 3, none⟩ = some (.func (.func 44) #[] #[.pointer (some ⟨g2, 0, none⟩), .pointer (some ⟨g5, 0, none⟩)]) := (blk_cell F5.out 3).trans rfl; have y4 : w5.cell? ⟨gf, 4, none⟩ = some (.func (.func 33) #[.pointer (some ⟨p, 0, none⟩)] #[]) := (blk_cell F5.out 4).trans rfl; clear hr hb hk)
      | fail)
  go_ret
  exact ⟨rfl, HR5.out, HB5.out, HK5.out⟩
end Go.Proofs.Ytdbkedipfpepbaa.PWal
namespace Go.Proofs.Ytdbkedipfpepbaa.PWal
open Go.RowKit Go.Proofs.YtdbkedipfpepbaaW.PrintWords Go.Proofs.YtdbkedipfpepbaaW.PrintLast Go.Proofs.YtdbkedipfpepbaaW.PrintMore
set_option linter.unusedVariables false
set_option linter.unusedSimpArgs false
variable {X : Nat → Prop}
variable {B B0 p q M : Nat} {t u : St} {l : List Chg} {size : Int}
theorem RepB.other36 {B : Nat} {W W' : World} {p g : Nat} {s : AD} {cs : Array Value} {t : TypeId} (h : RepB X B W p s) (hg : W.grownBy W' (some g)) (hc : W.heap[g]? = some (.cells cs t (0, 0))) (h5 : (5 : TypeId) ≠ t) (h58 : (58 : TypeId) ≠ t) (h69 : (69 : TypeId) ≠ t) : RepB X B W' p s := by
  obtain ⟨⟨v0, v1, u0, u1, lo, ys, hr, hn, ey, ho, hys⟩, hX⟩ := h
  have k5 := Keeps.grown (t := 5) hg hc h5
  have k69 := Keeps.grown (t := 69) hg hc h69
  exact ⟨⟨v0, v1, u0, u1, lo, ys, ⟨hr.hB, Keeps.grown hg hc h58 _ _ hr.hp, hr.h0.keep k5, hr.h1.keep k5, hr.k0.keep k5, hr.k1.keep k5, hr.hl.keep k5 k69⟩, hn, ey, owns_keep ho k69, fun y hy => ⟨(hys y hy).1.keep k5, (hys y hy).2⟩⟩, fun k hk => Nat.lt_of_lt_of_le (hX k hk) hg.size⟩
set_option maxHeartbeats 8000000 in
set_option maxRecDepth 100000 in
theorem turn0X {A : Option Addr} {c : Nat} {bs : List Int} (w : World) (hq : w.heap[q]? = some (.cells #[.pointer (some ⟨p, 0, none⟩), .int .i64 0, .int .i64 size] 60 (0, 0))) (hR : RepB X B w p (UP t u l)) (hO : Ok M (UP t u l)) (hN : M + bs.length + 3 ≤ 500000000) (hS : BS B0 w (.slice A bs.length c) bs) (hl : bs.length ≤ 100000000) (hBq : B ≤ q) :
    Calls Try.prog 27 #[.pointer (some ⟨q, 0, none⟩), .slice A bs.length c] w fun e w' => e = .returned (.int .i64 0) ∧ RepB X B w' p (T5 u 1 bs) ∧ w'.heap[q]? = some (.cells #[.pointer (some ⟨p, 0, none⟩), .int .i64 1, .int .i64 (bs.length : Int)] 60 (0, 0)) ∧ Below B w w' ∧ KL w w' := by
  have BQ0 := Aside0.mk hq
  have R0 := Aside0.mk hR
  have HB := Aside0.mk hR.base
  have HO := Aside0.mk hO
  have HN := Aside0.mk hN
  have HS0 := Aside0.mk hS
  have HL := Aside0.mk hl
  have HBq := Aside0.mk hBq
  clear hq hR hO hN hS hl hBq
  have hmf : ∀ (fn : Fn) (first cap : Array Value) (w : World), (Instr.makeFunc fn first cap).run Try.prog w = .ok (.func fn first cap) w := fun _ _ _ _ => rfl
  go_enter Try.func27, Try.ntmps27
  go_wp2_with (first
    | ((with_reducible refine gate_dst (N := 2) rfl ?_); refine box_event ?hg (N := 2) ?hd (cs := #[.pointer (some ⟨q, 0, none⟩)]) (t := 27) ?hr ?_; (case hd => rfl); (case hg => rfl); (case hr => first | (go_simp; done) | (go_simp; rfl)); intro g2 e2 w1 b2 hb; have B21 := Aside0.mk b2; have BB1 := Aside0.mk hb; clear b2 hb e2)
    | ((with_reducible refine gate_dst (N := 3) rfl ?_); refine box_event ?hg (N := 3) ?hd (cs := #[.slice A bs.length c]) (t := 28) ?hr ?_; (case hd => rfl); (case hg => rfl); (case hr => first | (go_simp; done) | (go_simp; rfl)); intro g3 e3 w2 b3 hb; have B32 := Aside0.mk b3; have B22 := Aside0.mk (blkK hb B21.out); have BB2 := Aside0.mk (below_step BB1.out hb); have z20 : w2.cell? ⟨g2, 0, none⟩ = some (.pointer (some ⟨q, 0, none⟩)) := (blk_cell B22.out 0).trans rfl; have zq1 : w2.cell? ⟨q, 1, none⟩ = some (.int .i64 0) := (blk_cell (blkK BB2.out BQ0.out) 1).trans rfl; clear b3 hb e3)
    | ((with_reducible refine gate_dst (N := 5) rfl ?_); refine box_event ?hg (N := 5) ?hd (cs := #[.int .i64 0]) (t := 3) ?hr ?_; (case hd => rfl); (case hg => rfl); (case hr => first | (go_simp; done) | (go_simp; rfl)); intro g5 e5 w3 b5 hb; have B53 := Aside0.mk b5; have E5 := Aside0.mk e5; have B23 := Aside0.mk (blkK hb B22.out); have B33 := Aside0.mk (blkK hb B32.out); have BB3 := Aside0.mk (below_step BB2.out hb); have BBX := Aside0.mk hb; clear b5 hb e5 z20 zq1)
    | ((with_reducible refine gate_ (.store 3 (.tmp 5) (.tmp 11)) rfl ?_); refine put_field (g := g5) (j := 0) (e := 3) rfl rfl 3 (.tmp 5) (.tmp 11) rfl rfl (.int .i64 1) rfl rfl (by kernel_rfl) (by simp [Value.oneCell']) B53.out (by simp) ?_; intro w4 b5 hg; have B54 := Aside0.mk (show w4.heap[g5]? = some (.cells #[.int .i64 1] 3 (0, 0)) from b5); have B24 := Aside0.mk (Keeps.grown (t := 27) hg B53.out (by decide) _ _ B23.out); have B34 := Aside0.mk (Keeps.grown (t := 28) hg B53.out (by decide) _ _ B33.out); have BB4 := Aside0.mk (Below.grown BB3.out hg BB3.out.size (fun k hk => by cases hk; have h1 := E5.out; have h2 := BB2.out.size; omega)); have BQ4 := Aside0.mk (blkK BB4.out BQ0.out); have R4 := Aside0.mk (R0.out.below BB4.out); have HS4 := Aside0.mk (HS0.out.keep (Keeps.below BB4.out)); clear b5 hg B21 B22 B23 B32 B33 B53 BB1 BB2 BB3 BBX)
    | fail)
  refine start_ (n := 16) (S := fun w' => w'.cell? ⟨g2, 0, none⟩ = some (.pointer (some ⟨q, 0, none⟩)) ∧ w'.cell? ⟨q, 0, none⟩ = some (.pointer (some ⟨p, 0, none⟩))) (ds := [13, 14]) #[false, false, false, false, false, false, false, false, false, false, false, false, false, false, false, false] (by kernel_rfl) rfl rfl ⟨(blk_cell B24.out 0).trans rfl, (blk_cell BQ4.out 0).trans rfl⟩ (fun hHeld => ?_); refine with_tabW turn_R2.tab turn_R2.bits (fun HT_ HW_ => ?_)
  have hd := below_drew (Below.refl w4.heap.size w4)
  have R5 := Aside0.mk (R4.out.below hd)
  have BB5 := Aside0.mk (below_step BB4.out hd)
  have B25 := Aside0.mk (blkK hd B24.out)
  have B35 := Aside0.mk (blkK hd B34.out)
  have B55 := Aside0.mk (blkK hd B54.out)
  have BQ5 := Aside0.mk (blkK hd BQ4.out)
  have HS5 := Aside0.mk (HS4.out.keep (Keeps.below hd))
  clear hd
  generalize w4.drew = w5 at R5 BB5 B25 B35 B55 BQ5 HS5 hHeld ⊢
  refine pure_ (i := 0) (N := some 12) (v := ?_) (a' := ?_) #[true, false, false, false, false, false, false, false, false, false, false, false, false, false, false, false] rfl rfl (any_of HT_.out (by kernel_rfl)) (fun _ _ _ h => h) (Or.inl ⟨by rfl, ?_⟩) ?_ ?_
  rotate_left
  · intro w'
    go_simp
    with_reducible rfl
  rotate_left
  · simp only [Act.put, List.setIfInBounds_toArray, List.set_cons_zero, List.set_cons_succ, i64_w, i32_w]
    rfl
  refine pure_ (i := 1) (N := some 13) (v := ?_) (a' := ?_) #[true, true, false, false, false, false, false, false, false, false, false, false, false, false, false, false] rfl rfl (any_of HT_.out (by kernel_rfl)) (fun _ _ _ h => h) (Or.inl ⟨by rfl, ?_⟩) ?_ ?_
  rotate_left
  · intro w'
    go_simp
    with_reducible rfl
  rotate_left
  · simp only [Act.put, List.setIfInBounds_toArray, List.set_cons_zero, List.set_cons_succ, i64_w, i32_w]
    rfl
  refine pure_ (i := 7) (N := some 19) (v := ?_) (a' := ?_) #[true, true, false, false, false, false, false, true, false, false, false, false, false, false, false, false] rfl rfl (any_of HT_.out (by kernel_rfl)) (fun _ _ _ h => h) (Or.inl ⟨by rfl, ?_⟩) ?_ ?_
  rotate_left
  · intro w'
    go_simp
    with_reducible rfl
  rotate_left
  · simp only [Act.put, List.setIfInBounds_toArray, List.set_cons_zero, List.set_cons_succ, i64_w, i32_w]
    rfl
  refine take_ (i := 2) (N := some 14) (v := ?_) (a' := ?_) #[true, true, true, false, false, false, false, true, false, false, false, false, false, false, false, false] rfl rfl (take_ofW HT_.out HW_.out (by kernel_rfl)) (fun _ _ _ h => h) (Or.inl ⟨by rfl, ?_⟩) hHeld ?_ ?_
  rotate_left
  · rintro w' ⟨s0, s1⟩
    go_simp
    with_reducible rfl
  rotate_left
  · simp only [Act.put, List.setIfInBounds_toArray, List.set_cons_zero, List.set_cons_succ, i64_w, i32_w]
    rfl
  refine pure_ (i := 3) (N := some 15) (v := ?_) (a' := ?_) #[true, true, true, true, false, false, false, true, false, false, false, false, false, false, false, false] rfl rfl (any_of HT_.out (by kernel_rfl)) (fun _ _ _ h => h) (Or.inl ⟨by rfl, ?_⟩) ?_ ?_
  rotate_left
  · intro w'
    go_simp
    with_reducible rfl
  rotate_left
  · simp only [Act.put, List.setIfInBounds_toArray, List.set_cons_zero, List.set_cons_succ, i64_w, i32_w]
    rfl
  refine pure_ (i := 4) (N := some 16) (v := ?_) (a' := ?_) #[true, true, true, true, true, false, false, true, false, false, false, false, false, false, false, false] rfl rfl (any_of HT_.out (by kernel_rfl)) (fun _ _ _ h => h) (Or.inl ⟨by rfl, ?_⟩) ?_ ?_
  rotate_left
  · intro w'
    go_simp
    with_reducible rfl
  rotate_left
  · simp only [Act.put, List.setIfInBounds_toArray, List.set_cons_zero, List.set_cons_succ, i64_w, i32_w]
    rfl
  refine take_ (i := 5) (N := some 17) (v := ?_) (a' := ?_) #[true, true, true, true, true, true, false, true, false, false, false, false, false, false, false, false] rfl rfl (take_ofW HT_.out HW_.out (by kernel_rfl)) (fun _ _ _ h => h) (Or.inl ⟨by rfl, ?_⟩) hHeld ?_ ?_
  rotate_left
  · rintro w' ⟨s0, s1⟩
    go_simp
    with_reducible rfl
  rotate_left
  · simp only [Act.put, List.setIfInBounds_toArray, List.set_cons_zero, List.set_cons_succ, i64_w, i32_w]
    rfl
  refine pure_ (i := 6) (N := some 18) (v := ?_) (a' := ?_) #[true, true, true, true, true, true, true, true, false, false, false, false, false, false, false, false] rfl rfl (any_of HT_.out (by kernel_rfl)) (fun _ _ _ h => h) (Or.inl ⟨by rfl, ?_⟩) ?_ ?_
  rotate_left
  · intro w'
    go_simp
    with_reducible rfl
  rotate_left
  · simp only [Act.put, List.setIfInBounds_toArray, List.set_cons_zero, List.set_cons_succ, i64_w, i32_w]
    rfl
  refine take_ (i := 8) (N := some 20) (v := ?_) (a' := ?_) #[true, true, true, true, true, true, true, true, true, false, false, false, false, false, false, false] rfl rfl (take_ofW HT_.out HW_.out (by kernel_rfl)) (fun _ _ _ h => h) (Or.inl ⟨by rfl, ?_⟩) hHeld ?_ ?_
  rotate_left
  · rintro w' ⟨s0, s1⟩
    go_simp
    with_reducible rfl
  rotate_left
  · simp only [Act.put, List.setIfInBounds_toArray, List.set_cons_zero, List.set_cons_succ, i64_w, i32_w]
    rfl
  refine pure_ (i := 9) (N := some 21) (v := ?_) (a' := ?_) #[true, true, true, true, true, true, true, true, true, true, false, false, false, false, false, false] rfl rfl (any_of HT_.out (by kernel_rfl)) (fun _ _ _ h => h) (Or.inl ⟨by rfl, ?_⟩) ?_ ?_
  rotate_left
  · intro w'
    go_simp
    with_reducible rfl
  rotate_left
  · simp only [Act.put, List.setIfInBounds_toArray, List.set_cons_zero, List.set_cons_succ, i64_w, i32_w]
    rfl
  refine pure_ (i := 10) (N := some 22) (v := ?_) (a' := ?_) #[true, true, true, true, true, true, true, true, true, true, true, false, false, false, false, false] rfl rfl (any_of HT_.out (by kernel_rfl)) (fun _ _ _ h => h) (Or.inl ⟨by rfl, ?_⟩) ?_ ?_
  rotate_left
  · intro w'
    go_simp
    with_reducible rfl
  rotate_left
  · simp only [Act.put, List.setIfInBounds_toArray, List.set_cons_zero, List.set_cons_succ, i64_w, i32_w]
    rfl
  refine take_ (i := 11) (N := some 23) (v := ?_) (a' := ?_) #[true, true, true, true, true, true, true, true, true, true, true, true, false, false, false, false] rfl rfl (take_ofW HT_.out HW_.out (by kernel_rfl)) (fun _ _ _ h => h) (Or.inl ⟨by rfl, ?_⟩) hHeld ?_ ?_
  rotate_left
  · rintro w' ⟨s0, s1⟩
    go_simp
    with_reducible rfl
  rotate_left
  · simp only [Act.put, List.setIfInBounds_toArray, List.set_cons_zero, List.set_cons_succ, i64_w, i32_w]
    rfl
  refine pure_ (i := 12) (N := some 24) (v := ?_) (a' := ?_) #[true, true, true, true, true, true, true, true, true, true, true, true, true, false, false, false] rfl rfl (any_of HT_.out (by kernel_rfl)) (fun _ _ _ h => h) (Or.inl ⟨by rfl, ?_⟩) ?_ ?_
  rotate_left
  · intro w'
    go_simp
    with_reducible rfl
  rotate_left
  · simp only [Act.put, List.setIfInBounds_toArray, List.set_cons_zero, List.set_cons_succ, i64_w, i32_w]
    rfl
  refine last_ (i := 13) (N := some 25) #[true, true, true, true, true, true, true, true, true, true, true, true, true, true, false, false] rfl rfl (one_of HT_.out (by kernel_rfl)) (by decide) (fun K hK => ?_)
  refine value_ (w1 := ?_) (v := ?_) (by rfl) rfl ?_ ?_
  rotate_left 2
  · go_simp
    constructor
    · rfl
    · rfl
  have hal := below_al w5 (.cells #[.func (.func 41) #[] #[.pointer (some ⟨g2, 0, none⟩), .pointer (some ⟨g5, 0, none⟩)], .func (.func 43) #[] #[.pointer (some ⟨g2, 0, none⟩), .pointer (some ⟨g5, 0, none⟩), .pointer (some ⟨g3, 0, none⟩)], .func (.func 33) #[.pointer (some ⟨p, 0, none⟩)] #[], .func (.func 44) #[] #[.pointer (some ⟨g2, 0, none⟩), .pointer (some ⟨g5, 0, none⟩)], .func (.func 33) #[.pointer (some ⟨p, 0, none⟩)] #[]] 51 (0, 0))
  have BFf := Aside0.mk (heap_alloc_new w5 (.cells #[.func (.func 41) #[] #[.pointer (some ⟨g2, 0, none⟩), .pointer (some ⟨g5, 0, none⟩)], .func (.func 43) #[] #[.pointer (some ⟨g2, 0, none⟩), .pointer (some ⟨g5, 0, none⟩), .pointer (some ⟨g3, 0, none⟩)], .func (.func 33) #[.pointer (some ⟨p, 0, none⟩)] #[], .func (.func 44) #[] #[.pointer (some ⟨g2, 0, none⟩), .pointer (some ⟨g5, 0, none⟩)], .func (.func 33) #[.pointer (some ⟨p, 0, none⟩)] #[]] 51 (0, 0)))
  have R6 := Aside0.mk (R5.out.below hal)
  have BB6 := Aside0.mk (below_step BB5.out hal)
  have B26 := Aside0.mk (blkK hal B25.out)
  have B36 := Aside0.mk (blkK hal B35.out)
  have B56 := Aside0.mk (blkK hal B55.out)
  have BQ6 := Aside0.mk (blkK hal BQ5.out)
  have HS6 := Aside0.mk (HS5.out.keep (Keeps.below hal))
  clear hal hHeld
  generalize w5.alloc (.cells #[.func (.func 41) #[] #[.pointer (some ⟨g2, 0, none⟩), .pointer (some ⟨g5, 0, none⟩)], .func (.func 43) #[] #[.pointer (some ⟨g2, 0, none⟩), .pointer (some ⟨g5, 0, none⟩), .pointer (some ⟨g3, 0, none⟩)], .func (.func 33) #[.pointer (some ⟨p, 0, none⟩)] #[], .func (.func 44) #[] #[.pointer (some ⟨g2, 0, none⟩), .pointer (some ⟨g5, 0, none⟩)], .func (.func 33) #[.pointer (some ⟨p, 0, none⟩)] #[]] 51 (0, 0)) = w6 at BFf R6 BB6 B26 B36 B56 BQ6 HS6 ⊢
  generalize w5.heap.size = gf at BFf ⊢
  refine hK.out _ _ ?_
  clear hK K
  refine norm_ (a' := ?_) ?_ ?_
  rotate_left
  · show Act.put _ (some 25) _ = _
    simp only [Act.put, List.setIfInBounds_toArray, List.set_cons_zero, List.set_cons_succ, i64_w, i32_w]
    rfl
  refine last_ (i := 14) (N := some 26) #[true, true, true, true, true, true, true, true, true, true, true, true, true, true, true, false] rfl rfl (one_of HT_.out (by kernel_rfl)) (by decide) (fun K hK => ?_)
  refine goes_ Try.func40 (by kernel_rfl) rfl #[.slice (some ⟨gf, 0, none⟩) 5 5] (by rfl) rfl rfl (by (try simp only [List.map_toArray, List.map_cons, List.map_nil]); first | done | rfl) ?_
  refine (steps_callsX (a := 1) w6 BFf.out B26.out BQ6.out B56.out B36.out R6.out HO.out HN.out (.inr rfl) HS6.out HL.out).mono ?_
  rintro e w7 ⟨rfl, hr, hb, hk⟩
  refine ⟨_, rfl, ?_⟩
  have R7 := Aside0.mk hr
  have BB7 := Aside0.mk (Below.trans (Below.mono BB6.out HB.out) hb)
  have B27 := Aside0.mk (hk 27 (by decide) (by decide) _ _ B26.out)
  have B37 := Aside0.mk (hk 28 (by decide) (by decide) _ _ B36.out)
  have B57 := Aside0.mk (hk 3 (by decide) (by decide) _ _ B56.out)
  have BQ7 := Aside0.mk (hk 60 (by decide) (by decide) _ _ BQ6.out)
  have K7 := Aside0.mk (KT.trans (KT.below BB6.out) hk)
  clear hr hb hk
  refine hK.out _ _ ?_
  clear hK K
  refine norm_ (a' := ?_) ?_ ?_
  rotate_left
  · show Act.put _ (some 26) _ = _
    simp only [Act.put, List.setIfInBounds_toArray, List.set_cons_zero, List.set_cons_succ, i64_w, i32_w]
    rfl
  refine pure_ (i := 15) (N := some 6) (v := ?_) (a' := ?_) #[true, true, true, true, true, true, true, true, true, true, true, true, true, true, true, true] rfl rfl (any_of HT_.out (by kernel_rfl)) (fun _ _ _ h => h) (Or.inl ⟨by rfl, ?_⟩) ?_ ?_
  rotate_left
  · intro w'
    go_simp
    with_reducible rfl
  rotate_left
  · simp only [Act.put, List.setIfInBounds_toArray, List.set_cons_zero, List.set_cons_succ, i64_w, i32_w]
    rfl
  refine done_ (done_of HT_.out (by kernel_rfl)) ?_
  go_wp2_with fail
  refine start_ (n := 11) (S := fun w' => w'.cell? ⟨g2, 0, none⟩ = some (.pointer (some ⟨q, 0, none⟩)) ∧ w'.cell? ⟨g5, 0, none⟩ = some (.int .i64 1) ∧ w'.cell? ⟨g3, 0, none⟩ = some (.slice A bs.length c)) (ds := [10]) #[false, false, false, false, false, false, false, false, false, false, false] (by kernel_rfl) rfl rfl ⟨(blk_cell B27.out 0).trans rfl, (blk_cell B57.out 0).trans rfl, (blk_cell B37.out 0).trans rfl⟩ (fun hHeld => ?_); refine with_tabW turn_R4.tab turn_R4.bits (fun HT_ HW_ => ?_)
  have hd := below_drew (Below.refl w7.heap.size w7)
  have R8 := Aside0.mk (R7.out.below hd)
  have BB8 := Aside0.mk (below_drew BB7.out)
  have BQ8 := Aside0.mk (blkK hd BQ7.out)
  have K8 := Aside0.mk (KT.trans K7.out (KT.below hd))
  have B28 := Aside0.mk (blkK hd B27.out)
  have B38 := Aside0.mk (blkK hd B37.out)
  have B58 := Aside0.mk (blkK hd B57.out)
  clear hd
  generalize w7.drew = w8 at R8 BB8 BQ8 K8 B28 B38 B58 hHeld ⊢
  refine take_ (i := 0) (N := some 29) (v := ?_) (a' := ?_) #[true, false, false, false, false, false, false, false, false, false, false] rfl rfl (take_ofW HT_.out HW_.out (by kernel_rfl)) (fun _ _ _ h => h) (Or.inl ⟨by rfl, ?_⟩) hHeld ?_ ?_
  rotate_left
  · rintro w' ⟨s0, s1, s2⟩
    go_simp
    with_reducible rfl
  rotate_left
  · simp only [Act.put, List.setIfInBounds_toArray, List.set_cons_zero, List.set_cons_succ, i64_w, i32_w]
    rfl
  refine take_ (i := 1) (N := some 30) (v := ?_) (a' := ?_) #[true, true, false, false, false, false, false, false, false, false, false] rfl rfl (take_ofW HT_.out HW_.out (by kernel_rfl)) (fun _ _ _ h => h) (Or.inl ⟨by rfl, ?_⟩) hHeld ?_ ?_
  rotate_left
  · rintro w' ⟨s0, s1, s2⟩
    go_simp
    with_reducible rfl
  rotate_left
  · simp only [Act.put, List.setIfInBounds_toArray, List.set_cons_zero, List.set_cons_succ, i64_w, i32_w]
    rfl
  refine take_ (i := 2) (N := some 31) (v := ?_) (a' := ?_) #[true, true, true, false, false, false, false, false, false, false, false] rfl rfl (take_ofW HT_.out HW_.out (by kernel_rfl)) (fun _ _ _ h => h) (Or.inl ⟨by rfl, ?_⟩) hHeld ?_ ?_
  rotate_left
  · rintro w' ⟨s0, s1, s2⟩
    go_simp
    with_reducible rfl
  rotate_left
  · simp only [Act.put, List.setIfInBounds_toArray, List.set_cons_zero, List.set_cons_succ, i64_w, i32_w]
    rfl
  refine pure_ (i := 5) (N := some 34) (v := ?_) (a' := ?_) #[true, true, true, false, false, true, false, false, false, false, false] rfl rfl (any_of HT_.out (by kernel_rfl)) (fun _ _ _ h => h) (Or.inl ⟨by rfl, ?_⟩) ?_ ?_
  rotate_left
  · intro w'
    go_simp
    with_reducible rfl
  rotate_left
  · simp only [Act.put, List.setIfInBounds_toArray, List.set_cons_zero, List.set_cons_succ, i64_w, i32_w]
    rfl
  refine pure_ (i := 6) (N := some 35) (v := ?_) (a' := ?_) #[true, true, true, false, false, true, true, false, false, false, false] rfl rfl (any_of HT_.out (by kernel_rfl)) (fun _ _ _ h => h) (Or.inl ⟨by rfl, ?_⟩) ?_ ?_
  rotate_left
  · intro w'
    go_simp
    with_reducible rfl
  rotate_left
  · simp only [Act.put, List.setIfInBounds_toArray, List.set_cons_zero, List.set_cons_succ, i64_w, i32_w]
    rfl
  refine take_ (i := 3) (N := some 32) (v := ?_) (a' := ?_) #[true, true, true, true, false, true, true, false, false, false, false] rfl rfl (take_ofW HT_.out HW_.out (by kernel_rfl)) (fun _ _ _ h => h) (Or.inl ⟨by rfl, ?_⟩) hHeld ?_ ?_
  rotate_left
  · rintro w' ⟨s0, s1, s2⟩
    go_simp
    with_reducible rfl
  rotate_left
  · simp only [Act.put, List.setIfInBounds_toArray, List.set_cons_zero, List.set_cons_succ, i64_w, i32_w]
    rfl
  refine pure_ (i := 4) (N := some 33) (v := ?_) (a' := ?_) #[true, true, true, true, true, true, true, false, false, false, false] rfl rfl (any_of HT_.out (by kernel_rfl)) (fun _ _ _ h => h) (Or.inl ⟨by rfl, ?_⟩) ?_ ?_
  rotate_left
  · intro w'
    go_simp
    with_reducible rfl
  rotate_left
  · simp only [Act.put, List.setIfInBounds_toArray, List.set_cons_zero, List.set_cons_succ, i64_w, i32_w]
    rfl
  refine one_ (i := 7) (N := none) #[true, true, true, true, true, true, true, true, false, false, false] rfl rfl (one_of HT_.out (by kernel_rfl)) (by decide) (fun K hK => ?_)
  have q1 : w8.cell? ⟨q, 1, none⟩ = some (.int .i64 0) := (blk_cell BQ8.out 1).trans rfl
  have f1 := blk_frozen BQ8.out 1
  refine skip_ (w1 := ?_) (by rfl) rfl ?_ ?_
  rotate_left
  · go_simp
    rfl
  have BQ9 := Aside0.mk (show (w8.setCell ⟨q, 1, none⟩ (.int .i64 1)).heap[q]? = some (.cells #[.pointer (some ⟨p, 0, none⟩), .int .i64 1, .int .i64 size] 60 (0, 0)) from blk_set BQ8.out 1 _)
  have BB9 := Aside0.mk (BB8.out.setCell (p := ⟨q, 1, none⟩) HBq.out (.int .i64 1))
  have K9 := Aside0.mk (KL.trans K8.out.kl (KL.set (j := 1) (v := .int .i64 1) BQ8.out))
  have R9 := Aside0.mk (RepB.other36 (t := 60) R8.out (grown_set (j := 1) (u := .int .i64 1)) BQ8.out (by decide) (by decide) (by decide))
  have ks := KL.set (j := 1) (v := .int .i64 1) BQ8.out
  have B29 := Aside0.mk (ks 27 (by decide) (by decide) (by decide) _ _ B28.out)
  have B39 := Aside0.mk (ks 28 (by decide) (by decide) (by decide) _ _ B38.out)
  have B59 := Aside0.mk (ks 3 (by decide) (by decide) (by decide) _ _ B58.out)
  clear q1 f1 ks
  generalize w8.setCell ⟨q, 1, none⟩ (.int .i64 1) = w9 at BQ9 BB9 K9 R9 B29 B39 B59 ⊢
  refine hK.out _ _ ⟨(blk_cell B29.out 0).trans rfl, (blk_cell B59.out 0).trans rfl, (blk_cell B39.out 0).trans rfl⟩ (fun hHeld2 => ?_)
  clear hHeld hHeld2
  clear hK K
  refine pure_ (i := 8) (N := some 36) (v := ?_) (a' := ?_) #[true, true, true, true, true, true, true, true, true, false, false] rfl rfl (any_of HT_.out (by kernel_rfl)) (fun _ _ _ h => h) (Or.inl ⟨by rfl, ?_⟩) ?_ ?_
  rotate_left
  · intro w'
    go_simp
    with_reducible rfl
  rotate_left
  · simp only [Act.put, List.setIfInBounds_toArray, List.set_cons_zero, List.set_cons_succ, i64_w, i32_w]
    rfl
  refine pure_ (i := 9) (N := some 37) (v := ?_) (a' := ?_) #[true, true, true, true, true, true, true, true, true, true, false] rfl rfl (any_of HT_.out (by kernel_rfl)) (fun _ _ _ h => h) (Or.inl ⟨by rfl, ?_⟩) ?_ ?_
  rotate_left
  · intro w'
    go_simp
    with_reducible rfl
  rotate_left
  · simp only [Act.put, List.setIfInBounds_toArray, List.set_cons_zero, List.set_cons_succ, i64_w, i32_w]
    rfl
  refine last_ (i := 10) (N := none) #[true, true, true, true, true, true, true, true, true, true, true] rfl rfl (one_of HT_.out (by kernel_rfl)) (by decide) (fun K hK => ?_)
  have q2 : w9.cell? ⟨q, 2, none⟩ = some (.int .i64 size) := (blk_cell BQ9.out 2).trans rfl
  have f2 := blk_frozen BQ9.out 2
  refine skip_ (w1 := ?_) (by rfl) rfl ?_ ?_
  rotate_left
  · go_simp
    rfl
  have BQA := Aside0.mk (show (w9.setCell ⟨q, 2, none⟩ (.int .i64 (bs.length : Int))).heap[q]? = some (.cells #[.pointer (some ⟨p, 0, none⟩), .int .i64 1, .int .i64 (bs.length : Int)] 60 (0, 0)) from blk_set BQ9.out 2 _)
  have BBA := Aside0.mk (BB9.out.setCell (p := ⟨q, 2, none⟩) HBq.out (.int .i64 (bs.length : Int)))
  have KA := Aside0.mk (KL.trans K9.out (KL.set (j := 2) (v := .int .i64 (bs.length : Int)) BQ9.out))
  have RA := Aside0.mk (RepB.other36 (t := 60) R9.out (grown_set (j := 2) (u := .int .i64 (bs.length : Int))) BQ9.out (by decide) (by decide) (by decide))
  clear q2 f2
  generalize w9.setCell ⟨q, 2, none⟩ (.int .i64 (bs.length : Int)) = wA at BQA BBA KA RA ⊢
  refine hK.out _ _ ?_
  clear hK K
  refine done_ (done_of HT_.out (by kernel_rfl)) ?_
  go_wp2
  go_ret
  exact ⟨rfl, RA.out, BQA.out, BBA.out, KA.out⟩
set_option maxHeartbeats 8000000 in
set_option maxRecDepth 100000 in
theorem turn1X {A : Option Addr} {c : Nat} {bs : List Int} (w : World) (hq : w.heap[q]? = some (.cells #[.pointer (some ⟨p, 0, none⟩), .int .i64 1, .int .i64 size] 60 (0, 0))) (hR : RepB X B w p (UP t u l)) (hO : Ok M (UP t u l)) (hN : M + bs.length + 3 ≤ 500000000) (hS : BS B0 w (.slice A bs.length c) bs) (hl : bs.length ≤ 100000000) (hBq : B ≤ q) :
    Calls Try.prog 27 #[.pointer (some ⟨q, 0, none⟩), .slice A bs.length c] w fun e w' => e = .returned (.int .i64 0) ∧ RepB X B w' p (T5 u 0 bs) ∧ w'.heap[q]? = some (.cells #[.pointer (some ⟨p, 0, none⟩), .int .i64 0, .int .i64 (bs.length : Int)] 60 (0, 0)) ∧ Below B w w' ∧ KL w w' := by
  have BQ0 := Aside0.mk hq
  have R0 := Aside0.mk hR
  have HB := Aside0.mk hR.base
  have HO := Aside0.mk hO
  have HN := Aside0.mk hN
  have HS0 := Aside0.mk hS
  have HL := Aside0.mk hl
  have HBq := Aside0.mk hBq
  clear hq hR hO hN hS hl hBq
  have hmf : ∀ (fn : Fn) (first cap : Array Value) (w : World), (Instr.makeFunc fn first cap).run Try.prog w = .ok (.func fn first cap) w := fun _ _ _ _ => rfl
  go_enter Try.func27, Try.ntmps27
  go_wp2_with (first
    | ((with_reducible refine gate_dst (N := 2) rfl ?_); refine box_event ?hg (N := 2) ?hd (cs := #[.pointer (some ⟨q, 0, none⟩)]) (t := 27) ?hr ?_; (case hd => rfl); (case hg => rfl); (case hr => first | (go_simp; done) | (go_simp; rfl)); intro g2 e2 w1 b2 hb; have B21 := Aside0.mk b2; have BB1 := Aside0.mk hb; clear b2 hb e2)
    | ((with_reducible refine gate_dst (N := 3) rfl ?_); refine box_event ?hg (N := 3) ?hd (cs := #[.slice A bs.length c]) (t := 28) ?hr ?_; (case hd => rfl); (case hg => rfl); (case hr => first | (go_simp; done) | (go_simp; rfl)); intro g3 e3 w2 b3 hb; have B32 := Aside0.mk b3; have B22 := Aside0.mk (blkK hb B21.out); have BB2 := Aside0.mk (below_step BB1.out hb); have z20 : w2.cell? ⟨g2, 0, none⟩ = some (.pointer (some ⟨q, 0, none⟩)) := (blk_cell B22.out 0).trans rfl; have zq1 : w2.cell? ⟨q, 1, none⟩ = some (.int .i64 1) := (blk_cell (blkK BB2.out BQ0.out) 1).trans rfl; clear b3 hb e3)
    | ((with_reducible refine gate_dst (N := 5) rfl ?_); refine box_event ?hg (N := 5) ?hd (cs := #[.int .i64 0]) (t := 3) ?hr ?_; (case hd => rfl); (case hg => rfl); (case hr => first | (go_simp; done) | (go_simp; rfl)); intro g5 e5 w3 b5 hb; have B53 := Aside0.mk b5; have E5 := Aside0.mk e5; have B23 := Aside0.mk (blkK hb B22.out); have B33 := Aside0.mk (blkK hb B32.out); have BB3 := Aside0.mk (below_step BB2.out hb); have BBX := Aside0.mk hb; clear b5 hb e5 z20 zq1)
    | ((with_reducible refine gate_ (.store 3 (.tmp 5) (.tmp 11)) rfl ?_); refine put_field (g := g5) (j := 0) (e := 3) rfl rfl 3 (.tmp 5) (.tmp 11) rfl rfl (.int .i64 0) rfl rfl (by kernel_rfl) (by simp [Value.oneCell']) B53.out (by simp) ?_; intro w4 b5 hg; have B54 := Aside0.mk (show w4.heap[g5]? = some (.cells #[.int .i64 0] 3 (0, 0)) from b5); have B24 := Aside0.mk (Keeps.grown (t := 27) hg B53.out (by decide) _ _ B23.out); have B34 := Aside0.mk (Keeps.grown (t := 28) hg B53.out (by decide) _ _ B33.out); have BB4 := Aside0.mk (Below.grown BB3.out hg BB3.out.size (fun k hk => by cases hk; have h1 := E5.out; have h2 := BB2.out.size; omega)); have BQ4 := Aside0.mk (blkK BB4.out BQ0.out); have R4 := Aside0.mk (R0.out.below BB4.out); have HS4 := Aside0.mk (HS0.out.keep (Keeps.below BB4.out)); clear b5 hg B21 B22 B23 B32 B33 B53 BB1 BB2 BB3 BBX)
    | fail)
  refine start_ (n := 16) (S := fun w' => w'.cell? ⟨g2, 0, none⟩ = some (.pointer (some ⟨q, 0, none⟩)) ∧ w'.cell? ⟨q, 0, none⟩ = some (.pointer (some ⟨p, 0, none⟩))) (ds := [13, 14]) #[false, false, false, false, false, false, false, false, false, false, false, false, false, false, false, false] (by kernel_rfl) rfl rfl ⟨(blk_cell B24.out 0).trans rfl, (blk_cell BQ4.out 0).trans rfl⟩ (fun hHeld => ?_); refine with_tabW turn_R2.tab turn_R2.bits (fun HT_ HW_ => ?_)
  have hd := below_drew (Below.refl w4.heap.size w4)
  have R5 := Aside0.mk (R4.out.below hd)
  have BB5 := Aside0.mk (below_step BB4.out hd)
  have B25 := Aside0.mk (blkK hd B24.out)
  have B35 := Aside0.mk (blkK hd B34.out)
  have B55 := Aside0.mk (blkK hd B54.out)
  have BQ5 := Aside0.mk (blkK hd BQ4.out)
  have HS5 := Aside0.mk (HS4.out.keep (Keeps.below hd))
  clear hd
  generalize w4.drew = w5 at R5 BB5 B25 B35 B55 BQ5 HS5 hHeld ⊢
  refine pure_ (i := 0) (N := some 12) (v := ?_) (a' := ?_) #[true, false, false, false, false, false, false, false, false, false, false, false, false, false, false, false] rfl rfl (any_of HT_.out (by kernel_rfl)) (fun _ _ _ h => h) (Or.inl ⟨by rfl, ?_⟩) ?_ ?_
  rotate_left
  · intro w'
    go_simp
    with_reducible rfl
  rotate_left
  · simp only [Act.put, List.setIfInBounds_toArray, List.set_cons_zero, List.set_cons_succ, i64_w, i32_w]
    rfl
  refine pure_ (i := 1) (N := some 13) (v := ?_) (a' := ?_) #[true, true, false, false, false, false, false, false, false, false, false, false, false, false, false, false] rfl rfl (any_of HT_.out (by kernel_rfl)) (fun _ _ _ h => h) (Or.inl ⟨by rfl, ?_⟩) ?_ ?_
  rotate_left
  · intro w'
    go_simp
    with_reducible rfl
  rotate_left
  · simp only [Act.put, List.setIfInBounds_toArray, List.set_cons_zero, List.set_cons_succ, i64_w, i32_w]
    rfl
  refine pure_ (i := 7) (N := some 19) (v := ?_) (a' := ?_) #[true, true, false, false, false, false, false, true, false, false, false, false, false, false, false, false] rfl rfl (any_of HT_.out (by kernel_rfl)) (fun _ _ _ h => h) (Or.inl ⟨by rfl, ?_⟩) ?_ ?_
  rotate_left
  · intro w'
    go_simp
    with_reducible rfl
  rotate_left
  · simp only [Act.put, List.setIfInBounds_toArray, List.set_cons_zero, List.set_cons_succ, i64_w, i32_w]
    rfl
  refine take_ (i := 2) (N := some 14) (v := ?_) (a' := ?_) #[true, true, true, false, false, false, false, true, false, false, false, false, false, false, false, false] rfl rfl (take_ofW HT_.out HW_.out (by kernel_rfl)) (fun _ _ _ h => h) (Or.inl ⟨by rfl, ?_⟩) hHeld ?_ ?_
  rotate_left
  · rintro w' ⟨s0, s1⟩
    go_simp
    with_reducible rfl
  rotate_left
  · simp only [Act.put, List.setIfInBounds_toArray, List.set_cons_zero, List.set_cons_succ, i64_w, i32_w]
    rfl
  refine pure_ (i := 3) (N := some 15) (v := ?_) (a' := ?_) #[true, true, true, true, false, false, false, true, false, false, false, false, false, false, false, false] rfl rfl (any_of HT_.out (by kernel_rfl)) (fun _ _ _ h => h) (Or.inl ⟨by rfl, ?_⟩) ?_ ?_
  rotate_left
  · intro w'
    go_simp
    with_reducible rfl
  rotate_left
  · simp only [Act.put, List.setIfInBounds_toArray, List.set_cons_zero, List.set_cons_succ, i64_w, i32_w]
    rfl
  refine pure_ (i := 4) (N := some 16) (v := ?_) (a' := ?_) #[true, true, true, true, true, false, false, true, false, false, false, false, false, false, false, false] rfl rfl (any_of HT_.out (by kernel_rfl)) (fun _ _ _ h => h) (Or.inl ⟨by rfl, ?_⟩) ?_ ?_
  rotate_left
  · intro w'
    go_simp
    with_reducible rfl
  rotate_left
  · simp only [Act.put, List.setIfInBounds_toArray, List.set_cons_zero, List.set_cons_succ, i64_w, i32_w]
    rfl
  refine take_ (i := 5) (N := some 17) (v := ?_) (a' := ?_) #[true, true, true, true, true, true, false, true, false, false, false, false, false, false, false, false] rfl rfl (take_ofW HT_.out HW_.out (by kernel_rfl)) (fun _ _ _ h => h) (Or.inl ⟨by rfl, ?_⟩) hHeld ?_ ?_
  rotate_left
  · rintro w' ⟨s0, s1⟩
    go_simp
    with_reducible rfl
  rotate_left
  · simp only [Act.put, List.setIfInBounds_toArray, List.set_cons_zero, List.set_cons_succ, i64_w, i32_w]
    rfl
  refine pure_ (i := 6) (N := some 18) (v := ?_) (a' := ?_) #[true, true, true, true, true, true, true, true, false, false, false, false, false, false, false, false] rfl rfl (any_of HT_.out (by kernel_rfl)) (fun _ _ _ h => h) (Or.inl ⟨by rfl, ?_⟩) ?_ ?_
  rotate_left
  · intro w'
    go_simp
    with_reducible rfl
  rotate_left
  · simp only [Act.put, List.setIfInBounds_toArray, List.set_cons_zero, List.set_cons_succ, i64_w, i32_w]
    rfl
  refine take_ (i := 8) (N := some 20) (v := ?_) (a' := ?_) #[true, true, true, true, true, true, true, true, true, false, false, false, false, false, false, false] rfl rfl (take_ofW HT_.out HW_.out (by kernel_rfl)) (fun _ _ _ h => h) (Or.inl ⟨by rfl, ?_⟩) hHeld ?_ ?_
  rotate_left
  · rintro w' ⟨s0, s1⟩
    go_simp
    with_reducible rfl
  rotate_left
  · simp only [Act.put, List.setIfInBounds_toArray, List.set_cons_zero, List.set_cons_succ, i64_w, i32_w]
    rfl
  refine pure_ (i := 9) (N := some 21) (v := ?_) (a' := ?_) #[true, true, true, true, true, true, true, true, true, true, false, false, false, false, false, false] rfl rfl (any_of HT_.out (by kernel_rfl)) (fun _ _ _ h => h) (Or.inl ⟨by rfl, ?_⟩) ?_ ?_
  rotate_left
  · intro w'
    go_simp
    with_reducible rfl
  rotate_left
  · simp only [Act.put, List.setIfInBounds_toArray, List.set_cons_zero, List.set_cons_succ, i64_w, i32_w]
    rfl
  refine pure_ (i := 10) (N := some 22) (v := ?_) (a' := ?_) #[true, true, true, true, true, true, true, true, true, true, true, false, false, false, false, false] rfl rfl (any_of HT_.out (by kernel_rfl)) (fun _ _ _ h => h) (Or.inl ⟨by rfl, ?_⟩) ?_ ?_
  rotate_left
  · intro w'
    go_simp
    with_reducible rfl
  rotate_left
  · simp only [Act.put, List.setIfInBounds_toArray, List.set_cons_zero, List.set_cons_succ, i64_w, i32_w]
    rfl
  refine take_ (i := 11) (N := some 23) (v := ?_) (a' := ?_) #[true, true, true, true, true, true, true, true, true, true, true, true, false, false, false, false] rfl rfl (take_ofW HT_.out HW_.out (by kernel_rfl)) (fun _ _ _ h => h) (Or.inl ⟨by rfl, ?_⟩) hHeld ?_ ?_
  rotate_left
  · rintro w' ⟨s0, s1⟩
    go_simp
    with_reducible rfl
  rotate_left
  · simp only [Act.put, List.setIfInBounds_toArray, List.set_cons_zero, List.set_cons_succ, i64_w, i32_w]
    rfl
  refine pure_ (i := 12) (N := some 24) (v := ?_) (a' := ?_) #[true, true, true, true, true, true, true, true, true, true, true, true, true, false, false, false] rfl rfl (any_of HT_.out (by kernel_rfl)) (fun _ _ _ h => h) (Or.inl ⟨by rfl, ?_⟩) ?_ ?_
  rotate_left
  · intro w'
    go_simp
    with_reducible rfl
  rotate_left
  · simp only [Act.put, List.setIfInBounds_toArray, List.set_cons_zero, List.set_cons_succ, i64_w, i32_w]
    rfl
  refine last_ (i := 13) (N := some 25) #[true, true, true, true, true, true, true, true, true, true, true, true, true, true, false, false] rfl rfl (one_of HT_.out (by kernel_rfl)) (by decide) (fun K hK => ?_)
  refine value_ (w1 := ?_) (v := ?_) (by rfl) rfl ?_ ?_
  rotate_left 2
  · go_simp
    constructor
    · rfl
    · rfl
  have hal := below_al w5 (.cells #[.func (.func 41) #[] #[.pointer (some ⟨g2, 0, none⟩), .pointer (some ⟨g5, 0, none⟩)], .func (.func 43) #[] #[.pointer (some ⟨g2, 0, none⟩), .pointer (some ⟨g5, 0, none⟩), .pointer (some ⟨g3, 0, none⟩)], .func (.func 33) #[.pointer (some ⟨p, 0, none⟩)] #[], .func (.func 44) #[] #[.pointer (some ⟨g2, 0, none⟩), .pointer (some ⟨g5, 0, none⟩)], .func (.func 33) #[.pointer (some ⟨p, 0, none⟩)] #[]] 51 (0, 0))
  have BFf := Aside0.mk (heap_alloc_new w5 (.cells #[.func (.func 41) #[] #[.pointer (some ⟨g2, 0, none⟩), .pointer (some ⟨g5, 0, none⟩)], .func (.func 43) #[] #[.pointer (some ⟨g2, 0, none⟩), .pointer (some ⟨g5, 0, none⟩), .pointer (some ⟨g3, 0, none⟩)], .func (.func 33) #[.pointer (some ⟨p, 0, none⟩)] #[], .func (.func 44) #[] #[.pointer (some ⟨g2, 0, none⟩), .pointer (some ⟨g5, 0, none⟩)], .func (.func 33) #[.pointer (some ⟨p, 0, none⟩)] #[]] 51 (0, 0)))
  have R6 := Aside0.mk (R5.out.below hal)
  have BB6 := Aside0.mk (below_step BB5.out hal)
  have B26 := Aside0.mk (blkK hal B25.out)
  have B36 := Aside0.mk (blkK hal B35.out)
  have B56 := Aside0.mk (blkK hal B55.out)
  have BQ6 := Aside0.mk (blkK hal BQ5.out)
  have HS6 := Aside0.mk (HS5.out.keep (Keeps.below hal))
  clear hal hHeld
  generalize w5.alloc (.cells #[.func (.func 41) #[] #[.pointer (some ⟨g2, 0, none⟩), .pointer (some ⟨g5, 0, none⟩)], .func (.func 43) #[] #[.pointer (some ⟨g2, 0, none⟩), .pointer (some ⟨g5, 0, none⟩), .pointer (some ⟨g3, 0, none⟩)], .func (.func 33) #[.pointer (some ⟨p, 0, none⟩)] #[], .func (.func 44) #[] #[.pointer (some ⟨g2, 0, none⟩), .pointer (some ⟨g5, 0, none⟩)], .func (.func 33) #[.pointer (some ⟨p, 0, none⟩)] #[]] 51 (0, 0)) = w6 at BFf R6 BB6 B26 B36 B56 BQ6 HS6 ⊢
  generalize w5.heap.size = gf at BFf ⊢
  refine hK.out _ _ ?_
  clear hK K
  refine norm_ (a' := ?_) ?_ ?_
  rotate_left
  · show Act.put _ (some 25) _ = _
    simp only [Act.put, List.setIfInBounds_toArray, List.set_cons_zero, List.set_cons_succ, i64_w, i32_w]
    rfl
  refine last_ (i := 14) (N := some 26) #[true, true, true, true, true, true, true, true, true, true, true, true, true, true, true, false] rfl rfl (one_of HT_.out (by kernel_rfl)) (by decide) (fun K hK => ?_)
  refine goes_ Try.func40 (by kernel_rfl) rfl #[.slice (some ⟨gf, 0, none⟩) 5 5] (by rfl) rfl rfl (by (try simp only [List.map_toArray, List.map_cons, List.map_nil]); first | done | rfl) ?_
  refine (steps_callsX (a := 0) w6 BFf.out B26.out BQ6.out B56.out B36.out R6.out HO.out HN.out (.inl rfl) HS6.out HL.out).mono ?_
  rintro e w7 ⟨rfl, hr, hb, hk⟩
  refine ⟨_, rfl, ?_⟩
  have R7 := Aside0.mk hr
  have BB7 := Aside0.mk (Below.trans (Below.mono BB6.out HB.out) hb)
  have B27 := Aside0.mk (hk 27 (by decide) (by decide) _ _ B26.out)
  have B37 := Aside0.mk (hk 28 (by decide) (by decide) _ _ B36.out)
  have B57 := Aside0.mk (hk 3 (by decide) (by decide) _ _ B56.out)
  have BQ7 := Aside0.mk (hk 60 (by decide) (by decide) _ _ BQ6.out)
  have K7 := Aside0.mk (KT.trans (KT.below BB6.out) hk)
  clear hr hb hk
  refine hK.out _ _ ?_
  clear hK K
  refine norm_ (a' := ?_) ?_ ?_
  rotate_left
  · show Act.put _ (some 26) _ = _
    simp only [Act.put, List.setIfInBounds_toArray, List.set_cons_zero, List.set_cons_succ, i64_w, i32_w]
    rfl
  refine pure_ (i := 15) (N := some 6) (v := ?_) (a' := ?_) #[true, true, true, true, true, true, true, true, true, true, true, true, true, true, true, true] rfl rfl (any_of HT_.out (by kernel_rfl)) (fun _ _ _ h => h) (Or.inl ⟨by rfl, ?_⟩) ?_ ?_
  rotate_left
  · intro w'
    go_simp
    with_reducible rfl
  rotate_left
  · simp only [Act.put, List.setIfInBounds_toArray, List.set_cons_zero, List.set_cons_succ, i64_w, i32_w]
    rfl
  refine done_ (done_of HT_.out (by kernel_rfl)) ?_
  go_wp2_with fail
  refine start_ (n := 11) (S := fun w' => w'.cell? ⟨g2, 0, none⟩ = some (.pointer (some ⟨q, 0, none⟩)) ∧ w'.cell? ⟨g5, 0, none⟩ = some (.int .i64 0) ∧ w'.cell? ⟨g3, 0, none⟩ = some (.slice A bs.length c)) (ds := [10]) #[false, false, false, false, false, false, false, false, false, false, false] (by kernel_rfl) rfl rfl ⟨(blk_cell B27.out 0).trans rfl, (blk_cell B57.out 0).trans rfl, (blk_cell B37.out 0).trans rfl⟩ (fun hHeld => ?_); refine with_tabW turn_R4.tab turn_R4.bits (fun HT_ HW_ => ?_)
  have hd := below_drew (Below.refl w7.heap.size w7)
  have R8 := Aside0.mk (R7.out.below hd)
  have BB8 := Aside0.mk (below_drew BB7.out)
  have BQ8 := Aside0.mk (blkK hd BQ7.out)
  have K8 := Aside0.mk (KT.trans K7.out (KT.below hd))
  have B28 := Aside0.mk (blkK hd B27.out)
  have B38 := Aside0.mk (blkK hd B37.out)
  have B58 := Aside0.mk (blkK hd B57.out)
  clear hd
  generalize w7.drew = w8 at R8 BB8 BQ8 K8 B28 B38 B58 hHeld ⊢
  refine take_ (i := 0) (N := some 29) (v := ?_) (a' := ?_) #[true, false, false, false, false, false, false, false, false, false, false] rfl rfl (take_ofW HT_.out HW_.out (by kernel_rfl)) (fun _ _ _ h => h) (Or.inl ⟨by rfl, ?_⟩) hHeld ?_ ?_
  rotate_left
  · rintro w' ⟨s0, s1, s2⟩
    go_simp
    with_reducible rfl
  rotate_left
  · simp only [Act.put, List.setIfInBounds_toArray, List.set_cons_zero, List.set_cons_succ, i64_w, i32_w]
    rfl
  refine take_ (i := 1) (N := some 30) (v := ?_) (a' := ?_) #[true, true, false, false, false, false, false, false, false, false, false] rfl rfl (take_ofW HT_.out HW_.out (by kernel_rfl)) (fun _ _ _ h => h) (Or.inl ⟨by rfl, ?_⟩) hHeld ?_ ?_
  rotate_left
  · rintro w' ⟨s0, s1, s2⟩
    go_simp
    with_reducible rfl
  rotate_left
  · simp only [Act.put, List.setIfInBounds_toArray, List.set_cons_zero, List.set_cons_succ, i64_w, i32_w]
    rfl
  refine take_ (i := 2) (N := some 31) (v := ?_) (a' := ?_) #[true, true, true, false, false, false, false, false, false, false, false] rfl rfl (take_ofW HT_.out HW_.out (by kernel_rfl)) (fun _ _ _ h => h) (Or.inl ⟨by rfl, ?_⟩) hHeld ?_ ?_
  rotate_left
  · rintro w' ⟨s0, s1, s2⟩
    go_simp
    with_reducible rfl
  rotate_left
  · simp only [Act.put, List.setIfInBounds_toArray, List.set_cons_zero, List.set_cons_succ, i64_w, i32_w]
    rfl
  refine pure_ (i := 5) (N := some 34) (v := ?_) (a' := ?_) #[true, true, true, false, false, true, false, false, false, false, false] rfl rfl (any_of HT_.out (by kernel_rfl)) (fun _ _ _ h => h) (Or.inl ⟨by rfl, ?_⟩) ?_ ?_
  rotate_left
  · intro w'
    go_simp
    with_reducible rfl
  rotate_left
  · simp only [Act.put, List.setIfInBounds_toArray, List.set_cons_zero, List.set_cons_succ, i64_w, i32_w]
    rfl
  refine pure_ (i := 6) (N := some 35) (v := ?_) (a' := ?_) #[true, true, true, false, false, true, true, false, false, false, false] rfl rfl (any_of HT_.out (by kernel_rfl)) (fun _ _ _ h => h) (Or.inl ⟨by rfl, ?_⟩) ?_ ?_
  rotate_left
  · intro w'
    go_simp
    with_reducible rfl
  rotate_left
  · simp only [Act.put, List.setIfInBounds_toArray, List.set_cons_zero, List.set_cons_succ, i64_w, i32_w]
    rfl
  refine take_ (i := 3) (N := some 32) (v := ?_) (a' := ?_) #[true, true, true, true, false, true, true, false, false, false, false] rfl rfl (take_ofW HT_.out HW_.out (by kernel_rfl)) (fun _ _ _ h => h) (Or.inl ⟨by rfl, ?_⟩) hHeld ?_ ?_
  rotate_left
  · rintro w' ⟨s0, s1, s2⟩
    go_simp
    with_reducible rfl
  rotate_left
  · simp only [Act.put, List.setIfInBounds_toArray, List.set_cons_zero, List.set_cons_succ, i64_w, i32_w]
    rfl
  refine pure_ (i := 4) (N := some 33) (v := ?_) (a' := ?_) #[true, true, true, true, true, true, true, false, false, false, false] rfl rfl (any_of HT_.out (by kernel_rfl)) (fun _ _ _ h => h) (Or.inl ⟨by rfl, ?_⟩) ?_ ?_
  rotate_left
  · intro w'
    go_simp
    with_reducible rfl
  rotate_left
  · simp only [Act.put, List.setIfInBounds_toArray, List.set_cons_zero, List.set_cons_succ, i64_w, i32_w]
    rfl
  refine one_ (i := 7) (N := none) #[true, true, true, true, true, true, true, true, false, false, false] rfl rfl (one_of HT_.out (by kernel_rfl)) (by decide) (fun K hK => ?_)
  have q1 : w8.cell? ⟨q, 1, none⟩ = some (.int .i64 1) := (blk_cell BQ8.out 1).trans rfl
  have f1 := blk_frozen BQ8.out 1
  refine skip_ (w1 := ?_) (by rfl) rfl ?_ ?_
  rotate_left
  · go_simp
    rfl
  have BQ9 := Aside0.mk (show (w8.setCell ⟨q, 1, none⟩ (.int .i64 0)).heap[q]? = some (.cells #[.pointer (some ⟨p, 0, none⟩), .int .i64 0, .int .i64 size] 60 (0, 0)) from blk_set BQ8.out 1 _)
  have BB9 := Aside0.mk (BB8.out.setCell (p := ⟨q, 1, none⟩) HBq.out (.int .i64 0))
  have K9 := Aside0.mk (KL.trans K8.out.kl (KL.set (j := 1) (v := .int .i64 0) BQ8.out))
  have R9 := Aside0.mk (RepB.other36 (t := 60) R8.out (grown_set (j := 1) (u := .int .i64 0)) BQ8.out (by decide) (by decide) (by decide))
  have ks := KL.set (j := 1) (v := .int .i64 0) BQ8.out
  have B29 := Aside0.mk (ks 27 (by decide) (by decide) (by decide) _ _ B28.out)
  have B39 := Aside0.mk (ks 28 (by decide) (by decide) (by decide) _ _ B38.out)
  have B59 := Aside0.mk (ks 3 (by decide) (by decide) (by decide) _ _ B58.out)
  clear q1 f1 ks
  generalize w8.setCell ⟨q, 1, none⟩ (.int .i64 0) = w9 at BQ9 BB9 K9 R9 B29 B39 B59 ⊢
  refine hK.out _ _ ⟨(blk_cell B29.out 0).trans rfl, (blk_cell B59.out 0).trans rfl, (blk_cell B39.out 0).trans rfl⟩ (fun hHeld2 => ?_)
  clear hHeld hHeld2
  clear hK K
  refine pure_ (i := 8) (N := some 36) (v := ?_) (a' := ?_) #[true, true, true, true, true, true, true, true, true, false, false] rfl rfl (any_of HT_.out (by kernel_rfl)) (fun _ _ _ h => h) (Or.inl ⟨by rfl, ?_⟩) ?_ ?_
  rotate_left
  · intro w'
    go_simp
    with_reducible rfl
  rotate_left
  · simp only [Act.put, List.setIfInBounds_toArray, List.set_cons_zero, List.set_cons_succ, i64_w, i32_w]
    rfl
  refine pure_ (i := 9) (N := some 37) (v := ?_) (a' := ?_) #[true, true, true, true, true, true, true, true, true, true, false] rfl rfl (any_of HT_.out (by kernel_rfl)) (fun _ _ _ h => h) (Or.inl ⟨by rfl, ?_⟩) ?_ ?_
  rotate_left
  · intro w'
    go_simp
    with_reducible rfl
  rotate_left
  · simp only [Act.put, List.setIfInBounds_toArray, List.set_cons_zero, List.set_cons_succ, i64_w, i32_w]
    rfl
  refine last_ (i := 10) (N := none) #[true, true, true, true, true, true, true, true, true, true, true] rfl rfl (one_of HT_.out (by kernel_rfl)) (by decide) (fun K hK => ?_)
  have q2 : w9.cell? ⟨q, 2, none⟩ = some (.int .i64 size) := (blk_cell BQ9.out 2).trans rfl
  have f2 := blk_frozen BQ9.out 2
  refine skip_ (w1 := ?_) (by rfl) rfl ?_ ?_
  rotate_left
  · go_simp
    rfl
  have BQA := Aside0.mk (show (w9.setCell ⟨q, 2, none⟩ (.int .i64 (bs.length : Int))).heap[q]? = some (.cells #[.pointer (some ⟨p, 0, none⟩), .int .i64 0, .int .i64 (bs.length : Int)] 60 (0, 0)) from blk_set BQ9.out 2 _)
  have BBA := Aside0.mk (BB9.out.setCell (p := ⟨q, 2, none⟩) HBq.out (.int .i64 (bs.length : Int)))
  have KA := Aside0.mk (KL.trans K9.out (KL.set (j := 2) (v := .int .i64 (bs.length : Int)) BQ9.out))
  have RA := Aside0.mk (RepB.other36 (t := 60) R9.out (grown_set (j := 2) (u := .int .i64 (bs.length : Int))) BQ9.out (by decide) (by decide) (by decide))
  clear q2 f2
  generalize w9.setCell ⟨q, 2, none⟩ (.int .i64 (bs.length : Int)) = wA at BQA BBA KA RA ⊢
  refine hK.out _ _ ?_
  clear hK K
  refine done_ (done_of HT_.out (by kernel_rfl)) ?_
  go_wp2
  go_ret
  exact ⟨rfl, RA.out, BQA.out, BBA.out, KA.out⟩
end Go.Proofs.Ytdbkedipfpepbaa.PWal
namespace Go.Proofs.Ytdbkedipfpepbaa.PWal
open Go.RowKit Go.Proofs.YtdbkedipfpepbaaW.PrintWords Go.Proofs.YtdbkedipfpepbaaW.PrintLast Go.Proofs.YtdbkedipfpepbaaW.PrintMore Go.FrameMath
set_option linter.unusedVariables false
set_option linter.unusedSimpArgs false
theorem turn_anyX {X : Nat → Prop} {B B0 p q M : Nat} {t u : St} {l : List Chg} {front size : Int} {A : Option Addr} {c : Nat} {rs' : List (List Int)} (w : World) (hq : w.heap[q]? = some (.cells #[.pointer (some ⟨p, 0, none⟩), .int .i64 front, .int .i64 size] 60 (0, 0))) (hR : RepB X B w p (UP t u l)) (hBq : B ≤ q) (hs0 : LS8 u front rs') (hO : Ok M (UP t u l)) (hN : M + (flat rs').length + 3 ≤ 500000000) (hS : BS B0 w (.slice A (flat rs').length c) (flat rs')) :
    Calls Try.prog 27 #[.pointer (some ⟨q, 0, none⟩), .slice A (flat rs').length c] w fun e w' => e = .returned (.int .i64 0) ∧ RepB X B w' p (UP (turnSt u (1 - front) (flat rs')) (turnSt u (1 - front) (flat rs')) []) ∧ LG B w' p q (turnSt u (1 - front) (flat rs')) (turnSt u (1 - front) (flat rs')) [] (1 - front) rs' ∧ Ok (M + (flat rs').length + 3) (UP (turnSt u (1 - front) (flat rs')) (turnSt u (1 - front) (flat rs')) []) ∧ Below B w w' ∧ KL w w' := by
  have hst := hs0.turned hs0.by_ hs0.sm hs0.le
  have h8 : (flat rs').length ≤ 100000000 := Nat.le_trans hs0.le (by decide)
  rcases hs0.fr with rfl | rfl
  · refine (turn0X w hq hR hO hN hS h8 hBq).mono ?_
    rintro e w' ⟨he, hr, hq', hb, hk⟩
    exact ⟨he, hr, ⟨hr.1.rep, hq', hBq, hst⟩, hO.t5 (.inr rfl) _, hb, hk⟩
  · refine (turn1X w hq hR hO hN hS h8 hBq).mono ?_
    rintro e w' ⟨he, hr, hq', hb, hk⟩
    exact ⟨he, hr, ⟨hr.1.rep, hq', hBq, hst⟩, hO.t5 (.inl rfl) _, hb, hk⟩
variable {B p M : Nat} {t u : St} {l : List Chg} {front : Int}
set_option maxHeartbeats 8000000 in
set_option maxRecDepth 100000 in
theorem Open_oldX {r : List Int} {rs : List (List Int)} (w : World) (hR : Rep B w p (UP t u l)) (hO : Ok M (UP t u l)) (hN : M + (flat (r :: rs)).length + 3 ≤ 500000000) (hs : LS8 u front (r :: rs)) :
    Calls Try.prog 9 #[.pointer (some ⟨p, 0, none⟩)] w fun e w' => ∃ Z q gr cap A0 c0, e = .returned (.tuple #[.pointer (some ⟨q, 0, none⟩), .slice A0 r.length c0, .slice (if cap = 1 then some ⟨gr, 0, none⟩ else some ⟨gr, 1, none⟩) rs.length (cap - 1), .int .i64 0]) ∧ w'.cell? ⟨gr, 0, none⟩ = some (.slice A0 r.length c0) ∧
      Kd.S (Kd.slice 5 (Kd.int .u8)) 28 w' w.heap.size (fun k => w.heap.size ≤ k ∧ k < Z) (.slice (some ⟨gr, 0, none⟩) (rs.length + 1) cap) (r :: rs) ∧
      RepB (fun k => w.heap.size ≤ k ∧ k < Z) B w' p (UP (turnSt u (1 - front) (flat (r :: rs))) (turnSt u (1 - front) (flat (r :: rs))) []) ∧
      LG B w' p q (turnSt u (1 - front) (flat (r :: rs))) (turnSt u (1 - front) (flat (r :: rs))) [] (1 - front) (r :: rs) ∧ Ok (M + (flat (r :: rs)).length + 3) (UP (turnSt u (1 - front) (flat (r :: rs))) (turnSt u (1 - front) (flat (r :: rs))) []) ∧ Below B w w' ∧ KL w w' := by
  have HR := Aside0.mk hR
  have HO := Aside0.mk hO
  have HN := Aside0.mk (show M ≤ 500000000 by omega)
  have HN2 := Aside0.mk hN
  have HS := Aside0.mk hs
  have HF := Aside0.mk (show (if (UP t u l).down = true then (0 : Int) else (UP t u l).now.2.2) = front from hs.at_)
  have HE := Aside0.mk (show mayE (UP t u l) front = 0 from mayUP hs.fr)
  have HRD := Aside0.mk (readR (t := t) (l := l) hs)
  have hle := hs.le
  have hpos : 12 ≤ (flat (r :: rs)).length := flat_pos (by simp)
  have HPOS := Aside0.mk hpos
  have hfl : (frame []).length = 12 := frame_length []
  have hz : ((((flat (r :: rs)).length : Int)) == 0) = false := beq_eq_false_iff_ne.mpr (by omega)
  have hd : decide (((flat (r :: rs)).length : Int) < 12) = false := decide_eq_false (by omega)
  have hd2 : decide ((flat (r :: rs)).length < 12) = false := decide_eq_false (by omega)
  have HFL := Aside0.mk hfl
  clear hR hO hN hs
  go_enter Try.func9, Try.ntmps9
  go_wp2_with (first
    | (go_at_call 13; (with_reducible refine (First_T w HR.out HF.out up_no).mono ?_); rintro e w1 ⟨rfl, rfl⟩)
    | (go_at_call 14; (with_reducible refine (Read_T w1 HR.out HO.out HN.out front HE.out HRD.out).mono ?_); rintro e w2 ⟨A2, c2, rfl, hS, hb⟩; have HR2 := Aside0.mk (HR.out.below hb); have HB2 := Aside0.mk hb; have HS2 := Aside0.mk hS; clear hS hb)
    | ((with_reducible refine gate_dst (N := 34) rfl ?_); refine box_event ?hg (N := 34) ?hd (cs := #[.pointer (some ⟨p, 0, none⟩), .int .i64 front, .int .i64 0]) (t := 60) ?hr ?_; (case hd => rfl); (case hg => rfl); (case hr => first | (go_simp; done) | (go_simp; rfl)); intro q eq w3 bq hb; have BQ := Aside0.mk bq; have EQ := Aside0.mk eq; have HR3 := Aside0.mk (HR2.out.below hb); have HB3 := Aside0.mk (below_step HB2.out hb); have HBQ := Aside0.mk (show B ≤ q by have h1 := HR2.out.base; omega); have HS3 := Aside0.mk (HS2.out.keep (Keeps.below hb)); clear bq hb eq)
    | (go_at_call 24; (with_reducible refine (Put_nil w3).mono ?_); rintro e w4 ⟨v4, rfl, hr, hb⟩; obtain ⟨A4, c4, e4⟩ := Kd.R_slice hr; subst e4; rw [hfl]; have HR4 := Aside0.mk (HR3.out.below hb); have HB4 := Aside0.mk (below_step HB3.out hb); have BQ4 := Aside0.mk (blkK hb BQ.out); have HS4 := Aside0.mk (HS3.out.keep (Keeps.below hb)); have hn4 : (flat (r :: rs)).length ≤ c2 := (HS4.out.len).2.1; clear hr hb)
    | (go_at_call 26; (with_reducible refine (Scan_says (r :: rs) w4 (HS4.out.len).2.2 (HS4.out.len).2.1 HS.out.by_ (fun x hx => Nat.le_trans (HS.out.sm x hx) (by decide)) (Nat.lt_of_le_of_lt HS.out.le (by decide))).mono ?_); rintro e w5 ⟨v5, rfl, hs5, hb⟩; obtain ⟨gr, cap, e5, _⟩ := Kd.S_form hs5 (by simp); subst e5; have HB5 := Aside0.mk (below_step HB4.out hb); have HV5 := Aside0.mk (Kd.S_mono (Kd.S_bound hs5) (fun k hk => (⟨Nat.le_trans HB4.out.size hk.2.1, hk.2.2.1⟩ : w1.heap.size ≤ k ∧ k < w5.heap.size))); have HR5 := Aside0.mk (show RepB (fun k => w1.heap.size ≤ k ∧ k < w5.heap.size) B w5 p (UP t u l) from ⟨RepX.below (Rep.fresh (X := fun k => w1.heap.size ≤ k ∧ k < w5.heap.size) HR.out (fun k hk => hk.1)) HB5.out, fun k hk => hk.2⟩); have BQ5 := Aside0.mk (blkK hb BQ4.out); have HS5 := Aside0.mk (HS4.out.keep (Keeps.below hb)); clear hs5 hb)
    | (go_at_call 27; (with_reducible refine (turn_anyX (rs' := r :: rs) w5 BQ5.out HR5.out (HBQ.out) HS.out HO.out HN2.out HS5.out).mono ?_); rintro e w6 ⟨rfl, hx, hg, ho, hb, hk⟩; have HX6 := Aside0.mk hx; have HG6 := Aside0.mk hg; have HO6 := Aside0.mk ho; have HB6 := Aside0.mk (Below.trans (Below.mono HB5.out HR.out.base) hb); have HK6 := Aside0.mk (KL.trans (KT.below HB5.out).kl hk); have HV6 := Aside0.mk (S_keep HV5.out hk); clear hx hg ho hb hk; obtain ⟨ad, A0, c0, ead, hz0, _, _⟩ := at_BB (Kd.S_reads' HV6.out).2.2 0 (by simp); cases ead; have hz1 : w6.cell? ⟨gr, 0, none⟩ = some (.slice A0 r.length c0) := hz0; have hcut := cut29 (some ⟨gr, 0, none⟩) (rs.length + 1) cap (by omega); clear hz0)
    | fail)
  go_quiet (fail)
  try go_wp2
  all_goals
    (try simp only [Exit.inBlock, Exit.then])
    refine bodyPost_ret (results_tmp4 rfl _ _ _) rfl ?_
    have hd6 := pw_below_drewN (Below.refl w6.heap.size w6) nq
    refine ⟨w5.heap.size, q, gr, _, A0, c0, ?_, (show (w6.drewN nq).cell? ⟨gr, 0, none⟩ = _ from hz1), Kd.S_lower (Kd.S_below HV6.out hd6) HB4.out.size, HX6.out.below hd6, HG6.out.below hd6, HO6.out, pw_below_drewN HB6.out nq, KL.trans HK6.out (KT.below hd6).kl⟩
    first
      | (have hc : cap = 1 := by omega
         rw [if_pos hc, hc]; rfl)
      | (have hc : ¬ cap = 1 := by omega
         rw [if_neg hc]; rfl)
/-- a byte of a row of one's own, written -/
theorem put_byte {W : World} {base : Nat} {oki : Nat → Prop} {A : Option Addr} {n c j : Nat} {bs : List Int} (h : (Kd.int .u8).R 5 W base oki (.slice A n c) bs) (hj : j < n) :
    ∃ g, A = some ⟨g, 0, none⟩ ∧ base ≤ g ∧ oki g ∧ (∃ x, W.cell? ⟨g, j, none⟩ = some (.int .u8 x)) ∧ W.frozen? ⟨g, j, none⟩ = false ∧ ∀ y : Int, W.grownBy (W.setCell ⟨g, j, none⟩ (.int .u8 y)) (some g) ∧ ∃ bs', bs'.length = bs.length ∧ (Kd.int .u8).R 5 (W.setCell ⟨g, j, none⟩ (.int .u8 y)) base oki (.slice (some ⟨g, 0, none⟩) n c) bs' := by
  have hn := (Kd.R_reads' h).1
  obtain ⟨g, cap, hv, hb, _⟩ := Kd.R_form h (by omega)
  injection hv with hA _ hc
  subst hA; subst hc
  refine ⟨g, rfl, hb, h.1 g (by simp [Value.ownBlock]), ?_⟩
  obtain ⟨cs, hcl, hM, hcell, hfr⟩ := Kd.R_elem h (0 : Int) (j : Int) (by omega) (by omega)
  rw [Int.toNat_natCast] at hM hcell hfr
  have hcs : cs = [.int .u8 (bs.getD j 0)] := hM
  subst hcs
  have hz : (Kd.int .u8).sz = 1 := rfl
  have h0 := hcell 0 _ rfl
  have hf := hfr 0
  rw [hz, Nat.mul_one, Nat.add_zero] at h0 hf
  refine ⟨⟨_, h0⟩, hf, fun y => ?_⟩
  obtain ⟨hr, hg⟩ := Kd.R_seg h (j : Int) (by omega) (by omega) (c := [.int .u8 (bs.getD j 0)]) (seg := [.int .u8 y]) (j := 0) (x' := y) (okp := fun _ => False) rfl (by rw [Int.toNat_natCast]; exact hcell) (by show 0 + 1 ≤ 1; omega) rfl (fun _ hk => hk.elim)
  rw [Int.toNat_natCast, hz, Nat.mul_one, Nat.add_zero] at hr hg
  exact ⟨hg, _, by rw [List.length_set], hr⟩
/-- a row's first element, lent -/
theorem lend_first {W : World} {base gr cap : Nat} {ok : Nat → Prop} {A0 : Option Addr} {c0 : Nat} {r : List Int} {rs : List (List Int)} (h : Kd.S (Kd.slice 5 (Kd.int .u8)) 28 W base ok (.slice (some ⟨gr, 0, none⟩) (rs.length + 1) cap) (r :: rs)) (hz : W.cell? ⟨gr, 0, none⟩ = some (.slice A0 r.length c0)) :
    ∃ oki : Nat → Prop, (∀ k, oki k → ok k) ∧ (Kd.int .u8).R 5 W base oki (.slice A0 r.length c0) r ∧ ∀ {w1 : World} {row : Option Nat} {bs : List Int}, W.grownBy w1 row → (∀ k, row = some k → oki k) → (Kd.int .u8).R 5 w1 base oki (.slice A0 r.length c0) bs → Kd.S (Kd.slice 5 (Kd.int .u8)) 28 w1 base ok (.slice (some ⟨gr, 0, none⟩) (rs.length + 1) cap) (bs :: rs) := by
  obtain ⟨oki, c, hcl, hM, hcc, hoki, hback⟩ := Kd.S_borrow h [] 0 (by decide) (by omega)
  have hM' : ∃ v, c = [v] ∧ (Kd.int .u8).R 5 W base oki v r := hM
  obtain ⟨v, rfl, hR⟩ := hM'
  have hv := hcc 0 v rfl
  rw [add_at] at hv
  have hv' : W.cell? ⟨gr, 0, none⟩ = some v := hv
  rw [hz] at hv'
  cases hv'
  exact ⟨oki, fun k hk => (hoki k hk).1, hR, fun {w1 row bs} hg hrow hr => hback (x' := bs) hg hrow ⟨_, rfl, hr⟩⟩
theorem RepB.stored {X : Nat → Prop} {W W' : World} {s : AD} {r : Option Nat} (h : RepB X B W p s) (hg : W.grownBy W' r) (hr : ∀ k, r = some k → X k ∧ ∃ cs, W.heap[k]? = some (.cells cs 5 (0, 0))) : RepB X B W' p s :=
  ⟨h.1.grown hg hr, fun k hk => Nat.lt_of_lt_of_le (h.2 k hk) hg.size⟩
theorem C_row1 {W : World} {g c : Nat} {A : Option Addr} {b : List Int} {t : Nat} {fr : Nat × Nat} (h : W.heap[g]? = some (.cells #[.slice A b.length c] t fr)) (hc : b.length ≤ c) (hC : (Kd.int .u8).C W A b.length b) : Kd.C (Kd.slice 5 (Kd.int .u8)) W (some ⟨g, 0, none⟩) [b].length [b] := by
  refine ⟨rfl, by simp, fun hn => ⟨_, rfl, fun j q hj => ?_⟩⟩
  match j, hj with
  | 0, hj =>
    obtain rfl : b = q := by simpa using hj
    refine ⟨[.slice A b.length c], rfl, ⟨A, c, rfl, hc, hC⟩, fun i u hu => ?_⟩
    match i, hu with
    | 0, hu =>
      rw [add_plain, show (Kd.slice 5 (Kd.int IntKind.u8)).sz = 1 from rfl, cell_of_row W g _ _ t fr h]
      simpa using hu
    | i + 1, hu => simp at hu
  | j + 1, hj => simp at hj
end Go.Proofs.Ytdbkedipfpepbaa.PWal
