/- The walk of Play. -/
import Derived.Test.YtpagajgpcmonkaaDiskCrash
namespace Go.Proofs.Ytpagajgpcmonkaa.PDisk
open Go.RowKit Go.Proofs.YtpagajgpcmonkaaW.PrintWords Go.Proofs.YtpagajgpcmonkaaW.PrintLast Go.Proofs.YtpagajgpcmonkaaW.PrintMore
set_option linter.unusedVariables false
set_option linter.unusedSimpArgs false
/-- an act, played -/
def AD.play (s : AD) (x : S39) : AD :=
  if x.f0 % 6 = 0 then s.change (0, x.f1, x.f2) else if x.f0 % 6 = 1 then s.change (1, x.f1, []) else if x.f0 % 6 = 2 then s.change (2, x.f1, [])
  else if x.f0 % 6 = 3 then s.sync else if x.f0 % 6 = 4 then s.arm x.f3 else if x.f0 % 6 = 5 then s.crash x.f3 x.f4 else s
def playE (s : AD) (x : S39) : Int :=
  if x.f0 % 6 = 0 then mayE s x.f1 else if x.f0 % 6 = 1 then mayE s x.f1 else if x.f0 % 6 = 2 then mayE s x.f1
  else if x.f0 % 6 = 3 then (if s.down = true then 4 else 0) else 0
variable {B p N : Nat} {s : AD}
set_option maxHeartbeats 8000000 in
set_option maxRecDepth 100000 in
theorem Play_L {Y : Nat → Prop} (w : World) (hRL : RepL Y B w p s) (hY : ∀ k, Y k → k < w.heap.size) (hO : Ok N s) (hN : N ≤ 500000000) (x : S39) {A : Option Addr} {c : Nat} (hx : Kd.C (Kd.int .u8) w A x.f2.length x.f2) (hc : x.f2.length ≤ c) (hl : x.f2.length ≤ 100000000) (h0 : 0 ≤ x.f0) (h1 : x.f0 ≤ 255) :
    Calls Try.prog 15 #[.pointer (some ⟨p, 0, none⟩), .agg #[.int .u8 x.f0, .int .i64 x.f1, .slice A x.f2.length c, .int .i64 x.f3, .int .i64 x.f4]] w fun e w' => e = .returned (.int .i64 (playE s x)) ∧ RepL Y B w' p (s.play x) ∧ Below B w w' ∧ Kp Y p w w' := by
  have hR := hRL
  have HR := Aside0.mk hR
  have HO := Aside0.mk hO
  have HX := Aside0.mk hx
  have HB := Aside0.mk hR.rep.base
  have HY := Aside0.mk hY
  have HY1 := Aside0.mk (fun (o : Obj) k hk => Nat.lt_of_lt_of_le (hY k hk) (below_al w o).size)
  clear hR hO hx hRL hY
  obtain ⟨x0, x1, x2, x3, x4⟩ := x
  dsimp only at hc hl h0 h1 HX ⊢
  go_enter Try.func15, Try.ntmps15
  go_wp2_with (first
    | (go_at_call 10; (with_reducible refine (Append_L _ (HR.out.below (below_al w _)) (HY1.out _) HO.out hN x1 (Kd.C_below HX.out (below_al w _)) hc hl).mono ?_); rintro e w2 ⟨rfl, h2, h3, h5⟩)
    | (go_at_call 26; (with_reducible refine (Wipe_L _ (HR.out.below (below_al w _)) (HY1.out _) HO.out hN x1).mono ?_); rintro e w2 ⟨rfl, h2, h3, h5⟩)
    | (go_at_call 25; (with_reducible refine (Front_L _ (HR.out.below (below_al w _)) (HY1.out _) HO.out hN x1).mono ?_); rintro e w2 ⟨rfl, h2, h3, h5⟩)
    | (go_at_call 19; (with_reducible refine (Sync_L _ (HR.out.below (below_al w _)) (HY1.out _) HO.out hN).mono ?_); rintro e w2 ⟨rfl, h2, h3, h5⟩)
    | (go_at_call 18; (with_reducible refine (Arm_L _ (HR.out.below (below_al w _)) (HY1.out _) x3).mono ?_); rintro e w2 ⟨rfl, h2, h3, h5⟩)
    | (go_at_call 12; (with_reducible refine (Crash_L _ (HR.out.below (below_al w _)).rep HO.out hN x3 x4).mono ?_); rintro e w2 ⟨rfl, h20, h3, h4⟩; have h2 := h20 Y; have h5 := (FrameL.grown (lo := .slice none 0 0) h4).kp (Y := Y) (fun k hk => by cases hk) (HY1.out _))
    | fail)
  all_goals
    have BB := Below.trans ((below_al w (.cells #[.int .u8 x0, .int .i64 x1, .slice A x2.length c, .int .i64 x3, .int .i64 x4] 39)).mono HB.out) h3
    go_ret
    simp only [beq_iff_eq, beq_eq_false_iff_ne, ne_eq] at *
    refine ⟨?_, ?_, BB, fun k hk hp => (h5 k hk hp).trans ((below_al w _).block k (HY.out k hk))⟩
    · simp only [playE, *, if_true, if_false]
      all_goals (first | rfl | omega | (rw [if_neg]; omega))
    · refine Eq.mp (congrArg (RepL Y B w2 p) ?_) h2
      simp only [AD.play, *, if_true, if_false]
      all_goals (first | rfl | omega | (rw [if_neg]; omega))
theorem Play_calls (w : World) (hR : Rep B w p s) (hO : Ok N s) (hN : N ≤ 500000000) (x : S39) {A : Option Addr} {c : Nat} (hx : Kd.C (Kd.int .u8) w A x.f2.length x.f2) (hc : x.f2.length ≤ c) (hl : x.f2.length ≤ 100000000) (h0 : 0 ≤ x.f0) (h1 : x.f0 ≤ 255) :
    Calls Try.prog 15 #[.pointer (some ⟨p, 0, none⟩), .agg #[.int .u8 x.f0, .int .i64 x.f1, .slice A x.f2.length c, .int .i64 x.f3, .int .i64 x.f4]] w fun e w' => e = .returned (.int .i64 (playE s x)) ∧ Rep B w' p (s.play x) ∧ Below B w w' :=
  (Play_L w (hR.freshL (Y := fun _ => False) (fun _ h => h.elim)) (fun _ h => h.elim) hO hN x hx hc hl h0 h1).mono fun e w' h => ⟨h.1, h.2.1.rep, h.2.2.1⟩
end Go.Proofs.Ytpagajgpcmonkaa.PDisk
