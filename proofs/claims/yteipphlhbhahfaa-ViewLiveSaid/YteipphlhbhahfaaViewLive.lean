/- Plain walks: view.Live and the law ViewLive, whatever epochs and phase they are called with. Conditions: none. -/
import Derived.Test.YteipphlhbhahfaaOpen
import Derived.Test.YteipphlhbhahfaaPViewx4
import Derived.Test.YteipphlhbhahfaaViewPure
namespace Go.Proofs.Yteipphlhbhahfaa.viewLive
open Go.RowKit Go.Proofs.Yteipphlhbhahfaa.PView Go.Proofs.YteipphlhbhahfaaW.PrintWords Go.Proofs.Yteipphlhbhahfaa.ViewPure
theorem run_store_complex {P : Program} (w : World) (a : Addr) (m : Mode) (k : FloatKind) (x y : Nat) : (store a (.complex k x y) m).run P w = stored P w a (.complex k x y) m := run_store P w a _ m rfl
attribute [local go_sem] run_store_complex
def repV (epoch frozen phase : Int) : Value := .agg #[.int .i64 0, .int .i64 0, .int .i64 0, .int .i64 0, .int .i64 epoch, .int .i64 0, .int .i64 phase, .slice none 0 0, .int .i64 frozen, .complex .f64 0 0, .complex .f64 0 0, .slice none 0 0, .slice none 0 0, .complex .f64 0 0, .slice none 0 0]
set_option maxHeartbeats 8000000 in
set_option maxRecDepth 100000 in
theorem live_calls (epoch frozen phase : Int) (w : World) :
    Calls Try.prog 8 #[repV epoch frozen phase] w fun e w' => e = .returned (.bool (phase != 0 && decide (frozen ≤ epoch))) ∧ Below w.heap.size w w' := by
  unfold repV
  by_cases h : phase = 0
  · have h1 : (phase != 0) = false := by simp [h]
    clear h
    go_enter Try.func8, Try.ntmps8
    go_wp2
    go_ret
    exact ⟨by rw [h1]; rfl, (Below.refl _ _).alloc (Nat.le_refl _) _⟩
  · have h1 : (phase != 0) = true := by simp [h]
    clear h
    go_enter Try.func8, Try.ntmps8
    go_wp2
    go_ret
    exact ⟨by rw [h1]; rfl, (Below.refl _ _).alloc (Nat.le_refl _) _⟩
set_option maxHeartbeats 8000000 in
set_option maxRecDepth 100000 in
theorem law (epoch frozen phase : Int) (w : World) :
    Calls Try.prog 3 #[.int .i64 epoch, .int .i64 frozen, .int .i64 phase] w fun e w' => e = .returned (.bool true) ∧ Below w.heap.size w w' := by
  go_enter Try.func3, Try.ntmps3
  go_wp2_with fail
  refine (lockgatelaw16_awake.calls 9 true _ (awake_f 9 (by decide))).mono ?_
  rintro e w1 ⟨rfl, hb1⟩
  have hc : ∀ j, j < 15 → w1.cell? ⟨w.heap.size, j, none⟩ = (w.alloc (.cells #[Value.int IntKind.i64 0, Value.int IntKind.i64 0, Value.int IntKind.i64 0, Value.int IntKind.i64 0, Value.int IntKind.i64 epoch, Value.int IntKind.i64 0, Value.int IntKind.i64 phase, Value.slice none 0 0, Value.int IntKind.i64 frozen, Value.complex FloatKind.f64 0 0, Value.complex FloatKind.f64 0 0, Value.slice none 0 0, Value.slice none 0 0, Value.complex FloatKind.f64 0 0, Value.slice none 0 0] 35)).cell? ⟨w.heap.size, j, none⟩ := fun j _ => hb1.cell (by simp)
  have HB1 := Aside0.mk (below_then ((Below.refl w.heap.size w).alloc (Nat.le_refl _) _) (by simp) hb1)
  go_wp2_with fail
  clear hc hb1
  refine (live_calls epoch frozen phase w1).mono ?_
  rintro e w2 ⟨rfl, hb2⟩
  have HB2 := Aside0.mk (below_then HB1.out HB1.out.size hb2)
  clear hb2
  by_cases h : phase = 0
  · have h1 : (phase != 0) = false := by simp [h]
    clear h
    go_wp2
    go_ret
    exact ⟨rfl, HB2.out⟩
  · have h1 : (phase != 0) = true := by simp [h]
    clear h
    go_wp2
    go_ret
    exact ⟨by simp, HB2.out⟩
end Go.Proofs.Yteipphlhbhahfaa.viewLive
