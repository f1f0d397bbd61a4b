/- FramePuts: plain. Conditions: lists of fewer than a million bytes. -/
import Derived.Test.YtfjhioepaekffaaFrameSame
import Derived.Test.YtfjhioepaekffaaPFramex4
namespace Go.Proofs.Ytfjhioepaekffaa.FramePure
open Go.RowKit Go.Proofs.Ytfjhioepaekffaa.PFrame Go.Proofs.YtfjhioepaekffaaW.PrintWords Go.Proofs.YtfjhioepaekffaaW.PrintLast Go.HashMath Go.FrameMath
set_option linter.unusedVariables false
theorem awake_f : lockgatelaw04_awake.f = some true := rfl
theorem FramePuts (l r : List Int) : ∃ k, lockgatelaw04_FramePuts.f k l r = some true := by
  refine ⟨20000, ?_⟩
  unfold lockgatelaw04_FramePuts.f
  rw [awake_f, Option.bind_some, if_pos rfl]
  by_cases hl : (l.length : Int) > 3000
  · rw [if_pos hl]
    simp only [lockgatelaw04_FramePuts.j0, if_true, awake_f, Option.bind_some]
  · rw [if_neg hl]
    by_cases hr : (r.length : Int) > 3000
    · rw [decide_eq_true hr]
      simp only [lockgatelaw04_FramePuts.j0, if_true, awake_f, Option.bind_some]
    · rw [decide_eq_false hr]
      have hf := frame_length r
      simp only [lockgatelaw04_FramePuts.j0]
      rw [if_neg (by decide), Option.bind_some, if_pos (by rw [List.length_nil]; omega), List.nil_append, put_f l r (by omega) (by omega) _ (by omega), Option.bind_some, Option.bind_some, if_pos (by rw [List.length_nil]; omega), Option.bind_some, frame_f r (by omega) _ (by omega), Option.bind_some, if_pos (by rw [List.nil_append]; omega), List.nil_append,
        same_f _ _ (by rw [List.length_append]; omega) _ (by rw [List.length_append]; omega), Option.bind_some]
      simp
end Go.Proofs.Ytfjhioepaekffaa.FramePure
