/- Proved: of whatever chain ViewNeighbours is called with it returns true: of a right chain each member but the first has one ahead, each but the last one behind, and these tell of one another. Conditions: none. -/
import Derived.Test.YteipphlhbhahfaaOpen
import Derived.Test.YteipphlhbhahfaaPViewx3
import Derived.Test.YteipphlhbhahfaaViewPure
namespace Go.Proofs.Yteipphlhbhahfaa.viewNeighbours
open Go.ChangeShapes Go.WideShapes Go.ChangeAt Go.RowKit Go.Proofs.YteipphlhbhahfaaO Go.Proofs.Yteipphlhbhahfaa.PView Go.Proofs.YteipphlhbhahfaaW.PrintWords
open Go.ChangeMaps (open_string shut_string)
set_option linter.unusedVariables false
theorem own : ownKnob Try.prog.godebug = none := by kernel_rfl
theorem laidOut : laidOutB Try.prog = true := by kernel_rfl
theorem opens26 : Opens Try.prog k26 26 (fun x => (Lit.int .i64 x.f0).wf = true ∧ (Lit.int .i64 x.f1).wf = true) :=
  opens_struct (k := Kd.pair (Kd.int .i64) (Kd.int .i64)) (f := fun x : S26 => (x.f0, x.f1)) Try.underlying26 (by kernel_rfl) (fun y => ⟨⟨y.1, y.2⟩, rfl⟩)
    (fields_cons rfl rfl (opens_int Try.underlying3 (by kernel_rfl)) rfl (fields_last rfl rfl (opens_int Try.underlying3 (by kernel_rfl))))
set_option maxRecDepth 100000 in
theorem lifted (os : Os) (started : os.Started) (H : Type) (enc : TypeId × Value → H) :
    ReturnsInHanded {} Try.checked os 4 .any (Rows.viewNeighboursSpec.pre6 enc Try.prog Try.f4 Rows.viewNeighboursRow.domain false) (Rows.viewNeighboursSpec.post enc Try.prog Try.f4 false true false false) := by
  refine returnsInHanded_of_change_sized (C := Try.checked) own started (by kernel_rfl) Try.func4
    (ChangeSpec.witness6 (enc := enc) (C := Try.checked) false ⟨#[], #[.slice none 0 0], []⟩ 8 (by kernel_rfl) (by kernel_rfl) (by kernel_rfl) (by kernel_rfl)) ?_
  intro W base args ds gs before hval0 hW hcnd hsz0 _
  have hval : ∀ (j : Nat) t v, Try.f4.params[j]? = some t → args[j]? = some v → Value.okWide Try.prog W .any base t v := hval0
  have hW' := hW
  obtain ⟨p, q, hA0, hV, rfl, hfz, hnd⟩ := hW
  have hA : DataW.TrodAll enc Try.prog W 0 (fun _ => true) true Try.f4.params.toList args.toList ds p := hA0
  rw [Try.params4] at hA hval
  obtain ⟨v0, vs0, d0, ds0, p0, q0, hargs, rfl, rfl, h0, r0⟩ := trodAll_cons hA
  obtain ⟨rfl, rfl, rfl⟩ := trodAll_nil r0
  obtain rfl : args = #[v0] := by cases args; simp_all
  obtain ⟨rfl, rfl⟩ := trodVars_none hV
  obtain ⟨A0, n0, c0, rfl⟩ := okWide_slice Try.underlying22 (hval 0 22 v0 rfl rfl)
  obtain ⟨l0, ⟨A0', c0', e0, hc0, hr0⟩, hm0, hw0⟩ := (opens_slice (k := k26) Try.underlying22 (by kernel_rfl) opens26).value h0
  obtain ⟨rfl, rfl, rfl⟩ : A0 = A0' ∧ n0 = l0.length ∧ c0 = c0' := by simpa [Value.cells] using e0
  obtain ⟨k, hk⟩ := ViewPure.ViewNeighbours l0
  refine (lockgatelaw16_ViewNeighbours.calls k A0 c0 l0 true W hr0 hc0 hk).mono fun e W' ⟨he, bel⟩ => ?_
  subst he
  exact ⟨_, rfl, _, _, _, [], _, [], hW', trodAll_mk1 (shut_bool Try.underlying4 _), trodAll_stays laidOut bel (by kernel_rfl) hA, rfl, bel.frame _, fun h => by cases h⟩
theorem over : Rows.viewNeighboursRow.holds Try.pinned (OpenSpec.ofChange Rows.viewNeighboursSpec) :=
  OpenClaim.holds_of_wide 4 Try.f4 rfl rfl rfl rfl rfl rfl rfl ⟨rfl, rfl, rfl, rfl, rfl⟩ rfl rfl rfl rfl rfl (by kernel_rfl) Try.func4 (by kernel_rfl)
    (of_decide_eq_true (by kernel_rfl)) (by unfold Func.isWrapper; first | (rw [if_pos (by decide +kernel)]; kernel_rfl) | (rw [if_neg (by decide +kernel)]; exact ⟨rfl, rfl⟩))
    (fun os started H enc _ => lifted os started H enc)
theorem proved : Rows.ViewNeighboursSaid := over
end Go.Proofs.Yteipphlhbhahfaa.viewNeighbours
