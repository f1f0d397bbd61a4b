/- Proved: of whatever chain, member and numbers ViewAlls is called with, whether the chain is right, the member's place, who is ahead and behind, and the head are as the document says. Conditions: none. -/
import Derived.Test.YteipphlhbhahfaaOpen
import Derived.Test.YteipphlhbhahfaaViewAlls
import Derived.WalkKit
import Derived.ProofKit
import Derived.OpenShut
import Derived.ShutString
import Derived.ChangeOld
import Derived.Below
import Derived.SizedLaws
namespace Go.Proofs.Yteipphlhbhahfaa.viewAlls
open Go.ChangeShapes Go.WideShapes Go.ChangeAt Go.RowKit Go.Proofs.YteipphlhbhahfaaO Go.Proofs.YteipphlhbhahfaaW.PrintWords Go.Proofs.Yteipphlhbhahfaa.PView Go.Proofs.Yteipphlhbhahfaa.ViewAlls
open Go.ChangeMaps (open_string shut_string)
set_option linter.unusedVariables false
theorem own : ownKnob Try.prog.godebug = none := by kernel_rfl
theorem laidOut : laidOutB Try.prog = true := by kernel_rfl
theorem opens26 : Opens Try.prog k26 26 (fun x => (Lit.int .i64 x.f0).wf = true ∧ (Lit.int .i64 x.f1).wf = true) :=
  opens_struct (k := Kd.pair (Kd.int .i64) (Kd.int .i64)) (f := fun x : S26 => (x.f0, x.f1)) Try.underlying26 (by kernel_rfl) (fun y => ⟨⟨y.1, y.2⟩, rfl⟩)
    (fields_cons rfl rfl (opens_int Try.underlying3 (by kernel_rfl)) rfl (fields_last rfl rfl (opens_int Try.underlying3 (by kernel_rfl))))

set_option maxRecDepth 100000 in
theorem lifted (os : Os) (started : os.Started) (H : Type) (enc : TypeId × Value → H) :
    ReturnsInHanded {} Try.checked os 6 .any (Rows.viewAllsSpec.pre6 enc Try.prog Try.f6 Rows.viewAllsRow.domain false) (Rows.viewAllsSpec.post enc Try.prog Try.f6 false true false false) := by
  refine returnsInHanded_of_change_sized (C := Try.checked) own started (by kernel_rfl) Try.func6
    (ChangeSpec.witness6 (enc := enc) (C := Try.checked) false ⟨#[], #[.slice none 0 0, .agg #[.int .i64 0, .int .i64 0], .int .i64 0, .int .i64 0], []⟩ 8 (by kernel_rfl) (by kernel_rfl) (by kernel_rfl) (by kernel_rfl)) ?_
  intro W base args ds gs before hval0 hW hcnd hsz0 _
  have hsz : (DataW.weightsEach Try.prog (Try.f6.params.toList ++ Rows.viewAllsSpec.plain.varTypes Try.prog) (ds ++ gs)).all (· ≤ reachBytes) = true := hsz0
  have hval : ∀ (j : Nat) t v, Try.f6.params[j]? = some t → args[j]? = some v → Value.okWide Try.prog W .any base t v := hval0
  have hW' := hW
  obtain ⟨p, q, hA0, hV, rfl, hfz, hnd⟩ := hW
  have hA : DataW.TrodAll enc Try.prog W 0 (fun _ => true) true Try.f6.params.toList args.toList ds p := hA0
  rw [Try.params6] at hA hval hsz
  obtain ⟨v0, vs0, d0, ds0, p0, q0, hargs, rfl, rfl, h0, r0⟩ := trodAll_cons hA
  obtain ⟨v1, vs1, d1, ds1, p1, q1, rfl, rfl, rfl, h1, r1⟩ := trodAll_cons r0
  obtain ⟨v2, vs2, d2, ds2, p2, q2, rfl, rfl, rfl, h2, r2⟩ := trodAll_cons r1
  obtain ⟨v3, vs3, d3, ds3, p3, q3, rfl, rfl, rfl, h3, r3⟩ := trodAll_cons r2
  obtain ⟨rfl, rfl, rfl⟩ := trodAll_nil r3
  obtain rfl : args = #[v0, v1, v2, v3] := by cases args; simp_all
  obtain ⟨rfl, rfl⟩ := trodVars_none hV
  obtain ⟨A0, n0, c0, rfl⟩ := okWide_slice Try.underlying22 (hval 0 22 v0 rfl rfl)
  obtain ⟨l0, ⟨A0', c0', e0, hc0, hr0⟩, hm0, hw0⟩ := (opens_slice Try.underlying22 (by kernel_rfl) opens26).value h0
  obtain ⟨rfl, rfl, rfl⟩ : A0 = A0' ∧ n0 = l0.length ∧ c0 = c0' := by simpa [Value.cells] using e0
  obtain ⟨cs1, rfl, hs1⟩ := okWide_struct Try.underlying26 (hval 1 26 v1 rfl rfl)
  obtain ⟨x1, hK1, hw1⟩ := (opens26).value h1
  obtain ⟨a2, rfl, e2, _, w2⟩ := open_int Try.underlying3 (hval 2 3 v2 rfl rfl) h2
  obtain ⟨a3, rfl, e3, _, w3⟩ := open_int Try.underlying3 (hval 3 3 v3 rfl rfl) h3
  obtain rfl : cs1 = #[.int .i64 x1.f0, .int .i64 x1.f1] := Array.ext' (k26_open hK1)
  obtain ⟨k, hk⟩ := alls l0 x1.f0 x1.f1 a2 a3
  refine (lockgatelaw16_ViewAlls.calls k A0 c0 l0 x1.f0 x1.f1 a2 a3 true W hr0 hc0 hk ⟨rfl⟩).mono fun e W' ⟨he, bel⟩ => ?_
  subst he
  exact ⟨_, rfl, _, _, _, [], _, [], hW', trodAll_mk1 (shut_bool Try.underlying4 _), trodAll_stays laidOut bel (by kernel_rfl) hA, rfl, bel.frame _, fun h => by cases h⟩
theorem over : Rows.viewAllsRow.holds Try.pinned (OpenSpec.ofChange Rows.viewAllsSpec) :=
  OpenClaim.holds_of_wide 6 Try.f6 rfl rfl rfl rfl rfl rfl rfl ⟨rfl, rfl, rfl, rfl, rfl⟩ rfl rfl rfl rfl rfl (by kernel_rfl) Try.func6 (by kernel_rfl)
    (of_decide_eq_true (by kernel_rfl)) (by unfold Func.isWrapper; first | (rw [if_pos (by decide +kernel)]; kernel_rfl) | (rw [if_neg (by decide +kernel)]; exact ⟨rfl, rfl⟩))
    (fun os started H enc _ => lifted os started H enc)
theorem proved : Rows.ViewAllsSaid := over
end Go.Proofs.Yteipphlhbhahfaa.viewAlls
