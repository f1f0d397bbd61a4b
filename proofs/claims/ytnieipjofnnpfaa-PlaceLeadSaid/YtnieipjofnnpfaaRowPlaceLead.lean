/- Proved: of whatever chain and number PlaceLead is called with, the member that was named stands first and the others keep their order. Conditions: none. -/
import Derived.Test.YtnieipjofnnpfaaOpen
import Derived.Test.YtnieipjofnnpfaaPlacePure
import Derived.WalkKit
import Derived.ProofKit
import Derived.OpenShut
import Derived.ShutString
import Derived.ChangeOld
import Derived.Below
import Derived.SizedLaws
namespace Go.Proofs.Ytnieipjofnnpfaa.placeLead
open Go.ChangeShapes Go.WideShapes Go.ChangeAt Go.RowKit Go.Proofs.YtnieipjofnnpfaaO Go.Proofs.YtnieipjofnnpfaaW.PrintWords Go.Proofs.Ytnieipjofnnpfaa.PPlace Go.Proofs.Ytnieipjofnnpfaa.PlacePure
open Go.ChangeMaps (open_string shut_string)
set_option linter.unusedVariables false
theorem own : ownKnob Try.prog.godebug = none := by kernel_rfl
theorem laidOut : laidOutB Try.prog = true := by kernel_rfl
theorem opens24 : Opens Try.prog k24 24 (fun x => (Lit.int .i64 x.f0).wf = true ∧ (Lit.int .i64 x.f1).wf = true) :=
  opens_struct (k := Kd.pair (Kd.int .i64) (Kd.int .i64)) (f := fun x : S24 => (x.f0, x.f1)) Try.underlying24 (by kernel_rfl) (fun y => ⟨⟨y.1, y.2⟩, rfl⟩)
    (fields_cons rfl rfl (opens_int Try.underlying3 (by kernel_rfl)) rfl (fields_last rfl rfl (opens_int Try.underlying3 (by kernel_rfl))))
theorem wf_hi (n : Int) (h : (Lit.int .i64 n).wf = true) : n ≤ 9223372036854775807 := by
  simp [Lit.wf, IntKind.min, IntKind.max, IntKind.bits, IntKind.signed] at h; omega
theorem wf_u8 (n : Int) (h : (Lit.int .u8 n).wf = true) : 0 ≤ n ∧ n ≤ 255 := by
  simp [Lit.wf, IntKind.min, IntKind.max, IntKind.bits, IntKind.signed] at h; omega
set_option maxRecDepth 100000 in
theorem lifted (os : Os) (started : os.Started) (H : Type) (enc : TypeId × Value → H) :
    ReturnsInHanded {} Try.checked os 5 .any (Rows.placeLeadSpec.pre6 enc Try.prog Try.f5 Rows.placeLeadRow.domain false) (Rows.placeLeadSpec.post enc Try.prog Try.f5 false true false false) := by
  refine returnsInHanded_of_change_sized (C := Try.checked) own started (by kernel_rfl) Try.func5
    (ChangeSpec.witness6 (enc := enc) (C := Try.checked) false ⟨#[], #[.slice none 0 0, .int .u8 0], []⟩ 8 (by kernel_rfl) (by kernel_rfl) (by kernel_rfl) (by kernel_rfl)) ?_
  intro W base args ds gs before hval0 hW hcnd hsz0 _
  have hsz : (DataW.weightsEach Try.prog (Try.f5.params.toList ++ Rows.placeLeadSpec.plain.varTypes Try.prog) (ds ++ gs)).all (· ≤ reachBytes) = true := hsz0
  have hval : ∀ (j : Nat) t v, Try.f5.params[j]? = some t → args[j]? = some v → Value.okWide Try.prog W .any base t v := hval0
  have hW' := hW
  obtain ⟨p, q, hA0, hV, rfl, hfz, hnd⟩ := hW
  have hA : DataW.TrodAll enc Try.prog W 0 (fun _ => true) true Try.f5.params.toList args.toList ds p := hA0
  rw [Try.params5] at hA hval hsz
  obtain ⟨v0, vs0, d0, ds0, p0, q0, hargs, rfl, rfl, h0, r0⟩ := trodAll_cons hA
  obtain ⟨v1, vs1, d1, ds1, p1, q1, rfl, rfl, rfl, h1, r1⟩ := trodAll_cons r0
  obtain ⟨rfl, rfl, rfl⟩ := trodAll_nil r1
  obtain rfl : args = #[v0, v1] := by cases args; simp_all
  obtain ⟨rfl, rfl⟩ := trodVars_none hV
  obtain ⟨A0, n0, c0, rfl⟩ := okWide_slice Try.underlying22 (hval 0 22 v0 rfl rfl)
  obtain ⟨l0, ⟨A0', c0', e0, hc0, hr0⟩, hm0, hw0⟩ := (opens_slice Try.underlying22 (by kernel_rfl) opens24).value h0
  obtain ⟨rfl, rfl, rfl⟩ : A0 = A0' ∧ n0 = l0.length ∧ c0 = c0' := by simpa [Value.cells] using e0
  obtain ⟨a1, rfl, e1, _, w1⟩ := open_int Try.underlying5 (hval 1 5 v1 rfl rfl) h1
  obtain ⟨k, hk⟩ := PlaceLead l0 a1 (wf_u8 _ w1).1 (wf_u8 _ w1).2
  refine (lockgatelaw17_PlaceLead.calls k A0 c0 l0 a1 true W hr0 hc0 hk).mono fun e W' ⟨he, bel⟩ => ?_
  subst he
  exact ⟨_, rfl, _, _, _, [], _, [], hW', trodAll_mk1 (shut_bool Try.underlying4 _), trodAll_stays laidOut bel (by kernel_rfl) hA, rfl, bel.frame _, fun h => by cases h⟩
theorem over : Rows.placeLeadRow.holds Try.pinned (OpenSpec.ofChange Rows.placeLeadSpec) :=
  OpenClaim.holds_of_wide 5 Try.f5 rfl rfl rfl rfl rfl rfl rfl ⟨rfl, rfl, rfl, rfl, rfl⟩ rfl rfl rfl rfl rfl (by kernel_rfl) Try.func5 (by kernel_rfl)
    (of_decide_eq_true (by kernel_rfl)) (by unfold Func.isWrapper; first | (rw [if_pos (by decide +kernel)]; kernel_rfl) | (rw [if_neg (by decide +kernel)]; exact ⟨rfl, rfl⟩))
    (fun os started H enc _ => lifted os started H enc)
theorem proved : Rows.PlaceLeadSaid := over
end Go.Proofs.Ytnieipjofnnpfaa.placeLead
