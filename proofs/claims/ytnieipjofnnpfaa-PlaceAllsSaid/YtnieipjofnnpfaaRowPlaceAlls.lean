/- Proved: of whatever epoch, chains, number and member PlaceAlls is called with, the program's chain, both and lead are the document's. Conditions: none. -/
import Derived.Test.YtnieipjofnnpfaaOpen
import Derived.Test.YtnieipjofnnpfaaPlacePure
import Derived.WalkKit
import Derived.ProofKit
import Derived.OpenShut
import Derived.ShutString
import Derived.ChangeOld
import Derived.Below
import Derived.SizedLaws
namespace Go.Proofs.Ytnieipjofnnpfaa.placeAlls
open Go.ChangeShapes Go.WideShapes Go.ChangeAt Go.RowKit Go.Proofs.YtnieipjofnnpfaaO Go.Proofs.YtnieipjofnnpfaaW.PrintWords Go.Proofs.Ytnieipjofnnpfaa.PPlace Go.Proofs.Ytnieipjofnnpfaa.PlacePure
open Go.ChangeMaps (open_string shut_string)
set_option linter.unusedVariables false
theorem own : ownKnob Try.prog.godebug = none := by kernel_rfl
theorem laidOut : laidOutB Try.prog = true := by kernel_rfl
theorem opens24 : Opens Try.prog k24 24 (fun x => (Lit.int .i64 x.f0).wf = true ∧ (Lit.int .i64 x.f1).wf = true) :=
  opens_struct (k := Kd.pair (Kd.int .i64) (Kd.int .i64)) (f := fun x : S24 => (x.f0, x.f1)) Try.underlying24 (by kernel_rfl) (fun y => ⟨⟨y.1, y.2⟩, rfl⟩)
    (fields_cons rfl rfl (opens_int Try.underlying3 (by kernel_rfl)) rfl (fields_last rfl rfl (opens_int Try.underlying3 (by kernel_rfl))))
theorem wf_hi (n : Int) (h : (Lit.int .i64 n).wf = true) : n ≤ 9223372036854775807 := by
  simp [Lit.wf, IntKind.min, IntKind.max, IntKind.bits, IntKind.signed] at h; omega
theorem wf_u8 (n : Int) (h : (Lit.int .u8 n).wf = true) : 0 ≤ n ∧ n ≤ 255 := by
  simp [Lit.wf, IntKind.min, IntKind.max, IntKind.bits, IntKind.signed] at h; omega
set_option maxRecDepth 100000 in
theorem lifted (os : Os) (started : os.Started) (H : Type) (enc : TypeId × Value → H) :
    ReturnsInHanded {} Try.checked os 3 .any (Rows.placeAllsSpec.pre6 enc Try.prog Try.f3 Rows.placeAllsRow.domain false) (Rows.placeAllsSpec.post enc Try.prog Try.f3 false true false false) := by
  refine returnsInHanded_of_change_sized (C := Try.checked) own started (by kernel_rfl) Try.func3
    (ChangeSpec.witness6 (enc := enc) (C := Try.checked) false ⟨#[], #[.int .i64 0, .slice none 0 0, .slice none 0 0, .int .i64 0, .agg #[.int .i64 0, .int .i64 0]], []⟩ 8 (by kernel_rfl) (by kernel_rfl) (by kernel_rfl) (by kernel_rfl)) ?_
  intro W base args ds gs before hval0 hW hcnd hsz0 _
  have hsz : (DataW.weightsEach Try.prog (Try.f3.params.toList ++ Rows.placeAllsSpec.plain.varTypes Try.prog) (ds ++ gs)).all (· ≤ reachBytes) = true := hsz0
  have hval : ∀ (j : Nat) t v, Try.f3.params[j]? = some t → args[j]? = some v → Value.okWide Try.prog W .any base t v := hval0
  have hW' := hW
  obtain ⟨p, q, hA0, hV, rfl, hfz, hnd⟩ := hW
  have hA : DataW.TrodAll enc Try.prog W 0 (fun _ => true) true Try.f3.params.toList args.toList ds p := hA0
  rw [Try.params3] at hA hval hsz
  obtain ⟨v0, vs0, d0, ds0, p0, q0, hargs, rfl, rfl, h0, r0⟩ := trodAll_cons hA
  obtain ⟨v1, vs1, d1, ds1, p1, q1, rfl, rfl, rfl, h1, r1⟩ := trodAll_cons r0
  obtain ⟨v2, vs2, d2, ds2, p2, q2, rfl, rfl, rfl, h2, r2⟩ := trodAll_cons r1
  obtain ⟨v3, vs3, d3, ds3, p3, q3, rfl, rfl, rfl, h3, r3⟩ := trodAll_cons r2
  obtain ⟨v4, vs4, d4, ds4, p4, q4, rfl, rfl, rfl, h4, r4⟩ := trodAll_cons r3
  obtain ⟨rfl, rfl, rfl⟩ := trodAll_nil r4
  obtain rfl : args = #[v0, v1, v2, v3, v4] := by cases args; simp_all
  obtain ⟨rfl, rfl⟩ := trodVars_none hV
  obtain ⟨a0, rfl, e0, _, w0⟩ := open_int Try.underlying3 (hval 0 3 v0 rfl rfl) h0
  obtain ⟨A1, n1, c1, rfl⟩ := okWide_slice Try.underlying22 (hval 1 22 v1 rfl rfl)
  obtain ⟨l1, ⟨A1', c1', e1, hc1, hr1⟩, hm1, hw1⟩ := (opens_slice Try.underlying22 (by kernel_rfl) opens24).value h1
  obtain ⟨rfl, rfl, rfl⟩ : A1 = A1' ∧ n1 = l1.length ∧ c1 = c1' := by simpa [Value.cells] using e1
  obtain ⟨A2, n2, c2, rfl⟩ := okWide_slice Try.underlying22 (hval 2 22 v2 rfl rfl)
  obtain ⟨l2, ⟨A2', c2', e2, hc2, hr2⟩, hm2, hw2⟩ := (opens_slice Try.underlying22 (by kernel_rfl) opens24).value h2
  obtain ⟨rfl, rfl, rfl⟩ : A2 = A2' ∧ n2 = l2.length ∧ c2 = c2' := by simpa [Value.cells] using e2
  obtain ⟨a3, rfl, e3, _, w3⟩ := open_int Try.underlying3 (hval 3 3 v3 rfl rfl) h3
  obtain ⟨cs4, rfl, hs4⟩ := okWide_struct Try.underlying24 (hval 4 24 v4 rfl rfl)
  obtain ⟨x4, hK4, hw4⟩ := (opens24).value h4
  obtain rfl : cs4 = #[.int .i64 x4.f0, .int .i64 x4.f1] := Array.ext' (k24_open hK4)
  obtain ⟨k, hk⟩ := PlaceAlls a0 (wf_hi _ w0) l1 l2 a3 x4
  refine (lockgatelaw17_PlaceAlls.calls k a0 A1 c1 l1 A2 c2 l2 a3 x4.f0 x4.f1 true W hr1 hc1 hr2 hc2 hk).mono fun e W' ⟨he, bel⟩ => ?_
  subst he
  exact ⟨_, rfl, _, _, _, [], _, [], hW', trodAll_mk1 (shut_bool Try.underlying4 _), trodAll_stays laidOut bel (by kernel_rfl) hA, rfl, bel.frame _, fun h => by cases h⟩
theorem over : Rows.placeAllsRow.holds Try.pinned (OpenSpec.ofChange Rows.placeAllsSpec) :=
  OpenClaim.holds_of_wide 3 Try.f3 rfl rfl rfl rfl rfl rfl rfl ⟨rfl, rfl, rfl, rfl, rfl⟩ rfl rfl rfl rfl rfl (by kernel_rfl) Try.func3 (by kernel_rfl)
    (of_decide_eq_true (by kernel_rfl)) (by unfold Func.isWrapper; first | (rw [if_pos (by decide +kernel)]; kernel_rfl) | (rw [if_neg (by decide +kernel)]; exact ⟨rfl, rfl⟩))
    (fun os started H enc _ => lifted os started H enc)
theorem proved : Rows.PlaceAllsSaid := over
end Go.Proofs.Ytnieipjofnnpfaa.placeAlls
