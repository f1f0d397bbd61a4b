/- Proved: of whatever acts WalActs is called with, the log holds and shows what the document says. Conditions: none. -/
import Derived.Test.YtdbkedipfpepbaaOpen
import Derived.Test.YtdbkedipfpepbaaWalActs
import Derived.WalkKit
import Derived.ProofKit
import Derived.OpenShut
import Derived.ShutString
import Derived.ChangeOld
import Derived.Below
import Derived.SizedLaws
namespace Go.Proofs.Ytdbkedipfpepbaa.walActs
open Go.ChangeShapes Go.WideShapes Go.ChangeAt Go.RowKit Go.Proofs.YtdbkedipfpepbaaO Go.Proofs.YtdbkedipfpepbaaW.PrintWords Go.Proofs.Ytdbkedipfpepbaa.PWal
open Go.ChangeMaps (open_string shut_string)
set_option linter.unusedVariables false
theorem own : ownKnob Try.prog.godebug = none := by kernel_rfl
theorem laidOut : laidOutB Try.prog = true := by kernel_rfl
theorem opens5 : Opens Try.prog (Kd.int .u8) 5 (fun n => (Lit.int .u8 n).wf = true) := opens_int Try.underlying5 (by kernel_rfl)
theorem byt {l : List Int} (h : ∀ n ∈ l, (Lit.int .u8 n).wf = true) : Go.FrameMath.Byt l := by
  intro n hn
  have h0 := h n hn
  have a : 0 ≤ n ∧ n ≤ 255 := by simpa [Lit.wf, IntKind.min, IntKind.max, IntKind.signed, IntKind.bits] using h0
  exact ⟨a.1, by omega⟩
def ok36 (x : S36) : Prop := (Lit.int .u8 x.f0).wf = true ∧ (x.f1.length ≤ maxLen ∧ ∀ n ∈ x.f1, (Lit.int .u8 n).wf = true) ∧ (Lit.int .i64 x.f2).wf = true ∧ (Lit.int .i64 x.f3).wf = true
theorem opens36 : Opens Try.prog k36 36 ok36 :=
  opens_struct (k := Kd.pair (Kd.int .u8) (Kd.pair (Kd.slice 5 (Kd.int .u8)) (Kd.pair (Kd.int .i64) (Kd.int .i64)))) (f := fun x : S36 => (x.f0, x.f1, x.f2, x.f3)) Try.underlying36 (by kernel_rfl) (fun y => ⟨⟨y.1, y.2.1, y.2.2.1, y.2.2.2⟩, rfl⟩)
    (fields_cons rfl rfl (opens_int Try.underlying5 (by kernel_rfl)) rfl (fields_cons rfl rfl (opens_slice Try.underlying28 (by kernel_rfl) opens5) rfl
      (fields_cons rfl rfl (opens_int Try.underlying3 (by kernel_rfl)) rfl (fields_last rfl rfl (opens_int Try.underlying3 (by kernel_rfl))))))
theorem acts {l : List S36} (h : ∀ x ∈ l, ok36 x) : ∀ x ∈ l, 0 ≤ x.f0 ∧ x.f0 ≤ 255 ∧ Go.FrameMath.Byt x.f1 := by
  intro x hx
  obtain ⟨h0, h1, _⟩ := h x hx
  have a : 0 ≤ x.f0 ∧ x.f0 ≤ 255 := by simpa [Lit.wf, IntKind.min, IntKind.max, IntKind.signed, IntKind.bits] using h0
  exact ⟨a.1, a.2, byt h1.2⟩
set_option maxRecDepth 100000 in
theorem lifted (os : Os) (started : os.Started) (H : Type) (enc : TypeId × Value → H) :
    ReturnsInHanded {} Try.checked os 3 .any (Rows.walActsSpec.pre6 enc Try.prog Try.f3 Rows.walActsRow.domain false) (Rows.walActsSpec.post enc Try.prog Try.f3 false true false false) := by
  refine returnsInHanded_of_change_sized (C := Try.checked) own started (by kernel_rfl) Try.func3
    (ChangeSpec.witness6 (enc := enc) (C := Try.checked) false ⟨#[], #[.slice none 0 0], []⟩ 8 (by kernel_rfl) (by kernel_rfl) (by kernel_rfl) (by kernel_rfl)) ?_
  intro W base args ds gs before hval0 hW hcnd hsz0 _
  have hsz : (DataW.weightsEach Try.prog (Try.f3.params.toList ++ Rows.walActsSpec.plain.varTypes Try.prog) (ds ++ gs)).all (· ≤ reachBytes) = true := hsz0
  have hval : ∀ (j : Nat) t v, Try.f3.params[j]? = some t → args[j]? = some v → Value.okWide Try.prog W .any base t v := hval0
  have hW' := hW
  obtain ⟨p, q, hA0, hV, rfl, hfz, hnd⟩ := hW
  have hA : DataW.TrodAll enc Try.prog W 0 (fun _ => true) true Try.f3.params.toList args.toList ds p := hA0
  rw [Try.params3] at hA hval hsz
  obtain ⟨v0, vs0, d0, ds0, p0, q0, hargs, rfl, rfl, h0, r0⟩ := trodAll_cons hA
  obtain ⟨rfl, rfl, rfl⟩ := trodAll_nil r0
  obtain rfl : args = #[v0] := by cases args; simp_all
  obtain ⟨rfl, rfl⟩ := trodVars_none hV
  obtain ⟨A0, n0, c0, rfl⟩ := okWide_slice Try.underlying22 (hval 0 22 v0 rfl rfl)
  obtain ⟨l0, ⟨A0', c0', e0, hc0, hr0⟩, hm0, hw0⟩ := (opens_slice Try.underlying22 (by kernel_rfl) opens36).value h0
  obtain ⟨rfl, rfl, rfl⟩ : A0 = A0' ∧ n0 = l0.length ∧ c0 = c0' := by simpa [Value.cells] using e0
  refine (WalActs_calls A0 c0 l0 W hr0 hc0 (acts hw0)).mono fun e W' ⟨he, bel⟩ => ?_
  subst he
  exact ⟨_, rfl, _, _, _, [], _, [], hW', trodAll_mk1 (shut_bool Try.underlying4 _), trodAll_stays laidOut bel (by kernel_rfl) hA, rfl, bel.frame _, fun h => by cases h⟩
theorem over : Rows.walActsRow.holds Try.pinned (OpenSpec.ofChange Rows.walActsSpec) :=
  OpenClaim.holds_of_wide 3 Try.f3 rfl rfl rfl rfl rfl rfl rfl ⟨rfl, rfl, rfl, rfl, rfl⟩ rfl rfl rfl rfl rfl (by kernel_rfl) Try.func3 (by kernel_rfl)
    (of_decide_eq_true (by kernel_rfl)) (by unfold Func.isWrapper; first | (rw [if_pos (by decide +kernel)]; kernel_rfl) | (rw [if_neg (by decide +kernel)]; exact ⟨rfl, rfl⟩))
    (fun os started H enc _ => lifted os started H enc)
theorem proved : Rows.WalActsSaid := over
end Go.Proofs.Ytdbkedipfpepbaa.walActs
