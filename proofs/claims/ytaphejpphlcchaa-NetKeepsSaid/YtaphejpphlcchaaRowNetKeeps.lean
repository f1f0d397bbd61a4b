/- Proved: of whatever net, bytes and place NetKeeps is called with, what is handed in stays and what is answered is new memory. Conditions: none. -/
import Derived.Test.YtaphejpphlcchaaOpen
import Derived.Test.YtaphejpphlcchaaNetKeeps
import Derived.WalkKit
import Derived.ProofKit
import Derived.OpenShut
import Derived.ShutString
import Derived.ChangeOld
import Derived.Below
import Derived.SizedLaws
namespace Go.Proofs.Ytaphejpphlcchaa.netKeeps
open Go.ChangeShapes Go.WideShapes Go.ChangeAt Go.RowKit Go.Proofs.YtaphejpphlcchaaO Go.Proofs.YtaphejpphlcchaaW.PrintWords Go.Proofs.Ytaphejpphlcchaa.PNet Go.Proofs.Ytaphejpphlcchaa.NetKeeps
open Go.ChangeMaps (open_string shut_string)
set_option linter.unusedVariables false
theorem own : ownKnob Try.prog.godebug = none := by kernel_rfl
theorem laidOut : laidOutB Try.prog = true := by kernel_rfl
theorem opens5 : Opens Try.prog (Kd.int .u8) 5 (fun n => (Lit.int .u8 n).wf = true) := opens_int Try.underlying5 (by kernel_rfl)
def ok29 (x : S29) : Prop := (Lit.int .i64 x.f0).wf = true ∧ (Lit.int .i64 x.f1).wf = true ∧ (x.f2.length ≤ maxLen ∧ ∀ n ∈ x.f2, (Lit.int .u8 n).wf = true)
theorem opens29 : Opens Try.prog k29 29 ok29 :=
  opens_struct (k := Kd.pair (Kd.int .i64) (Kd.pair (Kd.int .i64) (Kd.slice 5 (Kd.int .u8)))) (f := fun x : S29 => (x.f0, x.f1, x.f2)) Try.underlying29 (by kernel_rfl) (fun y => ⟨⟨y.1, y.2.1, y.2.2⟩, rfl⟩)
    (fields_cons rfl rfl (opens_int Try.underlying3 (by kernel_rfl)) rfl (fields_cons rfl rfl (opens_int Try.underlying3 (by kernel_rfl)) rfl (fields_last rfl rfl (opens_slice Try.underlying25 (by kernel_rfl) opens5))))
abbrev kN : Kd (Int × List S29) := Kd.iso (Kd.pair (Kd.int .i64) (Kd.slice 29 k29)) (fun x => x)
theorem opens24 : Opens Try.prog kN 24 (fun x => (Lit.int .i64 x.1).wf = true ∧ (x.2.length ≤ maxLen ∧ ∀ v ∈ x.2, ok29 v)) :=
  opens_struct (k := Kd.pair (Kd.int .i64) (Kd.slice 29 k29)) (f := fun x : Int × List S29 => x) Try.underlying24 (by kernel_rfl) (fun y => ⟨y, rfl⟩)
    (fields_cons rfl rfl (opens_int Try.underlying3 (by kernel_rfl)) rfl (fields_last rfl rfl (opens_slice Try.underlying22 (by kernel_rfl) opens29)))
theorem kN_open {w : World} {x : Int × List S29} {cs : List Value} (h : kN.K w x cs) : ∃ A c, cs = [.int .i64 x.1, .slice A x.2.length c] ∧ x.2.length ≤ c ∧ Kd.C k29 w A x.2.length x.2 := by
  obtain ⟨_, _, rfl, rfl, ⟨A, c, rfl, l, g⟩⟩ := h
  exact ⟨A, c, rfl, l, g⟩
set_option maxRecDepth 100000 in
theorem lifted (os : Os) (started : os.Started) (H : Type) (enc : TypeId × Value → H) :
    ReturnsInHanded {} Try.checked os 3 .any (Rows.netKeepsSpec.pre6 enc Try.prog Try.f3 Rows.netKeepsRow.domain false) (Rows.netKeepsSpec.post enc Try.prog Try.f3 false true false false) := by
  refine returnsInHanded_of_change_sized (C := Try.checked) own started (by kernel_rfl) Try.func3
    (ChangeSpec.witness6 (enc := enc) (C := Try.checked) false ⟨#[], #[.agg #[.int .i64 0, .slice none 0 0], .slice none 0 0, .int .i64 0], []⟩ 8 (by kernel_rfl) (by kernel_rfl) (by kernel_rfl) (by kernel_rfl)) ?_
  intro W base args ds gs before hval0 hW hcnd hsz0 _
  have hsz : (DataW.weightsEach Try.prog (Try.f3.params.toList ++ Rows.netKeepsSpec.plain.varTypes Try.prog) (ds ++ gs)).all (· ≤ reachBytes) = true := hsz0
  have hval : ∀ (j : Nat) t v, Try.f3.params[j]? = some t → args[j]? = some v → Value.okWide Try.prog W .any base t v := hval0
  have hW' := hW
  obtain ⟨p, q, hA0, hV, rfl, hfz, hnd⟩ := hW
  have hA : DataW.TrodAll enc Try.prog W 0 (fun _ => true) true Try.f3.params.toList args.toList ds p := hA0
  rw [Try.params3] at hA hval hsz
  obtain ⟨v0, vs0, d0, ds0, p0, q0, hargs, rfl, rfl, h0, r0⟩ := trodAll_cons hA
  obtain ⟨v1, vs1, d1, ds1, p1, q1, rfl, rfl, rfl, h1, r1⟩ := trodAll_cons r0
  obtain ⟨v2, vs2, d2, ds2, p2, q2, rfl, rfl, rfl, h2, r2⟩ := trodAll_cons r1
  obtain ⟨rfl, rfl, rfl⟩ := trodAll_nil r2
  obtain rfl : args = #[v0, v1, v2] := by cases args; simp_all
  obtain ⟨rfl, rfl⟩ := trodVars_none hV
  obtain ⟨cs0, rfl, hs0⟩ := okWide_struct Try.underlying24 (hval 0 24 v0 rfl rfl)
  obtain ⟨x0, hK0, hw0⟩ := (opens24).value h0
  obtain ⟨A1, n1, c1, rfl⟩ := okWide_slice Try.underlying25 (hval 1 25 v1 rfl rfl)
  obtain ⟨l1, ⟨A1', c1', e1, hc1, hr1⟩, hm1, hw1⟩ := (opens_slice Try.underlying25 (by kernel_rfl) opens5).value h1
  obtain ⟨rfl, rfl, rfl⟩ : A1 = A1' ∧ n1 = l1.length ∧ c1 = c1' := by simpa [Value.cells] using e1
  obtain ⟨a2, rfl, e2, _, w2⟩ := open_int Try.underlying3 (hval 2 3 v2 rfl rfl) h2
  obtain ⟨A0, c0, hcs0, hc0, hr0⟩ := kN_open hK0
  obtain rfl : cs0 = #[.int .i64 x0.1, .slice A0 x0.2.length c0] := Array.ext' hcs0
  refine (netKeeps_calls x0.1 A0 c0 x0.2 A1 c1 l1 a2 W hr0 hc0 hr1 hc1).mono fun e W' ⟨he, bel⟩ => ?_
  subst he
  exact ⟨_, rfl, _, _, _, [], _, [], hW', trodAll_mk1 (shut_bool Try.underlying4 _), trodAll_stays laidOut bel (by kernel_rfl) hA, rfl, bel.frame _, fun h => by cases h⟩
theorem over : Rows.netKeepsRow.holds Try.pinned (OpenSpec.ofChange Rows.netKeepsSpec) :=
  OpenClaim.holds_of_wide 3 Try.f3 rfl rfl rfl rfl rfl rfl rfl ⟨rfl, rfl, rfl, rfl, rfl⟩ rfl rfl rfl rfl rfl (by kernel_rfl) Try.func3 (by kernel_rfl)
    (of_decide_eq_true (by kernel_rfl)) (by unfold Func.isWrapper; first | (rw [if_pos (by decide +kernel)]; kernel_rfl) | (rw [if_neg (by decide +kernel)]; exact ⟨rfl, rfl⟩))
    (fun os started H enc _ => lifted os started H enc)
theorem proved : Rows.NetKeepsSaid := over
end Go.Proofs.Ytaphejpphlcchaa.netKeeps
