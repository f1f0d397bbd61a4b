/-
  No cell of these rows narrows 'for every input' (looked for: loops, veiled, ifaces, maps, wideKeys, modest, calm, conditions, laid).
  DERIVED. THE GIVEN ROWS OF THIS SEAT. 5 by the template 'for every input the law returns true; each argument reads behind the call as it read before'; 0 by the template 'total and deterministic' (their statements: YtcoiiakjmollbaaTotals.lean).
  GIVEN WITH THE SEED: the statements are not yours to turn. If you find one false, say at which input.
  Laid BY PROGRAM, IN A SANDBOX (cutbox-rows.mjs): the forced cells as the released guide's own fill.sh prints them over the translation ad3a2dd565d29d46… (all of the seat's roots in one cut). By AI agents, Wed Nov 11 2026. No macro, syntax, notation, axiom, sorry.
-/
import Derived.Test.YtcoiiakjmollbaaChecked
import GoSem.Claim
import GoSem.ClaimJoined
import GoSem.ClaimMapViews
import Derived.JoinedTies
import Derived.KernelRfl
namespace Go.Proofs.Ytcoiiakjmollbaa
/- THE CELL 'sum', in the pinned program and in every row, IS THE sha256 OF THE DUMP (.gsa) THAT YtcoiiakjmollbaaProg.lean LOADS. Nothing in Lean hashes anything: it is a label: what it is worth is what the hold of that sum in a sandbox is worth. -/
noncomputable def Try.pinned : Pinned := { name := "ytcoiiakjmollbaa", sum := "ad3a2dd565d29d4677edc815274b4fc66546552ea45cd0f410e2a7efd03c14d9", checked := Try.checked }
namespace Rows
def none {H : Type} : Left H := { results := [], args := [] }

/-- 'lockgatelaw01.VerParts': WHATEVER THE INPUT: true; the input reads as it did. -/
def verPartsSpec : ChangeSpec := { name := "verParts", fn := fun _ => fun
  | [d1, d2] => { results := [.lit (.bool true)], args := [d1, d2] }
  | _ => none }
def verPartsRow : OpenClaim := { program := "ytcoiiakjmollbaa", sum := "ad3a2dd565d29d4677edc815274b4fc66546552ea45cd0f410e2a7efd03c14d9", func := "lockgate/lockgatelaw01.VerParts", spec := "verParts", apart := false }
def VerPartsSaid : Prop := verPartsRow.holds Try.pinned (OpenSpec.ofChange verPartsSpec)

/-- ITS FALSE NEIGHBOUR: 'it returns false'. Refute it at one input. -/
def verPartsWrong : ChangeSpec := { name := "verParts", fn := fun _ => fun
  | [d1, d2] => { results := [.lit (.bool false)], args := [d1, d2] }
  | _ => none }
def VerPartsWrongFalsely : Prop := verPartsRow.holds Try.pinned (OpenSpec.ofChange verPartsWrong)

/-- 'lockgatelaw01.VerRights': WHATEVER THE INPUT: true; the input reads as it did. -/
def verRightsSpec : ChangeSpec := { name := "verRights", fn := fun _ => fun
  | [d1, d2] => { results := [.lit (.bool true)], args := [d1, d2] }
  | _ => none }
def verRightsRow : OpenClaim := { program := "ytcoiiakjmollbaa", sum := "ad3a2dd565d29d4677edc815274b4fc66546552ea45cd0f410e2a7efd03c14d9", func := "lockgate/lockgatelaw01.VerRights", spec := "verRights", apart := false }
def VerRightsSaid : Prop := verRightsRow.holds Try.pinned (OpenSpec.ofChange verRightsSpec)

/-- ITS FALSE NEIGHBOUR: 'it returns false'. Refute it at one input. -/
def verRightsWrong : ChangeSpec := { name := "verRights", fn := fun _ => fun
  | [d1, d2] => { results := [.lit (.bool false)], args := [d1, d2] }
  | _ => none }
def VerRightsWrongFalsely : Prop := verRightsRow.holds Try.pinned (OpenSpec.ofChange verRightsWrong)

/-- 'lockgatelaw01.VerPairs': WHATEVER THE INPUT: true; the input reads as it did. -/
def verPairsSpec : ChangeSpec := { name := "verPairs", fn := fun _ => fun
  | [d1, d2, d3, d4] => { results := [.lit (.bool true)], args := [d1, d2, d3, d4] }
  | _ => none }
def verPairsRow : OpenClaim := { program := "ytcoiiakjmollbaa", sum := "ad3a2dd565d29d4677edc815274b4fc66546552ea45cd0f410e2a7efd03c14d9", func := "lockgate/lockgatelaw01.VerPairs", spec := "verPairs", apart := false }
def VerPairsSaid : Prop := verPairsRow.holds Try.pinned (OpenSpec.ofChange verPairsSpec)

/-- ITS FALSE NEIGHBOUR: 'it returns false'. Refute it at one input. -/
def verPairsWrong : ChangeSpec := { name := "verPairs", fn := fun _ => fun
  | [d1, d2, d3, d4] => { results := [.lit (.bool false)], args := [d1, d2, d3, d4] }
  | _ => none }
def VerPairsWrongFalsely : Prop := verPairsRow.holds Try.pinned (OpenSpec.ofChange verPairsWrong)

/-- 'lockgatelaw01.VerOrder': WHATEVER THE INPUT: true; the input reads as it did. -/
def verOrderSpec : ChangeSpec := { name := "verOrder", fn := fun _ => fun
  | [d1, d2, d3, d4, d5, d6] => { results := [.lit (.bool true)], args := [d1, d2, d3, d4, d5, d6] }
  | _ => none }
def verOrderRow : OpenClaim := { program := "ytcoiiakjmollbaa", sum := "ad3a2dd565d29d4677edc815274b4fc66546552ea45cd0f410e2a7efd03c14d9", func := "lockgate/lockgatelaw01.VerOrder", spec := "verOrder", apart := false }
def VerOrderSaid : Prop := verOrderRow.holds Try.pinned (OpenSpec.ofChange verOrderSpec)

/-- ITS FALSE NEIGHBOUR: 'it returns false'. Refute it at one input. -/
def verOrderWrong : ChangeSpec := { name := "verOrder", fn := fun _ => fun
  | [d1, d2, d3, d4, d5, d6] => { results := [.lit (.bool false)], args := [d1, d2, d3, d4, d5, d6] }
  | _ => none }
def VerOrderWrongFalsely : Prop := verOrderRow.holds Try.pinned (OpenSpec.ofChange verOrderWrong)

/-- 'lockgatelaw01.VerNext': WHATEVER THE INPUT: true; the input reads as it did. -/
def verNextSpec : ChangeSpec := { name := "verNext", fn := fun _ => fun
  | [d1, d2, d3] => { results := [.lit (.bool true)], args := [d1, d2, d3] }
  | _ => none }
def verNextRow : OpenClaim := { program := "ytcoiiakjmollbaa", sum := "ad3a2dd565d29d4677edc815274b4fc66546552ea45cd0f410e2a7efd03c14d9", func := "lockgate/lockgatelaw01.VerNext", spec := "verNext", apart := false }
def VerNextSaid : Prop := verNextRow.holds Try.pinned (OpenSpec.ofChange verNextSpec)

/-- ITS FALSE NEIGHBOUR: 'it returns false'. Refute it at one input. -/
def verNextWrong : ChangeSpec := { name := "verNext", fn := fun _ => fun
  | [d1, d2, d3] => { results := [.lit (.bool false)], args := [d1, d2, d3] }
  | _ => none }
def VerNextWrongFalsely : Prop := verNextRow.holds Try.pinned (OpenSpec.ofChange verNextWrong)

/- THE SECOND FORM. 'bulk': how many values and letters a reading holds, each counted each time it is reached (what is shared counts as often as it is met; a slice's spare places count too). A statement '..UptoSaid' is the law's where the arguments, and the package variables that the reading takes, are together of bulk at most 1048576: NARROWER than '..Said'. Prove '..Said' where nothing that the law and all that it calls make is longer than what came in: it says more and counts as full. Else prove '..UptoSaid'. A law counts once. -/
mutual
def uptoBulk {H : Type} : DataW H → Nat
  | .lit (.string bytes) => bytes.length + 1
  | .lit _ => 1
  | .nil => 1
  | .ptr d => uptoBulk d + 1
  | .slice elems spare => uptoBulkAll elems + uptoBulkAll spare + 1
  | .agg parts => uptoBulkAll parts + 1
  | .iface _ d => uptoBulk d + 1
  | .map entries => uptoBulkEntries entries + 1
  | .held _ => 1
def uptoBulkAll {H : Type} : List (DataW H) → Nat
  | [] => 0
  | d :: r => uptoBulk d + uptoBulkAll r
def uptoBulkEntries {H : Type} : List (Lit × DataW H) → Nat
  | [] => 0
  | x :: r => uptoBulkEntry x + uptoBulkEntries r
def uptoBulkEntry {H : Type} : Lit × DataW H → Nat
  | (.string bytes, d) => bytes.length + uptoBulk d + 1
  | (_, d) => uptoBulk d + 1
 end
def uptoSmall : (H : Type) → List (DataW H) → Bool := fun _ ds => decide (uptoBulkAll ds ≤ 1048576)
def OpenSpec.upto (s : _root_.Go.ChangeSpec) : _root_.Go.OpenSpec := { _root_.Go.OpenSpec.ofChange s with cond := some uptoSmall }

/-- 'lockgatelaw01.VerParts', WHERE WHAT IT READS IS OF BULK AT MOST 1048576: true; the input reads as it did. -/
def verPartsUptoRow : OpenClaim := { program := "ytcoiiakjmollbaa", sum := "ad3a2dd565d29d4677edc815274b4fc66546552ea45cd0f410e2a7efd03c14d9", func := "lockgate/lockgatelaw01.VerParts", spec := "verParts", apart := false, narrowed := true }
def VerPartsUptoSaid : Prop := verPartsUptoRow.holds Try.pinned (OpenSpec.upto verPartsSpec)

/-- 'lockgatelaw01.VerRights', WHERE WHAT IT READS IS OF BULK AT MOST 1048576: true; the input reads as it did. -/
def verRightsUptoRow : OpenClaim := { program := "ytcoiiakjmollbaa", sum := "ad3a2dd565d29d4677edc815274b4fc66546552ea45cd0f410e2a7efd03c14d9", func := "lockgate/lockgatelaw01.VerRights", spec := "verRights", apart := false, narrowed := true }
def VerRightsUptoSaid : Prop := verRightsUptoRow.holds Try.pinned (OpenSpec.upto verRightsSpec)

/-- 'lockgatelaw01.VerPairs', WHERE WHAT IT READS IS OF BULK AT MOST 1048576: true; the input reads as it did. -/
def verPairsUptoRow : OpenClaim := { program := "ytcoiiakjmollbaa", sum := "ad3a2dd565d29d4677edc815274b4fc66546552ea45cd0f410e2a7efd03c14d9", func := "lockgate/lockgatelaw01.VerPairs", spec := "verPairs", apart := false, narrowed := true }
def VerPairsUptoSaid : Prop := verPairsUptoRow.holds Try.pinned (OpenSpec.upto verPairsSpec)

/-- 'lockgatelaw01.VerOrder', WHERE WHAT IT READS IS OF BULK AT MOST 1048576: true; the input reads as it did. -/
def verOrderUptoRow : OpenClaim := { program := "ytcoiiakjmollbaa", sum := "ad3a2dd565d29d4677edc815274b4fc66546552ea45cd0f410e2a7efd03c14d9", func := "lockgate/lockgatelaw01.VerOrder", spec := "verOrder", apart := false, narrowed := true }
def VerOrderUptoSaid : Prop := verOrderUptoRow.holds Try.pinned (OpenSpec.upto verOrderSpec)

/-- 'lockgatelaw01.VerNext', WHERE WHAT IT READS IS OF BULK AT MOST 1048576: true; the input reads as it did. -/
def verNextUptoRow : OpenClaim := { program := "ytcoiiakjmollbaa", sum := "ad3a2dd565d29d4677edc815274b4fc66546552ea45cd0f410e2a7efd03c14d9", func := "lockgate/lockgatelaw01.VerNext", spec := "verNext", apart := false, narrowed := true }
def VerNextUptoSaid : Prop := verNextUptoRow.holds Try.pinned (OpenSpec.upto verNextSpec)

end Rows
end Go.Proofs.Ytcoiiakjmollbaa
