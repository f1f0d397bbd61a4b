/-
  No cell of these rows narrows 'for every input' (looked for: loops, veiled, ifaces, maps, wideKeys, modest, calm, conditions, laid).
  DERIVED. THE GIVEN ROWS OF THIS SEAT. 4 by the template 'for every input the law returns true; each argument reads behind the call as it read before'; 0 by the template 'total and deterministic' (their statements: YteipphlhbhahfaaTotals.lean).
  GIVEN WITH THE SEED: the statements are not yours to turn. If you find one false, say at which input.
  Laid BY PROGRAM, IN A SANDBOX (cutbox-rows.mjs): the forced cells as the released guide's own fill.sh prints them over the translation 04f0647332103319… (all of the seat's roots in one cut). By AI agents, Wed Nov 11 2026. No macro, syntax, notation, axiom, sorry.
-/
import Derived.Test.YteipphlhbhahfaaChecked
import GoSem.Claim
import GoSem.ClaimJoined
import GoSem.ClaimMapViews
import Derived.JoinedTies
import Derived.KernelRfl
namespace Go.Proofs.Yteipphlhbhahfaa
/- THE CELL 'sum', in the pinned program and in every row, IS THE sha256 OF THE DUMP (.gsa) THAT YteipphlhbhahfaaProg.lean LOADS. Nothing in Lean hashes anything: it is a label: what it is worth is what the hold of that sum in a sandbox is worth. -/
noncomputable def Try.pinned : Pinned := { name := "yteipphlhbhahfaa", sum := "04f06473321033196f0733a7ae969556ab981b27246229d338a4961db1f5d29b", checked := Try.checked }
namespace Rows
def none {H : Type} : Left H := { results := [], args := [] }

/-- 'lockgatelaw16.ViewLive': WHATEVER THE INPUT: true; the input reads as it did. -/
def viewLiveSpec : ChangeSpec := { name := "viewLive", fn := fun _ => fun
  | [d1, d2, d3] => { results := [.lit (.bool true)], args := [d1, d2, d3] }
  | _ => none }
def viewLiveRow : OpenClaim := { program := "yteipphlhbhahfaa", sum := "04f06473321033196f0733a7ae969556ab981b27246229d338a4961db1f5d29b", func := "lockgate/lockgatelaw16.ViewLive", spec := "viewLive", unfollowed := true, recurses := true, apart := false }
def ViewLiveSaid : Prop := viewLiveRow.holds Try.pinned (OpenSpec.ofChange viewLiveSpec)

/-- ITS FALSE NEIGHBOUR: 'it returns false'. Refute it at one input. -/
def viewLiveWrong : ChangeSpec := { name := "viewLive", fn := fun _ => fun
  | [d1, d2, d3] => { results := [.lit (.bool false)], args := [d1, d2, d3] }
  | _ => none }
def ViewLiveWrongFalsely : Prop := viewLiveRow.holds Try.pinned (OpenSpec.ofChange viewLiveWrong)

/-- 'lockgatelaw16.ViewNeighbours': WHATEVER THE INPUT: true; the input reads as it did. -/
def viewNeighboursSpec : ChangeSpec := { name := "viewNeighbours", fn := fun _ => fun
  | [d] => { results := [.lit (.bool true)], args := [d] }
  | _ => none }
def viewNeighboursRow : OpenClaim := { program := "yteipphlhbhahfaa", sum := "04f06473321033196f0733a7ae969556ab981b27246229d338a4961db1f5d29b", func := "lockgate/lockgatelaw16.ViewNeighbours", spec := "viewNeighbours", unfollowed := true, recurses := true, apart := false }
def ViewNeighboursSaid : Prop := viewNeighboursRow.holds Try.pinned (OpenSpec.ofChange viewNeighboursSpec)

/-- ITS FALSE NEIGHBOUR: 'it returns false'. Refute it at one input. -/
def viewNeighboursWrong : ChangeSpec := { name := "viewNeighbours", fn := fun _ => fun
  | [d] => { results := [.lit (.bool false)], args := [d] }
  | _ => none }
def ViewNeighboursWrongFalsely : Prop := viewNeighboursRow.holds Try.pinned (OpenSpec.ofChange viewNeighboursWrong)

/-- 'lockgatelaw16.ViewIndex': WHATEVER THE INPUT: true; the input reads as it did. -/
def viewIndexSpec : ChangeSpec := { name := "viewIndex", fn := fun _ => fun
  | [d] => { results := [.lit (.bool true)], args := [d] }
  | _ => none }
def viewIndexRow : OpenClaim := { program := "yteipphlhbhahfaa", sum := "04f06473321033196f0733a7ae969556ab981b27246229d338a4961db1f5d29b", func := "lockgate/lockgatelaw16.ViewIndex", spec := "viewIndex", unfollowed := true, recurses := true, apart := false }
def ViewIndexSaid : Prop := viewIndexRow.holds Try.pinned (OpenSpec.ofChange viewIndexSpec)

/-- ITS FALSE NEIGHBOUR: 'it returns false'. Refute it at one input. -/
def viewIndexWrong : ChangeSpec := { name := "viewIndex", fn := fun _ => fun
  | [d] => { results := [.lit (.bool false)], args := [d] }
  | _ => none }
def ViewIndexWrongFalsely : Prop := viewIndexRow.holds Try.pinned (OpenSpec.ofChange viewIndexWrong)

/-- 'lockgatelaw16.ViewAlls': WHATEVER THE INPUT: true; the input reads as it did. -/
def viewAllsSpec : ChangeSpec := { name := "viewAlls", fn := fun _ => fun
  | [d1, d2, d3, d4] => { results := [.lit (.bool true)], args := [d1, d2, d3, d4] }
  | _ => none }
def viewAllsRow : OpenClaim := { program := "yteipphlhbhahfaa", sum := "04f06473321033196f0733a7ae969556ab981b27246229d338a4961db1f5d29b", func := "lockgate/lockgatelaw16.ViewAlls", spec := "viewAlls", unfollowed := true, recurses := true, apart := false }
def ViewAllsSaid : Prop := viewAllsRow.holds Try.pinned (OpenSpec.ofChange viewAllsSpec)

/-- ITS FALSE NEIGHBOUR: 'it returns false'. Refute it at one input. -/
def viewAllsWrong : ChangeSpec := { name := "viewAlls", fn := fun _ => fun
  | [d1, d2, d3, d4] => { results := [.lit (.bool false)], args := [d1, d2, d3, d4] }
  | _ => none }
def ViewAllsWrongFalsely : Prop := viewAllsRow.holds Try.pinned (OpenSpec.ofChange viewAllsWrong)

/- THE SECOND FORM. 'bulk': how many values and letters a reading holds, each counted each time it is reached (what is shared counts as often as it is met; a slice's spare places count too). A statement '..UptoSaid' is the law's where the arguments, and the package variables that the reading takes, are together of bulk at most 1048576: NARROWER than '..Said'. Prove '..Said' where nothing that the law and all that it calls make is longer than what came in: it says more and counts as full. Else prove '..UptoSaid'. A law counts once. -/
mutual
def uptoBulk {H : Type} : DataW H → Nat
  | .lit (.string bytes) => bytes.length + 1
  | .lit _ => 1
  | .nil => 1
  | .ptr d => uptoBulk d + 1
  | .slice elems spare => uptoBulkAll elems + uptoBulkAll spare + 1
  | .agg parts => uptoBulkAll parts + 1
  | .iface _ d => uptoBulk d + 1
  | .map entries => uptoBulkEntries entries + 1
  | .held _ => 1
def uptoBulkAll {H : Type} : List (DataW H) → Nat
  | [] => 0
  | d :: r => uptoBulk d + uptoBulkAll r
def uptoBulkEntries {H : Type} : List (Lit × DataW H) → Nat
  | [] => 0
  | x :: r => uptoBulkEntry x + uptoBulkEntries r
def uptoBulkEntry {H : Type} : Lit × DataW H → Nat
  | (.string bytes, d) => bytes.length + uptoBulk d + 1
  | (_, d) => uptoBulk d + 1
 end
def uptoSmall : (H : Type) → List (DataW H) → Bool := fun _ ds => decide (uptoBulkAll ds ≤ 1048576)
def OpenSpec.upto (s : _root_.Go.ChangeSpec) : _root_.Go.OpenSpec := { _root_.Go.OpenSpec.ofChange s with cond := some uptoSmall }

/-- 'lockgatelaw16.ViewLive', WHERE WHAT IT READS IS OF BULK AT MOST 1048576: true; the input reads as it did. -/
def viewLiveUptoRow : OpenClaim := { program := "yteipphlhbhahfaa", sum := "04f06473321033196f0733a7ae969556ab981b27246229d338a4961db1f5d29b", func := "lockgate/lockgatelaw16.ViewLive", spec := "viewLive", unfollowed := true, recurses := true, apart := false, narrowed := true }
def ViewLiveUptoSaid : Prop := viewLiveUptoRow.holds Try.pinned (OpenSpec.upto viewLiveSpec)

/-- 'lockgatelaw16.ViewNeighbours', WHERE WHAT IT READS IS OF BULK AT MOST 1048576: true; the input reads as it did. -/
def viewNeighboursUptoRow : OpenClaim := { program := "yteipphlhbhahfaa", sum := "04f06473321033196f0733a7ae969556ab981b27246229d338a4961db1f5d29b", func := "lockgate/lockgatelaw16.ViewNeighbours", spec := "viewNeighbours", unfollowed := true, recurses := true, apart := false, narrowed := true }
def ViewNeighboursUptoSaid : Prop := viewNeighboursUptoRow.holds Try.pinned (OpenSpec.upto viewNeighboursSpec)

/-- 'lockgatelaw16.ViewIndex', WHERE WHAT IT READS IS OF BULK AT MOST 1048576: true; the input reads as it did. -/
def viewIndexUptoRow : OpenClaim := { program := "yteipphlhbhahfaa", sum := "04f06473321033196f0733a7ae969556ab981b27246229d338a4961db1f5d29b", func := "lockgate/lockgatelaw16.ViewIndex", spec := "viewIndex", unfollowed := true, recurses := true, apart := false, narrowed := true }
def ViewIndexUptoSaid : Prop := viewIndexUptoRow.holds Try.pinned (OpenSpec.upto viewIndexSpec)

/-- 'lockgatelaw16.ViewAlls', WHERE WHAT IT READS IS OF BULK AT MOST 1048576: true; the input reads as it did. -/
def viewAllsUptoRow : OpenClaim := { program := "yteipphlhbhahfaa", sum := "04f06473321033196f0733a7ae969556ab981b27246229d338a4961db1f5d29b", func := "lockgate/lockgatelaw16.ViewAlls", spec := "viewAlls", unfollowed := true, recurses := true, apart := false, narrowed := true }
def ViewAllsUptoSaid : Prop := viewAllsUptoRow.holds Try.pinned (OpenSpec.upto viewAllsSpec)

end Rows
end Go.Proofs.Yteipphlhbhahfaa
