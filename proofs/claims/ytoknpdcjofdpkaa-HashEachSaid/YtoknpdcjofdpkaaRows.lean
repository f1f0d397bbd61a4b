/-
  No cell of these rows narrows 'for every input' (looked for: loops, veiled, ifaces, maps, wideKeys, modest, calm, conditions, laid).
  DERIVED. THE GIVEN ROWS OF THIS SEAT. 4 by the template 'for every input the law returns true; each argument reads behind the call as it read before'; 0 by the template 'total and deterministic' (their statements: YtoknpdcjofdpkaaTotals.lean).
  GIVEN WITH THE SEED: the statements are not yours to turn. If you find one false, say at which input.
  Laid BY PROGRAM, IN A SANDBOX (cutbox-rows.mjs): the forced cells as the released guide's own fill.sh prints them over the translation d4cf4860b7aa9fa9… (all of the seat's roots in one cut). By AI agents, Wed Nov 11 2026. No macro, syntax, notation, axiom, sorry.
-/
import Derived.Test.YtoknpdcjofdpkaaChecked
import GoSem.Claim
import GoSem.ClaimJoined
import GoSem.ClaimMapViews
import Derived.JoinedTies
import Derived.KernelRfl
namespace Go.Proofs.Ytoknpdcjofdpkaa
/- THE CELL 'sum', in the pinned program and in every row, IS THE sha256 OF THE DUMP (.gsa) THAT YtoknpdcjofdpkaaProg.lean LOADS. Nothing in Lean hashes anything: it is a label: what it is worth is what the hold of that sum in a sandbox is worth. -/
noncomputable def Try.pinned : Pinned := { name := "ytoknpdcjofdpkaa", sum := "d4cf4860b7aa9fa92616f5776d132d226a5487ed74aca2b7001bc02046978d3c", checked := Try.checked }
namespace Rows
def none {H : Type} : Left H := { results := [], args := [] }

/-- 'lockgatelaw02.HashSums': WHATEVER THE INPUT: true; the input reads as it did. -/
def hashSumsSpec : ChangeSpec := { name := "hashSums", fn := fun _ => fun
  | [d] => { results := [.lit (.bool true)], args := [d] }
  | _ => none }
def hashSumsRow : OpenClaim := { program := "ytoknpdcjofdpkaa", sum := "d4cf4860b7aa9fa92616f5776d132d226a5487ed74aca2b7001bc02046978d3c", func := "lockgate/lockgatelaw02.HashSums", spec := "hashSums", apart := false }
def HashSumsSaid : Prop := hashSumsRow.holds Try.pinned (OpenSpec.ofChange hashSumsSpec)

/-- ITS FALSE NEIGHBOUR: 'it returns false'. Refute it at one input. -/
def hashSumsWrong : ChangeSpec := { name := "hashSums", fn := fun _ => fun
  | [d] => { results := [.lit (.bool false)], args := [d] }
  | _ => none }
def HashSumsWrongFalsely : Prop := hashSumsRow.holds Try.pinned (OpenSpec.ofChange hashSumsWrong)

/-- 'lockgatelaw02.HashEach': WHATEVER THE INPUT: true; the input reads as it did. -/
def hashEachSpec : ChangeSpec := { name := "hashEach", fn := fun _ => fun
  | [d1, d2, d3] => { results := [.lit (.bool true)], args := [d1, d2, d3] }
  | _ => none }
def hashEachRow : OpenClaim := { program := "ytoknpdcjofdpkaa", sum := "d4cf4860b7aa9fa92616f5776d132d226a5487ed74aca2b7001bc02046978d3c", func := "lockgate/lockgatelaw02.HashEach", spec := "hashEach", apart := false }
def HashEachSaid : Prop := hashEachRow.holds Try.pinned (OpenSpec.ofChange hashEachSpec)

/-- ITS FALSE NEIGHBOUR: 'it returns false'. Refute it at one input. -/
def hashEachWrong : ChangeSpec := { name := "hashEach", fn := fun _ => fun
  | [d1, d2, d3] => { results := [.lit (.bool false)], args := [d1, d2, d3] }
  | _ => none }
def HashEachWrongFalsely : Prop := hashEachRow.holds Try.pinned (OpenSpec.ofChange hashEachWrong)

/-- 'lockgatelaw02.HashMore': WHATEVER THE INPUT: true; the input reads as it did. -/
def hashMoreSpec : ChangeSpec := { name := "hashMore", fn := fun _ => fun
  | [d1, d2, d3] => { results := [.lit (.bool true)], args := [d1, d2, d3] }
  | _ => none }
def hashMoreRow : OpenClaim := { program := "ytoknpdcjofdpkaa", sum := "d4cf4860b7aa9fa92616f5776d132d226a5487ed74aca2b7001bc02046978d3c", func := "lockgate/lockgatelaw02.HashMore", spec := "hashMore", apart := false }
def HashMoreSaid : Prop := hashMoreRow.holds Try.pinned (OpenSpec.ofChange hashMoreSpec)

/-- ITS FALSE NEIGHBOUR: 'it returns false'. Refute it at one input. -/
def hashMoreWrong : ChangeSpec := { name := "hashMore", fn := fun _ => fun
  | [d1, d2, d3] => { results := [.lit (.bool false)], args := [d1, d2, d3] }
  | _ => none }
def HashMoreWrongFalsely : Prop := hashMoreRow.holds Try.pinned (OpenSpec.ofChange hashMoreWrong)

/-- 'lockgatelaw02.HashShards': WHATEVER THE INPUT: true; the input reads as it did. -/
def hashShardsSpec : ChangeSpec := { name := "hashShards", fn := fun _ => fun
  | [d1, d2] => { results := [.lit (.bool true)], args := [d1, d2] }
  | _ => none }
def hashShardsRow : OpenClaim := { program := "ytoknpdcjofdpkaa", sum := "d4cf4860b7aa9fa92616f5776d132d226a5487ed74aca2b7001bc02046978d3c", func := "lockgate/lockgatelaw02.HashShards", spec := "hashShards", apart := false }
def HashShardsSaid : Prop := hashShardsRow.holds Try.pinned (OpenSpec.ofChange hashShardsSpec)

/-- ITS FALSE NEIGHBOUR: 'it returns false'. Refute it at one input. -/
def hashShardsWrong : ChangeSpec := { name := "hashShards", fn := fun _ => fun
  | [d1, d2] => { results := [.lit (.bool false)], args := [d1, d2] }
  | _ => none }
def HashShardsWrongFalsely : Prop := hashShardsRow.holds Try.pinned (OpenSpec.ofChange hashShardsWrong)

/- THE SECOND FORM. 'bulk': how many values and letters a reading holds, each counted each time it is reached (what is shared counts as often as it is met; a slice's spare places count too). A statement '..UptoSaid' is the law's where the arguments, and the package variables that the reading takes, are together of bulk at most 1048576: NARROWER than '..Said'. Prove '..Said' where nothing that the law and all that it calls make is longer than what came in: it says more and counts as full. Else prove '..UptoSaid'. A law counts once. -/
mutual
def uptoBulk {H : Type} : DataW H → Nat
  | .lit (.string bytes) => bytes.length + 1
  | .lit _ => 1
  | .nil => 1
  | .ptr d => uptoBulk d + 1
  | .slice elems spare => uptoBulkAll elems + uptoBulkAll spare + 1
  | .agg parts => uptoBulkAll parts + 1
  | .iface _ d => uptoBulk d + 1
  | .map entries => uptoBulkEntries entries + 1
  | .held _ => 1
def uptoBulkAll {H : Type} : List (DataW H) → Nat
  | [] => 0
  | d :: r => uptoBulk d + uptoBulkAll r
def uptoBulkEntries {H : Type} : List (Lit × DataW H) → Nat
  | [] => 0
  | x :: r => uptoBulkEntry x + uptoBulkEntries r
def uptoBulkEntry {H : Type} : Lit × DataW H → Nat
  | (.string bytes, d) => bytes.length + uptoBulk d + 1
  | (_, d) => uptoBulk d + 1
 end
def uptoSmall : (H : Type) → List (DataW H) → Bool := fun _ ds => decide (uptoBulkAll ds ≤ 1048576)
def OpenSpec.upto (s : _root_.Go.ChangeSpec) : _root_.Go.OpenSpec := { _root_.Go.OpenSpec.ofChange s with cond := some uptoSmall }

/-- 'lockgatelaw02.HashSums', WHERE WHAT IT READS IS OF BULK AT MOST 1048576: true; the input reads as it did. -/
def hashSumsUptoRow : OpenClaim := { program := "ytoknpdcjofdpkaa", sum := "d4cf4860b7aa9fa92616f5776d132d226a5487ed74aca2b7001bc02046978d3c", func := "lockgate/lockgatelaw02.HashSums", spec := "hashSums", apart := false, narrowed := true }
def HashSumsUptoSaid : Prop := hashSumsUptoRow.holds Try.pinned (OpenSpec.upto hashSumsSpec)

/-- 'lockgatelaw02.HashEach', WHERE WHAT IT READS IS OF BULK AT MOST 1048576: true; the input reads as it did. -/
def hashEachUptoRow : OpenClaim := { program := "ytoknpdcjofdpkaa", sum := "d4cf4860b7aa9fa92616f5776d132d226a5487ed74aca2b7001bc02046978d3c", func := "lockgate/lockgatelaw02.HashEach", spec := "hashEach", apart := false, narrowed := true }
def HashEachUptoSaid : Prop := hashEachUptoRow.holds Try.pinned (OpenSpec.upto hashEachSpec)

/-- 'lockgatelaw02.HashMore', WHERE WHAT IT READS IS OF BULK AT MOST 1048576: true; the input reads as it did. -/
def hashMoreUptoRow : OpenClaim := { program := "ytoknpdcjofdpkaa", sum := "d4cf4860b7aa9fa92616f5776d132d226a5487ed74aca2b7001bc02046978d3c", func := "lockgate/lockgatelaw02.HashMore", spec := "hashMore", apart := false, narrowed := true }
def HashMoreUptoSaid : Prop := hashMoreUptoRow.holds Try.pinned (OpenSpec.upto hashMoreSpec)

/-- 'lockgatelaw02.HashShards', WHERE WHAT IT READS IS OF BULK AT MOST 1048576: true; the input reads as it did. -/
def hashShardsUptoRow : OpenClaim := { program := "ytoknpdcjofdpkaa", sum := "d4cf4860b7aa9fa92616f5776d132d226a5487ed74aca2b7001bc02046978d3c", func := "lockgate/lockgatelaw02.HashShards", spec := "hashShards", apart := false, narrowed := true }
def HashShardsUptoSaid : Prop := hashShardsUptoRow.holds Try.pinned (OpenSpec.upto hashShardsSpec)

end Rows
end Go.Proofs.Ytoknpdcjofdpkaa
