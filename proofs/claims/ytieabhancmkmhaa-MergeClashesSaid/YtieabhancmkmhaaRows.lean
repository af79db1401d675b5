/-
  No cell of these rows narrows 'for every input' (looked for: loops, veiled, ifaces, maps, wideKeys, modest, calm, conditions, laid).
  DERIVED. THE GIVEN ROWS OF THIS SEAT. 3 by the template 'for every input the law returns true; each argument reads behind the call as it read before'; 0 by the template 'total and deterministic' (their statements: YtieabhancmkmhaaTotals.lean).
  GIVEN WITH THE SEED: the statements are not yours to turn. If you find one false, say at which input.
  Laid BY PROGRAM, IN A SANDBOX (cutbox-rows.mjs): the forced cells as the released guide's own fill.sh prints them over the translation 1b6d50791a6587f3… (all of the seat's roots in one cut). By AI agents, Wed Nov 11 2026. No macro, syntax, notation, axiom, sorry.
-/
import Derived.Test.YtieabhancmkmhaaChecked
import GoSem.Claim
import GoSem.ClaimJoined
import GoSem.ClaimMapViews
import Derived.JoinedTies
import Derived.KernelRfl
namespace Go.Proofs.Ytieabhancmkmhaa
/- THE CELL 'sum', in the pinned program and in every row, IS THE sha256 OF THE DUMP (.gsa) THAT YtieabhancmkmhaaProg.lean LOADS. Nothing in Lean hashes anything: it is a label: what it is worth is what the hold of that sum in a sandbox is worth. -/
noncomputable def Try.pinned : Pinned := { name := "ytieabhancmkmhaa", sum := "1b6d50791a6587f30ca8dcd903d39fd024910a70b20d7c1e9896747531988ec3", checked := Try.checked }
namespace Rows
def none {H : Type} : Left H := { results := [], args := [] }

/-- 'foliatelaw15.MergeClashes': WHATEVER THE INPUT: true; the input reads as it did. -/
def mergeClashesSpec : ChangeSpec := { name := "mergeClashes", fn := fun _ => fun
  | [d1, d2, d3, d4, d5] => { results := [.lit (.bool true)], args := [d1, d2, d3, d4, d5] }
  | _ => none }
def mergeClashesRow : OpenClaim := { program := "ytieabhancmkmhaa", sum := "1b6d50791a6587f30ca8dcd903d39fd024910a70b20d7c1e9896747531988ec3", func := "foliate/foliatelaw15.MergeClashes", spec := "mergeClashes", unfollowed := true, recurses := true, apart := false }
def MergeClashesSaid : Prop := mergeClashesRow.holds Try.pinned (OpenSpec.ofChange mergeClashesSpec)

/-- ITS FALSE NEIGHBOUR: 'it returns false'. Refute it at one input. -/
def mergeClashesWrong : ChangeSpec := { name := "mergeClashes", fn := fun _ => fun
  | [d1, d2, d3, d4, d5] => { results := [.lit (.bool false)], args := [d1, d2, d3, d4, d5] }
  | _ => none }
def MergeClashesWrongFalsely : Prop := mergeClashesRow.holds Try.pinned (OpenSpec.ofChange mergeClashesWrong)

/-- 'foliatelaw15.MergeClash': WHATEVER THE INPUT: true; the input reads as it did. -/
def mergeClashSpec : ChangeSpec := { name := "mergeClash", fn := fun _ => fun
  | [d1, d2, d3, d4, d5] => { results := [.lit (.bool true)], args := [d1, d2, d3, d4, d5] }
  | _ => none }
def mergeClashRow : OpenClaim := { program := "ytieabhancmkmhaa", sum := "1b6d50791a6587f30ca8dcd903d39fd024910a70b20d7c1e9896747531988ec3", func := "foliate/foliatelaw15.MergeClash", spec := "mergeClash", unfollowed := true, recurses := true, apart := false }
def MergeClashSaid : Prop := mergeClashRow.holds Try.pinned (OpenSpec.ofChange mergeClashSpec)

/-- ITS FALSE NEIGHBOUR: 'it returns false'. Refute it at one input. -/
def mergeClashWrong : ChangeSpec := { name := "mergeClash", fn := fun _ => fun
  | [d1, d2, d3, d4, d5] => { results := [.lit (.bool false)], args := [d1, d2, d3, d4, d5] }
  | _ => none }
def MergeClashWrongFalsely : Prop := mergeClashRow.holds Try.pinned (OpenSpec.ofChange mergeClashWrong)

/-- 'foliatelaw15.MergeTurned': WHATEVER THE INPUT: true; the input reads as it did. -/
def mergeTurnedSpec : ChangeSpec := { name := "mergeTurned", fn := fun _ => fun
  | [d1, d2, d3] => { results := [.lit (.bool true)], args := [d1, d2, d3] }
  | _ => none }
def mergeTurnedRow : OpenClaim := { program := "ytieabhancmkmhaa", sum := "1b6d50791a6587f30ca8dcd903d39fd024910a70b20d7c1e9896747531988ec3", func := "foliate/foliatelaw15.MergeTurned", spec := "mergeTurned", unfollowed := true, recurses := true, apart := false }
def MergeTurnedSaid : Prop := mergeTurnedRow.holds Try.pinned (OpenSpec.ofChange mergeTurnedSpec)

/-- ITS FALSE NEIGHBOUR: 'it returns false'. Refute it at one input. -/
def mergeTurnedWrong : ChangeSpec := { name := "mergeTurned", fn := fun _ => fun
  | [d1, d2, d3] => { results := [.lit (.bool false)], args := [d1, d2, d3] }
  | _ => none }
def MergeTurnedWrongFalsely : Prop := mergeTurnedRow.holds Try.pinned (OpenSpec.ofChange mergeTurnedWrong)

/- THE SECOND FORM. 'bulk': how many values and letters a reading holds, each counted each time it is reached (what is shared counts as often as it is met; a slice's spare places count too). A statement '..UptoSaid' is the law's where the arguments, and the package variables that the reading takes, are together of bulk at most 1048576: NARROWER than '..Said'. Prove '..Said' where nothing that the law and all that it calls make is longer than what came in: it says more and counts as full. Else prove '..UptoSaid'. A law counts once. -/
mutual
def uptoBulk {H : Type} : DataW H → Nat
  | .lit (.string bytes) => bytes.length + 1
  | .lit _ => 1
  | .nil => 1
  | .ptr d => uptoBulk d + 1
  | .slice elems spare => uptoBulkAll elems + uptoBulkAll spare + 1
  | .agg parts => uptoBulkAll parts + 1
  | .iface _ d => uptoBulk d + 1
  | .map entries => uptoBulkEntries entries + 1
  | .held _ => 1
def uptoBulkAll {H : Type} : List (DataW H) → Nat
  | [] => 0
  | d :: r => uptoBulk d + uptoBulkAll r
def uptoBulkEntries {H : Type} : List (Lit × DataW H) → Nat
  | [] => 0
  | x :: r => uptoBulkEntry x + uptoBulkEntries r
def uptoBulkEntry {H : Type} : Lit × DataW H → Nat
  | (.string bytes, d) => bytes.length + uptoBulk d + 1
  | (_, d) => uptoBulk d + 1
 end
def uptoSmall : (H : Type) → List (DataW H) → Bool := fun _ ds => decide (uptoBulkAll ds ≤ 1048576)
def OpenSpec.upto (s : _root_.Go.ChangeSpec) : _root_.Go.OpenSpec := { _root_.Go.OpenSpec.ofChange s with cond := some uptoSmall }

/-- 'foliatelaw15.MergeClashes', WHERE WHAT IT READS IS OF BULK AT MOST 1048576: true; the input reads as it did. -/
def mergeClashesUptoRow : OpenClaim := { program := "ytieabhancmkmhaa", sum := "1b6d50791a6587f30ca8dcd903d39fd024910a70b20d7c1e9896747531988ec3", func := "foliate/foliatelaw15.MergeClashes", spec := "mergeClashes", unfollowed := true, recurses := true, apart := false, narrowed := true }
def MergeClashesUptoSaid : Prop := mergeClashesUptoRow.holds Try.pinned (OpenSpec.upto mergeClashesSpec)

/-- 'foliatelaw15.MergeClash', WHERE WHAT IT READS IS OF BULK AT MOST 1048576: true; the input reads as it did. -/
def mergeClashUptoRow : OpenClaim := { program := "ytieabhancmkmhaa", sum := "1b6d50791a6587f30ca8dcd903d39fd024910a70b20d7c1e9896747531988ec3", func := "foliate/foliatelaw15.MergeClash", spec := "mergeClash", unfollowed := true, recurses := true, apart := false, narrowed := true }
def MergeClashUptoSaid : Prop := mergeClashUptoRow.holds Try.pinned (OpenSpec.upto mergeClashSpec)

/-- 'foliatelaw15.MergeTurned', WHERE WHAT IT READS IS OF BULK AT MOST 1048576: true; the input reads as it did. -/
def mergeTurnedUptoRow : OpenClaim := { program := "ytieabhancmkmhaa", sum := "1b6d50791a6587f30ca8dcd903d39fd024910a70b20d7c1e9896747531988ec3", func := "foliate/foliatelaw15.MergeTurned", spec := "mergeTurned", unfollowed := true, recurses := true, apart := false, narrowed := true }
def MergeTurnedUptoSaid : Prop := mergeTurnedUptoRow.holds Try.pinned (OpenSpec.upto mergeTurnedSpec)

end Rows
end Go.Proofs.Ytieabhancmkmhaa
