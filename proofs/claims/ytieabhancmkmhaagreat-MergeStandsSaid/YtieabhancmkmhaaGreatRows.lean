/-
  No cell of these rows narrows 'for every input' (looked for: loops, veiled, ifaces, maps, wideKeys, modest, calm, conditions, laid).
  DERIVED. THE GIVEN ROWS OF THIS SEAT. 4 by the template 'for every input the law returns true; each argument reads behind the call as it read before'; 0 by the template 'total and deterministic' (their statements: YtieabhancmkmhaaGreatTotals.lean).
  GIVEN WITH THE SEED: the statements are not yours to turn. If you find one false, say at which input.
  Laid BY PROGRAM, IN A SANDBOX (cutbox-rows.mjs): the forced cells as the released guide's own fill.sh prints them over the translation 2c10e22644f5f164… (all of the seat's roots in one cut). By AI agents, Wed Nov 11 2026. No macro, syntax, notation, axiom, sorry.
-/
import Derived.Test.YtieabhancmkmhaaGreatChecked
import GoSem.Claim
import GoSem.ClaimJoined
import GoSem.ClaimMapViews
import Derived.JoinedTies
import Derived.KernelRfl
namespace Go.Proofs.YtieabhancmkmhaaGreat
/- THE CELL 'sum', in the pinned program and in every row, IS THE sha256 OF THE DUMP (.gsa) THAT YtieabhancmkmhaaGreatProg.lean LOADS. Nothing in Lean hashes anything: it is a label: what it is worth is what the hold of that sum in a sandbox is worth. -/
noncomputable def Tryz.pinned : Pinned := { name := "ytieabhancmkmhaagreat", sum := "2c10e22644f5f164d0bfb23638f5457f3c88baa1a8e49d1e5c05db8f691478bc", checked := Tryz.checked }
namespace Rows
def none {H : Type} : Left H := { results := [], args := [] }

/-- 'foliatelaw15.MergeTells': WHATEVER THE INPUT: true; the input reads as it did. -/
def mergeTellsSpec : ChangeSpec := { name := "mergeTells", fn := fun _ => fun
  | [d1, d2, d3] => { results := [.lit (.bool true)], args := [d1, d2, d3] }
  | _ => none }
def mergeTellsRow : OpenClaim := { program := "ytieabhancmkmhaagreat", sum := "2c10e22644f5f164d0bfb23638f5457f3c88baa1a8e49d1e5c05db8f691478bc", func := "foliate/foliatelaw15.MergeTells", spec := "mergeTells", unfollowed := true, recurses := true, apart := false }
def MergeTellsSaid : Prop := mergeTellsRow.holds Tryz.pinned (OpenSpec.ofChange mergeTellsSpec)

/-- ITS FALSE NEIGHBOUR: 'it returns false'. Refute it at one input. -/
def mergeTellsWrong : ChangeSpec := { name := "mergeTells", fn := fun _ => fun
  | [d1, d2, d3] => { results := [.lit (.bool false)], args := [d1, d2, d3] }
  | _ => none }
def MergeTellsWrongFalsely : Prop := mergeTellsRow.holds Tryz.pinned (OpenSpec.ofChange mergeTellsWrong)

/-- 'foliatelaw15.MergeOne': WHATEVER THE INPUT: true; the input reads as it did. -/
def mergeOneSpec : ChangeSpec := { name := "mergeOne", fn := fun _ => fun
  | [d1, d2] => { results := [.lit (.bool true)], args := [d1, d2] }
  | _ => none }
def mergeOneRow : OpenClaim := { program := "ytieabhancmkmhaagreat", sum := "2c10e22644f5f164d0bfb23638f5457f3c88baa1a8e49d1e5c05db8f691478bc", func := "foliate/foliatelaw15.MergeOne", spec := "mergeOne", unfollowed := true, recurses := true, apart := false }
def MergeOneSaid : Prop := mergeOneRow.holds Tryz.pinned (OpenSpec.ofChange mergeOneSpec)

/-- ITS FALSE NEIGHBOUR: 'it returns false'. Refute it at one input. -/
def mergeOneWrong : ChangeSpec := { name := "mergeOne", fn := fun _ => fun
  | [d1, d2] => { results := [.lit (.bool false)], args := [d1, d2] }
  | _ => none }
def MergeOneWrongFalsely : Prop := mergeOneRow.holds Tryz.pinned (OpenSpec.ofChange mergeOneWrong)

/-- 'foliatelaw15.MergeStands': WHATEVER THE INPUT: true; the input reads as it did. -/
def mergeStandsSpec : ChangeSpec := { name := "mergeStands", fn := fun _ => fun
  | [d1, d2, d3, d4, d5] => { results := [.lit (.bool true)], args := [d1, d2, d3, d4, d5] }
  | _ => none }
def mergeStandsRow : OpenClaim := { program := "ytieabhancmkmhaagreat", sum := "2c10e22644f5f164d0bfb23638f5457f3c88baa1a8e49d1e5c05db8f691478bc", func := "foliate/foliatelaw15.MergeStands", spec := "mergeStands", unfollowed := true, recurses := true, apart := false }
def MergeStandsSaid : Prop := mergeStandsRow.holds Tryz.pinned (OpenSpec.ofChange mergeStandsSpec)

/-- ITS FALSE NEIGHBOUR: 'it returns false'. Refute it at one input. -/
def mergeStandsWrong : ChangeSpec := { name := "mergeStands", fn := fun _ => fun
  | [d1, d2, d3, d4, d5] => { results := [.lit (.bool false)], args := [d1, d2, d3, d4, d5] }
  | _ => none }
def MergeStandsWrongFalsely : Prop := mergeStandsRow.holds Tryz.pinned (OpenSpec.ofChange mergeStandsWrong)

/-- 'foliatelaw15.MergeApart': WHATEVER THE INPUT: true; the input reads as it did. -/
def mergeApartSpec : ChangeSpec := { name := "mergeApart", fn := fun _ => fun
  | [d1, d2, d3, d4, d5, d6, d7] => { results := [.lit (.bool true)], args := [d1, d2, d3, d4, d5, d6, d7] }
  | _ => none }
def mergeApartRow : OpenClaim := { program := "ytieabhancmkmhaagreat", sum := "2c10e22644f5f164d0bfb23638f5457f3c88baa1a8e49d1e5c05db8f691478bc", func := "foliate/foliatelaw15.MergeApart", spec := "mergeApart", unfollowed := true, recurses := true, apart := false }
def MergeApartSaid : Prop := mergeApartRow.holds Tryz.pinned (OpenSpec.ofChange mergeApartSpec)

/-- ITS FALSE NEIGHBOUR: 'it returns false'. Refute it at one input. -/
def mergeApartWrong : ChangeSpec := { name := "mergeApart", fn := fun _ => fun
  | [d1, d2, d3, d4, d5, d6, d7] => { results := [.lit (.bool false)], args := [d1, d2, d3, d4, d5, d6, d7] }
  | _ => none }
def MergeApartWrongFalsely : Prop := mergeApartRow.holds Tryz.pinned (OpenSpec.ofChange mergeApartWrong)

/- THE SECOND FORM. 'bulk': how many values and letters a reading holds, each counted each time it is reached (what is shared counts as often as it is met; a slice's spare places count too). A statement '..UptoSaid' is the law's where the arguments, and the package variables that the reading takes, are together of bulk at most 1048576: NARROWER than '..Said'. Prove '..Said' where nothing that the law and all that it calls make is longer than what came in: it says more and counts as full. Else prove '..UptoSaid'. A law counts once. -/
mutual
def uptoBulk {H : Type} : DataW H → Nat
  | .lit (.string bytes) => bytes.length + 1
  | .lit _ => 1
  | .nil => 1
  | .ptr d => uptoBulk d + 1
  | .slice elems spare => uptoBulkAll elems + uptoBulkAll spare + 1
  | .agg parts => uptoBulkAll parts + 1
  | .iface _ d => uptoBulk d + 1
  | .map entries => uptoBulkEntries entries + 1
  | .held _ => 1
def uptoBulkAll {H : Type} : List (DataW H) → Nat
  | [] => 0
  | d :: r => uptoBulk d + uptoBulkAll r
def uptoBulkEntries {H : Type} : List (Lit × DataW H) → Nat
  | [] => 0
  | x :: r => uptoBulkEntry x + uptoBulkEntries r
def uptoBulkEntry {H : Type} : Lit × DataW H → Nat
  | (.string bytes, d) => bytes.length + uptoBulk d + 1
  | (_, d) => uptoBulk d + 1
 end
def uptoSmall : (H : Type) → List (DataW H) → Bool := fun _ ds => decide (uptoBulkAll ds ≤ 1048576)
def OpenSpec.upto (s : _root_.Go.ChangeSpec) : _root_.Go.OpenSpec := { _root_.Go.OpenSpec.ofChange s with cond := some uptoSmall }

/-- 'foliatelaw15.MergeTells', WHERE WHAT IT READS IS OF BULK AT MOST 1048576: true; the input reads as it did. -/
def mergeTellsUptoRow : OpenClaim := { program := "ytieabhancmkmhaagreat", sum := "2c10e22644f5f164d0bfb23638f5457f3c88baa1a8e49d1e5c05db8f691478bc", func := "foliate/foliatelaw15.MergeTells", spec := "mergeTells", unfollowed := true, recurses := true, apart := false, narrowed := true }
def MergeTellsUptoSaid : Prop := mergeTellsUptoRow.holds Tryz.pinned (OpenSpec.upto mergeTellsSpec)

/-- 'foliatelaw15.MergeOne', WHERE WHAT IT READS IS OF BULK AT MOST 1048576: true; the input reads as it did. -/
def mergeOneUptoRow : OpenClaim := { program := "ytieabhancmkmhaagreat", sum := "2c10e22644f5f164d0bfb23638f5457f3c88baa1a8e49d1e5c05db8f691478bc", func := "foliate/foliatelaw15.MergeOne", spec := "mergeOne", unfollowed := true, recurses := true, apart := false, narrowed := true }
def MergeOneUptoSaid : Prop := mergeOneUptoRow.holds Tryz.pinned (OpenSpec.upto mergeOneSpec)

/-- 'foliatelaw15.MergeStands', WHERE WHAT IT READS IS OF BULK AT MOST 1048576: true; the input reads as it did. -/
def mergeStandsUptoRow : OpenClaim := { program := "ytieabhancmkmhaagreat", sum := "2c10e22644f5f164d0bfb23638f5457f3c88baa1a8e49d1e5c05db8f691478bc", func := "foliate/foliatelaw15.MergeStands", spec := "mergeStands", unfollowed := true, recurses := true, apart := false, narrowed := true }
def MergeStandsUptoSaid : Prop := mergeStandsUptoRow.holds Tryz.pinned (OpenSpec.upto mergeStandsSpec)

/-- 'foliatelaw15.MergeApart', WHERE WHAT IT READS IS OF BULK AT MOST 1048576: true; the input reads as it did. -/
def mergeApartUptoRow : OpenClaim := { program := "ytieabhancmkmhaagreat", sum := "2c10e22644f5f164d0bfb23638f5457f3c88baa1a8e49d1e5c05db8f691478bc", func := "foliate/foliatelaw15.MergeApart", spec := "mergeApart", unfollowed := true, recurses := true, apart := false, narrowed := true }
def MergeApartUptoSaid : Prop := mergeApartUptoRow.holds Tryz.pinned (OpenSpec.upto mergeApartSpec)

end Rows
end Go.Proofs.YtieabhancmkmhaaGreat
