/-
  No cell of these rows narrows 'for every input' (looked for: loops, veiled, ifaces, maps, wideKeys, modest, calm, conditions, laid).
  DERIVED. THE GIVEN ROWS OF THIS SEAT. 4 by the template 'for every input the law returns true; each argument reads behind the call as it read before'; 0 by the template 'total and deterministic' (their statements: YtkfdkamdkdjkgaaTotals.lean).
  GIVEN WITH THE SEED: the statements are not yours to turn. If you find one false, say at which input.
  Laid BY PROGRAM, IN A SANDBOX (cutbox-rows.mjs): the forced cells as the released guide's own fill.sh prints them over the translation fb0ca2f242653292… (all of the seat's roots in one cut). By AI agents, Wed Nov 11 2026. No macro, syntax, notation, axiom, sorry.
-/
import Derived.Test.YtkfdkamdkdjkgaaChecked
import GoSem.Claim
import GoSem.ClaimJoined
import GoSem.ClaimMapViews
import Derived.JoinedTies
import Derived.KernelRfl
namespace Go.Proofs.Ytkfdkamdkdjkgaa
/- THE CELL 'sum', in the pinned program and in every row, IS THE sha256 OF THE DUMP (.gsa) THAT YtkfdkamdkdjkgaaProg.lean LOADS. Nothing in Lean hashes anything: it is a label: what it is worth is what the hold of that sum in a sandbox is worth. -/
noncomputable def Try.pinned : Pinned := { name := "ytkfdkamdkdjkgaa", sum := "fb0ca2f242653292c0c0447d3be9582777d4cc030089018de8aab137e4209c9e", checked := Try.checked }
namespace Rows
def none {H : Type} : Left H := { results := [], args := [] }

/-- 'foliatelaw09.CanonTells': WHATEVER THE INPUT: true; the input reads as it did. -/
def canonTellsSpec : ChangeSpec := { name := "canonTells", fn := fun _ => fun
  | [d1, d2] => { results := [.lit (.bool true)], args := [d1, d2] }
  | _ => none }
def canonTellsRow : OpenClaim := { program := "ytkfdkamdkdjkgaa", sum := "fb0ca2f242653292c0c0447d3be9582777d4cc030089018de8aab137e4209c9e", func := "foliate/foliatelaw09.CanonTells", spec := "canonTells", unfollowed := true, recurses := true, apart := false }
def CanonTellsSaid : Prop := canonTellsRow.holds Try.pinned (OpenSpec.ofChange canonTellsSpec)

/-- ITS FALSE NEIGHBOUR: 'it returns false'. Refute it at one input. -/
def canonTellsWrong : ChangeSpec := { name := "canonTells", fn := fun _ => fun
  | [d1, d2] => { results := [.lit (.bool false)], args := [d1, d2] }
  | _ => none }
def CanonTellsWrongFalsely : Prop := canonTellsRow.holds Try.pinned (OpenSpec.ofChange canonTellsWrong)

/-- 'foliatelaw09.CanonIds': WHATEVER THE INPUT: true; the input reads as it did. -/
def canonIdsSpec : ChangeSpec := { name := "canonIds", fn := fun _ => fun
  | [d1, d2] => { results := [.lit (.bool true)], args := [d1, d2] }
  | _ => none }
def canonIdsRow : OpenClaim := { program := "ytkfdkamdkdjkgaa", sum := "fb0ca2f242653292c0c0447d3be9582777d4cc030089018de8aab137e4209c9e", func := "foliate/foliatelaw09.CanonIds", spec := "canonIds", unfollowed := true, recurses := true, apart := false }
def CanonIdsSaid : Prop := canonIdsRow.holds Try.pinned (OpenSpec.ofChange canonIdsSpec)

/-- ITS FALSE NEIGHBOUR: 'it returns false'. Refute it at one input. -/
def canonIdsWrong : ChangeSpec := { name := "canonIds", fn := fun _ => fun
  | [d1, d2] => { results := [.lit (.bool false)], args := [d1, d2] }
  | _ => none }
def CanonIdsWrongFalsely : Prop := canonIdsRow.holds Try.pinned (OpenSpec.ofChange canonIdsWrong)

/-- 'foliatelaw09.CanonRoots': WHATEVER THE INPUT: true; the input reads as it did. -/
def canonRootsSpec : ChangeSpec := { name := "canonRoots", fn := fun _ => fun
  | [d] => { results := [.lit (.bool true)], args := [d] }
  | _ => none }
def canonRootsRow : OpenClaim := { program := "ytkfdkamdkdjkgaa", sum := "fb0ca2f242653292c0c0447d3be9582777d4cc030089018de8aab137e4209c9e", func := "foliate/foliatelaw09.CanonRoots", spec := "canonRoots", unfollowed := true, recurses := true, apart := false }
def CanonRootsSaid : Prop := canonRootsRow.holds Try.pinned (OpenSpec.ofChange canonRootsSpec)

/-- ITS FALSE NEIGHBOUR: 'it returns false'. Refute it at one input. -/
def canonRootsWrong : ChangeSpec := { name := "canonRoots", fn := fun _ => fun
  | [d] => { results := [.lit (.bool false)], args := [d] }
  | _ => none }
def CanonRootsWrongFalsely : Prop := canonRootsRow.holds Try.pinned (OpenSpec.ofChange canonRootsWrong)

/-- 'foliatelaw09.CanonFields': WHATEVER THE INPUT: true; the input reads as it did. -/
def canonFieldsSpec : ChangeSpec := { name := "canonFields", fn := fun _ => fun
  | [d1, d2, d3] => { results := [.lit (.bool true)], args := [d1, d2, d3] }
  | _ => none }
def canonFieldsRow : OpenClaim := { program := "ytkfdkamdkdjkgaa", sum := "fb0ca2f242653292c0c0447d3be9582777d4cc030089018de8aab137e4209c9e", func := "foliate/foliatelaw09.CanonFields", spec := "canonFields", unfollowed := true, recurses := true, apart := false }
def CanonFieldsSaid : Prop := canonFieldsRow.holds Try.pinned (OpenSpec.ofChange canonFieldsSpec)

/-- ITS FALSE NEIGHBOUR: 'it returns false'. Refute it at one input. -/
def canonFieldsWrong : ChangeSpec := { name := "canonFields", fn := fun _ => fun
  | [d1, d2, d3] => { results := [.lit (.bool false)], args := [d1, d2, d3] }
  | _ => none }
def CanonFieldsWrongFalsely : Prop := canonFieldsRow.holds Try.pinned (OpenSpec.ofChange canonFieldsWrong)

/- THE SECOND FORM. 'bulk': how many values and letters a reading holds, each counted each time it is reached (what is shared counts as often as it is met; a slice's spare places count too). A statement '..UptoSaid' is the law's where the arguments, and the package variables that the reading takes, are together of bulk at most 1048576: NARROWER than '..Said'. Prove '..Said' where nothing that the law and all that it calls make is longer than what came in: it says more and counts as full. Else prove '..UptoSaid'. A law counts once. -/
mutual
def uptoBulk {H : Type} : DataW H → Nat
  | .lit (.string bytes) => bytes.length + 1
  | .lit _ => 1
  | .nil => 1
  | .ptr d => uptoBulk d + 1
  | .slice elems spare => uptoBulkAll elems + uptoBulkAll spare + 1
  | .agg parts => uptoBulkAll parts + 1
  | .iface _ d => uptoBulk d + 1
  | .map entries => uptoBulkEntries entries + 1
  | .held _ => 1
def uptoBulkAll {H : Type} : List (DataW H) → Nat
  | [] => 0
  | d :: r => uptoBulk d + uptoBulkAll r
def uptoBulkEntries {H : Type} : List (Lit × DataW H) → Nat
  | [] => 0
  | x :: r => uptoBulkEntry x + uptoBulkEntries r
def uptoBulkEntry {H : Type} : Lit × DataW H → Nat
  | (.string bytes, d) => bytes.length + uptoBulk d + 1
  | (_, d) => uptoBulk d + 1
 end
def uptoSmall : (H : Type) → List (DataW H) → Bool := fun _ ds => decide (uptoBulkAll ds ≤ 1048576)
def OpenSpec.upto (s : _root_.Go.ChangeSpec) : _root_.Go.OpenSpec := { _root_.Go.OpenSpec.ofChange s with cond := some uptoSmall }

/-- 'foliatelaw09.CanonTells', WHERE WHAT IT READS IS OF BULK AT MOST 1048576: true; the input reads as it did. -/
def canonTellsUptoRow : OpenClaim := { program := "ytkfdkamdkdjkgaa", sum := "fb0ca2f242653292c0c0447d3be9582777d4cc030089018de8aab137e4209c9e", func := "foliate/foliatelaw09.CanonTells", spec := "canonTells", unfollowed := true, recurses := true, apart := false, narrowed := true }
def CanonTellsUptoSaid : Prop := canonTellsUptoRow.holds Try.pinned (OpenSpec.upto canonTellsSpec)

/-- 'foliatelaw09.CanonIds', WHERE WHAT IT READS IS OF BULK AT MOST 1048576: true; the input reads as it did. -/
def canonIdsUptoRow : OpenClaim := { program := "ytkfdkamdkdjkgaa", sum := "fb0ca2f242653292c0c0447d3be9582777d4cc030089018de8aab137e4209c9e", func := "foliate/foliatelaw09.CanonIds", spec := "canonIds", unfollowed := true, recurses := true, apart := false, narrowed := true }
def CanonIdsUptoSaid : Prop := canonIdsUptoRow.holds Try.pinned (OpenSpec.upto canonIdsSpec)

/-- 'foliatelaw09.CanonRoots', WHERE WHAT IT READS IS OF BULK AT MOST 1048576: true; the input reads as it did. -/
def canonRootsUptoRow : OpenClaim := { program := "ytkfdkamdkdjkgaa", sum := "fb0ca2f242653292c0c0447d3be9582777d4cc030089018de8aab137e4209c9e", func := "foliate/foliatelaw09.CanonRoots", spec := "canonRoots", unfollowed := true, recurses := true, apart := false, narrowed := true }
def CanonRootsUptoSaid : Prop := canonRootsUptoRow.holds Try.pinned (OpenSpec.upto canonRootsSpec)

/-- 'foliatelaw09.CanonFields', WHERE WHAT IT READS IS OF BULK AT MOST 1048576: true; the input reads as it did. -/
def canonFieldsUptoRow : OpenClaim := { program := "ytkfdkamdkdjkgaa", sum := "fb0ca2f242653292c0c0447d3be9582777d4cc030089018de8aab137e4209c9e", func := "foliate/foliatelaw09.CanonFields", spec := "canonFields", unfollowed := true, recurses := true, apart := false, narrowed := true }
def CanonFieldsUptoSaid : Prop := canonFieldsUptoRow.holds Try.pinned (OpenSpec.upto canonFieldsSpec)

end Rows
end Go.Proofs.Ytkfdkamdkdjkgaa
