/-
  No cell of these rows narrows 'for every input' (looked for: loops, veiled, ifaces, maps, wideKeys, modest, calm, conditions, laid).
  DERIVED. THE GIVEN ROWS OF THIS SEAT. 12 by the template 'for every input the law returns true; each argument reads behind the call as it read before'; 0 by the template 'total and deterministic' (their statements: YtmadijloeffjfaaTotals.lean).
  GIVEN WITH THE SEED: the statements are not yours to turn. If you find one false, say at which input.
  Laid BY PROGRAM, IN A SANDBOX (cutbox-rows.mjs): the forced cells as the released guide's own fill.sh prints them over the translation 5eb8b8ba6be7cd22… (all of the seat's roots in one cut). By AI agents, Wed Nov 11 2026. No macro, syntax, notation, axiom, sorry.
-/
import Derived.Test.YtmadijloeffjfaaChecked
import GoSem.Claim
import GoSem.ClaimJoined
import GoSem.ClaimMapViews
import Derived.JoinedTies
import Derived.KernelRfl
namespace Go.Proofs.Ytmadijloeffjfaa
/- THE CELL 'sum', in the pinned program and in every row, IS THE sha256 OF THE DUMP (.gsa) THAT YtmadijloeffjfaaProg.lean LOADS. Nothing in Lean hashes anything: it is a label: what it is worth is what the hold of that sum in a sandbox is worth. -/
noncomputable def Try.pinned : Pinned := { name := "ytmadijloeffjfaa", sum := "5eb8b8ba6be7cd2221b70f2586ef79038f38970cc13e1544be40c58e21b50bfc", checked := Try.checked }
namespace Rows
def none {H : Type} : Left H := { results := [], args := [] }

/-- 'foliatelaw14.DiffTurned': WHATEVER THE INPUT: true; the input reads as it did. -/
def diffTurnedSpec : ChangeSpec := { name := "diffTurned", fn := fun _ => fun
  | [d1, d2] => { results := [.lit (.bool true)], args := [d1, d2] }
  | _ => none }
def diffTurnedRow : OpenClaim := { program := "ytmadijloeffjfaa", sum := "5eb8b8ba6be7cd2221b70f2586ef79038f38970cc13e1544be40c58e21b50bfc", func := "foliate/foliatelaw14.DiffTurned", spec := "diffTurned", unfollowed := true, recurses := true, apart := false }
def DiffTurnedSaid : Prop := diffTurnedRow.holds Try.pinned (OpenSpec.ofChange diffTurnedSpec)

/-- ITS FALSE NEIGHBOUR: 'it returns false'. Refute it at one input. -/
def diffTurnedWrong : ChangeSpec := { name := "diffTurned", fn := fun _ => fun
  | [d1, d2] => { results := [.lit (.bool false)], args := [d1, d2] }
  | _ => none }
def DiffTurnedWrongFalsely : Prop := diffTurnedRow.holds Try.pinned (OpenSpec.ofChange diffTurnedWrong)

/-- 'foliatelaw14.DiffNone': WHATEVER THE INPUT: true; the input reads as it did. -/
def diffNoneSpec : ChangeSpec := { name := "diffNone", fn := fun _ => fun
  | [d1, d2] => { results := [.lit (.bool true)], args := [d1, d2] }
  | _ => none }
def diffNoneRow : OpenClaim := { program := "ytmadijloeffjfaa", sum := "5eb8b8ba6be7cd2221b70f2586ef79038f38970cc13e1544be40c58e21b50bfc", func := "foliate/foliatelaw14.DiffNone", spec := "diffNone", unfollowed := true, recurses := true, apart := false }
def DiffNoneSaid : Prop := diffNoneRow.holds Try.pinned (OpenSpec.ofChange diffNoneSpec)

/-- ITS FALSE NEIGHBOUR: 'it returns false'. Refute it at one input. -/
def diffNoneWrong : ChangeSpec := { name := "diffNone", fn := fun _ => fun
  | [d1, d2] => { results := [.lit (.bool false)], args := [d1, d2] }
  | _ => none }
def DiffNoneWrongFalsely : Prop := diffNoneRow.holds Try.pinned (OpenSpec.ofChange diffNoneWrong)

/-- 'foliatelaw14.DiffSteps': WHATEVER THE INPUT: true; the input reads as it did. -/
def diffStepsSpec : ChangeSpec := { name := "diffSteps", fn := fun _ => fun
  | [d1, d2, d3, d4] => { results := [.lit (.bool true)], args := [d1, d2, d3, d4] }
  | _ => none }
def diffStepsRow : OpenClaim := { program := "ytmadijloeffjfaa", sum := "5eb8b8ba6be7cd2221b70f2586ef79038f38970cc13e1544be40c58e21b50bfc", func := "foliate/foliatelaw14.DiffSteps", spec := "diffSteps", unfollowed := true, recurses := true, apart := false }
def DiffStepsSaid : Prop := diffStepsRow.holds Try.pinned (OpenSpec.ofChange diffStepsSpec)

/-- ITS FALSE NEIGHBOUR: 'it returns false'. Refute it at one input. -/
def diffStepsWrong : ChangeSpec := { name := "diffSteps", fn := fun _ => fun
  | [d1, d2, d3, d4] => { results := [.lit (.bool false)], args := [d1, d2, d3, d4] }
  | _ => none }
def DiffStepsWrongFalsely : Prop := diffStepsRow.holds Try.pinned (OpenSpec.ofChange diffStepsWrong)

/-- 'foliatelaw09.CanonOnce': WHATEVER THE INPUT: true; the input reads as it did. -/
def canonOnceSpec : ChangeSpec := { name := "canonOnce", fn := fun _ => fun
  | [d] => { results := [.lit (.bool true)], args := [d] }
  | _ => none }
def canonOnceRow : OpenClaim := { program := "ytmadijloeffjfaa", sum := "5eb8b8ba6be7cd2221b70f2586ef79038f38970cc13e1544be40c58e21b50bfc", func := "foliate/foliatelaw09.CanonOnce", spec := "canonOnce", unfollowed := true, recurses := true, apart := false }
def CanonOnceSaid : Prop := canonOnceRow.holds Try.pinned (OpenSpec.ofChange canonOnceSpec)

/-- ITS FALSE NEIGHBOUR: 'it returns false'. Refute it at one input. -/
def canonOnceWrong : ChangeSpec := { name := "canonOnce", fn := fun _ => fun
  | [d] => { results := [.lit (.bool false)], args := [d] }
  | _ => none }
def CanonOnceWrongFalsely : Prop := canonOnceRow.holds Try.pinned (OpenSpec.ofChange canonOnceWrong)

/-- 'foliatelaw08.GraphReach': WHATEVER THE INPUT: true; the input reads as it did. -/
def graphReachSpec : ChangeSpec := { name := "graphReach", fn := fun _ => fun
  | [d1, d2, d3] => { results := [.lit (.bool true)], args := [d1, d2, d3] }
  | _ => none }
def graphReachRow : OpenClaim := { program := "ytmadijloeffjfaa", sum := "5eb8b8ba6be7cd2221b70f2586ef79038f38970cc13e1544be40c58e21b50bfc", func := "foliate/foliatelaw08.GraphReach", spec := "graphReach", unfollowed := true, recurses := true, apart := false }
def GraphReachSaid : Prop := graphReachRow.holds Try.pinned (OpenSpec.ofChange graphReachSpec)

/-- ITS FALSE NEIGHBOUR: 'it returns false'. Refute it at one input. -/
def graphReachWrong : ChangeSpec := { name := "graphReach", fn := fun _ => fun
  | [d1, d2, d3] => { results := [.lit (.bool false)], args := [d1, d2, d3] }
  | _ => none }
def GraphReachWrongFalsely : Prop := graphReachRow.holds Try.pinned (OpenSpec.ofChange graphReachWrong)

/-- 'foliatelaw08.GraphLeast': WHATEVER THE INPUT: true; the input reads as it did. -/
def graphLeastSpec : ChangeSpec := { name := "graphLeast", fn := fun _ => fun
  | [d1, d2] => { results := [.lit (.bool true)], args := [d1, d2] }
  | _ => none }
def graphLeastRow : OpenClaim := { program := "ytmadijloeffjfaa", sum := "5eb8b8ba6be7cd2221b70f2586ef79038f38970cc13e1544be40c58e21b50bfc", func := "foliate/foliatelaw08.GraphLeast", spec := "graphLeast", unfollowed := true, recurses := true, apart := false }
def GraphLeastSaid : Prop := graphLeastRow.holds Try.pinned (OpenSpec.ofChange graphLeastSpec)

/-- ITS FALSE NEIGHBOUR: 'it returns false'. Refute it at one input. -/
def graphLeastWrong : ChangeSpec := { name := "graphLeast", fn := fun _ => fun
  | [d1, d2] => { results := [.lit (.bool false)], args := [d1, d2] }
  | _ => none }
def GraphLeastWrongFalsely : Prop := graphLeastRow.holds Try.pinned (OpenSpec.ofChange graphLeastWrong)

/-- 'foliatelaw08.GraphNew': WHATEVER THE INPUT: true; the input reads as it did. -/
def graphNewSpec : ChangeSpec := { name := "graphNew", fn := fun _ => fun
  | [d1, d2] => { results := [.lit (.bool true)], args := [d1, d2] }
  | _ => none }
def graphNewRow : OpenClaim := { program := "ytmadijloeffjfaa", sum := "5eb8b8ba6be7cd2221b70f2586ef79038f38970cc13e1544be40c58e21b50bfc", func := "foliate/foliatelaw08.GraphNew", spec := "graphNew", unfollowed := true, recurses := true, apart := false }
def GraphNewSaid : Prop := graphNewRow.holds Try.pinned (OpenSpec.ofChange graphNewSpec)

/-- ITS FALSE NEIGHBOUR: 'it returns false'. Refute it at one input. -/
def graphNewWrong : ChangeSpec := { name := "graphNew", fn := fun _ => fun
  | [d1, d2] => { results := [.lit (.bool false)], args := [d1, d2] }
  | _ => none }
def GraphNewWrongFalsely : Prop := graphNewRow.holds Try.pinned (OpenSpec.ofChange graphNewWrong)

/-- 'foliatelaw09.CanonAlike': WHATEVER THE INPUT: true; the input reads as it did. -/
def canonAlikeSpec : ChangeSpec := { name := "canonAlike", fn := fun _ => fun
  | [d1, d2, d3, d4, d5, d6] => { results := [.lit (.bool true)], args := [d1, d2, d3, d4, d5, d6] }
  | _ => none }
def canonAlikeRow : OpenClaim := { program := "ytmadijloeffjfaa", sum := "5eb8b8ba6be7cd2221b70f2586ef79038f38970cc13e1544be40c58e21b50bfc", func := "foliate/foliatelaw09.CanonAlike", spec := "canonAlike", unfollowed := true, recurses := true, apart := false }
def CanonAlikeSaid : Prop := canonAlikeRow.holds Try.pinned (OpenSpec.ofChange canonAlikeSpec)

/-- ITS FALSE NEIGHBOUR: 'it returns false'. Refute it at one input. -/
def canonAlikeWrong : ChangeSpec := { name := "canonAlike", fn := fun _ => fun
  | [d1, d2, d3, d4, d5, d6] => { results := [.lit (.bool false)], args := [d1, d2, d3, d4, d5, d6] }
  | _ => none }
def CanonAlikeWrongFalsely : Prop := canonAlikeRow.holds Try.pinned (OpenSpec.ofChange canonAlikeWrong)

/-- 'foliatelaw08.GraphRoot': WHATEVER THE INPUT: true; the input reads as it did. -/
def graphRootSpec : ChangeSpec := { name := "graphRoot", fn := fun _ => fun
  | [d1, d2, d3] => { results := [.lit (.bool true)], args := [d1, d2, d3] }
  | _ => none }
def graphRootRow : OpenClaim := { program := "ytmadijloeffjfaa", sum := "5eb8b8ba6be7cd2221b70f2586ef79038f38970cc13e1544be40c58e21b50bfc", func := "foliate/foliatelaw08.GraphRoot", spec := "graphRoot", unfollowed := true, recurses := true, apart := false }
def GraphRootSaid : Prop := graphRootRow.holds Try.pinned (OpenSpec.ofChange graphRootSpec)

/-- ITS FALSE NEIGHBOUR: 'it returns false'. Refute it at one input. -/
def graphRootWrong : ChangeSpec := { name := "graphRoot", fn := fun _ => fun
  | [d1, d2, d3] => { results := [.lit (.bool false)], args := [d1, d2, d3] }
  | _ => none }
def GraphRootWrongFalsely : Prop := graphRootRow.holds Try.pinned (OpenSpec.ofChange graphRootWrong)

/-- 'foliatelaw08.GraphSet': WHATEVER THE INPUT: true; the input reads as it did. -/
def graphSetSpec : ChangeSpec := { name := "graphSet", fn := fun _ => fun
  | [d1, d2, d3, d4] => { results := [.lit (.bool true)], args := [d1, d2, d3, d4] }
  | _ => none }
def graphSetRow : OpenClaim := { program := "ytmadijloeffjfaa", sum := "5eb8b8ba6be7cd2221b70f2586ef79038f38970cc13e1544be40c58e21b50bfc", func := "foliate/foliatelaw08.GraphSet", spec := "graphSet", unfollowed := true, recurses := true, apart := false }
def GraphSetSaid : Prop := graphSetRow.holds Try.pinned (OpenSpec.ofChange graphSetSpec)

/-- ITS FALSE NEIGHBOUR: 'it returns false'. Refute it at one input. -/
def graphSetWrong : ChangeSpec := { name := "graphSet", fn := fun _ => fun
  | [d1, d2, d3, d4] => { results := [.lit (.bool false)], args := [d1, d2, d3, d4] }
  | _ => none }
def GraphSetWrongFalsely : Prop := graphSetRow.holds Try.pinned (OpenSpec.ofChange graphSetWrong)

/-- 'foliatelaw08.GraphStays': WHATEVER THE INPUT: true; the input reads as it did. -/
def graphStaysSpec : ChangeSpec := { name := "graphStays", fn := fun _ => fun
  | [d1, d2, d3, d4] => { results := [.lit (.bool true)], args := [d1, d2, d3, d4] }
  | _ => none }
def graphStaysRow : OpenClaim := { program := "ytmadijloeffjfaa", sum := "5eb8b8ba6be7cd2221b70f2586ef79038f38970cc13e1544be40c58e21b50bfc", func := "foliate/foliatelaw08.GraphStays", spec := "graphStays", unfollowed := true, recurses := true, apart := false }
def GraphStaysSaid : Prop := graphStaysRow.holds Try.pinned (OpenSpec.ofChange graphStaysSpec)

/-- ITS FALSE NEIGHBOUR: 'it returns false'. Refute it at one input. -/
def graphStaysWrong : ChangeSpec := { name := "graphStays", fn := fun _ => fun
  | [d1, d2, d3, d4] => { results := [.lit (.bool false)], args := [d1, d2, d3, d4] }
  | _ => none }
def GraphStaysWrongFalsely : Prop := graphStaysRow.holds Try.pinned (OpenSpec.ofChange graphStaysWrong)

/-- 'foliatelaw09.CanonTurned': WHATEVER THE INPUT: true; the input reads as it did. -/
def canonTurnedSpec : ChangeSpec := { name := "canonTurned", fn := fun _ => fun
  | [d] => { results := [.lit (.bool true)], args := [d] }
  | _ => none }
def canonTurnedRow : OpenClaim := { program := "ytmadijloeffjfaa", sum := "5eb8b8ba6be7cd2221b70f2586ef79038f38970cc13e1544be40c58e21b50bfc", func := "foliate/foliatelaw09.CanonTurned", spec := "canonTurned", unfollowed := true, recurses := true, apart := false }
def CanonTurnedSaid : Prop := canonTurnedRow.holds Try.pinned (OpenSpec.ofChange canonTurnedSpec)

/-- ITS FALSE NEIGHBOUR: 'it returns false'. Refute it at one input. -/
def canonTurnedWrong : ChangeSpec := { name := "canonTurned", fn := fun _ => fun
  | [d] => { results := [.lit (.bool false)], args := [d] }
  | _ => none }
def CanonTurnedWrongFalsely : Prop := canonTurnedRow.holds Try.pinned (OpenSpec.ofChange canonTurnedWrong)

/- THE SECOND FORM. 'bulk': how many values and letters a reading holds, each counted each time it is reached (what is shared counts as often as it is met; a slice's spare places count too). A statement '..UptoSaid' is the law's where the arguments, and the package variables that the reading takes, are together of bulk at most 1048576: NARROWER than '..Said'. Prove '..Said' where nothing that the law and all that it calls make is longer than what came in: it says more and counts as full. Else prove '..UptoSaid'. A law counts once. -/
mutual
def uptoBulk {H : Type} : DataW H → Nat
  | .lit (.string bytes) => bytes.length + 1
  | .lit _ => 1
  | .nil => 1
  | .ptr d => uptoBulk d + 1
  | .slice elems spare => uptoBulkAll elems + uptoBulkAll spare + 1
  | .agg parts => uptoBulkAll parts + 1
  | .iface _ d => uptoBulk d + 1
  | .map entries => uptoBulkEntries entries + 1
  | .held _ => 1
def uptoBulkAll {H : Type} : List (DataW H) → Nat
  | [] => 0
  | d :: r => uptoBulk d + uptoBulkAll r
def uptoBulkEntries {H : Type} : List (Lit × DataW H) → Nat
  | [] => 0
  | x :: r => uptoBulkEntry x + uptoBulkEntries r
def uptoBulkEntry {H : Type} : Lit × DataW H → Nat
  | (.string bytes, d) => bytes.length + uptoBulk d + 1
  | (_, d) => uptoBulk d + 1
 end
def uptoSmall : (H : Type) → List (DataW H) → Bool := fun _ ds => decide (uptoBulkAll ds ≤ 1048576)
def OpenSpec.upto (s : _root_.Go.ChangeSpec) : _root_.Go.OpenSpec := { _root_.Go.OpenSpec.ofChange s with cond := some uptoSmall }

/-- 'foliatelaw14.DiffTurned', WHERE WHAT IT READS IS OF BULK AT MOST 1048576: true; the input reads as it did. -/
def diffTurnedUptoRow : OpenClaim := { program := "ytmadijloeffjfaa", sum := "5eb8b8ba6be7cd2221b70f2586ef79038f38970cc13e1544be40c58e21b50bfc", func := "foliate/foliatelaw14.DiffTurned", spec := "diffTurned", unfollowed := true, recurses := true, apart := false, narrowed := true }
def DiffTurnedUptoSaid : Prop := diffTurnedUptoRow.holds Try.pinned (OpenSpec.upto diffTurnedSpec)

/-- 'foliatelaw14.DiffNone', WHERE WHAT IT READS IS OF BULK AT MOST 1048576: true; the input reads as it did. -/
def diffNoneUptoRow : OpenClaim := { program := "ytmadijloeffjfaa", sum := "5eb8b8ba6be7cd2221b70f2586ef79038f38970cc13e1544be40c58e21b50bfc", func := "foliate/foliatelaw14.DiffNone", spec := "diffNone", unfollowed := true, recurses := true, apart := false, narrowed := true }
def DiffNoneUptoSaid : Prop := diffNoneUptoRow.holds Try.pinned (OpenSpec.upto diffNoneSpec)

/-- 'foliatelaw14.DiffSteps', WHERE WHAT IT READS IS OF BULK AT MOST 1048576: true; the input reads as it did. -/
def diffStepsUptoRow : OpenClaim := { program := "ytmadijloeffjfaa", sum := "5eb8b8ba6be7cd2221b70f2586ef79038f38970cc13e1544be40c58e21b50bfc", func := "foliate/foliatelaw14.DiffSteps", spec := "diffSteps", unfollowed := true, recurses := true, apart := false, narrowed := true }
def DiffStepsUptoSaid : Prop := diffStepsUptoRow.holds Try.pinned (OpenSpec.upto diffStepsSpec)

/-- 'foliatelaw09.CanonOnce', WHERE WHAT IT READS IS OF BULK AT MOST 1048576: true; the input reads as it did. -/
def canonOnceUptoRow : OpenClaim := { program := "ytmadijloeffjfaa", sum := "5eb8b8ba6be7cd2221b70f2586ef79038f38970cc13e1544be40c58e21b50bfc", func := "foliate/foliatelaw09.CanonOnce", spec := "canonOnce", unfollowed := true, recurses := true, apart := false, narrowed := true }
def CanonOnceUptoSaid : Prop := canonOnceUptoRow.holds Try.pinned (OpenSpec.upto canonOnceSpec)

/-- 'foliatelaw08.GraphReach', WHERE WHAT IT READS IS OF BULK AT MOST 1048576: true; the input reads as it did. -/
def graphReachUptoRow : OpenClaim := { program := "ytmadijloeffjfaa", sum := "5eb8b8ba6be7cd2221b70f2586ef79038f38970cc13e1544be40c58e21b50bfc", func := "foliate/foliatelaw08.GraphReach", spec := "graphReach", unfollowed := true, recurses := true, apart := false, narrowed := true }
def GraphReachUptoSaid : Prop := graphReachUptoRow.holds Try.pinned (OpenSpec.upto graphReachSpec)

/-- 'foliatelaw08.GraphLeast', WHERE WHAT IT READS IS OF BULK AT MOST 1048576: true; the input reads as it did. -/
def graphLeastUptoRow : OpenClaim := { program := "ytmadijloeffjfaa", sum := "5eb8b8ba6be7cd2221b70f2586ef79038f38970cc13e1544be40c58e21b50bfc", func := "foliate/foliatelaw08.GraphLeast", spec := "graphLeast", unfollowed := true, recurses := true, apart := false, narrowed := true }
def GraphLeastUptoSaid : Prop := graphLeastUptoRow.holds Try.pinned (OpenSpec.upto graphLeastSpec)

/-- 'foliatelaw08.GraphNew', WHERE WHAT IT READS IS OF BULK AT MOST 1048576: true; the input reads as it did. -/
def graphNewUptoRow : OpenClaim := { program := "ytmadijloeffjfaa", sum := "5eb8b8ba6be7cd2221b70f2586ef79038f38970cc13e1544be40c58e21b50bfc", func := "foliate/foliatelaw08.GraphNew", spec := "graphNew", unfollowed := true, recurses := true, apart := false, narrowed := true }
def GraphNewUptoSaid : Prop := graphNewUptoRow.holds Try.pinned (OpenSpec.upto graphNewSpec)

/-- 'foliatelaw09.CanonAlike', WHERE WHAT IT READS IS OF BULK AT MOST 1048576: true; the input reads as it did. -/
def canonAlikeUptoRow : OpenClaim := { program := "ytmadijloeffjfaa", sum := "5eb8b8ba6be7cd2221b70f2586ef79038f38970cc13e1544be40c58e21b50bfc", func := "foliate/foliatelaw09.CanonAlike", spec := "canonAlike", unfollowed := true, recurses := true, apart := false, narrowed := true }
def CanonAlikeUptoSaid : Prop := canonAlikeUptoRow.holds Try.pinned (OpenSpec.upto canonAlikeSpec)

/-- 'foliatelaw08.GraphRoot', WHERE WHAT IT READS IS OF BULK AT MOST 1048576: true; the input reads as it did. -/
def graphRootUptoRow : OpenClaim := { program := "ytmadijloeffjfaa", sum := "5eb8b8ba6be7cd2221b70f2586ef79038f38970cc13e1544be40c58e21b50bfc", func := "foliate/foliatelaw08.GraphRoot", spec := "graphRoot", unfollowed := true, recurses := true, apart := false, narrowed := true }
def GraphRootUptoSaid : Prop := graphRootUptoRow.holds Try.pinned (OpenSpec.upto graphRootSpec)

/-- 'foliatelaw08.GraphSet', WHERE WHAT IT READS IS OF BULK AT MOST 1048576: true; the input reads as it did. -/
def graphSetUptoRow : OpenClaim := { program := "ytmadijloeffjfaa", sum := "5eb8b8ba6be7cd2221b70f2586ef79038f38970cc13e1544be40c58e21b50bfc", func := "foliate/foliatelaw08.GraphSet", spec := "graphSet", unfollowed := true, recurses := true, apart := false, narrowed := true }
def GraphSetUptoSaid : Prop := graphSetUptoRow.holds Try.pinned (OpenSpec.upto graphSetSpec)

/-- 'foliatelaw08.GraphStays', WHERE WHAT IT READS IS OF BULK AT MOST 1048576: true; the input reads as it did. -/
def graphStaysUptoRow : OpenClaim := { program := "ytmadijloeffjfaa", sum := "5eb8b8ba6be7cd2221b70f2586ef79038f38970cc13e1544be40c58e21b50bfc", func := "foliate/foliatelaw08.GraphStays", spec := "graphStays", unfollowed := true, recurses := true, apart := false, narrowed := true }
def GraphStaysUptoSaid : Prop := graphStaysUptoRow.holds Try.pinned (OpenSpec.upto graphStaysSpec)

/-- 'foliatelaw09.CanonTurned', WHERE WHAT IT READS IS OF BULK AT MOST 1048576: true; the input reads as it did. -/
def canonTurnedUptoRow : OpenClaim := { program := "ytmadijloeffjfaa", sum := "5eb8b8ba6be7cd2221b70f2586ef79038f38970cc13e1544be40c58e21b50bfc", func := "foliate/foliatelaw09.CanonTurned", spec := "canonTurned", unfollowed := true, recurses := true, apart := false, narrowed := true }
def CanonTurnedUptoSaid : Prop := canonTurnedUptoRow.holds Try.pinned (OpenSpec.upto canonTurnedSpec)

end Rows
end Go.Proofs.Ytmadijloeffjfaa
