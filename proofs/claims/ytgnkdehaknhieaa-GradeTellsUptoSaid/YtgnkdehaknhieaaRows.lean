/-
  No cell of these rows narrows 'for every input' (looked for: loops, veiled, ifaces, maps, wideKeys, modest, calm, conditions, laid).
  DERIVED. THE GIVEN ROWS OF THIS SEAT. 7 by the template 'for every input the law returns true; each argument reads behind the call as it read before'; 0 by the template 'total and deterministic' (their statements: YtgnkdehaknhieaaTotals.lean).
  GIVEN WITH THE SEED: the statements are not yours to turn. If you find one false, say at which input.
  Laid BY PROGRAM, IN A SANDBOX (cutbox-rows.mjs): the forced cells as the released guide's own fill.sh prints them over the translation 4ba2e81a47c78d1a… (all of the seat's roots in one cut). By AI agents, Wed Nov 11 2026. No macro, syntax, notation, axiom, sorry.
-/
import Derived.Test.YtgnkdehaknhieaaChecked
import GoSem.Claim
import GoSem.ClaimJoined
import GoSem.ClaimMapViews
import Derived.JoinedTies
import Derived.KernelRfl
namespace Go.Proofs.Ytgnkdehaknhieaa
/- THE CELL 'sum', in the pinned program and in every row, IS THE sha256 OF THE DUMP (.gsa) THAT YtgnkdehaknhieaaProg.lean LOADS. Nothing in Lean hashes anything: it is a label: what it is worth is what the hold of that sum in a sandbox is worth. -/
noncomputable def Try.pinned : Pinned := { name := "ytgnkdehaknhieaa", sum := "4ba2e81a47c78d1a166f55cee5567452142df6121dfc950174b59ff05d214193", checked := Try.checked }
namespace Rows
def none {H : Type} : Left H := { results := [], args := [] }

/-- 'foliatelaw13.GradeValues': WHATEVER THE INPUT: true; the input reads as it did. -/
def gradeValuesSpec : ChangeSpec := { name := "gradeValues", fn := fun _ => fun
  | [d1, d2, d3] => { results := [.lit (.bool true)], args := [d1, d2, d3] }
  | _ => none }
def gradeValuesRow : OpenClaim := { program := "ytgnkdehaknhieaa", sum := "4ba2e81a47c78d1a166f55cee5567452142df6121dfc950174b59ff05d214193", func := "foliate/foliatelaw13.GradeValues", spec := "gradeValues", unfollowed := true, recurses := true, apart := false }
def GradeValuesSaid : Prop := gradeValuesRow.holds Try.pinned (OpenSpec.ofChange gradeValuesSpec)

/-- ITS FALSE NEIGHBOUR: 'it returns false'. Refute it at one input. -/
def gradeValuesWrong : ChangeSpec := { name := "gradeValues", fn := fun _ => fun
  | [d1, d2, d3] => { results := [.lit (.bool false)], args := [d1, d2, d3] }
  | _ => none }
def GradeValuesWrongFalsely : Prop := gradeValuesRow.holds Try.pinned (OpenSpec.ofChange gradeValuesWrong)

/-- 'foliatelaw13.GradeTells': WHATEVER THE INPUT: true; the input reads as it did. -/
def gradeTellsSpec : ChangeSpec := { name := "gradeTells", fn := fun _ => fun
  | [d1, d2, d3, d4] => { results := [.lit (.bool true)], args := [d1, d2, d3, d4] }
  | _ => none }
def gradeTellsRow : OpenClaim := { program := "ytgnkdehaknhieaa", sum := "4ba2e81a47c78d1a166f55cee5567452142df6121dfc950174b59ff05d214193", func := "foliate/foliatelaw13.GradeTells", spec := "gradeTells", unfollowed := true, recurses := true, apart := false }
def GradeTellsSaid : Prop := gradeTellsRow.holds Try.pinned (OpenSpec.ofChange gradeTellsSpec)

/-- ITS FALSE NEIGHBOUR: 'it returns false'. Refute it at one input. -/
def gradeTellsWrong : ChangeSpec := { name := "gradeTells", fn := fun _ => fun
  | [d1, d2, d3, d4] => { results := [.lit (.bool false)], args := [d1, d2, d3, d4] }
  | _ => none }
def GradeTellsWrongFalsely : Prop := gradeTellsRow.holds Try.pinned (OpenSpec.ofChange gradeTellsWrong)

/-- 'foliatelaw13.GradeChain': WHATEVER THE INPUT: true; the input reads as it did. -/
def gradeChainSpec : ChangeSpec := { name := "gradeChain", fn := fun _ => fun
  | [d1, d2, d3] => { results := [.lit (.bool true)], args := [d1, d2, d3] }
  | _ => none }
def gradeChainRow : OpenClaim := { program := "ytgnkdehaknhieaa", sum := "4ba2e81a47c78d1a166f55cee5567452142df6121dfc950174b59ff05d214193", func := "foliate/foliatelaw13.GradeChain", spec := "gradeChain", unfollowed := true, recurses := true, apart := false }
def GradeChainSaid : Prop := gradeChainRow.holds Try.pinned (OpenSpec.ofChange gradeChainSpec)

/-- ITS FALSE NEIGHBOUR: 'it returns false'. Refute it at one input. -/
def gradeChainWrong : ChangeSpec := { name := "gradeChain", fn := fun _ => fun
  | [d1, d2, d3] => { results := [.lit (.bool false)], args := [d1, d2, d3] }
  | _ => none }
def GradeChainWrongFalsely : Prop := gradeChainRow.holds Try.pinned (OpenSpec.ofChange gradeChainWrong)

/-- 'foliatelaw13.GradeBack': WHATEVER THE INPUT: true; the input reads as it did. -/
def gradeBackSpec : ChangeSpec := { name := "gradeBack", fn := fun _ => fun
  | [d1, d2, d3] => { results := [.lit (.bool true)], args := [d1, d2, d3] }
  | _ => none }
def gradeBackRow : OpenClaim := { program := "ytgnkdehaknhieaa", sum := "4ba2e81a47c78d1a166f55cee5567452142df6121dfc950174b59ff05d214193", func := "foliate/foliatelaw13.GradeBack", spec := "gradeBack", unfollowed := true, recurses := true, apart := false }
def GradeBackSaid : Prop := gradeBackRow.holds Try.pinned (OpenSpec.ofChange gradeBackSpec)

/-- ITS FALSE NEIGHBOUR: 'it returns false'. Refute it at one input. -/
def gradeBackWrong : ChangeSpec := { name := "gradeBack", fn := fun _ => fun
  | [d1, d2, d3] => { results := [.lit (.bool false)], args := [d1, d2, d3] }
  | _ => none }
def GradeBackWrongFalsely : Prop := gradeBackRow.holds Try.pinned (OpenSpec.ofChange gradeBackWrong)

/-- 'foliatelaw13.GradeBetween': WHATEVER THE INPUT: true; the input reads as it did. -/
def gradeBetweenSpec : ChangeSpec := { name := "gradeBetween", fn := fun _ => fun
  | [d1, d2] => { results := [.lit (.bool true)], args := [d1, d2] }
  | _ => none }
def gradeBetweenRow : OpenClaim := { program := "ytgnkdehaknhieaa", sum := "4ba2e81a47c78d1a166f55cee5567452142df6121dfc950174b59ff05d214193", func := "foliate/foliatelaw13.GradeBetween", spec := "gradeBetween", unfollowed := true, recurses := true, apart := false }
def GradeBetweenSaid : Prop := gradeBetweenRow.holds Try.pinned (OpenSpec.ofChange gradeBetweenSpec)

/-- ITS FALSE NEIGHBOUR: 'it returns false'. Refute it at one input. -/
def gradeBetweenWrong : ChangeSpec := { name := "gradeBetween", fn := fun _ => fun
  | [d1, d2] => { results := [.lit (.bool false)], args := [d1, d2] }
  | _ => none }
def GradeBetweenWrongFalsely : Prop := gradeBetweenRow.holds Try.pinned (OpenSpec.ofChange gradeBetweenWrong)

/-- 'foliatelaw13.GradeStays': WHATEVER THE INPUT: true; the input reads as it did. -/
def gradeStaysSpec : ChangeSpec := { name := "gradeStays", fn := fun _ => fun
  | [d1, d2, d3] => { results := [.lit (.bool true)], args := [d1, d2, d3] }
  | _ => none }
def gradeStaysRow : OpenClaim := { program := "ytgnkdehaknhieaa", sum := "4ba2e81a47c78d1a166f55cee5567452142df6121dfc950174b59ff05d214193", func := "foliate/foliatelaw13.GradeStays", spec := "gradeStays", unfollowed := true, recurses := true, apart := false }
def GradeStaysSaid : Prop := gradeStaysRow.holds Try.pinned (OpenSpec.ofChange gradeStaysSpec)

/-- ITS FALSE NEIGHBOUR: 'it returns false'. Refute it at one input. -/
def gradeStaysWrong : ChangeSpec := { name := "gradeStays", fn := fun _ => fun
  | [d1, d2, d3] => { results := [.lit (.bool false)], args := [d1, d2, d3] }
  | _ => none }
def GradeStaysWrongFalsely : Prop := gradeStaysRow.holds Try.pinned (OpenSpec.ofChange gradeStaysWrong)

/-- 'foliatelaw14.DiffSwept': WHATEVER THE INPUT: true; the input reads as it did. -/
def diffSweptSpec : ChangeSpec := { name := "diffSwept", fn := fun _ => fun
  | [d] => { results := [.lit (.bool true)], args := [d] }
  | _ => none }
def diffSweptRow : OpenClaim := { program := "ytgnkdehaknhieaa", sum := "4ba2e81a47c78d1a166f55cee5567452142df6121dfc950174b59ff05d214193", func := "foliate/foliatelaw14.DiffSwept", spec := "diffSwept", unfollowed := true, recurses := true, apart := false }
def DiffSweptSaid : Prop := diffSweptRow.holds Try.pinned (OpenSpec.ofChange diffSweptSpec)

/-- ITS FALSE NEIGHBOUR: 'it returns false'. Refute it at one input. -/
def diffSweptWrong : ChangeSpec := { name := "diffSwept", fn := fun _ => fun
  | [d] => { results := [.lit (.bool false)], args := [d] }
  | _ => none }
def DiffSweptWrongFalsely : Prop := diffSweptRow.holds Try.pinned (OpenSpec.ofChange diffSweptWrong)

/- THE SECOND FORM. 'bulk': how many values and letters a reading holds, each counted each time it is reached (what is shared counts as often as it is met; a slice's spare places count too). A statement '..UptoSaid' is the law's where the arguments, and the package variables that the reading takes, are together of bulk at most 1048576: NARROWER than '..Said'. Prove '..Said' where nothing that the law and all that it calls make is longer than what came in: it says more and counts as full. Else prove '..UptoSaid'. A law counts once. -/
mutual
def uptoBulk {H : Type} : DataW H → Nat
  | .lit (.string bytes) => bytes.length + 1
  | .lit _ => 1
  | .nil => 1
  | .ptr d => uptoBulk d + 1
  | .slice elems spare => uptoBulkAll elems + uptoBulkAll spare + 1
  | .agg parts => uptoBulkAll parts + 1
  | .iface _ d => uptoBulk d + 1
  | .map entries => uptoBulkEntries entries + 1
  | .held _ => 1
def uptoBulkAll {H : Type} : List (DataW H) → Nat
  | [] => 0
  | d :: r => uptoBulk d + uptoBulkAll r
def uptoBulkEntries {H : Type} : List (Lit × DataW H) → Nat
  | [] => 0
  | x :: r => uptoBulkEntry x + uptoBulkEntries r
def uptoBulkEntry {H : Type} : Lit × DataW H → Nat
  | (.string bytes, d) => bytes.length + uptoBulk d + 1
  | (_, d) => uptoBulk d + 1
 end
def uptoSmall : (H : Type) → List (DataW H) → Bool := fun _ ds => decide (uptoBulkAll ds ≤ 1048576)
def OpenSpec.upto (s : _root_.Go.ChangeSpec) : _root_.Go.OpenSpec := { _root_.Go.OpenSpec.ofChange s with cond := some uptoSmall }

/-- 'foliatelaw13.GradeValues', WHERE WHAT IT READS IS OF BULK AT MOST 1048576: true; the input reads as it did. -/
def gradeValuesUptoRow : OpenClaim := { program := "ytgnkdehaknhieaa", sum := "4ba2e81a47c78d1a166f55cee5567452142df6121dfc950174b59ff05d214193", func := "foliate/foliatelaw13.GradeValues", spec := "gradeValues", unfollowed := true, recurses := true, apart := false, narrowed := true }
def GradeValuesUptoSaid : Prop := gradeValuesUptoRow.holds Try.pinned (OpenSpec.upto gradeValuesSpec)

/-- 'foliatelaw13.GradeTells', WHERE WHAT IT READS IS OF BULK AT MOST 1048576: true; the input reads as it did. -/
def gradeTellsUptoRow : OpenClaim := { program := "ytgnkdehaknhieaa", sum := "4ba2e81a47c78d1a166f55cee5567452142df6121dfc950174b59ff05d214193", func := "foliate/foliatelaw13.GradeTells", spec := "gradeTells", unfollowed := true, recurses := true, apart := false, narrowed := true }
def GradeTellsUptoSaid : Prop := gradeTellsUptoRow.holds Try.pinned (OpenSpec.upto gradeTellsSpec)

/-- 'foliatelaw13.GradeChain', WHERE WHAT IT READS IS OF BULK AT MOST 1048576: true; the input reads as it did. -/
def gradeChainUptoRow : OpenClaim := { program := "ytgnkdehaknhieaa", sum := "4ba2e81a47c78d1a166f55cee5567452142df6121dfc950174b59ff05d214193", func := "foliate/foliatelaw13.GradeChain", spec := "gradeChain", unfollowed := true, recurses := true, apart := false, narrowed := true }
def GradeChainUptoSaid : Prop := gradeChainUptoRow.holds Try.pinned (OpenSpec.upto gradeChainSpec)

/-- 'foliatelaw13.GradeBack', WHERE WHAT IT READS IS OF BULK AT MOST 1048576: true; the input reads as it did. -/
def gradeBackUptoRow : OpenClaim := { program := "ytgnkdehaknhieaa", sum := "4ba2e81a47c78d1a166f55cee5567452142df6121dfc950174b59ff05d214193", func := "foliate/foliatelaw13.GradeBack", spec := "gradeBack", unfollowed := true, recurses := true, apart := false, narrowed := true }
def GradeBackUptoSaid : Prop := gradeBackUptoRow.holds Try.pinned (OpenSpec.upto gradeBackSpec)

/-- 'foliatelaw13.GradeBetween', WHERE WHAT IT READS IS OF BULK AT MOST 1048576: true; the input reads as it did. -/
def gradeBetweenUptoRow : OpenClaim := { program := "ytgnkdehaknhieaa", sum := "4ba2e81a47c78d1a166f55cee5567452142df6121dfc950174b59ff05d214193", func := "foliate/foliatelaw13.GradeBetween", spec := "gradeBetween", unfollowed := true, recurses := true, apart := false, narrowed := true }
def GradeBetweenUptoSaid : Prop := gradeBetweenUptoRow.holds Try.pinned (OpenSpec.upto gradeBetweenSpec)

/-- 'foliatelaw13.GradeStays', WHERE WHAT IT READS IS OF BULK AT MOST 1048576: true; the input reads as it did. -/
def gradeStaysUptoRow : OpenClaim := { program := "ytgnkdehaknhieaa", sum := "4ba2e81a47c78d1a166f55cee5567452142df6121dfc950174b59ff05d214193", func := "foliate/foliatelaw13.GradeStays", spec := "gradeStays", unfollowed := true, recurses := true, apart := false, narrowed := true }
def GradeStaysUptoSaid : Prop := gradeStaysUptoRow.holds Try.pinned (OpenSpec.upto gradeStaysSpec)

/-- 'foliatelaw14.DiffSwept', WHERE WHAT IT READS IS OF BULK AT MOST 1048576: true; the input reads as it did. -/
def diffSweptUptoRow : OpenClaim := { program := "ytgnkdehaknhieaa", sum := "4ba2e81a47c78d1a166f55cee5567452142df6121dfc950174b59ff05d214193", func := "foliate/foliatelaw14.DiffSwept", spec := "diffSwept", unfollowed := true, recurses := true, apart := false, narrowed := true }
def DiffSweptUptoSaid : Prop := diffSweptUptoRow.holds Try.pinned (OpenSpec.upto diffSweptSpec)

end Rows
end Go.Proofs.Ytgnkdehaknhieaa
