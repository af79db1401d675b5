/-
  The type of a value as plain data. No condition.
-/
import Derived.Test.YtmadijloeffjfaaProg
import Derived.Test.YtmadijloeffjfaaWd
set_option linter.unusedVariables false
set_option linter.unusedSimpArgs false
namespace Go.Ab
open Go Go.RowKit Go.Proofs
set_option maxRecDepth 100000
theorem arg_Val : ArgOK Try.prog 41 (fun v => .agg (eVal v)) wfVal := ArgOK.struct Try.underlying41 dec_Val
end Go.Ab

