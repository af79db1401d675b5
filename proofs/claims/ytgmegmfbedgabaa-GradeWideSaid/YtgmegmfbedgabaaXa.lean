/-
  A number that has more bits has the same value; it can't have fewer again; what may be may be then, and has bytes, or too many parts.
-/
import Derived.Test.YtgmegmfbedgabaaRows
import Derived.Test.YtgmegmfbedgabaaProg
import Derived.WalkKit
import Derived.Below
import Derived.Scope
import Derived.Orders
import Derived.ProofKit
import Derived.SizedLaws
import Derived.Still
import Derived.WalkSmall
import Derived.Tactics
import Derived.Tactics2
import Derived.Defers
import Derived.Recover
import Derived.Laws.Pointers
import Derived.Lib.AppendStr
import Derived.ArgAppend
import Derived.Lib.ConvBytes
import Derived.Shelf.Strings.OnBuilder
import Derived.Laws.IdiomCopy
import Derived.Lib.AppendZerosOnto
import Derived.Lib.Walk
import Derived.Lib.SliceRun
import Derived.Deep.RegionLaw
import Derived.Test.YtgmegmfbedgabaaFa
import Derived.Test.YtgmegmfbedgabaaFb
import Derived.Test.YtgmegmfbedgabaaFc
import Derived.Test.YtgmegmfbedgabaaFd
import Derived.Test.YtgmegmfbedgabaaFe
import Derived.Test.YtgmegmfbedgabaaFf
import Derived.Test.YtgmegmfbedgabaaDa
import Derived.Test.YtgmegmfbedgabaaWa
import Derived.Test.YtgmegmfbedgabaaVa
import Derived.Test.YtgmegmfbedgabaaVb
import Derived.Test.YtgmegmfbedgabaaVc
set_option linter.unusedVariables false
set_option linter.unusedSimpArgs false
namespace Go.Proofs.Ytgmegmfbedgabaa
open Go.ChangeShapes Go.WideShapes Go.ChangeAt Go.RowKit
set_option maxRecDepth 100000
theorem gradeWide_lifted (os : Os) (started : os.Started) (H : Type) (enc : TypeId × Value → H) :
    ReturnsInHanded {} Try.checked os 7 .any (Rows.gradeWideSpec.pre6 enc Try.prog Try.f7 Rows.gradeWideRow.domain false) (Rows.gradeWideSpec.post enc Try.prog Try.f7 false true false false) := by
  refine Ab.law_row (C := Try.checked) (tb := 4) Ab.own0 started (by kernel_rfl) Try.func7 (ChangeSpec.witness6 (enc := enc) (C := Try.checked) false ⟨#[], #[.agg #[.slice none 0 0, .slice none 0 0, .slice none 0 0], .string ⟨#[]⟩, .string ⟨#[]⟩, .int .i64 0, .int .i64 0], []⟩ 8 (by kernel_rfl) (by kernel_rfl) (by kernel_rfl) (by kernel_rfl)) Ab.laid0 ?_ rfl Try.underlying4 rfl ?_ (Ab.ArgsOK.cons Ab.arg_Graph (Ab.ArgsOK.cons Ab.arg_str (Ab.ArgsOK.cons Ab.arg_str (Ab.ArgsOK.cons Ab.arg_int (Ab.ArgsOK.cons Ab.arg_int Ab.ArgsOK.nil))))) ?_
  · intro t ht
    rw [Try.params7] at ht
    simp only [List.mem_cons, List.not_mem_nil, or_false] at ht
    rcases ht with rfl | rfl | rfl | rfl | rfl <;> exact ⟨by kernel_rfl, Nat.le_of_ble_eq_true (by kernel_rfl)⟩
  · intro ds hd
    rw [Try.params7] at hd
    obtain ⟨d0, d1, d2, d3, d4, rfl⟩ : ∃ d0, ∃ d1, ∃ d2, ∃ d3, ∃ d4, ds = [d0, d1, d2, d3, d4] := by
      match ds, hd with
      | [d0, d1, d2, d3, d4], _ => exact ⟨d0, d1, d2, d3, d4, rfl⟩
    rfl
  · rintro _ ⟨a0, _, w0, ⟨a1, _, w1, ⟨a2, _, w2, ⟨a3, _, w3, ⟨a4, _, w4, rfl, rfl⟩, rfl⟩, rfl⟩, rfl⟩, rfl⟩
    exact Ab.law13_GradeWide false a0 a1 a2 a3 a4 w0.sz
theorem gradeWide_holds : Rows.GradeWideSaid :=
  OpenClaim.holds_of_wide 7 Try.f7 rfl rfl rfl rfl rfl rfl rfl ⟨rfl, rfl, rfl, rfl, rfl⟩ rfl rfl rfl rfl rfl (by kernel_rfl) Try.func7 (by kernel_rfl)
    (of_decide_eq_true (by kernel_rfl)) (by unfold Func.isWrapper; first | (rw [if_pos (by decide +kernel)]; kernel_rfl) | (rw [if_neg (by decide +kernel)]; exact ⟨rfl, rfl⟩))
    (fun os started H enc _ => gradeWide_lifted os started H enc)
end Go.Proofs.Ytgmegmfbedgabaa
