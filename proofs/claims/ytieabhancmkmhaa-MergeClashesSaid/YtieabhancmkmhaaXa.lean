/-
  Two sides that set one field otherwise, and not as it was, clash in just that field; else they are made one.
-/
import Derived.Test.YtieabhancmkmhaaRows
import Derived.Test.YtieabhancmkmhaaProg
import Derived.WalkKit
import Derived.Below
import Derived.Scope
import Derived.Orders
import Derived.ProofKit
import Derived.SizedLaws
import Derived.Still
import Derived.Maps.RangeRun
import Derived.Test.YtieabhancmkmhaaFa
import Derived.Test.YtieabhancmkmhaaFb
import Derived.Test.YtieabhancmkmhaaFc
import Derived.Test.YtieabhancmkmhaaFd
import Derived.Test.YtieabhancmkmhaaFe
import Derived.Test.YtieabhancmkmhaaFf
import Derived.Test.YtieabhancmkmhaaDa
import Derived.Test.YtieabhancmkmhaaDb
import Derived.Test.YtieabhancmkmhaaWa
import Derived.Test.YtieabhancmkmhaaVa
import Derived.Test.YtieabhancmkmhaaVb
set_option linter.unusedVariables false
set_option linter.unusedSimpArgs false
namespace Go.Proofs.Ytieabhancmkmhaa
open Go.ChangeShapes Go.WideShapes Go.ChangeAt Go.RowKit
set_option maxRecDepth 100000
theorem mergeClashes_lifted (os : Os) (started : os.Started) (H : Type) (enc : TypeId × Value → H) :
    ReturnsInHanded {} Try.checked os 3 .any (Rows.mergeClashesSpec.pre6 enc Try.prog Try.f3 Rows.mergeClashesRow.domain false) (Rows.mergeClashesSpec.post enc Try.prog Try.f3 false true false false) := by
  refine Ab.law_row (C := Try.checked) (tb := 4) Ab.own0 started (by kernel_rfl) Try.func3 (ChangeSpec.witness6 (enc := enc) (C := Try.checked) false ⟨#[], #[.agg #[.slice none 0 0, .slice none 0 0, .slice none 0 0], .int .i64 0, .int .i64 0, .agg #[.int .i64 0, .string ⟨#[]⟩, .int .i64 0], .agg #[.int .i64 0, .string ⟨#[]⟩, .int .i64 0]], []⟩ 8 (by kernel_rfl) (by kernel_rfl) (by kernel_rfl) (by kernel_rfl)) Ab.laid0 ?_ rfl Try.underlying4 rfl ?_ (Ab.ArgsOK.cons Ab.arg_Graph (Ab.ArgsOK.cons Ab.arg_int (Ab.ArgsOK.cons Ab.arg_int (Ab.ArgsOK.cons Ab.arg_Val (Ab.ArgsOK.cons Ab.arg_Val Ab.ArgsOK.nil))))) ?_
  · intro t ht
    rw [Try.params3] at ht
    simp only [List.mem_cons, List.not_mem_nil, or_false] at ht
    rcases ht with rfl | rfl | rfl | rfl | rfl <;> exact ⟨by kernel_rfl, Nat.le_of_ble_eq_true (by kernel_rfl)⟩
  · intro ds hd
    rw [Try.params3] at hd
    obtain ⟨d0, d1, d2, d3, d4, rfl⟩ : ∃ d0, ∃ d1, ∃ d2, ∃ d3, ∃ d4, ds = [d0, d1, d2, d3, d4] := by
      match ds, hd with
      | [d0, d1, d2, d3, d4], _ => exact ⟨d0, d1, d2, d3, d4, rfl⟩
    rfl
  · rintro _ ⟨a0, _, w0, ⟨a1, _, w1, ⟨a2, _, w2, ⟨a3, _, w3, ⟨a4, _, w4, rfl, rfl⟩, rfl⟩, rfl⟩, rfl⟩, rfl⟩
    exact Ab.law15_MergeClashes false a0 a1 a2 a3 a4 w0.sz
theorem mergeClashes_holds : Rows.MergeClashesSaid :=
  OpenClaim.holds_of_wide 3 Try.f3 rfl rfl rfl rfl rfl rfl rfl ⟨rfl, rfl, rfl, rfl, rfl⟩ rfl rfl rfl rfl rfl (by kernel_rfl) Try.func3 (by kernel_rfl)
    (of_decide_eq_true (by kernel_rfl)) (by unfold Func.isWrapper; first | (rw [if_pos (by decide +kernel)]; kernel_rfl) | (rw [if_neg (by decide +kernel)]; exact ⟨rfl, rfl⟩))
    (fun os started H enc _ => mergeClashes_lifted os started H enc)
end Go.Proofs.Ytieabhancmkmhaa
