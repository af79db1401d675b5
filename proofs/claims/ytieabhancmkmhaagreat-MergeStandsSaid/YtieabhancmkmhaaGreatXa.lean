/-
  What merge.Merge makes one may be, and is swept; each of its objects is one of a side's, each value one of theirs, and not the one that was, unless neither side changed it.
-/
import Derived.Test.YtieabhancmkmhaaGreatRows
import Derived.Test.YtieabhancmkmhaaGreatProg
import Derived.WalkKit
import Derived.Below
import Derived.Scope
import Derived.Orders
import Derived.ProofKit
import Derived.SizedLaws
import Derived.Still
import Derived.Maps.RangeRun
import Derived.Test.YtieabhancmkmhaaGreatFa
import Derived.Test.YtieabhancmkmhaaGreatFb
import Derived.Test.YtieabhancmkmhaaGreatFc
import Derived.Test.YtieabhancmkmhaaGreatFd
import Derived.Test.YtieabhancmkmhaaGreatFe
import Derived.Test.YtieabhancmkmhaaGreatFf
import Derived.Test.YtieabhancmkmhaaGreatDa
import Derived.Test.YtieabhancmkmhaaGreatWa
import Derived.Test.YtieabhancmkmhaaGreatVa
import Derived.Test.YtieabhancmkmhaaGreatVb
import Derived.Test.YtieabhancmkmhaaGreatVc
set_option linter.unusedVariables false
set_option linter.unusedSimpArgs false
namespace Go.Proofs.YtieabhancmkmhaaGreat
open Go.ChangeShapes Go.WideShapes Go.ChangeAt Go.RowKit
set_option maxRecDepth 100000
theorem mergeStands_lifted (os : Os) (started : os.Started) (H : Type) (enc : TypeId × Value → H) :
    ReturnsInHanded {} Tryz.checked os 5 .any (Rows.mergeStandsSpec.pre6 enc Tryz.prog Tryz.f5 Rows.mergeStandsRow.domain false) (Rows.mergeStandsSpec.post enc Tryz.prog Tryz.f5 false true false false) := by
  refine Ab.law_row (C := Tryz.checked) (tb := 4) Ab.own0 started (by kernel_rfl) Tryz.func5 (ChangeSpec.witness6 (enc := enc) (C := Tryz.checked) false ⟨#[], #[.agg #[.slice none 0 0, .slice none 0 0, .slice none 0 0], .agg #[.slice none 0 0, .slice none 0 0, .slice none 0 0], .agg #[.slice none 0 0, .slice none 0 0, .slice none 0 0], .int .i64 0, .int .i64 0], []⟩ 8 (by kernel_rfl) (by kernel_rfl) (by kernel_rfl) (by kernel_rfl)) Ab.laid0 ?_ rfl Tryz.underlying4 rfl ?_ (Ab.ArgsOK.cons Ab.arg_Graph (Ab.ArgsOK.cons Ab.arg_Graph (Ab.ArgsOK.cons Ab.arg_Graph (Ab.ArgsOK.cons Ab.arg_int (Ab.ArgsOK.cons Ab.arg_int Ab.ArgsOK.nil))))) ?_
  · intro t ht
    rw [Tryz.params5] at ht
    simp only [List.mem_cons, List.not_mem_nil, or_false] at ht
    rcases ht with rfl | rfl | rfl | rfl | rfl <;> exact ⟨by kernel_rfl, Nat.le_of_ble_eq_true (by kernel_rfl)⟩
  · intro ds hd
    rw [Tryz.params5] at hd
    obtain ⟨d0, d1, d2, d3, d4, rfl⟩ : ∃ d0, ∃ d1, ∃ d2, ∃ d3, ∃ d4, ds = [d0, d1, d2, d3, d4] := by
      match ds, hd with
      | [d0, d1, d2, d3, d4], _ => exact ⟨d0, d1, d2, d3, d4, rfl⟩
    rfl
  · rintro _ ⟨a0, _, w0, ⟨a1, _, w1, ⟨a2, _, w2, ⟨a3, _, w3, ⟨a4, _, w4, rfl, rfl⟩, rfl⟩, rfl⟩, rfl⟩, rfl⟩
    exact Ab.law15_MergeStands false a0 a1 a2 a3 a4
theorem mergeStands_holds : Rows.MergeStandsSaid :=
  OpenClaim.holds_of_wide 5 Tryz.f5 rfl rfl rfl rfl rfl rfl rfl ⟨rfl, rfl, rfl, rfl, rfl⟩ rfl rfl rfl rfl rfl (by kernel_rfl) Tryz.func5 (by kernel_rfl)
    (of_decide_eq_true (by kernel_rfl)) (by unfold Func.isWrapper; first | (rw [if_pos (by decide +kernel)]; kernel_rfl) | (rw [if_neg (by decide +kernel)]; exact ⟨rfl, rfl⟩))
    (fun os started H enc _ => mergeStands_lifted os started H enc)
end Go.Proofs.YtieabhancmkmhaaGreat
