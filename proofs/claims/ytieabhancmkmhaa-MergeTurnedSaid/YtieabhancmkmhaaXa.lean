/-
  merge.Merge and merge.Clash of any three small graphs are the same with the two sides turned round: the same code, the same graph, the same change.
-/
import Derived.Test.YtieabhancmkmhaaRows
import Derived.Test.YtieabhancmkmhaaProg
import Derived.WalkKit
import Derived.Below
import Derived.Scope
import Derived.Orders
import Derived.ProofKit
import Derived.SizedLaws
import Derived.Still
import Derived.Maps.RangeRun
import Derived.Test.YtieabhancmkmhaaFa
import Derived.Test.YtieabhancmkmhaaFb
import Derived.Test.YtieabhancmkmhaaFc
import Derived.Test.YtieabhancmkmhaaFd
import Derived.Test.YtieabhancmkmhaaFe
import Derived.Test.YtieabhancmkmhaaFf
import Derived.Test.YtieabhancmkmhaaDa
import Derived.Test.YtieabhancmkmhaaWa
import Derived.Test.YtieabhancmkmhaaVa
import Derived.Test.YtieabhancmkmhaaVb
set_option linter.unusedVariables false
set_option linter.unusedSimpArgs false
namespace Go.Proofs.Ytieabhancmkmhaa
open Go.ChangeShapes Go.WideShapes Go.ChangeAt Go.RowKit
set_option maxRecDepth 100000
theorem mergeTurned_lifted (os : Os) (started : os.Started) (H : Type) (enc : TypeId × Value → H) :
    ReturnsInHanded {} Try.checked os 5 .any (Rows.mergeTurnedSpec.pre6 enc Try.prog Try.f5 Rows.mergeTurnedRow.domain false) (Rows.mergeTurnedSpec.post enc Try.prog Try.f5 false true false false) := by
  refine Ab.law_row (C := Try.checked) (tb := 4) Ab.own0 started (by kernel_rfl) Try.func5 (ChangeSpec.witness6 (enc := enc) (C := Try.checked) false ⟨#[], #[.agg #[.slice none 0 0, .slice none 0 0, .slice none 0 0], .agg #[.slice none 0 0, .slice none 0 0, .slice none 0 0], .agg #[.slice none 0 0, .slice none 0 0, .slice none 0 0]], []⟩ 8 (by kernel_rfl) (by kernel_rfl) (by kernel_rfl) (by kernel_rfl)) Ab.laid0 ?_ rfl Try.underlying4 rfl ?_ (Ab.ArgsOK.cons Ab.arg_Graph (Ab.ArgsOK.cons Ab.arg_Graph (Ab.ArgsOK.cons Ab.arg_Graph Ab.ArgsOK.nil))) ?_
  · intro t ht
    rw [Try.params5] at ht
    simp only [List.mem_cons, List.not_mem_nil, or_false] at ht
    rcases ht with rfl | rfl | rfl <;> exact ⟨by kernel_rfl, Nat.le_of_ble_eq_true (by kernel_rfl)⟩
  · intro ds hd
    rw [Try.params5] at hd
    obtain ⟨d0, d1, d2, rfl⟩ : ∃ d0, ∃ d1, ∃ d2, ds = [d0, d1, d2] := by
      match ds, hd with
      | [d0, d1, d2], _ => exact ⟨d0, d1, d2, rfl⟩
    rfl
  · rintro _ ⟨a0, _, w0, ⟨a1, _, w1, ⟨a2, _, w2, rfl, rfl⟩, rfl⟩, rfl⟩
    exact Ab.law15_MergeTurned false a0 a1 a2
theorem mergeTurned_holds : Rows.MergeTurnedSaid :=
  OpenClaim.holds_of_wide 5 Try.f5 rfl rfl rfl rfl rfl rfl rfl ⟨rfl, rfl, rfl, rfl, rfl⟩ rfl rfl rfl rfl rfl (by kernel_rfl) Try.func5 (by kernel_rfl)
    (of_decide_eq_true (by kernel_rfl)) (by unfold Func.isWrapper; first | (rw [if_pos (by decide +kernel)]; kernel_rfl) | (rw [if_neg (by decide +kernel)]; exact ⟨rfl, rfl⟩))
    (fun os started H enc _ => mergeTurned_lifted os started H enc)
end Go.Proofs.Ytieabhancmkmhaa
