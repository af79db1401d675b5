/-
  The law CanonTurned answers true, whatever the graph; its argument reads as it did. No condition.
-/
import Derived.Test.YtmadijloeffjfaaRows
import Derived.Test.YtmadijloeffjfaaProg
import Derived.WalkKit
import Derived.Below
import Derived.Scope
import Derived.Orders
import Derived.ProofKit
import Derived.SizedLaws
import Derived.Test.YtmadijloeffjfaaFa
import Derived.Test.YtmadijloeffjfaaFb
import Derived.Test.YtmadijloeffjfaaFc
import Derived.Test.YtmadijloeffjfaaFd
import Derived.Test.YtmadijloeffjfaaFe
import Derived.Test.YtmadijloeffjfaaDa
import Derived.Test.YtmadijloeffjfaaWa
import Derived.Test.YtmadijloeffjfaaVa
import Derived.Test.YtmadijloeffjfaaVb
import Derived.Test.YtmadijloeffjfaaVc
set_option linter.unusedVariables false
set_option linter.unusedSimpArgs false
namespace Go.Proofs.Ytmadijloeffjfaa
open Go.ChangeShapes Go.WideShapes Go.ChangeAt Go.RowKit
set_option maxRecDepth 100000
theorem canonTurned_lifted (os : Os) (started : os.Started) (H : Type) (enc : TypeId × Value → H) :
    ReturnsInHanded {} Try.checked os 14 .any (Rows.canonTurnedSpec.pre6 enc Try.prog Try.f14 Rows.canonTurnedRow.domain false) (Rows.canonTurnedSpec.post enc Try.prog Try.f14 false true false false) := by
  refine Ab.law_row (C := Try.checked) (tb := 4) Ab.own0 started (by kernel_rfl) Try.func14 (ChangeSpec.witness6 (enc := enc) (C := Try.checked) false ⟨#[], #[.agg #[.slice none 0 0, .slice none 0 0, .slice none 0 0]], []⟩ 8 (by kernel_rfl) (by kernel_rfl) (by kernel_rfl) (by kernel_rfl)) Ab.laid0 ?_ rfl Try.underlying4 rfl ?_ (Ab.ArgsOK.cons Ab.arg_Graph Ab.ArgsOK.nil) ?_
  · intro t ht
    rw [Try.params14] at ht
    simp only [List.mem_cons, List.not_mem_nil, or_false] at ht
    rcases ht with rfl <;> exact ⟨by kernel_rfl, Nat.le_of_ble_eq_true (by kernel_rfl)⟩
  · intro ds hd
    rw [Try.params14] at hd
    obtain ⟨d0, rfl⟩ : ∃ d0, ds = [d0] := by
      match ds, hd with
      | [d0], _ => exact ⟨d0, rfl⟩
    rfl
  · rintro _ ⟨a0, _, w0, rfl, rfl⟩
    exact Ab.law09_CanonTurned false a0
theorem canonTurned_holds : Rows.CanonTurnedSaid :=
  OpenClaim.holds_of_wide 14 Try.f14 rfl rfl rfl rfl rfl rfl rfl ⟨rfl, rfl, rfl, rfl, rfl⟩ rfl rfl rfl rfl rfl (by kernel_rfl) Try.func14 (by kernel_rfl)
    (of_decide_eq_true (by kernel_rfl)) (by unfold Func.isWrapper; first | (rw [if_pos (by decide +kernel)]; kernel_rfl) | (rw [if_neg (by decide +kernel)]; exact ⟨rfl, rfl⟩))
    (fun os started H enc _ => canonTurned_lifted os started H enc)
end Go.Proofs.Ytmadijloeffjfaa
