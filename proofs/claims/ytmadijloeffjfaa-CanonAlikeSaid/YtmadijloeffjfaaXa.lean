/-
  The law CanonAlike answers true, whatever the graphs, the numbers and the value; its arguments read as they did. No condition.
-/
import Derived.Test.YtmadijloeffjfaaRows
import Derived.Test.YtmadijloeffjfaaProg
import Derived.WalkKit
import Derived.Below
import Derived.Scope
import Derived.Orders
import Derived.ProofKit
import Derived.SizedLaws
import Derived.Test.YtmadijloeffjfaaFa
import Derived.Test.YtmadijloeffjfaaFb
import Derived.Test.YtmadijloeffjfaaFc
import Derived.Test.YtmadijloeffjfaaFd
import Derived.Test.YtmadijloeffjfaaFe
import Derived.Test.YtmadijloeffjfaaDa
import Derived.Test.YtmadijloeffjfaaWa
import Derived.Test.YtmadijloeffjfaaVa
import Derived.Test.YtmadijloeffjfaaVb
import Derived.Test.YtmadijloeffjfaaVc
set_option linter.unusedVariables false
set_option linter.unusedSimpArgs false
namespace Go.Proofs.Ytmadijloeffjfaa
open Go.ChangeShapes Go.WideShapes Go.ChangeAt Go.RowKit
set_option maxRecDepth 100000
theorem canonAlike_lifted (os : Os) (started : os.Started) (H : Type) (enc : TypeId × Value → H) :
    ReturnsInHanded {} Try.checked os 10 .any (Rows.canonAlikeSpec.pre6 enc Try.prog Try.f10 Rows.canonAlikeRow.domain false) (Rows.canonAlikeSpec.post enc Try.prog Try.f10 false true false false) := by
  refine Ab.law_row (C := Try.checked) (tb := 4) Ab.own0 started (by kernel_rfl) Try.func10 (ChangeSpec.witness6 (enc := enc) (C := Try.checked) false ⟨#[], #[.agg #[.slice none 0 0, .slice none 0 0, .slice none 0 0], .agg #[.slice none 0 0, .slice none 0 0, .slice none 0 0], .agg #[.slice none 0 0, .slice none 0 0, .slice none 0 0], .int .i64 0, .int .i64 0, .agg #[.int .i64 0, .string ⟨#[]⟩, .int .i64 0]], []⟩ 8 (by kernel_rfl) (by kernel_rfl) (by kernel_rfl) (by kernel_rfl)) Ab.laid0 ?_ rfl Try.underlying4 rfl ?_ (Ab.ArgsOK.cons Ab.arg_Graph (Ab.ArgsOK.cons Ab.arg_Graph (Ab.ArgsOK.cons Ab.arg_Graph (Ab.ArgsOK.cons Ab.arg_int (Ab.ArgsOK.cons Ab.arg_int (Ab.ArgsOK.cons Ab.arg_Val Ab.ArgsOK.nil)))))) ?_
  · intro t ht
    rw [Try.params10] at ht
    simp only [List.mem_cons, List.not_mem_nil, or_false] at ht
    rcases ht with rfl | rfl | rfl | rfl | rfl | rfl <;> exact ⟨by kernel_rfl, Nat.le_of_ble_eq_true (by kernel_rfl)⟩
  · intro ds hd
    rw [Try.params10] at hd
    obtain ⟨d0, d1, d2, d3, d4, d5, rfl⟩ : ∃ d0, ∃ d1, ∃ d2, ∃ d3, ∃ d4, ∃ d5, ds = [d0, d1, d2, d3, d4, d5] := by
      match ds, hd with
      | [d0, d1, d2, d3, d4, d5], _ => exact ⟨d0, d1, d2, d3, d4, d5, rfl⟩
    rfl
  · rintro _ ⟨a0, _, w0, ⟨a1, _, w1, ⟨a2, _, w2, ⟨a3, _, w3, ⟨a4, _, w4, ⟨a5, _, w5, rfl, rfl⟩, rfl⟩, rfl⟩, rfl⟩, rfl⟩, rfl⟩
    exact Ab.law09_CanonAlike false a0 a1 a2 a3 a4 a5
theorem canonAlike_holds : Rows.CanonAlikeSaid :=
  OpenClaim.holds_of_wide 10 Try.f10 rfl rfl rfl rfl rfl rfl rfl ⟨rfl, rfl, rfl, rfl, rfl⟩ rfl rfl rfl rfl rfl (by kernel_rfl) Try.func10 (by kernel_rfl)
    (of_decide_eq_true (by kernel_rfl)) (by unfold Func.isWrapper; first | (rw [if_pos (by decide +kernel)]; kernel_rfl) | (rw [if_neg (by decide +kernel)]; exact ⟨rfl, rfl⟩))
    (fun os started H enc _ => canonAlike_lifted os started H enc)
end Go.Proofs.Ytmadijloeffjfaa
