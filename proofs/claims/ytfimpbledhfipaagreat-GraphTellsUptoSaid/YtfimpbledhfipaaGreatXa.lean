/-
  For all graphs, numbers and values: the functions of the package graph answer what those of the document's answer do, by contracts proved of each function once.
-/
import Derived.Test.YtfimpbledhfipaaGreatRows
import Derived.Test.YtfimpbledhfipaaGreatProg
import Derived.WalkKit
import Derived.Below
import Derived.Scope
import Derived.Orders
import Derived.ProofKit
import Derived.SizedLaws
import Derived.JoinedCond
import Derived.Deep.CondSized
import Derived.Still
import Derived.Test.YtfimpbledhfipaaGreatFa
import Derived.Test.YtfimpbledhfipaaGreatFb
import Derived.Test.YtfimpbledhfipaaGreatFc
import Derived.Test.YtfimpbledhfipaaGreatFd
import Derived.Test.YtfimpbledhfipaaGreatFe
import Derived.Test.YtfimpbledhfipaaGreatFf
import Derived.Test.YtfimpbledhfipaaGreatDa
import Derived.Test.YtfimpbledhfipaaGreatWa
import Derived.Test.YtfimpbledhfipaaGreatVa
import Derived.Test.YtfimpbledhfipaaGreatVb
import Derived.Test.YtfimpbledhfipaaGreatVc
import Derived.Test.YtfimpbledhfipaaGreatVd
set_option linter.unusedVariables false
set_option linter.unusedSimpArgs false
namespace Go.Proofs.YtfimpbledhfipaaGreat
open Go.ChangeShapes Go.WideShapes Go.ChangeAt Go.RowKit
set_option maxRecDepth 100000
theorem graphTells_lifted (os : Os) (started : os.Started) (H : Type) (enc : TypeId × Value → H) (F : Stop.Interp) :
    ReturnsInHanded {} Tryz.checked os 3 .any ((Rows.OpenSpec.upto Rows.graphTellsSpec).pre6 enc Tryz.prog Tryz.f3 Rows.graphTellsUptoRow.domain false) (((Rows.OpenSpec.upto Rows.graphTellsSpec).at F).post enc Tryz.prog Tryz.f3 false true false false) := by
  refine Ab.law_row_upto (C := Tryz.checked) (s0 := Rows.graphTellsSpec) (s := Rows.OpenSpec.upto Rows.graphTellsSpec) (kk := Rows.uptoSmall) (bk := Ab.UB) (Bd := 1048576) (tb := 4) rfl Ab.own0 started (by kernel_rfl) Tryz.func3 (OpenSpec.witness (enc := enc) (C := Tryz.checked) (s := Rows.OpenSpec.upto Rows.graphTellsSpec) (k := Rows.uptoSmall) rfl false ⟨#[], #[.agg #[.slice none 0 0, .slice none 0 0, .slice none 0 0], .agg #[.slice none 0 0, .slice none 0 0, .slice none 0 0], .int .i64 0, .int .i64 0, .agg #[.int .i64 0, .string ⟨#[]⟩, .int .i64 0]], []⟩ 8 (by kernel_rfl) (by kernel_rfl) (by kernel_rfl) (x := ([.agg [.agg [.nil], .nil, .nil], .agg [.agg [.nil], .nil, .nil], .lit (.int .i64 0), .lit (.int .i64 0), .agg [.lit (.int .i64 0), .lit (.string []), .lit (.int .i64 0)]], [], [])) (by kernel_rfl) rfl (by kernel_rfl)) Ab.laid0 ?_ rfl Tryz.underlying4 rfl ?_ (fun _ h => Ab.bulk_of h) (Ab.ArgsOKU.cons Ab.argU_Graph (Ab.ArgsOKU.cons Ab.argU_Graph (Ab.ArgsOKU.cons Ab.argU_int (Ab.ArgsOKU.cons Ab.argU_int (Ab.ArgsOKU.cons Ab.argU_Val Ab.ArgsOKU.nil))))) ?_
  · intro t ht
    rw [Tryz.params3] at ht
    simp only [List.mem_cons, List.not_mem_nil, or_false] at ht
    rcases ht with rfl | rfl | rfl | rfl | rfl <;> exact ⟨by kernel_rfl, Nat.le_of_ble_eq_true (by kernel_rfl)⟩
  · intro ds hd
    rw [Tryz.params3] at hd
    obtain ⟨d0, d1, d2, d3, d4, rfl⟩ : ∃ d0, ∃ d1, ∃ d2, ∃ d3, ∃ d4, ds = [d0, d1, d2, d3, d4] := by
      match ds, hd with
      | [d0, d1, d2, d3, d4], _ => exact ⟨d0, d1, d2, d3, d4, rfl⟩
    rfl
  · rintro _ ⟨a0, _, w0, ⟨a1, _, w1, ⟨a2, _, w2, ⟨a3, _, w3, ⟨a4, _, w4, rfl, rfl⟩, rfl⟩, rfl⟩, rfl⟩, rfl⟩
    exact Ab.law08_GraphTells false a0 a1 a2 a3 a4 w0.sm w0.n w4.1
theorem graphTells_holds : Rows.GraphTellsUptoSaid :=
  OpenClaim.holds_of_cond 3 Tryz.f3 rfl rfl rfl rfl rfl rfl rfl ⟨rfl, rfl, rfl, rfl, rfl⟩ rfl rfl rfl rfl rfl (by kernel_rfl) Tryz.func3 (by kernel_rfl)
    (of_decide_eq_true (by kernel_rfl)) (by unfold Func.isWrapper; first | (rw [if_pos (by decide +kernel)]; kernel_rfl) | (rw [if_neg (by decide +kernel)]; exact ⟨rfl, rfl⟩))
    (fun os started H enc _ F => graphTells_lifted os started H enc F)
end Go.Proofs.YtfimpbledhfipaaGreat
