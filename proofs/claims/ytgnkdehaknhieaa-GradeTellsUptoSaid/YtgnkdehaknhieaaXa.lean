/-
  GradeTells answers true for every graph, schema, step, and list of steps, whose bytes are together at most a mebi.
-/
import Derived.Test.YtgnkdehaknhieaaRows
import Derived.Test.YtgnkdehaknhieaaProg
import Derived.WalkKit
import Derived.Below
import Derived.Scope
import Derived.Orders
import Derived.ProofKit
import Derived.SizedLaws
import Derived.Still
import Derived.JoinedCond
import Derived.Deep.CondSized
import Derived.Deep.RegionLaw
import Derived.Lib.AppendZerosOnto
import Derived.Lib.Walk
import Derived.Lib.SliceRun
import Derived.Test.YtgnkdehaknhieaaFa
import Derived.Test.YtgnkdehaknhieaaFb
import Derived.Test.YtgnkdehaknhieaaFc
import Derived.Test.YtgnkdehaknhieaaFd
import Derived.Test.YtgnkdehaknhieaaFe
import Derived.Test.YtgnkdehaknhieaaFf
import Derived.Test.YtgnkdehaknhieaaDa
import Derived.Test.YtgnkdehaknhieaaWa
import Derived.Test.YtgnkdehaknhieaaVa
import Derived.Test.YtgnkdehaknhieaaVb
import Derived.Test.YtgnkdehaknhieaaVc
set_option linter.unusedVariables false
set_option linter.unusedSimpArgs false
namespace Go.Proofs.Ytgnkdehaknhieaa
open Go.ChangeShapes Go.WideShapes Go.ChangeAt Go.RowKit
set_option maxRecDepth 100000
theorem gradeTells_lifted (os : Os) (started : os.Started) (H : Type) (enc : TypeId × Value → H) (F : Stop.Interp) :
    ReturnsInHanded {} Try.checked os 4 .any ((Rows.OpenSpec.upto Rows.gradeTellsSpec).pre6 enc Try.prog Try.f4 Rows.gradeTellsUptoRow.domain false) (((Rows.OpenSpec.upto Rows.gradeTellsSpec).at F).post enc Try.prog Try.f4 false true false false) := by
  refine Ab.law_row_upto (C := Try.checked) (s0 := Rows.gradeTellsSpec) (s := Rows.OpenSpec.upto Rows.gradeTellsSpec) (kk := Rows.uptoSmall) (bk := Ab.UB) (Bd := 1048576) (tb := 4) rfl Ab.own0 started (by kernel_rfl) Try.func4 (OpenSpec.witness (enc := enc) (C := Try.checked) (s := Rows.OpenSpec.upto Rows.gradeTellsSpec) (k := Rows.uptoSmall) rfl false ⟨#[], #[.agg #[.slice none 0 0, .slice none 0 0, .slice none 0 0], .agg #[.slice none 0 0], .agg #[.int .i64 0, .string ⟨#[]⟩, .string ⟨#[]⟩, .int .i64 0, .string ⟨#[]⟩], .slice none 0 0], []⟩ 8 (by kernel_rfl) (by kernel_rfl) (by kernel_rfl) (x := ([.agg [.agg [.nil], .nil, .nil], .agg [.nil], .agg [.lit (.int .i64 0), .lit (.string []), .agg [.lit (.string []), .lit (.int .i64 0), .lit (.string [])]], .nil], [], [])) (by kernel_rfl) rfl (by kernel_rfl)) Ab.laid0 ?_ rfl Try.underlying4 rfl ?_ (fun _ h => Ab.bulk_of h) (Ab.ArgsOKU.cons Ab.argU_Graph (Ab.ArgsOKU.cons Ab.argU_Schema (Ab.ArgsOKU.cons Ab.argU_Step (Ab.ArgsOKU.cons Ab.argU_Steps Ab.ArgsOKU.nil)))) ?_
  · intro t ht
    rw [Try.params4] at ht
    simp only [List.mem_cons, List.not_mem_nil, or_false] at ht
    rcases ht with rfl | rfl | rfl | rfl <;> exact ⟨by kernel_rfl, Nat.le_of_ble_eq_true (by kernel_rfl)⟩
  · intro ds hd
    rw [Try.params4] at hd
    obtain ⟨d0, d1, d2, d3, rfl⟩ : ∃ d0, ∃ d1, ∃ d2, ∃ d3, ds = [d0, d1, d2, d3] := by
      match ds, hd with
      | [d0, d1, d2, d3], _ => exact ⟨d0, d1, d2, d3, rfl⟩
    rfl
  · rintro _ ⟨a0, _, w0, ⟨a1, _, w1, ⟨a2, _, w2, ⟨a3, _, w3, rfl, rfl⟩, rfl⟩, rfl⟩, rfl⟩
    exact Ab.law13_GradeTells false a0 a1 a2 a3 w0.sm (Ab.wuS_sm w1) w0.n w2.2.2.1 (fun y hy => (w3 y hy).2.2.1)
theorem gradeTells_holds : Rows.GradeTellsUptoSaid :=
  OpenClaim.holds_of_cond 4 Try.f4 rfl rfl rfl rfl rfl rfl rfl ⟨rfl, rfl, rfl, rfl, rfl⟩ rfl rfl rfl rfl rfl (by kernel_rfl) Try.func4 (by kernel_rfl)
    (of_decide_eq_true (by kernel_rfl)) (by unfold Func.isWrapper; first | (rw [if_pos (by decide +kernel)]; kernel_rfl) | (rw [if_neg (by decide +kernel)]; exact ⟨rfl, rfl⟩))
    (fun os started H enc _ F => gradeTells_lifted os started H enc F)
end Go.Proofs.Ytgnkdehaknhieaa
