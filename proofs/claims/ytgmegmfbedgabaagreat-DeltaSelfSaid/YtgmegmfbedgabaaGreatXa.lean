/-
  Of a graph that stays as it is nothing is set; of any other one, of the same kind, with the objects that are come to in both, something is, or some are new, or gone, or roots are others.
-/
import Derived.Test.YtgmegmfbedgabaaGreatRows
import Derived.Test.YtgmegmfbedgabaaGreatProg
import Derived.WalkKit
import Derived.Below
import Derived.Scope
import Derived.Orders
import Derived.ProofKit
import Derived.SizedLaws
import Derived.Still
import Derived.WalkSmall
import Derived.Tactics
import Derived.Tactics2
import Derived.Defers
import Derived.Recover
import Derived.Laws.Pointers
import Derived.Lib.AppendStr
import Derived.ArgAppend
import Derived.Lib.ConvBytes
import Derived.Shelf.Strings.OnBuilder
import Derived.Test.YtgmegmfbedgabaaGreatFa
import Derived.Test.YtgmegmfbedgabaaGreatFb
import Derived.Test.YtgmegmfbedgabaaGreatFc
import Derived.Test.YtgmegmfbedgabaaGreatFd
import Derived.Test.YtgmegmfbedgabaaGreatFe
import Derived.Test.YtgmegmfbedgabaaGreatFf
import Derived.Test.YtgmegmfbedgabaaGreatDa
import Derived.Test.YtgmegmfbedgabaaGreatWa
import Derived.Test.YtgmegmfbedgabaaGreatVa
import Derived.Test.YtgmegmfbedgabaaGreatVb
import Derived.Test.YtgmegmfbedgabaaGreatVc
set_option linter.unusedVariables false
set_option linter.unusedSimpArgs false
namespace Go.Proofs.YtgmegmfbedgabaaGreat
open Go.ChangeShapes Go.WideShapes Go.ChangeAt Go.RowKit
set_option maxRecDepth 100000
theorem deltaSelf_lifted (os : Os) (started : os.Started) (H : Type) (enc : TypeId × Value → H) :
    ReturnsInHanded {} Tryz.checked os 3 .any (Rows.deltaSelfSpec.pre6 enc Tryz.prog Tryz.f3 Rows.deltaSelfRow.domain false) (Rows.deltaSelfSpec.post enc Tryz.prog Tryz.f3 false true false false) := by
  refine Ab.law_row (C := Tryz.checked) (tb := 4) Ab.own0 started (by kernel_rfl) Tryz.func3 (ChangeSpec.witness6 (enc := enc) (C := Tryz.checked) false ⟨#[], #[.agg #[.slice none 0 0, .slice none 0 0, .slice none 0 0], .agg #[.slice none 0 0, .slice none 0 0, .slice none 0 0]], []⟩ 8 (by kernel_rfl) (by kernel_rfl) (by kernel_rfl) (by kernel_rfl)) Ab.laid0 ?_ rfl Tryz.underlying4 rfl ?_ (Ab.ArgsOK.cons Ab.arg_Graph (Ab.ArgsOK.cons Ab.arg_Graph Ab.ArgsOK.nil)) ?_
  · intro t ht
    rw [Tryz.params3] at ht
    simp only [List.mem_cons, List.not_mem_nil, or_false] at ht
    rcases ht with rfl | rfl <;> exact ⟨by kernel_rfl, Nat.le_of_ble_eq_true (by kernel_rfl)⟩
  · intro ds hd
    rw [Tryz.params3] at hd
    obtain ⟨d0, d1, rfl⟩ : ∃ d0, ∃ d1, ds = [d0, d1] := by
      match ds, hd with
      | [d0, d1], _ => exact ⟨d0, d1, rfl⟩
    rfl
  · rintro _ ⟨a0, _, w0, ⟨a1, _, w1, rfl, rfl⟩, rfl⟩
    exact Ab.law11_DeltaSelf false a0 a1
theorem deltaSelf_holds : Rows.DeltaSelfSaid :=
  OpenClaim.holds_of_wide 3 Tryz.f3 rfl rfl rfl rfl rfl rfl rfl ⟨rfl, rfl, rfl, rfl, rfl⟩ rfl rfl rfl rfl rfl (by kernel_rfl) Tryz.func3 (by kernel_rfl)
    (of_decide_eq_true (by kernel_rfl)) (by unfold Func.isWrapper; first | (rw [if_pos (by decide +kernel)]; kernel_rfl) | (rw [if_neg (by decide +kernel)]; exact ⟨rfl, rfl⟩))
    (fun os started H enc _ => deltaSelf_lifted os started H enc)
end Go.Proofs.YtgmegmfbedgabaaGreat
