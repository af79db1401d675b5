/-
  The law CanonTells answers true, whatever the two graphs, of a bulk of at most 1048576 together; its arguments read as they did. Condition: that bulk.
-/
import Derived.Test.YtkfdkamdkdjkgaaRows
import Derived.Test.YtkfdkamdkdjkgaaWd
import Derived.Test.YtkfdkamdkdjkgaaFh
import Derived.Test.YtkfdkamdkdjkgaaVf
set_option linter.unusedVariables false
set_option linter.unusedSimpArgs false
namespace Go.Ab
open Go Go.RowKit Go.Proofs
set_option maxRecDepth 100000
theorem bulk_part {H : Type} {d : DataW H} {l : List (DataW H)} (h : d ∈ l) : Ytkfdkamdkdjkgaa.Rows.uptoBulk d ≤ Ytkfdkamdkdjkgaa.Rows.uptoBulkAll l := by
  induction l with
  | nil => cases h
  | cons x r ih =>
    simp only [Ytkfdkamdkdjkgaa.Rows.uptoBulkAll]
    cases List.mem_cons.1 h with
    | inl e => subst e; omega
    | inr e => have := ih e; omega
theorem bulkOK : BulkOK Ytkfdkamdkdjkgaa.Rows.uptoBulk where
  str := fun l => by simp [Ytkfdkamdkdjkgaa.Rows.uptoBulk]
  slice := fun elems spare d h => by have := bulk_part h; simp only [Ytkfdkamdkdjkgaa.Rows.uptoBulk]; omega
  agg := fun parts d h => by have := bulk_part h; simp only [Ytkfdkamdkdjkgaa.Rows.uptoBulk]; omega
theorem bulk_of {H : Type} {ds : List (DataW H)} (h : Ytkfdkamdkdjkgaa.Rows.uptoSmall H ds = true) : ∀ d ∈ ds, Ytkfdkamdkdjkgaa.Rows.uptoBulk d ≤ 1048576 := fun d hd => by
  have h1 := of_decide_eq_true h
  have := bulk_part hd
  omega
abbrev UB : {H : Type} → DataW H → Nat := Ytkfdkamdkdjkgaa.Rows.uptoBulk
def smS (s : ByteArray) : Prop := s.size ≤ 1048576
def wuVal (v : GVal) : Prop := i64 v.N ∧ smS v.S ∧ i64 v.R
def wuObj (o : GObj) : Prop := i64 o.Id ∧ i64 o.T ∧ ∀ v ∈ o.F, wuVal v
def wuField (f : GField) : Prop := smS f.Name ∧ i64 f.Kind ∧ smS f.To
def wuType (t : GType) : Prop := smS t.Name ∧ ∀ f ∈ t.F, wuField f
def wuG (g : Graph) : Prop := (∀ t ∈ g.S, wuType t) ∧ (∀ o ∈ g.O, wuObj o) ∧ ∀ r ∈ g.Roots, i64 r
theorem decU_int : DecU Try.prog UB 1048576 3 eI i64 := DecU.int Try.underlying3
theorem decU_str : DecU Try.prog UB 1048576 9 (fun s : ByteArray => [.str s]) smS := DecU.str bulkOK Try.underlying9
theorem decU_Val : DecU Try.prog UB 1048576 42 eVal wuVal :=
  DecU.struct3 bulkOK Try.underlying42 rfl rfl rfl cel_3 cel_9 cel_3 rfl rfl rfl cel_42 decU_int decU_str decU_int (fun a b c => (⟨a, b, c⟩ : GVal)) (fun _ _ _ h h' h'' => ⟨h, h', h''⟩) (fun _ _ _ => rfl)
theorem decU_Vals : DecU Try.prog UB 1048576 38 (fun xs : List GVal => [.sl 3 (xs.map eVal)]) (fun xs => ∀ x ∈ xs, wuVal x) :=
  DecU.slice bulkOK Try.underlying38 cel_42 (by decide) byt_42 (fun _ => rfl) decU_Val
theorem decU_Obj : DecU Try.prog UB 1048576 40 eObj wuObj :=
  DecU.struct3 bulkOK Try.underlying40 rfl rfl rfl cel_3 cel_3 cel_38 rfl rfl rfl cel_40 decU_int decU_int decU_Vals (fun a b c => (⟨a, b, c⟩ : GObj)) (fun _ _ _ h h' h'' => ⟨h, h', h''⟩) (fun _ _ _ => rfl)
theorem decU_Objs : DecU Try.prog UB 1048576 25 (fun xs : List GObj => [.sl 3 (xs.map eObj)]) (fun xs => ∀ x ∈ xs, wuObj x) :=
  DecU.slice bulkOK Try.underlying25 cel_40 (by decide) byt_40 (fun _ => rfl) decU_Obj
theorem decU_Field : DecU Try.prog UB 1048576 44 eField wuField :=
  DecU.struct3 bulkOK Try.underlying44 rfl rfl rfl cel_9 cel_3 cel_9 rfl rfl rfl cel_44 decU_str decU_int decU_str (fun a b c => (⟨a, b, c⟩ : GField)) (fun _ _ _ h h' h'' => ⟨h, h', h''⟩) (fun _ _ _ => rfl)
theorem decU_Fields : DecU Try.prog UB 1048576 45 (fun xs : List GField => [.sl 3 (xs.map eField)]) (fun xs => ∀ x ∈ xs, wuField x) :=
  DecU.slice bulkOK Try.underlying45 cel_44 (by decide) byt_44 (fun _ => rfl) decU_Field
theorem decU_Type : DecU Try.prog UB 1048576 47 eType wuType :=
  DecU.struct2 bulkOK Try.underlying47 rfl rfl cel_9 cel_45 rfl rfl cel_47 decU_str decU_Fields (fun a b => (⟨a, b⟩ : GType)) (fun _ _ h h' => ⟨h, h'⟩) (fun _ _ => rfl)
theorem decU_Types : DecU Try.prog UB 1048576 22 (fun xs : List GType => [.sl 2 (xs.map eType)]) (fun xs => ∀ x ∈ xs, wuType x) :=
  DecU.slice bulkOK Try.underlying22 cel_47 (by decide) byt_47 (fun _ => rfl) decU_Type
theorem decU_Schema : DecU Try.prog UB 1048576 24 eSchema (fun xs => ∀ x ∈ xs, wuType x) :=
  DecU.struct1 bulkOK Try.underlying24 rfl rfl (by rw [cel_24]; exact cel_22.symm) decU_Types (fun a => a) (fun _ h => h) (fun _ => rfl)
theorem decU_Ints : DecU Try.prog UB 1048576 26 (fun xs : List Int => [.sl 1 (xs.map eI)]) (fun xs => ∀ x ∈ xs, i64 x) :=
  DecU.slice bulkOK Try.underlying26 cel_3 (by decide) byt_3 (fun _ => rfl) decU_int
theorem decU_Graph : DecU Try.prog UB 1048576 28 eGraph wuG :=
  DecU.struct3 bulkOK Try.underlying28 rfl rfl rfl cel_24 cel_25 cel_26 rfl rfl rfl cel_28 decU_Schema decU_Objs decU_Ints (fun a b c => (⟨a, b, c⟩ : Graph)) (fun _ _ _ h h' h'' => ⟨h, h', h''⟩) (fun _ _ _ => rfl)
theorem argU_Graph : ArgOKU Try.prog UB 1048576 28 (fun g => .agg (eGraph g)) wuG := ArgOKU.struct Try.underlying28 decU_Graph
theorem argU_int : ArgOKU Try.prog UB 1048576 3 (fun n : Int => .int .i64 n) i64 := ArgOKU.cell (e := fun n : Int => .int .i64 n) decU_int (cells_int Try.underlying3)
theorem argU_Ints : ArgOKU Try.prog UB 1048576 26 (fun xs : List Int => .sl 1 (xs.map eI)) (fun xs => ∀ x ∈ xs, i64 x) := ArgOKU.cell decU_Ints (cells_slice Try.underlying26)
end Go.Ab

namespace Go.Proofs.Ytkfdkamdkdjkgaa
open Go.ChangeShapes Go.WideShapes Go.ChangeAt Go.RowKit
set_option maxRecDepth 100000


theorem canonTells_lifted (os : Os) (started : os.Started) (H : Type) (enc : TypeId × Value → H) (F : Stop.Interp) :
    ReturnsInHanded {} Try.checked os 3 .any ((Rows.OpenSpec.upto Rows.canonTellsSpec).pre6 enc Try.prog Try.f3 Rows.canonTellsUptoRow.domain false) (((Rows.OpenSpec.upto Rows.canonTellsSpec).at F).post enc Try.prog Try.f3 false true false false) := by
  refine Ab.law_row_upto (C := Try.checked) (s0 := Rows.canonTellsSpec) (s := Rows.OpenSpec.upto Rows.canonTellsSpec) (kk := Rows.uptoSmall) (bk := Ab.UB) (Bd := 1048576) (tb := 4) rfl Ab.own0 started (by kernel_rfl) Try.func3 (OpenSpec.witness (enc := enc) (C := Try.checked) (s := Rows.OpenSpec.upto Rows.canonTellsSpec) (k := Rows.uptoSmall) rfl false ⟨#[], #[.agg #[.slice none 0 0, .slice none 0 0, .slice none 0 0], .agg #[.slice none 0 0, .slice none 0 0, .slice none 0 0]], []⟩ 8 (by kernel_rfl) (by kernel_rfl) (by kernel_rfl) (x := ([.agg [.agg [.nil], .nil, .nil], .agg [.agg [.nil], .nil, .nil]], [], [])) (by kernel_rfl) rfl (by kernel_rfl)) Ab.laid0 ?_ rfl Try.underlying4 rfl ?_ (fun _ h => Ab.bulk_of h) (Ab.ArgsOKU.cons Ab.argU_Graph (Ab.ArgsOKU.cons Ab.argU_Graph Ab.ArgsOKU.nil)) ?_
  · intro t ht
    rw [Try.params3] at ht
    simp only [List.mem_cons, List.not_mem_nil, or_false] at ht
    rcases ht with rfl | rfl <;> exact ⟨by kernel_rfl, Nat.le_of_ble_eq_true (by kernel_rfl)⟩
  · intro ds hd
    rw [Try.params3] at hd
    obtain ⟨d0, d1, rfl⟩ : ∃ d0, ∃ d1, ds = [d0, d1] := by
      match ds, hd with
      | [d0, d1], _ => exact ⟨d0, d1, rfl⟩
    rfl
  · rintro _ ⟨a0, _, w0, ⟨a1, _, w1, rfl, rfl⟩, rfl⟩
    exact Ab.law09_CanonTells false a0 a1 (fun t ht => ⟨(w0.1 t ht).1, fun f hf => ((w0.1 t ht).2 f hf).1⟩) (fun o ho v hv => ((w0.2.1 o ho).2.2 v hv).1) (fun t ht => ⟨(w1.1 t ht).1, fun f hf => ((w1.1 t ht).2 f hf).1⟩) (fun o ho v hv => ((w1.2.1 o ho).2.2 v hv).1)
theorem canonTells_holds : Rows.CanonTellsUptoSaid :=
  OpenClaim.holds_of_cond 3 Try.f3 rfl rfl rfl rfl rfl rfl rfl ⟨rfl, rfl, rfl, rfl, rfl⟩ rfl rfl rfl rfl rfl (by kernel_rfl) Try.func3 (by kernel_rfl)
    (of_decide_eq_true (by kernel_rfl)) (by unfold Func.isWrapper; first | (rw [if_pos (by decide +kernel)]; kernel_rfl) | (rw [if_neg (by decide +kernel)]; exact ⟨rfl, rfl⟩))
    (fun os started H enc _ F => canonTells_lifted os started H enc F)

end Go.Proofs.Ytkfdkamdkdjkgaa

