/-
  The program's types as plain data. No condition.
-/
import Derived.Test.YtmadijloeffjfaaProg
import Derived.Test.YtmadijloeffjfaaFd
set_option linter.unusedVariables false
set_option linter.unusedSimpArgs false
namespace Go.Ab
open Go Go.RowKit Go.Proofs
set_option maxRecDepth 100000

theorem cel_3 : Try.prog.cellsOf 3 = 1 := by kernel_rfl
theorem cel_9 : Try.prog.cellsOf 9 = 1 := by kernel_rfl
theorem cel_53 : Try.prog.cellsOf 53 = 1 := by kernel_rfl
theorem cel_25 : Try.prog.cellsOf 25 = 1 := by kernel_rfl
theorem cel_58 : Try.prog.cellsOf 58 = 1 := by kernel_rfl
theorem cel_22 : Try.prog.cellsOf 22 = 1 := by kernel_rfl
theorem cel_26 : Try.prog.cellsOf 26 = 1 := by kernel_rfl
theorem cel_41 : Try.prog.cellsOf 41 = 3 := by kernel_rfl
theorem cel_55 : Try.prog.cellsOf 55 = 3 := by kernel_rfl
theorem cel_57 : Try.prog.cellsOf 57 = 3 := by kernel_rfl
theorem cel_60 : Try.prog.cellsOf 60 = 2 := by kernel_rfl
theorem cel_24 : Try.prog.cellsOf 24 = 1 := by kernel_rfl
theorem cel_28 : Try.prog.cellsOf 28 = 3 := by kernel_rfl
theorem byt_3 : 1 ≤ Try.prog.bytesOf 3 := Nat.le_of_ble_eq_true (by kernel_rfl)
theorem byt_41 : 1 ≤ Try.prog.bytesOf 41 := Nat.le_of_ble_eq_true (by kernel_rfl)
theorem byt_55 : 1 ≤ Try.prog.bytesOf 55 := Nat.le_of_ble_eq_true (by kernel_rfl)
theorem byt_57 : 1 ≤ Try.prog.bytesOf 57 := Nat.le_of_ble_eq_true (by kernel_rfl)
theorem byt_60 : 1 ≤ Try.prog.bytesOf 60 := Nat.le_of_ble_eq_true (by kernel_rfl)

def wfVal (v : GVal) : Prop := i64 v.N ∧ i64 v.R
def wfObj (o : GObj) : Prop := i64 o.Id ∧ i64 o.T ∧ ∀ v ∈ o.F, wfVal v
def wfField (f : GField) : Prop := i64 f.Kind
def wfType (t : GType) : Prop := ∀ f ∈ t.F, wfField f
def wfG (g : Graph) : Prop := (∀ t ∈ g.S, wfType t) ∧ (∀ o ∈ g.O, wfObj o) ∧ ∀ r ∈ g.Roots, i64 r
theorem dec_int : Dec Try.prog 3 eI i64 := Dec.int Try.underlying3
theorem dec_str : Dec Try.prog 9 (fun s : ByteArray => [.str s]) (fun _ => True) := Dec.str Try.underlying9
theorem dec_Val : Dec Try.prog 41 eVal wfVal :=
  Dec.struct3 Try.underlying41 rfl rfl rfl cel_3 cel_9 cel_3 rfl rfl rfl cel_41 dec_int dec_str dec_int (fun a b c => (⟨a, b, c⟩ : GVal)) (fun _ _ _ h _ h' => ⟨h, h'⟩) (fun _ _ _ => rfl)
theorem dec_Vals : Dec Try.prog 53 (fun xs : List GVal => [.sl 3 (xs.map eVal)]) (fun xs => ∀ x ∈ xs, wfVal x) :=
  Dec.slice Try.underlying53 cel_41 (by decide) byt_41 (fun _ => rfl) dec_Val
theorem dec_Obj : Dec Try.prog 55 eObj wfObj :=
  Dec.struct3 Try.underlying55 rfl rfl rfl cel_3 cel_3 cel_53 rfl rfl rfl cel_55 dec_int dec_int dec_Vals (fun a b c => (⟨a, b, c⟩ : GObj)) (fun _ _ _ h h' h'' => ⟨h, h', h''⟩) (fun _ _ _ => rfl)
theorem dec_Objs : Dec Try.prog 25 (fun xs : List GObj => [.sl 3 (xs.map eObj)]) (fun xs => ∀ x ∈ xs, wfObj x) :=
  Dec.slice Try.underlying25 cel_55 (by decide) byt_55 (fun _ => rfl) dec_Obj
theorem dec_Field : Dec Try.prog 57 eField wfField :=
  Dec.struct3 Try.underlying57 rfl rfl rfl cel_9 cel_3 cel_9 rfl rfl rfl cel_57 dec_str dec_int dec_str (fun a b c => (⟨a, b, c⟩ : GField)) (fun _ _ _ _ h _ => h) (fun _ _ _ => rfl)
theorem dec_Fields : Dec Try.prog 58 (fun xs : List GField => [.sl 3 (xs.map eField)]) (fun xs => ∀ x ∈ xs, wfField x) :=
  Dec.slice Try.underlying58 cel_57 (by decide) byt_57 (fun _ => rfl) dec_Field
theorem dec_Type : Dec Try.prog 60 eType wfType :=
  Dec.struct2 Try.underlying60 rfl rfl cel_9 cel_58 rfl rfl cel_60 dec_str dec_Fields (fun a b => (⟨a, b⟩ : GType)) (fun _ _ _ h => h) (fun _ _ => rfl)
theorem dec_Types : Dec Try.prog 22 (fun xs : List GType => [.sl 2 (xs.map eType)]) (fun xs => ∀ x ∈ xs, wfType x) :=
  Dec.slice Try.underlying22 cel_60 (by decide) byt_60 (fun _ => rfl) dec_Type
theorem dec_Schema : Dec Try.prog 24 eSchema (fun xs => ∀ x ∈ xs, wfType x) :=
  Dec.struct1 Try.underlying24 rfl rfl (by rw [cel_24]; exact cel_22.symm) dec_Types (fun a => a) (fun _ h => h) (fun _ => rfl)
theorem dec_Ints : Dec Try.prog 26 (fun xs : List Int => [.sl 1 (xs.map eI)]) (fun xs => ∀ x ∈ xs, i64 x) :=
  Dec.slice Try.underlying26 cel_3 (by decide) byt_3 (fun _ => rfl) dec_int
theorem dec_Graph : Dec Try.prog 28 eGraph wfG :=
  Dec.struct3 Try.underlying28 rfl rfl rfl cel_24 cel_25 cel_26 rfl rfl rfl cel_28 dec_Schema dec_Objs dec_Ints (fun a b c => (⟨a, b, c⟩ : Graph)) (fun _ _ _ h h' h'' => ⟨h, h', h''⟩) (fun _ _ _ => rfl)
theorem arg_Graph : ArgOK Try.prog 28 (fun g => .agg (eGraph g)) wfG := ArgOK.struct Try.underlying28 dec_Graph
theorem arg_int : ArgOK Try.prog 3 (fun n : Int => .int .i64 n) i64 := ArgOK.cell (e := fun n : Int => .int .i64 n) dec_int (cells_int Try.underlying3)
theorem arg_Ints : ArgOK Try.prog 26 (fun xs : List Int => .sl 1 (xs.map eI)) (fun xs => ∀ x ∈ xs, i64 x) := ArgOK.cell dec_Ints (cells_slice Try.underlying26)
theorem own0 : ownKnob Try.prog.godebug = none := by kernel_rfl
theorem laid0 : laidOutB Try.prog = true := by kernel_rfl
end Go.Ab

