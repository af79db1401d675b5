/-
  What functions of the program answer: each by its contract. No condition but those of each theorem.
-/
import Derived.WalkKit
import Derived.Below
import Derived.Scope
import Derived.Orders
import Derived.Test.YtgmegmfbedgabaaGreatProg
import Derived.Still
import Derived.WalkSmall
import Derived.Tactics
import Derived.Tactics2
import Derived.Defers
import Derived.Recover
import Derived.Laws.Pointers
import Derived.Lib.AppendStr
import Derived.ArgAppend
import Derived.Lib.ConvBytes
import Derived.Shelf.Strings.OnBuilder
import Derived.Test.YtgmegmfbedgabaaGreatFa
import Derived.Test.YtgmegmfbedgabaaGreatFb
import Derived.Test.YtgmegmfbedgabaaGreatFc
import Derived.Test.YtgmegmfbedgabaaGreatFd
import Derived.Test.YtgmegmfbedgabaaGreatFe
import Derived.Test.YtgmegmfbedgabaaGreatFf
import Derived.Test.YtgmegmfbedgabaaGreatDa
import Derived.Test.YtgmegmfbedgabaaGreatVa
set_option linter.unusedVariables false
set_option linter.unusedSimpArgs false
namespace Go.Ab
open Go Go.Proofs.Tryz
set_option maxRecDepth 100000
def kZ : List AV := [.str ⟨#[]⟩, .str ⟨#[]⟩, .str ⟨#[]⟩, .str ⟨#[]⟩, .str ⟨#[]⟩, .str ⟨#[]⟩]
def kT : List AV := [.str ⟨#[105, 56]⟩, .str ⟨#[105, 49, 54]⟩, .str ⟨#[105, 51, 50]⟩, .str ⟨#[105, 54, 52]⟩, .str ⟨#[116]⟩, .str ⟨#[42]⟩]
@[go_sem] theorem tt_179 : tiOf prog 179 = some ⟨.array 6 9, 6, 96, kZ, false⟩ := by kernel_rfl
theorem kT_eq : (((((kZ.set 0 (.str ⟨#[105, 56]⟩)).set 1 (.str ⟨#[105, 49, 54]⟩)).set 2 (.str ⟨#[105, 51, 50]⟩)).set 3 (.str ⟨#[105, 54, 52]⟩)).set 4 (.str ⟨#[116]⟩)).set 5 (.str ⟨#[42]⟩) = kT := rfl
theorem stCells_strs {n : Nat} {t : List (Nat × AV)} {b : Bool} {s : List (Nat × Root)} : ∀ (vs old pre : List AV), old.length = vs.length → (∀ v ∈ vs, ∃ i, v = AV.str i) → stCells 0 [] id ⟨n, t, (0, ⟨b, pre ++ old⟩) :: s⟩ pre.length vs = some ⟨n, t, (0, ⟨b, pre ++ vs⟩) :: s⟩
  | [], [], pre, _, _ => rfl
  | v :: vs, o :: old, pre, hl, hv => by
    obtain ⟨i, rfl⟩ := hv v List.mem_cons_self
    have ih := stCells_strs (n := n) (t := t) (b := b) (s := s) vs old (pre ++ [AV.str i]) (by simpa using hl) fun w hw => hv w (List.mem_cons_of_mem _ hw)
    simp only [List.length_append, List.length_cons, List.length_nil, Nat.zero_add, List.append_assoc, List.cons_append, List.nil_append] at ih
    simp only [stCells, stCell, getS, if_true, mov, List.isEmpty_nil, Bool.true_or, updS, putAt, id]
    rw [List.set_append_right _ _ (Nat.le_refl _), Nat.sub_self, List.set_cons_zero]
    exact ih
  | [], _ :: _, _, h, _ => by simp at h
  | _ :: _, [], _, h, _ => by simp at h
theorem kT_str : ∀ v ∈ kT, ∃ i, v = AV.str i := by
  intro v hv
  simp only [kT, List.mem_cons, List.not_mem_nil, or_false] at hv
  rcases hv with rfl | rfl | rfl | rfl | rfl | rfl <;> exact ⟨_, rfl⟩
theorem stCells_kT {n : Nat} {t : List (Nat × AV)} {b : Bool} {s : List (Nat × Root)} : stCells 0 [] id ⟨n, t, (0, ⟨b, kZ⟩) :: s⟩ 0 kT = some ⟨n, t, (0, ⟨b, kT⟩) :: s⟩ := stCells_strs kT kZ [] rfl kT_str
theorem kT_len : kT.length = 6 := rfl
theorem kZ_len : kZ.length = 6 := rfl
theorem kT_take : List.take 6 kT = kT := rfl
theorem kT_ldc (y : Nat) (p : List (Nat × Nat)) (c : Nat) : ldc y p c kT = kT := by simp [kT, ldc]
theorem kT_allCell : allCell kT = true := rfl
theorem kT_pure : pureL kT = true := rfl
theorem kT_view (σ : St) : List.map (view 8 σ) kT = kT := by simp [kT, view]
theorem kT_SubL (n : Nat) : SubL (fun x => x) n kT kT = True := eq_true (SubL_pure n _ kT_pure)
theorem kT_get (k : Int) (h0 : 0 ≤ k) (h5 : k ≤ 5) : List.take 1 (List.drop k.toNat kT) = [.str (kindText k)] := by
  have : k = 0 ∨ k = 1 ∨ k = 2 ∨ k = 3 ∨ k = 4 ∨ k = 5 := by omega
  rcases this with rfl | rfl | rfl | rfl | rfl | rfl <;> rfl
theorem le1_MX : (1 ≤ MX) = True := eq_true (by decide)
theorem le2_MX : (2 ≤ MX) = True := eq_true (by decide)
theorem le3_MX : (3 ≤ MX) = True := eq_true (by decide)
attribute [irreducible] kT kZ
attribute [go_sem] kT_len kZ_len kT_take kT_ldc kT_allCell kT_pure kT_SubL stCells_kT le1_MX le2_MX le3_MX
theorem schema_kinds (up : Bool) : PCall prog up 140 [] (· = .agg kT) := by
  refine PCall.intro htt func140 (by kernel_rfl) rfl (Nat.le_of_ble_eq_true rfl) fun hl => ?_

  simp only [tmps0, Nat.reduceAdd]
  refine CW.seq (.rg (.rn htt 1 (.done ?_)))
  refine CW.seq (.rg (.run htt 1 (by simp only [go_sem, simprocAttr, List.size_toArray, List.length_cons, List.length_nil, Nat.zero_add, List.length_set]; exact rfl) (by simp [go_sem, simprocAttr]) ?_))
  rw [kT_eq]
  refine CWops.rn htt 1 (.done ?_)
  refine CW.ret ?_
  refine retQ.rt (by simp only [f140, go_sem, simprocAttr]; exact rfl) ?_
  refine ⟨_, ?_, rfl⟩
  simp [leP]
  rw [kT_view]
  exact leP_refl.leL_refl _
end Go.Ab
namespace Go.Ab
open Go Go.Proofs.Tryz Go.RowKit
set_option maxRecDepth 100000
def jren : Go.Shelf.Ren := ⟨fun | 156 => 142 | 165 => 165 | 166 => 141 | 169 => 143 | 240 => 164 | 241 => 173 | 276 => 172 | 277 => 174 | n => n, fun | 31 => 178 | 9 => 9 | 3 => 3 | 4 => 4 | 0 => 0 | 20 => 20 | 72 => 177 | 76 => 183 | 70 => 175 | 37 => 107 | 75 => 182 | 127 => 207 | 164 => 217 | 5 => 5 | 80 => 186 | n => n, fun n => n⟩
theorem lay156 : Go.Proofs.Lays.n156 prog jren := { mixed := by kernel_rfl, f156 := func142.trans (congrArg some (by kernel_rfl)), f165 := func165.trans (congrArg some (by kernel_rfl)), f166 := func141.trans (congrArg some (by kernel_rfl)), f169 := func143.trans (congrArg some (by kernel_rfl)), f240 := func164.trans (congrArg some (by kernel_rfl)), f241 := func173.trans (congrArg some (by kernel_rfl)), f276 := func172.trans (congrArg some (by kernel_rfl)), f277 := func174.trans (congrArg some (by kernel_rfl)), t0 := underlying0, a0 := isAgg0, z0 := sizeOf0, v0 := zeroValue0, t3 := underlying3, a3 := isAgg3, z3 := sizeOf3, v3 := zeroValue3, t4 := underlying4, a4 := isAgg4, z4 := sizeOf4, v4 := zeroValue4, t9 := underlying9, a9 := isAgg9, z9 := sizeOf9, v9 := zeroValue9, t20 := underlying20, a20 := isAgg20, z20 := sizeOf20, v20 := zeroValue20, t31 := underlying178, a31 := isAgg178, z31 := sizeOf178, v31 := zeroValue178, t37 := underlying107, a37 := isAgg107, z37 := sizeOf107, v37 := zeroValue107, t70 := underlying175, a70 := isAgg175, z70 := sizeOf175, v70 := zeroValue175, t72 := underlying177, a72 := isAgg177, z72 := sizeOf177, v72 := zeroValue177, t75 := underlying182, a75 := isAgg182, z75 := sizeOf182, v75 := zeroValue182, t76 := underlying183, a76 := isAgg183, z76 := sizeOf183, v76 := zeroValue183, t127 := underlying207, a127 := isAgg207, z127 := sizeOf207, v127 := zeroValue207, t164 := underlying217, a164 := isAgg217, z164 := sizeOf217, v164 := zeroValue217 }
theorem layX : Go.Proofs.Builder.Extra prog jren := { sizeBuilder := by kernel_rfl, liesBuilder := by kernel_rfl, t5 := underlying5, a5 := isAgg5, z5 := sizeOf5, v5 := zeroValue5, infoByte := by kernel_rfl, cellsByte := by kernel_rfl, sizeByte := by kernel_rfl, neB5 := by decide }
def joinS (xs : List ByteArray) (sep : ByteArray) : ByteArray := ⟨(Go.Lib.join (xs.map (·.data.toList)) sep.data.toList).toArray⟩
theorem strings_Join (up : Bool) (xs : List ByteArray) (sep : ByteArray) (hlen : (joinS xs sep).size ≤ MX) : PCall prog up 142 [.sl 1 (xs.map fun s => [AV.str s]), .str sep] (· = .str (joinS xs sep)) := by
  have hlen' : (Go.Lib.join (xs.map (·.data.toList)) sep.data.toList).length ≤ 140737488355328 := by
    have : (joinS xs sep).size = (Go.Lib.join (xs.map (·.data.toList)) sep.data.toList).length := by show Array.size _ = _; simp
    rw [← this]; exact hlen
  have hcl : Callable prog (jren.f 156) := callable_of lay156.f156 (by kernel_rfl) rfl
  refine ⟨hcl, fun w A vs hA hl hr => ?_⟩
  obtain ⟨v0, v1, rfl⟩ : ∃ v0 v1, vs = [v0, v1] := by
    match vs, hl with
    | [v0, v1], _ => exact ⟨v0, v1, rfl⟩
  have h0 := hr 0 _ rfl
  have h1 := hr 1 _ rfl
  simp only [List.getD_cons_zero, List.getD_cons_succ] at h0 h1
  cases h1
  have fin : ∀ (e : Ending) (w' : World), (e = .returned (.string ⟨(Go.Lib.join (xs.map (·.data.toList)) sep.data.toList).toArray⟩) ∧ Below w.heap.size w w') → Ends up w A (· = .str (joinS xs sep)) e w' := by
    rintro e w' ⟨rfl, hb⟩
    exact ⟨_, rfl, .str _ hlen, ⟨hb.os, hb.tape, hb.output, hb.size, fun k hk _ => hb.block k hk⟩⟩
  by_cases hx : xs = []
  · subst hx
    have hv : ∃ a c, v0 = .slice a 0 c := by
      generalize hL : (([] : List ByteArray).map fun s => [AV.str s]) = L at h0
      cases h0 with
      | slnil => exact ⟨_, _, rfl⟩
      | slmt => exact ⟨_, _, rfl⟩
      | sl => subst hL; exact ⟨_, _, rfl⟩
    obtain ⟨a, c, rfl⟩ := hv
    exact (Go.Proofs.Any.strings_Join_none lay156 layX a c sep w).mono fun e w' ⟨he, hw⟩ => fin e w' ⟨he, hw ▸ Below.refl _ _⟩
  · generalize hL : (xs.map fun s => [AV.str s]) = L at h0
    cases h0 with
    | slnil => exact absurd (List.map_eq_nil_iff.1 hL) hx
    | slmt => exact absurd (List.map_eq_nil_iff.1 hL) hx
    | sl _ _ b o cap q1 q2 q3 q4 q5 q6 =>
      subst hL
      have hcell : ∀ (j : Nat) x, xs[j]? = some x → w.cell? ⟨b, o + j, none⟩ = some (.string x) := fun j x hj => by
        have e1 : (xs.map fun s => [AV.str s])[j]? = some [AV.str x] := by rw [List.getElem?_map, hj]; rfl
        have g1 := (q5 j _ 0 (.str x) e1 rfl).2
        have g2 := q6 j _ 0 (.str x) e1 rfl
        rw [Nat.mul_one, Nat.add_zero] at g1 g2
        obtain ⟨u, hu⟩ := Option.isSome_iff_exists.1 g1
        unfold rdw at g2
        rw [hu] at g2
        rw [hu]
        simp only [Option.getD_some] at g2
        cases g2
        rfl
      have hbk : b < w.heap.size := by
        cases xs with
        | nil => exact absurd rfl hx
        | cons x r => exact World.block_lt_of_cell? w _ (hcell 0 x rfl)
      rw [List.length_map] at q1 q3 ⊢
      exact (Go.Proofs.Any.strings_Join lay156 layX b o cap xs sep w hcell hbk q3 q1 hlen').mono fun e w' h => fin e w' h
@[go_sem] theorem tt_178 : tiOf prog 178 = some ⟨.slice 9, 1, 24, [.nilsl], false⟩ := by kernel_rfl
theorem po_move (d : Option Tmp) (x : Operand) (ty : TypeId) (pos : String) (af : Array Edge) (gd : Option (Nat × Bool)) : PureOp prog ⟨d, .move x, ty, pos, af, gd⟩ := fun g w => by simp [execOp]
theorem po_field (d : Option Tmp) (x : Operand) (ty : TypeId) (pos : String) (af : Array Edge) (gd : Option (Nat × Bool)) : PureOp prog ⟨d, .fieldAddr 24 x 0, ty, pos, af, gd⟩ := fun g w => by
  simp only [execOp]
  cases g x with
  | pointer p => cases p <;> simp [Instr.fieldAt, Instr.sureAddr, Sem.run_bind, run_underlying underlying24, fieldPlace, sizeOf22, stuck]
  | _ => simp [Instr.fieldAt, Instr.sureAddr, Sem.run_bind, run_underlying underlying24, stuck]
theorem po_load (d : Option Tmp) (x : Operand) (ty : TypeId) (pos : String) (af : Array Edge) (gd : Option (Nat × Bool)) : PureOp prog ⟨d, .load 22 x, ty, pos, af, gd⟩ := fun g w => by
  simp only [execOp]
  generalize g x = u
  cases u with
  | pointer p =>
    cases p with
    | none => simp [Instr.loadAt, Instr.sureAddr, Sem.run_bind, stuck]
    | some p =>
      simp [Instr.loadAt, Instr.sureAddr, Sem.run_bind, loadVar, isAgg22]
      cases w.cell? p with
      | some v => rfl
      | none =>
        simp only
        cases World.farLoad prog w p (Mode.plain == Mode.atomic) with
        | ok r => rfl
        | error e => trivial
  | _ => simp [Instr.loadAt, Instr.sureAddr, Sem.run_bind, stuck]
theorem po_len (d : Option Tmp) (x : Operand) (ty : TypeId) (pos : String) (af : Array Edge) (gd : Option (Nat × Bool)) : PureOp prog ⟨d, .call ⟨.builtin .len, #[x], #[22]⟩, ty, pos, af, gd⟩ := fun g w => by
  simp [execOp, resolve, invoke, builtin, Builtin.len_, Sem.run_bind, run_underlying underlying22]
  cases g x <;> simp [stuck]
theorem decode_le4 (s : ByteArray) (i : Nat) : (Utf8.decode s i).2 ≤ 4 := by
  unfold Utf8.decode
  simp only
  repeat' split
  all_goals simp
theorem scan_size {s : ByteArray} : ∀ (f pos n : Nat), scan s f pos = some n → s.size ≤ pos + f → s.size ≤ pos + 4 * n
  | 0, pos, n, _, h2 => by omega
  | f + 1, pos, n, h, h2 => by
    simp only [scan] at h
    split at h
    · split at h
      · cases h
      · rw [Option.map_eq_some_iff] at h
        obtain ⟨m, h3, rfl⟩ := h
        have g1 := decode_le4 s pos
        have g2 := decode_pos s pos
        have := scan_size f _ m h3 (by omega)
        omega
    · omega
theorem nameMay_size {s : ByteArray} (h : nameMay s = true) : s.size ≤ 32 := by
  unfold nameMay nameLen at h
  simp only [decide_eq_true_eq] at h
  split at h
  · rename_i n hn
    have := scan_size _ _ _ hn (by omega)
    split at h <;> omega
  · omega
def fS (f : GField) : ByteArray := ((f.Name ++ ⟨#[58]⟩) ++ kindText f.Kind) ++ f.To
def tS (t : GType) : ByteArray := ((t.Name ++ ⟨#[123]⟩) ++ joinS (t.F.map fS) ⟨#[44]⟩) ++ ⟨#[125]⟩
theorem strB_app (a b : ByteArray) : strB (a ++ b) = strB a ++ strB b := by unfold strB; rw [ByteArray.data_append, Array.toList_append]
theorem strB_fS (f : GField) : strB (fS f) = fieldText f := by
  unfold fS fieldText
  rw [strB_app, strB_app, strB_app]
  simp [strB]
theorem joinC_tail : ∀ (x : List UInt8) (r : List (List UInt8)), joinC (x :: r) = x ++ Go.Lib.joinTail [44] r
  | x, [] => by simp [joinC, Go.Lib.joinTail]
  | x, y :: r => by
    have := joinC_tail y r
    simp only [joinC]
    rw [this]
    simp [Go.Lib.joinTail]
theorem joinC_eq (l : List (List UInt8)) : Go.Lib.join l [44] = joinC l := by
  cases l with
  | nil => rfl
  | cons x r => rw [Go.Lib.join_cons, joinC_tail]
theorem strB_tS (t : GType) : strB (tS t) = typeText t := by
  unfold tS typeText
  rw [strB_app, strB_app, strB_app]
  have e : strB (joinS (t.F.map fS) ⟨#[44]⟩) = joinC (t.F.map fieldText) := by
    unfold joinS
    rw [← joinC_eq]
    simp only [strB, List.map_map]
    have : ((fun x : ByteArray => x.data.toList) ∘ fS) = fieldText := by funext f; exact strB_fS f
    rw [this]
  rw [e]
  simp [strB]
theorem strB_len (s : ByteArray) : (strB s).length = s.size := by unfold strB; rw [Array.length_toList]; rfl
structure ShortT (t : GType) : Prop where
  n : t.Name.size ≤ 32
  l : t.F.length ≤ 5
  f : ∀ f ∈ t.F, f.Name.size ≤ 32 ∧ f.To.size ≤ 32 ∧ 0 ≤ f.Kind ∧ f.Kind ≤ 5
theorem kindText_size (k : Int) : (kindText k).size ≤ 3 := by
  unfold kindText
  generalize k.toNat = n
  match n with
  | 0 => decide
  | 1 => decide
  | 2 => decide
  | 3 => decide
  | 4 => decide
  | 5 => decide
  | n + 6 => exact Nat.zero_le _
theorem sFind_size {s : List GType} {n : ByteArray} (h : sFind s n ≠ -1) (hs : ∀ t ∈ s, t.Name.size ≤ 32) : n.size ≤ 32 := by
  by_cases hx : ∃ t ∈ s, t.Name = n
  · obtain ⟨t, ht, rfl⟩ := hx; exact hs t ht
  · refine absurd ?_ h
    unfold sFind fnd
    have : s.findIdx? (fun o => decide (o.Name = n)) = none := by
      rw [List.findIdx?_eq_none_iff]; intro x hx'
      have : ¬ x.Name = n := fun e => hx ⟨x, hx', e⟩
      simpa using this
    rw [this]
theorem short_of {s : List GType} (h : schemaMay s = true) : s.length ≤ 4 ∧ ∀ t ∈ s, ShortT t := by
  unfold schemaMay at h
  simp only [Bool.and_eq_true, decide_eq_true_eq] at h
  obtain ⟨⟨_, h2⟩, h3⟩ := h
  have key : ∀ t ∈ s, nameMay t.Name = true ∧ t.F.length ≤ 5 ∧ fieldsMay s t = true := fun t ht => by
    obtain ⟨i, hi⟩ := List.getElem?_of_mem ht
    have := allI_at h3 hi
    unfold typeMay at this
    simp only [Bool.and_eq_true, decide_eq_true_eq] at this
    exact ⟨this.1.1.1, this.1.2, this.2⟩
  have hn : ∀ t ∈ s, t.Name.size ≤ 32 := fun t ht => nameMay_size (key t ht).1
  refine ⟨h2, fun t ht => ⟨hn t ht, (key t ht).2.1, fun f hf => ?_⟩⟩
  obtain ⟨k, hk⟩ := List.getElem?_of_mem hf
  have := allI_at (show allI _ 0 t.F = true from (key t ht).2.2) hk
  unfold fieldMay at this
  simp only [Bool.and_eq_true, decide_eq_true_eq] at this
  obtain ⟨⟨⟨h4, h5⟩, h6, h7⟩, _⟩ := this
  refine ⟨nameMay_size h5, ?_, h6, by omega⟩
  split at h4
  · exact sFind_size (by simpa using h4) hn
  · have : f.To = ⟨#[]⟩ := by simpa using h4
    rw [this]; exact Nat.zero_le _
theorem fieldText_len {f : GField} (h : f.Name.size ≤ 32 ∧ f.To.size ≤ 32 ∧ 0 ≤ f.Kind ∧ f.Kind ≤ 5) : (fieldText f).length ≤ 68 := by
  have := kindText_size f.Kind
  unfold fieldText
  simp only [List.length_append, List.length_cons, strB_len]
  omega
theorem joinC_len (c : Nat) : ∀ (l : List (List UInt8)), (∀ x ∈ l, x.length ≤ c) → (joinC l).length ≤ (c + 1) * l.length
  | [], _ => by simp [joinC]
  | [x], h => by have := h x (by simp); simp only [joinC, List.length_cons, List.length_nil]; omega
  | x :: y :: r, h => by
    have ih := joinC_len c (y :: r) fun z hz => h z (List.mem_cons_of_mem _ hz)
    have := h x (by simp)
    simp only [joinC, List.length_append, List.length_cons] at ih ⊢
    rw [Nat.mul_add (c + 1) (r.length + 1) 1]
    omega
theorem joinS_size {t : GType} (h : ShortT t) : (joinS (t.F.map fS) ⟨#[44]⟩).size ≤ 345 := by
  have e : (joinS (t.F.map fS) ⟨#[44]⟩).size = (joinC (t.F.map fieldText)).length := by
    rw [← joinC_eq, ← strB_len]
    unfold joinS
    simp only [strB, List.map_map]
    have : ((fun x : ByteArray => x.data.toList) ∘ fS) = fieldText := by funext f; exact strB_fS f
    rw [this]
  rw [e]
  have := joinC_len 68 (t.F.map fieldText) fun x hx => by
    obtain ⟨f, hf, rfl⟩ := List.mem_map.1 hx
    exact fieldText_len (h.f f hf)
  rw [List.length_map] at this
  have := h.l
  omega
theorem size_app (a b : ByteArray) : (a ++ b).size = a.size + b.size := by rw [← strB_len, strB_app, List.length_append, strB_len, strB_len]
theorem tS_size {t : GType} (h : ShortT t) : (tS t).size ≤ 379 := by
  have h1 := joinS_size h
  have h2 := h.n
  unfold tS
  rw [size_app, size_app, size_app]
  have e1 : (⟨#[123]⟩ : ByteArray).size = 1 := rfl
  have e2 : (⟨#[125]⟩ : ByteArray).size = 1 := rfl
  omega
theorem texts_len {s : List GType} (h : ∀ t ∈ s, ShortT t) : ∀ i, i ≤ s.length → ((s.take i).flatMap typeText).length ≤ 379 * i
  | 0, _ => by simp
  | i + 1, hi => by
    have ih := texts_len h i (by omega)
    obtain ⟨t, ht⟩ : ∃ t, s[i]? = some t := ⟨s[i], List.getElem?_eq_getElem (by omega)⟩
    rw [List.take_add_one, ht, Option.toList_some, List.flatMap_append, List.length_append]
    have := tS_size (h t (List.mem_of_getElem? ht))
    rw [← strB_len, strB_tS] at this
    simp only [List.flatMap_cons, List.flatMap_nil, List.append_nil]
    omega
theorem frz_S (l : List GField) : (AV.own 1 (l.map fun f => [AV.str (fS f)])).freeze = .sl 1 (l.map fun f => [AV.str (fS f)]) := frz_map (fun x a h => by simp at h; subst h; rfl) 1 l
theorem sz1 (a : UInt8) : ByteArray.size ⟨#[a]⟩ = 1 := rfl
theorem schema_Text (up : Bool) (s : List GType) (hM : schemaMay s = true) : PCall prog up 105 [.agg (eSchema s)] (· = .str ⟨(schemaText s).toArray⟩) := by
  refine PCall.intro htt func105 (by kernel_rfl) rfl (Nat.le_of_ble_eq_true rfl) fun hl => ?_
  obtain ⟨hs4, hsh⟩ := short_of hM
  have hs5 : s.length ≤ 1000 := by omega
  simp only [tmps0, Nat.reduceAdd]
  refine CW.seq (.rg (.run htt 2 (by simp only [go_sem, simprocAttr, eSchema]; exact rfl) (by simp [go_sem, simprocAttr, eSchema]) (.done ?_)))
  refine CW.seq (.seq (.rg (.run htt 1 (by simp only [go_sem, simprocAttr, eSchema]; exact rfl) (by simp [go_sem, simprocAttr, eSchema]) ?_)))
  refine CWops.callA (schema_May up s) (by simp only [go_sem, simprocAttr, eSchema]) (by simp only [go_sem, simprocAttr, eSchema] <;> exact rfl) (by simp only [go_sem, simprocAttr, eSchema]) (by simp only [go_sem, simprocAttr, eSchema]) (fun rt10 hrt10 => ?_)
  subst hrt10
  refine CWops.run htt 1 (by simp only [go_sem, simprocAttr, eSchema]; exact rfl) (by simp [go_sem, simprocAttr, eSchema]) (.done ?_)
  refine CW.cd (fun ct11 => ?_) (fun ct11 => ?_)
  · rw [hM] at ct11; cases ct11 
  · refine CW.skip ?_
    refine CW.builder (np := 4 * 65536 + 14 * 4294967296) (s := 3) (s2 := 13) (av := .sl 2 (s.map eType)) lay156 layX (4 * 65536) (by decide) (by decide) (by decide) (Nat.le_of_ble_eq_true rfl) rfl (by simp only [go_sem, simprocAttr]) (fun o ho => by
      simp only [List.mem_cons, List.not_mem_nil, or_false] at ho
      rcases ho with rfl | rfl | rfl | rfl
      · exact po_field _ _ _ _ _ _
      · exact po_load _ _ _ _ _ _
      · exact po_len _ _ _ _ _ _
      · exact po_move _ _ _ _ _ _) (by kernel_rfl) (by kernel_rfl) (Nat.le_of_ble_eq_true rfl) rfl ?_
    refine CWops.run htt 4 (by simp only [go_sem, simprocAttr, eSchema]; exact rfl) (by simp [go_sem, simprocAttr, eSchema]) (.done ?_)
    refine ⟨rfl, [(13, .sl 2 (s.map eType)), (14, .int .i64 s.length), (15, .int .i64 ((0 : Nat) : Int))], by simp [TB, AV.flat, AV.pure, go_sem, simprocAttr], ?_⟩
    refine CWB.block ?_
    refine CWB.loop (by decide) (by decide) (S := Nat) (fun i => ⟨0, [(13, .sl 2 (s.map eType)), (14, .int .i64 s.length), (15, .int .i64 i)], []⟩) (fun i => (s.take i).flatMap typeText) (fun i => i ≤ s.length) (fun i => s.length - i) (0) ?_ (Nat.zero_le _) (by simp) (fun i h1 => ?_)
    · exact Sh.wk0 (by simp [Wk, go_sem, simprocAttr])
    refine CWB.seq (by decide) (by decide) ?_
    refine CWB.of ?_
    refine CW.rg (.rn htt 1 (.done ?_))
    refine CWB.seq (by decide) (by decide) ?_
    refine CWB.of ?_
    refine CW.cd (fun ct16 => ?_) (fun ct16 => ?_)
    · have hi : i < s.length := by simpa using ct16
      obtain ⟨t, hx⟩ : ∃ t, s[i]? = some t := ⟨s[i], List.getElem?_eq_getElem hi⟩
      have hst := hsh t (List.mem_of_getElem? hx)
      have hl5 := hst.l
      refine CW.skip ?_
      refine CWB.seq (by decide) (by decide) ?_
      refine CWB.block ?_
      refine CWB.seq (by decide) (by decide) ?_
      refine CWB.of ?_
      refine CW.rg (.run htt 4 (by simp only [go_sem, simprocAttr, hx, eType]; exact rfl) (by simp [go_sem, simprocAttr, hx, eType]) (.done ?_))
      refine CWB.seq (by decide) (by decide) ?_
      refine CWB.of ?_
      refine CW.rg (.rn htt 1 (.done ?_))
      refine CWB.seq (by decide) (by decide) ?_
      refine CWB.of ?_
      refine CW.seq (.rg (.run htt 4 (by simp only [go_sem, simprocAttr, eType]; exact rfl) (by simp [go_sem, simprocAttr, eType]) (.done ?_)))
      refine CW.block ?_
      refine CW.loop (S := Nat) (fun j => ⟨2, [(13, .sl 2 (s.map eType)), (14, .int .i64 s.length), (15, .int .i64 i), (5, .lv 0 [] 0), (6, .ref 1 [] 0), (20, .sl 3 (t.F.map eField)), (21, .int .i64 t.F.length), (22, .int .i64 j)], [(0, ⟨true, eType t⟩), (1, ⟨false, [.own 1 ((t.F.take j).map fun f => [AV.str (fS f)])]⟩)]⟩) (fun j => j ≤ t.F.length) (fun j => t.F.length - j) (0) ?_ (Nat.zero_le _) (fun j h2 => ?_)
      · refine Sh.trans (Sh.nilRoot 6 1 (by simp only [go_sem, simprocAttr]) rfl) (Sh.wk0 ?_); simp [Wk, go_sem, simprocAttr, eType]
      refine CW.seq (.rg (.rn htt 1 (.done ?_)))
      refine CW.seq ?_
      refine CW.cd (fun ct23 => ?_) (fun ct23 => ?_)
      · have hj : j < t.F.length := by simpa using ct23
        obtain ⟨f, hf⟩ : ∃ f, t.F[j]? = some f := ⟨t.F[j], List.getElem?_eq_getElem hj⟩
        obtain ⟨f1, f2, f3, f4⟩ := hst.f f (List.mem_of_getElem? hf)
        have fk := kindText_size f.Kind
        have f6 : f.Kind < 6 := by omega
        have k5 : f.Kind.toNat ≤ 5 := by omega
        have k6 : f.Kind.toNat + 1 ≤ 6 := by omega
        have fz1 : f.Name.size + 1 ≤ MX := by unfold MX; omega
        have ez1 : (f.Name ++ ⟨#[58]⟩).size = f.Name.size + 1 := size_app _ _
        have fz2 : f.Name.size + 1 + (kindText f.Kind).size ≤ MX := by unfold MX; omega
        have fz3 : f.Name.size + 1 + (kindText f.Kind).size + f.To.size ≤ MX := by unfold MX; omega
        refine CW.skip ?_
        refine CW.seq ?_
        refine CW.block ?_
        refine CW.seq (.rg (.run htt 4 (by simp only [go_sem, simprocAttr, hf, eField]; exact rfl) (by simp [go_sem, simprocAttr, hf, eField]) (.done ?_)))
        refine CW.drawn mixed 13 (by decide) (by kernel_rfl) (by kernel_rfl) (by kernel_rfl) ?_
        refine Seg.run htt 4 (by simp only [go_sem, simprocAttr, eField, sz1, List.length_singleton, fz1, fz2, fz3, f3, f6, k5, k6, kT_get f.Kind f3 f4, Nat.mul_one]; exact rfl) ?_
        refine Seg.callA (schema_kinds up) (by simp only [go_sem, simprocAttr, eField, sz1, List.length_singleton, fz1, fz2, fz3, f3, f6, k5, k6, kT_get f.Kind f3 f4, Nat.mul_one]) (by simp only [go_sem, simprocAttr, eField, sz1, List.length_singleton, fz1, fz2, fz3, f3, f6, k5, k6, kT_get f.Kind f3 f4, Nat.mul_one] <;> exact rfl) (by simp only [go_sem, simprocAttr, eField, sz1, List.length_singleton, fz1, fz2, fz3, f3, f6, k5, k6, kT_get f.Kind f3 f4, Nat.mul_one]) (by simp only [go_sem, simprocAttr, eField, sz1, List.length_singleton, fz1, fz2, fz3, f3, f6, k5, k6, kT_get f.Kind f3 f4, Nat.mul_one]) ?_
        refine Seg.run htt 8 (by simp only [go_sem, simprocAttr, eField, sz1, List.length_singleton, fz1, fz2, fz3, f3, f6, k5, k6, kT_get f.Kind f3 f4, Nat.mul_one]; exact rfl) ?_
        refine Seg.done ?_
        refine CWops.run htt 2 (by simp only [go_sem, simprocAttr, eField, sz1, List.length_singleton, fz1, fz2, fz3, f3, f6, k5, k6, kT_get f.Kind f3 f4, Nat.mul_one]; exact rfl) (by first | (simp [go_sem, simprocAttr, eField, sz1, List.length_singleton, fz1, fz2, fz3, f3, f6, k5, k6, kT_get f.Kind f3 f4, Nat.mul_one]; done) | (simp [go_sem, simprocAttr, eField, sz1, List.length_singleton, fz1, fz2, fz3, f3, f6, k5, k6, kT_get f.Kind f3 f4, Nat.mul_one]; unfold MX; omega)) ?_
        refine CWops.done ?_
        refine CW.rg (.run htt 2 (by simp only [go_sem, simprocAttr, wrap_succ (show j < MX by unfold MX; omega)]; exact rfl) (by simp [go_sem, simprocAttr, wrap_succ (show j < MX by unfold MX; omega)]) (.done ?_))
        refine ⟨j + 1, ?_, ?_, ?_⟩
        · refine Sh.wk (fun x => if x = 1 then 4 else x) ?_
          simp [Wk, go_sem, simprocAttr, eType, List.take_add_one, hf, fS]
        · exact hj
        · simp only; omega
      · have hj : j = t.F.length := by simp at ct23; omega
        refine CW.exit ?_
        subst hj
        rw [List.take_length]
        have hjs := joinS_size hst
        have hnz := hst.n
        have gz1 : t.Name.size + 1 ≤ MX := by unfold MX; omega
        have gz2 : t.Name.size + 1 + (joinS (t.F.map fS) ⟨#[44]⟩).size ≤ MX := by unfold MX; omega
        have gz3 : t.Name.size + 1 + (joinS (t.F.map fS) ⟨#[44]⟩).size + 1 ≤ MX := by unfold MX; omega
        have hJ := strings_Join up (t.F.map fS) ⟨#[44]⟩ (by unfold MX; omega)
        have eJ : (t.F.map fS).map (fun s => [AV.str s]) = t.F.map fun f => [AV.str (fS f)] := by rw [List.map_map]; rfl
        rw [eJ] at hJ
        refine CWB.drawnWrite lay156 layX mixed (by decide) (by decide) 7 rfl (by decide) (by kernel_rfl) (by kernel_rfl) (by kernel_rfl) (Nat.le_of_ble_eq_true rfl) ?_
        refine Seg.run htt 4 (by simp only [go_sem, simprocAttr, eType, sz1, gz1, gz2, gz3]; exact rfl) ?_
        refine Seg.call hJ (by simp only [go_sem, simprocAttr, eType, sz1, gz1, gz2, gz3]) (by simp only [go_sem, simprocAttr, eType, sz1, gz1, gz2, gz3] <;> exact rfl) (by simp only [go_sem, simprocAttr, eType, sz1, gz1, gz2, gz3]; first | done | exact .inl (frz_S _)) (by simp only [go_sem, simprocAttr, eType, sz1, gz1, gz2, gz3]; first | done | exact .inl (frz_S _)) rfl ?_
        refine Seg.run htt 2 (by simp only [go_sem, simprocAttr, eType, sz1, gz1, gz2, gz3]; exact rfl) ?_
        refine Seg.done ?_
        refine ⟨by simp only [go_sem, simprocAttr], rfl, tS t, [(13, .sl 2 (s.map eType)), (14, .int .i64 s.length), (15, .int .i64 i)], by simp only [go_sem, simprocAttr]; rfl, ?_, by simp [TB, AV.flat, AV.pure, go_sem, simprocAttr], ?_⟩
        · have g1 := texts_len hsh i h1
          have g2 := tS_size hst
          omega
        refine CWB.of ?_
        refine CW.rg (.run htt 2 (by simp only [go_sem, simprocAttr, wrap_succ (show i < MX by unfold MX; omega)]; exact rfl) (by simp [go_sem, simprocAttr, wrap_succ (show i < MX by unfold MX; omega)]) (.done ?_))
        refine ⟨i + 1, ?_, ?_, ?_, ?_⟩
        · exact Sh.wk0 (by simp [Wk, go_sem, simprocAttr])
        · exact hi
        · simp only; omega
        · show _ = (s.take (i + 1)).flatMap typeText
          rw [strB_tS, List.take_add_one, hx]; simp
    · have hi : i = s.length := by simp at ct16; omega
      refine CW.exit ?_
      subst hi
      rw [List.take_length]
      have g1 := texts_len hsh s.length (Nat.le_refl _)
      rw [List.take_length] at g1
      refine CWB.string lay156 layX rfl (by kernel_rfl) (by simp only [go_sem, simprocAttr]) rfl (τ := []) trivial ?_ (by unfold MX; omega)
      refine CWops.rn htt 1 (.done ?_)
      refine retQ.rt (by simp only [f105, go_sem, simprocAttr]; exact rfl) ?_
      refine ⟨_, ?_, rfl⟩
      have e : schemaText s = s.flatMap typeText := by unfold schemaText; rw [if_pos hM]
      rw [e]
      simp [leP]
end Go.Ab
namespace Go.Ab
open Go Go.Proofs.Tryz
set_option maxRecDepth 100000
theorem clone_ValG (up : Bool) (xs : List GVal) (hx : xs.length * 32 ≤ MX) : GCall prog up 35 [.sl 3 (xs.map eVal)] 0 [] (fun r σ' => r = .ref 0 [] 0 ∧ σ'.n = 1 ∧ σ'.s = [(0, ⟨false, [.own 3 (xs.map eVal)]⟩)]) := by
  refine GCall.intro htt 0 func35 (by kernel_rfl) rfl (Nat.le_of_ble_eq_true rfl) (CW.told ?_)
  have hx1 : xs.length ≤ MX := by omega
  simp only [tmps0, Nat.reduceAdd]
  refine CW.seq (.rg (.rn htt 1 (.done ?_)))
  refine CW.seq (.seq (.rg (.rn htt 1 ?_)))
  refine CWops.nilcmp (n := 3) (l := xs.map eVal) htt (by simp only [go_sem, simprocAttr]) (by simp only [go_sem, simprocAttr]) (by simp only [go_sem, simprocAttr]) tt_54 rfl (fun b hb => ⟨_, rfl, ?_⟩)
  refine CWops.done ?_
  refine CW.cd (fun ct4 => ?_) (fun ct4 => ?_)
  · refine CW.seq (.rg (.rn htt 1 (.done ?_)))
    refine CW.ret ?_
    refine ⟨⟨1, [(2, .ref 0 [] 0)], [(0, ⟨false, [.own 3 (xs.map eVal)]⟩)]⟩, ?_, .inr rfl, by simp [ptrOK, go_sem, simprocAttr], _, by simp only [f35, go_sem, simprocAttr]; exact rfl, ?_⟩
    · have h0 := hb ct4
      refine Sh.trans (Sh.nilRoot 2 3 (by simp only [go_sem, simprocAttr]) rfl) (Sh.wk0 ?_)
      simp [Wk, go_sem, simprocAttr, h0]
    · exact ⟨rfl, rfl, rfl⟩
  · refine CW.skip ?_
    refine CW.seq (.rg ?_)
    refine CWops.run htt 4 (by simp only [go_sem, simprocAttr]; exact rfl) (by refine ⟨?_, ?_, ?_⟩ <;> first | (simp [eVal, AV.cell]; done) | (simp; omega)) ?_
    refine CWops.done ?_
    refine CW.ret ?_
    refine ⟨⟨1, [(2, .ref 0 [] 0)], [(0, ⟨false, [.own 3 (xs.map eVal)]⟩)]⟩, ?_, .inr rfl, by simp [ptrOK, go_sem, simprocAttr], _, by simp only [f35, go_sem, simprocAttr]; exact rfl, ?_⟩
    · refine Sh.wk (fun x => x + 1) ?_
      simp [Wk, go_sem, simprocAttr]
    · exact ⟨rfl, rfl, rfl⟩
theorem clone_TypeG (up : Bool) (xs : List GType) (hx : xs.length * 40 ≤ MX) : GCall prog up 75 [.sl 2 (xs.map eType)] 0 [] (fun r σ' => r = .ref 0 [] 0 ∧ σ'.n = 1 ∧ σ'.s = [(0, ⟨false, [.own 2 (xs.map eType)]⟩)]) := by
  refine GCall.intro htt 0 func75 (by kernel_rfl) rfl (Nat.le_of_ble_eq_true rfl) (CW.told ?_)
  have hx1 : xs.length ≤ MX := by omega
  simp only [tmps0, Nat.reduceAdd]
  refine CW.seq (.rg (.rn htt 1 (.done ?_)))
  refine CW.seq (.seq (.rg (.rn htt 1 ?_)))
  refine CWops.nilcmp (n := 2) (l := xs.map eType) htt (by simp only [go_sem, simprocAttr]) (by simp only [go_sem, simprocAttr]) (by simp only [go_sem, simprocAttr]) tt_22 rfl (fun b hb => ⟨_, rfl, ?_⟩)
  refine CWops.done ?_
  refine CW.cd (fun ct4 => ?_) (fun ct4 => ?_)
  · refine CW.seq (.rg (.rn htt 1 (.done ?_)))
    refine CW.ret ?_
    refine ⟨⟨1, [(2, .ref 0 [] 0)], [(0, ⟨false, [.own 2 (xs.map eType)]⟩)]⟩, ?_, .inr rfl, by simp [ptrOK, go_sem, simprocAttr], _, by simp only [f75, go_sem, simprocAttr]; exact rfl, ?_⟩
    · have h0 := hb ct4
      refine Sh.trans (Sh.nilRoot 2 2 (by simp only [go_sem, simprocAttr]) rfl) (Sh.wk0 ?_)
      simp [Wk, go_sem, simprocAttr, h0]
    · exact ⟨rfl, rfl, rfl⟩
  · refine CW.skip ?_
    refine CW.seq (.rg ?_)
    refine CWops.run htt 4 (by simp only [go_sem, simprocAttr]; exact rfl) (by refine ⟨?_, ?_, ?_⟩ <;> first | (simp [eType, AV.cell]; done) | (simp; omega)) ?_
    refine CWops.done ?_
    refine CW.ret ?_
    refine ⟨⟨1, [(2, .ref 0 [] 0)], [(0, ⟨false, [.own 2 (xs.map eType)]⟩)]⟩, ?_, .inr rfl, by simp [ptrOK, go_sem, simprocAttr], _, by simp only [f75, go_sem, simprocAttr]; exact rfl, ?_⟩
    · refine Sh.wk (fun x => x + 1) ?_
      simp [Wk, go_sem, simprocAttr]
    · exact ⟨rfl, rfl, rfl⟩
theorem walk_meet_in (up : Bool) (l : List Int) (i : Int) (hl : l.length < 1000) (p : Int) (h : atL l i = some p) : GCall prog up 74 [.lv 0 [] 0, .int .i64 i] 1 [(0, ⟨true, [.own 1 ((l).map eI), .omap (atMap (l))]⟩)] (fun _ σ' => ∃ t, σ' = ⟨1, t, [(0, ⟨true, [.own 1 ((Ab.meet l i).map eI), .omap (atMap (Ab.meet l i))]⟩)]⟩) := by
  refine GCall.intro htt 1 func74 (by kernel_rfl) rfl (Nat.le_of_ble_eq_true rfl) (CW.told ?_)

  simp only [tmps0, Nat.reduceAdd]
  refine CW.seq (.rg (.run htt 11 (by simp only [go_sem, simprocAttr, maplk_atMap, h]; exact rfl) (by simp [go_sem, simprocAttr, maplk_atMap, h]) (.done ?_)))
  refine CW.seq (.rg (.rn htt 2 (.done ?_)))
  refine CW.cd (fun ct16 => ?_) (fun ct16 => ?_)
  · cases ct16 
  · refine CW.skip ?_
    refine ⟨⟨1, [(0, .lv 0 [] 0)], [(0, ⟨true, [.own 1 ((Ab.meet l i).map eI), .omap (atMap (Ab.meet l i))]⟩)]⟩, ?_, .inl rfl, by simp [ptrOK, go_sem, simprocAttr], _, by simp only [f74, go_sem, simprocAttr]; exact rfl, ?_⟩ -- end
    · refine Sh.wk0 ?_
      rw [meet_in h]; simp [Wk, go_sem, simprocAttr]
    · exact ⟨_, rfl⟩
theorem walk_meet_out (up : Bool) (l : List Int) (i : Int) (hl : l.length < 1000) (h : atL l i = none) : GCall prog up 74 [.lv 0 [] 0, .int .i64 i] 1 [(0, ⟨true, [.own 1 ((l).map eI), .omap (atMap (l))]⟩)] (fun _ σ' => ∃ t, σ' = ⟨1, t, [(0, ⟨true, [.own 1 ((Ab.meet l i).map eI), .omap (atMap (Ab.meet l i))]⟩)]⟩) := by
  refine GCall.intro htt 1 func74 (by kernel_rfl) rfl (Nat.le_of_ble_eq_true rfl) (CW.told ?_)

  simp only [tmps0, Nat.reduceAdd]
  refine CW.seq (.rg (.run htt 11 (by simp only [go_sem, simprocAttr, maplk_atMap, h]; exact rfl) (by simp [go_sem, simprocAttr, maplk_atMap, h]) (.done ?_)))
  refine CW.seq (.rg (.rn htt 2 (.done ?_)))
  refine CW.cd (fun ct16 => ?_) (fun ct16 => ?_)
  · refine CW.seq ?_
    refine CW.drawn mixed 10 (by decide) (by kernel_rfl) (by kernel_rfl) (by kernel_rfl) ?_
    refine Seg.run htt 10 (by simp only [go_sem, simprocAttr]; exact rfl) ?_
    refine Seg.done ?_
    refine CWops.run htt 1 (by simp only [go_sem, simprocAttr]; exact rfl) (by simp [atMap_len, MX]; omega) ?_
    refine CWops.done ?_
    refine CW.rg ?_
    refine CWops.run htt 11 (by simp only [go_sem, simprocAttr, List.replicate]; exact rfl) (by simp [AV.cell, AV.tree, eI, MX]; omega) ?_
    refine CWops.done ?_
    refine ⟨⟨1, [(0, .lv 0 [] 0)], [(0, ⟨true, [.own 1 ((Ab.meet l i).map eI), .omap (atMap (Ab.meet l i))]⟩)]⟩, ?_, .inl rfl, by simp [ptrOK, go_sem, simprocAttr], _, by simp only [f74, go_sem, simprocAttr]; exact rfl, ?_⟩ -- end
    · refine Sh.wk0 ?_
      rw [meet_out h, atMap_app]; simp only [Wk, go_sem, simprocAttr, mapput_new (show maplk (atMap l) i = none by rw [maplk_atMap, h]; rfl), eI]; simp [Wk, go_sem, simprocAttr, eI]
    · exact ⟨_, rfl⟩
  · cases ct16
theorem walk_meet (up : Bool) (l : List Int) (i : Int) (hl : l.length < 1000) : GCall prog up 74 [.lv 0 [] 0, .int .i64 i] 1 [(0, ⟨true, [.own 1 ((l).map eI), .omap (atMap (l))]⟩)] (fun _ σ' => ∃ t, σ' = ⟨1, t, [(0, ⟨true, [.own 1 ((Ab.meet l i).map eI), .omap (atMap (Ab.meet l i))]⟩)]⟩) := by
  cases h : atL l i with
  | none => exact walk_meet_out up l i hl h
  | some p => exact walk_meet_in up l i hl p h
theorem ordF_end (g : Graph) (n : Nat) (l : List Int) : ordF g n l.length l = l := by
  cases n with
  | zero => rfl
  | succ n => simp [ordF]
theorem canon_of (up : Bool) (g : Graph) (hm : May g) : PCall prog up 33 [.agg (eGraph g)] (· = .fp [.sl 1 ((order g).map eI), .fmap (atMap (order g))]) := by
  refine PCall.intro htt func33 (by kernel_rfl) rfl (Nat.le_of_ble_eq_true rfl) fun hl => ?_
  have hL := (hl (.agg (eGraph g)) (by simp)).agg
  have hb := (hL (.sl 3 (g.O.map eObj)) (by simp [eGraph])).sl
  have hF : ∀ x ∈ g.O, x.F.length ≤ MX := fun x hx => by
    have h1 := (hb.2 (eObj x) (List.mem_map_of_mem hx)).2 (.sl 3 (x.F.map eVal)) (by simp [eObj])
    simpa using h1.sl.1
  have hr : g.Roots.length ≤ MX := Nat.le_trans hm.r (by decide)
  have ho := hm.o
  clear hb hL hl
  simp only [tmps0, Nat.reduceAdd]
  refine CW.seq (.rg (.run htt 2 (by simp only [go_sem, simprocAttr, eGraph]; exact rfl) (by simp [go_sem, simprocAttr, eGraph]) (.done ?_)))
  refine CW.scope ?_
  refine CW.seq (.rg ?_)
  refine CWops.run htt 6 (by simp only [go_sem, simprocAttr]; exact rfl) (by unfold MX; decide) ?_
  refine CWops.done ?_
  refine CW.seq (.seq (.rg (.run htt 4 (by simp only [go_sem, simprocAttr, eGraph]; exact rfl) (by simp [go_sem, simprocAttr, eGraph]) (.done ?_))))
  refine CW.block ?_
  refine CW.loop (S := Nat) (fun i => ⟨3, [(1, .lv 0 [] 0), (3, .lv 2 [] 0), (15, .sl 1 (g.Roots.map eI)), (16, .int .i64 g.Roots.length), (17, .int .i64 i)], [(0, ⟨true, eGraph g⟩), (2, ⟨true, [.own 1 ((mets [] (g.Roots.take i)).map eI), .omap (atMap (mets [] (g.Roots.take i)))]⟩)]⟩) (fun i => i ≤ g.Roots.length ∧ Good g (mets [] (g.Roots.take i))) (fun i => g.Roots.length - i) (0) ?_ ⟨Nat.zero_le _, Good.nil g⟩ (fun i ⟨h1, hg⟩ => ?_)
  · refine Sh.trans (Sh.nilCell 2 [] 0 1 (by simp [go_sem, simprocAttr]) rfl) (Sh.wk0 ?_); simp [Wk, go_sem, simprocAttr, atMap, ats, mets, eGraph]
  refine CW.seq (.rg (.rn htt 1 (.done ?_)))
  refine CW.seq ?_
  refine CW.cd (fun ct18 => ?_) (fun ct18 => ?_)
  · have hi : i < g.Roots.length := by simpa using ct18
    obtain ⟨x, hx⟩ : ∃ x, g.Roots[i]? = some x := ⟨g.Roots[i], List.getElem?_eq_getElem hi⟩
    refine CW.skip ?_
    refine CW.seq ?_
    refine CW.block ?_
    refine CW.seq (.rg (.run htt 3 (by simp only [go_sem, simprocAttr, hx, eI]; exact rfl) (by simp [go_sem, simprocAttr, hx, eI]) (.done ?_)))
    refine CW.rg (.rn htt 2 ?_)
    refine CWops.callG [2] rfl (walk_meet up (mets [] (g.Roots.take i)) x (by have := hg.len; omega)) (by simp only [go_sem, simprocAttr]) (by simp only [go_sem, simprocAttr] <;> exact rfl) (by decide) (by simp [go_sem, simprocAttr, mName, memB]) (by simp [go_sem, simprocAttr, mName]) (by simp [go_sem, simprocAttr]) (by simp [go_sem, simprocAttr]) (by simp [go_sem, simprocAttr, mName]) (fun r σ' hσ => ?_)
    obtain ⟨t', rfl⟩ := hσ
    simp only [aftS, renS, delAll, memB, mName, List.getD_nil, killH, kref, ren, Nat.beq_eq, go_sem, simprocAttr]
    refine CWops.done ?_
    refine CW.rg (.run htt 2 (by simp only [go_sem, simprocAttr, wrap_succ (Nat.lt_of_lt_of_le hi hr)]; exact rfl) (by simp [go_sem, simprocAttr, wrap_succ (Nat.lt_of_lt_of_le hi hr)]) (.done ?_))
    refine ⟨i + 1, ?_, ?_, ?_⟩
    · refine Sh.wk0 ?_; simp [Wk, go_sem, simprocAttr, mets_take _ hx, eGraph]
    · exact ⟨hi, by rw [mets_take _ hx]; exact hg.meet (hm.root x (List.mem_of_getElem? hx))⟩
    · simp only; omega
  · have hi : i = g.Roots.length := by simp at ct18; omega
    refine CW.exit ?_
    refine CW.seq (.rg (.rn htt 1 (.done ?_)))
    refine CW.seq ?_
    refine CW.label ?_
    refine CW.seq ?_
    refine CW.block ?_
    refine CW.loop (S := Nat × List Int) (fun p => ⟨3, [(1, .lv 0 [] 0), (3, .lv 2 [] 0), (6, .int .i64 p.1)], [(0, ⟨true, eGraph g⟩), (2, ⟨true, [.own 1 ((p.2).map eI), .omap (atMap (p.2))]⟩)]⟩) (fun p => Good g p.2 ∧ p.1 ≤ p.2.length ∧ ∃ n, n + p.1 = g.O.length ∧ ordF g n p.1 p.2 = order g) (fun p => g.O.length - p.1) ((0, mets [] g.Roots)) ?_ ⟨(Good.nil g).mets hm.root, Nat.zero_le _, g.O.length, rfl, rfl⟩ (fun ⟨i, l⟩ ⟨h1, h2, n, h3, h4⟩ => ?_)
    · refine Sh.wk0 ?_; simp [Wk, go_sem, simprocAttr, hi, eGraph]
    refine CW.seq (.seq (.rg (.rn htt 7 (.done ?_))))
    refine CW.cd (fun ct31 => ?_) (fun ct31 => ?_)
    · simp only at h1 h2 h3 h4
      have hi : i < l.length := by simpa using ct31
      obtain ⟨id, hid⟩ : ∃ x, l[i]? = some x := ⟨l[i], List.getElem?_eq_getElem hi⟩
      obtain ⟨p, ⟨oi, oT, oF⟩, hp, e1, hF1, hA, _⟩ := hm.find (h1.ids id (List.mem_of_getElem? hid))
      unfold gFind at hF1
      obtain ⟨_, t, hT, hmo⟩ := hm.objT hp
      obtain ⟨q, rfl⟩ := Int.eq_ofNat_of_zero_le (show 0 ≤ oT from hmo.t0)
      have ht : g.S[q]? = some t := by simpa using hmo.at_
      have hlen : oF.length = t.F.length := hmo.len
      have hll := h1.len
      obtain ⟨m, rfl⟩ : ∃ m, n = m + 1 := ⟨n - 1, by omega⟩
      have h5 : ordF g m (i + 1) (mets l (refsZ (t.F.zip oF))) = order g := by
        rw [← h4]
        conv => rhs; unfold ordF
        rw [hid]
        simp only [refsOf, hA, refsO, hT]
      refine CW.skip ?_
      refine CW.block ?_
      refine CW.seq ?_
      refine CW.drawn mixed 14 (by decide) (by kernel_rfl) (by kernel_rfl) (by kernel_rfl) ?_
      refine Seg.run htt 10 (by simp only [go_sem, simprocAttr, hi, hid, eI, eGraph, hF1, hp, eObj]; exact rfl) ?_
      refine Seg.call (graph_Find up g id) (by simp only [go_sem, simprocAttr, hi, hid, eI, eGraph, hF1, hp, eObj]) (by simp only [go_sem, simprocAttr, hi, hid, eI, eGraph, hF1, hp, eObj] <;> exact rfl) (by simp only [go_sem, simprocAttr, hi, hid, eI, eGraph, hF1, hp, eObj]) (by simp only [go_sem, simprocAttr, hi, hid, eI, eGraph, hF1, hp, eObj]) rfl ?_
      refine Seg.run htt 3 (by simp only [go_sem, simprocAttr, hi, hid, eI, eGraph, hF1, hp, eObj]; exact rfl) ?_
      refine Seg.done ?_
      refine CWops.run htt 1 (by simp only [go_sem, simprocAttr, hi, hid, eI, eGraph, hF1, hp, eObj]; exact rfl) (by simp [go_sem, simprocAttr, hi, hid, eI, eGraph, hF1, hp, eObj]) (.done ?_)
      refine CW.seq (.rg (.run htt 3 (by simp only [go_sem, simprocAttr, wrap_succ (show i < MX by unfold MX; omega)]; exact rfl) (by simp [go_sem, simprocAttr, wrap_succ (show i < MX by unfold MX; omega)]) (.done ?_)))
      refine CW.seq (.rg (.run htt 4 (by simp only [go_sem, simprocAttr, eObj]; exact rfl) (by simp [go_sem, simprocAttr, eObj]) (.done ?_)))
      refine CW.block ?_
      refine CW.loop (S := Nat) (fun k => ⟨4, [(1, .lv 0 [] 0), (3, .lv 2 [] 0), (6, .int .i64 ((i + 1 : Nat) : Int)), (7, .lv 3 [] 0), (48, .sl 3 (oF.map eVal)), (49, .int .i64 oF.length), (50, .int .i64 k)], [(0, ⟨true, eGraph g⟩), (2, ⟨true, [.own 1 ((mets l (refsZ ((t.F.zip oF).take k))).map eI), .omap (atMap (mets l (refsZ ((t.F.zip oF).take k))))]⟩), (3, ⟨true, eObj ⟨oi, q, oF⟩⟩)]⟩) (fun k => k ≤ oF.length ∧ Good g (mets l (refsZ ((t.F.zip oF).take k)))) (fun k => oF.length - k) (0) ?_ ⟨Nat.zero_le _, h1⟩ (fun k ⟨k1, k2⟩ => ?_)
      · refine Sh.wk0 ?_; simp [Wk, go_sem, simprocAttr, eGraph, eObj, mets, refsZ]
      refine CW.seq (.rg (.rn htt 1 (.done ?_)))
      refine CW.seq ?_
      refine CW.cd (fun ct51 => ?_) (fun ct51 => ?_)
      · have hk : k < oF.length := by simpa using ct51
        obtain ⟨v, hv⟩ : ∃ v, oF[k]? = some v := ⟨oF[k], List.getElem?_eq_getElem hk⟩
        obtain ⟨f, hf⟩ : ∃ f, t.F[k]? = some f := ⟨t.F[k], List.getElem?_eq_getElem (by omega)⟩
        have hz : (t.F.zip oF)[k]? = some (f, v) := List.getElem?_zip_eq_some.2 ⟨hf, hv⟩
        refine CW.skip ?_
        refine CW.seq ?_
        refine CW.block ?_
        refine CW.seq (.rg (.run htt 6 (by simp only [go_sem, simprocAttr, hv, eVal]; exact rfl) (by simp [go_sem, simprocAttr, hv, eVal]) (.done ?_)))
        refine CW.seq (.seq (.rg (.run htt 11 (by simp only [go_sem, simprocAttr, eGraph, eSchema, eObj, eType, ht]; exact rfl) (by simp [go_sem, simprocAttr, eGraph, eSchema, eObj, eType, ht]) (.done ?_))))
        refine CW.cd (fun ct65 => ?_) (fun ct65 => ?_)
        · exfalso; simp at ct65; omega 
        · refine CW.skip ?_
          refine CW.seq (.rg (.run htt 13 (by simp only [go_sem, simprocAttr, eGraph, eSchema, eObj, eType, ht, hf, eField]; exact rfl) (by simp [go_sem, simprocAttr, eGraph, eSchema, eObj, eType, ht, hf, eField]) (.done ?_)))
          refine CW.cd (fun ct78 => ?_) (fun ct78 => ?_)
          · have hk5 : f.Kind = 5 := by simpa using ct78
            refine CW.rg (.rn htt 3 ?_)
            refine CWops.callG [2] rfl (walk_meet up (mets l (refsZ ((t.F.zip oF).take k))) v.R (by have := k2.len; omega)) (by simp only [go_sem, simprocAttr]) (by simp only [go_sem, simprocAttr] <;> exact rfl) (by decide) (by simp [go_sem, simprocAttr, mName, memB]) (by simp [go_sem, simprocAttr, mName]) (by simp [go_sem, simprocAttr]) (by simp [go_sem, simprocAttr]) (by simp [go_sem, simprocAttr, mName]) (fun r σ' hσ => ?_)
            obtain ⟨t', rfl⟩ := hσ
            simp only [aftS, renS, delAll, memB, mName, List.getD_nil, killH, kref, ren, Nat.beq_eq, go_sem, simprocAttr]
            refine CWops.done ?_
            refine CW.rg (.run htt 2 (by simp only [go_sem, simprocAttr, wrap_succ (Nat.lt_of_lt_of_le hk (hF _ (List.mem_of_getElem? hp)))]; exact rfl) (by simp [go_sem, simprocAttr, wrap_succ (Nat.lt_of_lt_of_le hk (hF _ (List.mem_of_getElem? hp)))]) (.done ?_))
            refine ⟨k + 1, ?_, ?_, ?_⟩
            · refine Sh.wk0 ?_
              first | (simp [Wk, go_sem, simprocAttr, eGraph, eObj, refsZ_ref hz hk5]; done) | (simp [Wk, go_sem, simprocAttr, eGraph, eObj, refsZ_no hz hk5]; done) | skip
            · refine ⟨hk, ?_⟩
              first | (rw [refsZ_ref hz hk5]; exact k2.meet (hmo.ref hf hv hk5)) | (rw [refsZ_no hz hk5]; exact k2)
            · simp only; omega
          · have hk5 : f.Kind ≠ 5 := by simpa using ct78
            refine CW.skip ?_
            refine CW.rg (.run htt 2 (by simp only [go_sem, simprocAttr, wrap_succ (Nat.lt_of_lt_of_le hk (hF _ (List.mem_of_getElem? hp)))]; exact rfl) (by simp [go_sem, simprocAttr, wrap_succ (Nat.lt_of_lt_of_le hk (hF _ (List.mem_of_getElem? hp)))]) (.done ?_))
            refine ⟨k + 1, ?_, ?_, ?_⟩
            · refine Sh.wk0 ?_
              first | (simp [Wk, go_sem, simprocAttr, eGraph, eObj, refsZ_ref hz hk5]; done) | (simp [Wk, go_sem, simprocAttr, eGraph, eObj, refsZ_no hz hk5]; done) | skip
            · refine ⟨hk, ?_⟩
              first | (rw [refsZ_ref hz hk5]; exact k2.meet (hmo.ref hf hv hk5)) | (rw [refsZ_no hz hk5]; exact k2)
            · simp only; omega
      · have hk : k = oF.length := by simp at ct51; omega
        refine CW.exit ?_
        refine ⟨(i + 1, mets l (refsZ (t.F.zip oF))), ?_, ?_, ?_⟩
        · refine Sh.wk0 ?_; simp [Wk, go_sem, simprocAttr, eGraph, show (t.F.zip oF).take k = t.F.zip oF from List.take_of_length_le (by rw [List.length_zip]; omega)]
        · have hz : (t.F.zip oF).take k = t.F.zip oF := List.take_of_length_le (by rw [List.length_zip]; omega)
          exact ⟨by rw [← hz]; exact k2, by have := mets_len l (refsZ (t.F.zip oF)); simp only; omega, m, by simp only at h3 ⊢; omega, h5⟩
        · simp only at h3 ⊢; omega
    · simp only at h1 h2 h3 h4
      have hi : i = l.length := by simp at ct31; omega
      refine CW.exit ?_
      refine CW.seq (.rg (.rn htt 2 (.done ?_)))
      refine CW.ret ?_
      refine retQ.rt (by simp only [f33, go_sem, simprocAttr]; exact rfl) ?_
      refine ⟨_, ?_, rfl⟩
      have e : order g = l := by rw [← h4, hi, ordF_end]
      rw [e]
      simp [leP, leL, AV.freeze, frz_I]
theorem canon_Order (up : Bool) (g : Graph) : PCall prog up 26 [.agg (eGraph g)] (· = .sl 1 ((gOrder g).map eI)) := by
  refine PCall.intro htt func26 (by kernel_rfl) rfl (Nat.le_of_ble_eq_true rfl) fun hl => ?_

  simp only [tmps0, Nat.reduceAdd]
  refine CW.seq (.rg (.run htt 2 (by simp only [go_sem, simprocAttr, eGraph]; exact rfl) (by simp [go_sem, simprocAttr, eGraph]) (.done ?_)))
  refine CW.seq (.seq (.rg (.run htt 1 (by simp only [go_sem, simprocAttr, eGraph]; exact rfl) (by simp [go_sem, simprocAttr, eGraph]) ?_)))
  refine CWops.call (graph_May up g) (by simp only [go_sem, simprocAttr, eGraph]) (by simp only [go_sem, simprocAttr, eGraph] <;> exact rfl) (by simp only [go_sem, simprocAttr, eGraph]) (fun rt4 hrt4 => ?_)
  subst hrt4; refine ⟨rfl, ?_⟩
  refine CWops.run htt 1 (by simp only [go_sem, simprocAttr, eGraph]; exact rfl) (by simp [go_sem, simprocAttr, eGraph]) (.done ?_)
  refine CW.cd (fun ct5 => ?_) (fun ct5 => ?_)
  · simp only [Bool.not_eq_true'] at ct5
    refine CW.seq (.rg (.rn htt 1 (.done ?_)))
    refine CW.ret ?_
    refine retQ.rt (by simp only [f26, go_sem, simprocAttr]; exact rfl) ?_
    refine ⟨_, ?_, rfl⟩
    simp [leP, gOrder, ct5]
  · simp only [Bool.not_eq_false'] at ct5
    have hm := (may_iff g).1 ct5
    refine CW.skip ?_
    refine CW.seq (.rg (.run htt 1 (by simp only [go_sem, simprocAttr, eGraph]; exact rfl) (by simp [go_sem, simprocAttr, eGraph]) ?_))
    refine CWops.callA (canon_of up g hm) (by simp only [go_sem, simprocAttr, eGraph]) (by simp only [go_sem, simprocAttr, eGraph] <;> exact rfl) (by simp only [go_sem, simprocAttr, eGraph]) (by simp only [go_sem, simprocAttr, eGraph]) (fun rt7 hrt7 => ?_)
    subst hrt7
    refine CWops.run htt 4 (by simp only [go_sem, simprocAttr, eGraph]; exact rfl) (by simp [go_sem, simprocAttr, eGraph]) (.done ?_)
    refine CW.ret ?_
    refine retQ.rt (by simp only [f26, go_sem, simprocAttr]; exact rfl) ?_
    refine ⟨_, ?_, rfl⟩
    simp [leP, gOrder, ct5]
theorem canon_schema (up : Bool) (s : List GType) (h1 : s.length * 40 ≤ MX) (h2 : ∀ x ∈ s, x.F.length * 40 ≤ MX) : PCall prog up 34 [.agg (eSchema s)] (· = .agg (eSchema s)) := by
  refine PCall.intro htt func34 (by kernel_rfl) rfl (Nat.le_of_ble_eq_true rfl) fun hl => ?_
  have hb : s.length ≤ MX := by omega
  simp only [tmps0, Nat.reduceAdd]
  refine CW.seq (.rg (.run htt 2 (by simp only [go_sem, simprocAttr, eSchema]; exact rfl) (by simp [go_sem, simprocAttr, eSchema]) (.done ?_)))
  refine CW.seq (.rg (.run htt 2 (by simp only [go_sem, simprocAttr, eSchema]; exact rfl) (by simp [go_sem, simprocAttr, eSchema]) ?_))
  refine CWops.callG [] rfl (clone_TypeG up s h1) (by simp only [go_sem, simprocAttr]) (by simp only [go_sem, simprocAttr] <;> exact rfl) (by decide) (by simp [go_sem, simprocAttr, mName, memB]) (by simp [go_sem, simprocAttr, mName]) (by simp [go_sem, simprocAttr]) (by simp [go_sem, simprocAttr]) (by simp [go_sem, simprocAttr, mName]) (fun r σ' hσ => ?_)
  obtain ⟨σn, σt, σs⟩ := σ'
  simp only at hσ
  obtain ⟨rfl, rfl, rfl⟩ := hσ
  simp only [aftS, renS, delAll, memB, mName, List.getD_nil, killH, kref, ren, Nat.beq_eq, go_sem, simprocAttr]
  refine CWops.run htt 2 (by simp only [go_sem, simprocAttr, eSchema]; exact rfl) (by simp [go_sem, simprocAttr, eSchema]) (.done ?_)
  refine CW.seq (.seq (.rg (.rn htt 4 (.done ?_))))
  refine CW.block ?_
  refine CW.loop (S := Nat) (fun i => ⟨2, [(1, .lv 0 [] 0), (2, .lv 1 [] 0), (10, .ref 0 [] 0), (11, .int .i64 s.length), (12, .int .i64 i)], [(0, ⟨true, [.own 2 (s.map eType)]⟩), (1, ⟨true, [.nilsl]⟩)]⟩) (fun i => i ≤ s.length) (fun i => s.length - i) (0) ?_ (Nat.zero_le _) (fun i h3 => ?_)
  · refine Sh.wk0 ?_; simp [Wk, go_sem, simprocAttr]
  refine CW.seq (.rg (.rn htt 1 (.done ?_)))
  refine CW.seq ?_
  refine CW.cd (fun ct13 => ?_) (fun ct13 => ?_)
  · have hi : i < s.length := by simpa using ct13
    obtain ⟨x, hx⟩ : ∃ x, s[i]? = some x := ⟨s[i], List.getElem?_eq_getElem hi⟩
    refine CW.skip ?_
    refine CW.seq ?_
    refine CW.block ?_
    refine CW.seq (.rg (.run htt 6 (by simp only [go_sem, simprocAttr, hi, hx, eType]; exact rfl) (by simp [go_sem, simprocAttr, hi, hx, eType]) (.done ?_)))
    refine CW.drawn mixed 6 (by decide) (by kernel_rfl) (by kernel_rfl) (by kernel_rfl) ?_
    refine Seg.run htt 5 (by simp only [go_sem, simprocAttr, hi, hx, eType]; exact rfl) ?_
    refine Seg.callA (clone_Field up x.F (h2 x (List.mem_of_getElem? hx))) (by simp only [go_sem, simprocAttr, hi, hx, eType]) (by simp only [go_sem, simprocAttr, hi, hx, eType] <;> exact rfl) (by simp only [go_sem, simprocAttr, hi, hx, eType]) (by simp only [go_sem, simprocAttr, hi, hx, eType]) ?_
    refine Seg.done ?_
    refine CWops.run htt 3 (by simp only [go_sem, simprocAttr, hi, hx, eType]; exact rfl) (by simp [go_sem, simprocAttr, hi, hx, eType]) (.done ?_)
    refine CW.rg (.run htt 2 (by simp only [go_sem, simprocAttr, wrap_succ (Nat.lt_of_lt_of_le hi hb)]; exact rfl) (by simp [go_sem, simprocAttr, wrap_succ (Nat.lt_of_lt_of_le hi hb)]) (.done ?_))
    refine ⟨i + 1, ?_, ?_, ?_⟩
    · refine Sh.wk0 ?_
      have hss : (s.map eType).set i [.str x.Name, .sl 3 (x.F.map eField)] = s.map eType := set_same (by rw [List.getElem?_map, hx]; rfl)
      simp [Wk, go_sem, simprocAttr, hss]
    · exact hi
    · simp only; omega
  · have hi : i = s.length := by simp at ct13; omega
    refine CW.exit ?_
    refine CW.seq (.rg (.rn htt 2 (.done ?_)))
    refine CW.ret ?_
    refine retQ.rt (by simp only [f34, go_sem, simprocAttr]; exact rfl) ?_
    refine ⟨_, ?_, rfl⟩
    simp [leP, leL, eSchema, frz_Type]
theorem canon_Canon (up : Bool) (g : Graph) : PCall prog up 10 [.agg (eGraph g)] (· = .agg (eGraph (gCanon g))) := by
  refine PCall.intro htt func10 (by kernel_rfl) rfl (Nat.le_of_ble_eq_true rfl) fun hl => ?_

  simp only [tmps0, Nat.reduceAdd]
  refine CW.seq (.rg (.run htt 2 (by simp only [go_sem, simprocAttr, eGraph]; exact rfl) (by simp [go_sem, simprocAttr, eGraph]) (.done ?_)))
  refine CW.seq (.seq (.rg (.run htt 1 (by simp only [go_sem, simprocAttr, eGraph]; exact rfl) (by simp [go_sem, simprocAttr, eGraph]) ?_)))
  refine CWops.call (graph_May up g) (by simp only [go_sem, simprocAttr, eGraph]) (by simp only [go_sem, simprocAttr, eGraph] <;> exact rfl) (by simp only [go_sem, simprocAttr, eGraph]) (fun rt13 hrt13 => ?_)
  subst hrt13; refine ⟨rfl, ?_⟩
  refine CWops.run htt 1 (by simp only [go_sem, simprocAttr, eGraph]; exact rfl) (by simp [go_sem, simprocAttr, eGraph]) (.done ?_)
  refine CW.cd (fun ct14 => ?_) (fun ct14 => ?_)
  · simp only [Bool.not_eq_true'] at ct14
    refine CW.seq (.rg (.rn htt 2 (.done ?_)))
    refine CW.ret ?_
    refine retQ.rt (by simp only [f10, go_sem, simprocAttr]; exact rfl) ?_
    refine ⟨_, ?_, rfl⟩
    simp [leP, leL, gCanon, ct14, eGraph]
  · simp only [Bool.not_eq_false'] at ct14
    have hm := (may_iff g).1 ct14
    have hG := hm.order
    have ho := hm.o
    have hr := hm.r
    have hml : g.S.length ≤ 4 := by have := hm.s; unfold schemaMay at this; simp at this; omega
    have hmb : ∀ x ∈ g.S, x.F.length ≤ 5 := fun x hx => by
      have := hm.s; unfold schemaMay at this
      obtain ⟨j, hj⟩ := List.getElem?_of_mem hx
      simp only [Bool.and_eq_true] at this
      have := allI_at this.2 hj; unfold typeMay at this; simp at this; omega
    refine CW.skip ?_
    refine CW.seq (.rg (.run htt 1 (by simp only [go_sem, simprocAttr, eGraph]; exact rfl) (by simp [go_sem, simprocAttr, eGraph]) ?_))
    refine CWops.callA (canon_of up g hm) (by simp only [go_sem, simprocAttr, eGraph]) (by simp only [go_sem, simprocAttr, eGraph] <;> exact rfl) (by simp only [go_sem, simprocAttr, eGraph]) (by simp only [go_sem, simprocAttr, eGraph]) (fun rt17 hrt17 => ?_)
    subst hrt17
    refine CWops.run htt 1 (by simp only [go_sem, simprocAttr, eGraph]; exact rfl) (by simp [go_sem, simprocAttr, eGraph]) (.done ?_)
    refine CW.seq (.rg (.run htt 2 (by simp only [go_sem, simprocAttr, eGraph, eSchema]; exact rfl) (by simp [go_sem, simprocAttr, eGraph, eSchema]) ?_))
    refine CWops.callA (canon_schema up g.S (by unfold MX; omega) (fun x hx => by have := hmb x hx; unfold MX; omega)) (by simp only [go_sem, simprocAttr, eGraph, eSchema]) (by simp only [go_sem, simprocAttr, eGraph, eSchema] <;> exact rfl) (by simp only [go_sem, simprocAttr, eGraph, eSchema]) (by simp only [go_sem, simprocAttr, eGraph, eSchema]) (fun rt20 hrt20 => ?_)
    subst hrt20
    refine CWops.run htt 3 (by simp only [go_sem, simprocAttr, eGraph, eSchema]; exact rfl) (by simp [go_sem, simprocAttr, eGraph, eSchema]) (.done ?_)
    refine CW.seq (.seq (.rg (.rn htt 6 (.done ?_))))
    refine CW.block ?_
    refine CW.loop (S := Nat) (fun i => ⟨3, [(1, .lv 0 [] 0), (2, .lv 1 [] 0), (3, .fp [.sl 1 ((order g).map eI), .fmap (atMap (order g))]), (4, .lv 2 [] 0), (25, .sl 1 ((order g).map eI)), (26, .int .i64 (order g).length), (27, .int .i64 i)], [(0, ⟨true, eGraph g⟩), (1, ⟨true, [.nilsl, .nilsl, .nilsl]⟩), (2, ⟨true, [.sl 2 (g.S.map eType), .own 3 ((canonL g (order g) 0 ((order g).take i)).map eObj), .nilsl]⟩)]⟩) (fun i => i ≤ (order g).length) (fun i => (order g).length - i) (0) ?_ (Nat.zero_le _) (fun i h1 => ?_)
    · refine Sh.trans (Sh.nilCell 2 [] 1 3 (by simp [go_sem, simprocAttr]) rfl) (Sh.wk0 ?_); simp [Wk, go_sem, simprocAttr, canonL, eGraph, eSchema]
    refine CW.seq (.rg (.rn htt 1 (.done ?_)))
    refine CW.seq ?_
    refine CW.cd (fun ct28 => ?_) (fun ct28 => ?_)
    · have hi : i < (order g).length := by simpa using ct28
      obtain ⟨id, hid⟩ : ∃ x, (order g)[i]? = some x := ⟨(order g)[i], List.getElem?_eq_getElem hi⟩
      obtain ⟨p, ⟨oi, oT, oF⟩, hp, e1, hF1, hA, _⟩ := hm.find (hG.ids id (List.mem_of_getElem? hid))
      unfold gFind at hF1
      obtain ⟨_, t, hT, hmo⟩ := hm.objT hp
      obtain ⟨q, rfl⟩ := Int.eq_ofNat_of_zero_le (show 0 ≤ oT from hmo.t0)
      have ht : g.S[q]? = some t := by simpa using hmo.at_
      have hlen : oF.length = t.F.length := hmo.len
      have hll := hG.len
      have hfl := (hmb t (List.mem_of_getElem? ht))
      have hco : canonO g (order g) i id = ⟨i, q, List.zipWith (canonV (order g)) t.F oF⟩ := by unfold canonO; rw [hA]; simp only [hT]
      refine CW.skip ?_
      refine CW.seq ?_
      refine CW.block ?_
      refine CW.seq (.rg (.run htt 5 (by simp only [go_sem, simprocAttr, hid, eI]; exact rfl) (by simp [go_sem, simprocAttr, hid, eI]) (.done ?_)))
      refine CW.seq ?_
      refine CW.drawn mixed 8 (by decide) (by kernel_rfl) (by kernel_rfl) (by kernel_rfl) ?_
      refine Seg.run htt 4 (by simp only [go_sem, simprocAttr, hid, eI, eGraph, hF1, hp, eObj]; exact rfl) ?_
      refine Seg.call (graph_Find up g id) (by simp only [go_sem, simprocAttr, hid, eI, eGraph, hF1, hp, eObj]) (by simp only [go_sem, simprocAttr, hid, eI, eGraph, hF1, hp, eObj] <;> exact rfl) (by simp only [go_sem, simprocAttr, hid, eI, eGraph, hF1, hp, eObj]) (by simp only [go_sem, simprocAttr, hid, eI, eGraph, hF1, hp, eObj]) rfl ?_
      refine Seg.run htt 3 (by simp only [go_sem, simprocAttr, hid, eI, eGraph, hF1, hp, eObj]; exact rfl) ?_
      refine Seg.done ?_
      refine CWops.run htt 1 (by simp only [go_sem, simprocAttr, hid, eI, eGraph, hF1, hp, eObj]; exact rfl) (by simp [go_sem, simprocAttr, hid, eI, eGraph, hF1, hp, eObj]) (.done ?_)
      refine CW.seq (.rg (.run htt 3 (by simp only [go_sem, simprocAttr, eObj]; exact rfl) (by simp [go_sem, simprocAttr, eObj]) ?_))
      refine CWops.callG [] rfl (clone_ValG up oF (by unfold MX; omega)) (by simp only [go_sem, simprocAttr]) (by simp only [go_sem, simprocAttr] <;> exact rfl) (by decide) (by simp [go_sem, simprocAttr, mName, memB]) (by simp [go_sem, simprocAttr, mName]) (by simp [go_sem, simprocAttr]) (by simp [go_sem, simprocAttr]) (by simp [go_sem, simprocAttr, mName]) (fun r σ' hσ => ?_)
      obtain ⟨σn, σt, σs⟩ := σ'
      simp only at hσ
      obtain ⟨rfl, rfl, rfl⟩ := hσ
      simp only [aftS, renS, delAll, memB, mName, List.getD_nil, killH, kref, ren, Nat.beq_eq, go_sem, simprocAttr]
      refine CWops.run htt 4 (by simp only [go_sem, simprocAttr, eObj]; exact rfl) (by simp [go_sem, simprocAttr, eObj]) (.done ?_)
      refine CW.seq (.seq (.rg (.run htt 10 (by simp only [go_sem, simprocAttr, eGraph, eSchema, eType, ht]; exact rfl) (by simp [go_sem, simprocAttr, eGraph, eSchema, eType, ht]) (.done ?_))))
      refine CW.block ?_
      refine CW.loop (S := Nat) (fun k => ⟨4, [(1, .lv 0 [] 0), (2, .lv 1 [] 0), (3, .fp [.sl 1 ((order g).map eI), .fmap (atMap (order g))]), (4, .lv 2 [] 0), (25, .sl 1 ((order g).map eI)), (26, .int .i64 (order g).length), (27, .int .i64 i), (7, .lv 3 [] 0), (52, .sl 3 (t.F.map eField)), (53, .int .i64 t.F.length), (54, .int .i64 k)], [(0, ⟨true, eGraph g⟩), (1, ⟨true, [.nilsl, .nilsl, .nilsl]⟩), (2, ⟨true, [.sl 2 (g.S.map eType), .own 3 ((canonL g (order g) 0 ((order g).take i)).map eObj), .nilsl]⟩), (3, ⟨true, [.int .i64 i, .int .i64 q, .own 3 ((mixV (order g) t.F oF k).map eVal)]⟩)]⟩) (fun k => k ≤ t.F.length) (fun k => t.F.length - k) (0) ?_ (Nat.zero_le _) (fun k k1 => ?_)
      · refine Sh.wk0 ?_; simp [Wk, go_sem, simprocAttr, eGraph, mixV_zero]
      refine CW.seq (.rg (.rn htt 1 (.done ?_)))
      refine CW.seq ?_
      refine CW.cd (fun ct55 => ?_) (fun ct55 => ?_)
      · have hk : k < t.F.length := by simpa using ct55
        obtain ⟨v, hv⟩ : ∃ v, oF[k]? = some v := ⟨oF[k], List.getElem?_eq_getElem (by omega)⟩
        obtain ⟨f, hf⟩ : ∃ f, t.F[k]? = some f := ⟨t.F[k], List.getElem?_eq_getElem hk⟩
        have hgv := mixV_get (l := (order g)) hlen hv
        have hgl : k < (mixV (order g) t.F oF k).length := (List.getElem?_eq_some_iff.1 hgv).1
        refine CW.skip ?_
        refine CW.seq ?_
        refine CW.block ?_
        refine CW.seq (.rg (.run htt 6 (by simp only [go_sem, simprocAttr, hf, eField]; exact rfl) (by simp [go_sem, simprocAttr, hf, eField]) (.done ?_)))
        refine CW.seq (.rg (.rn htt 3 (.done ?_)))
        refine CW.cd (fun ct61 => ?_) (fun ct61 => ?_)
        · have hk5 : f.Kind = 5 := by simpa using ct61
          obtain ⟨rp, hat⟩ := atL_mem (hm.refIn (List.mem_of_getElem? hid) hA hT hf hv hk5)
          refine CW.drawn mixed 14 (by decide) (by kernel_rfl) (by kernel_rfl) (by kernel_rfl) ?_
          refine Seg.run htt 14 (by simp only [go_sem, simprocAttr, hgv, maplk_atMap, hat, eVal, List.length_map, hgl]; exact rfl) ?_
          refine Seg.done ?_
          refine CWops.run htt 3 (by simp only [go_sem, simprocAttr, hgv, maplk_atMap, hat, eVal, List.length_map, hgl]; exact rfl) (by simp [go_sem, simprocAttr, hgv, maplk_atMap, hat, eVal, List.length_map, hgl]) (.done ?_)
          refine CW.rg (.run htt 2 (by simp only [go_sem, simprocAttr, wrap_succ (show k < MX by unfold MX; omega)]; exact rfl) (by simp [go_sem, simprocAttr, wrap_succ (show k < MX by unfold MX; omega)]) (.done ?_))
          refine ⟨k + 1, ?_, ?_, ?_⟩
          · refine Sh.wk0 ?_
            dsimp only
            first | (rw [mixV_succ hf hv, show canonV (order g) f v = ⟨v.N, v.S, rp⟩ by simp [canonV, hk5, atD_of hat]]; simp [Wk, go_sem, simprocAttr, eGraph, List.map_set, eVal]; done) | (rw [mixV_no hlen hf hv hk5]; simp [Wk, go_sem, simprocAttr, eGraph]; done) | skip
          · exact hk
          · simp only; omega
        · have hk5 : f.Kind ≠ 5 := by simpa using ct61
          refine CW.skip ?_
          refine CW.rg (.run htt 2 (by simp only [go_sem, simprocAttr, wrap_succ (show k < MX by unfold MX; omega)]; exact rfl) (by simp [go_sem, simprocAttr, wrap_succ (show k < MX by unfold MX; omega)]) (.done ?_))
          refine ⟨k + 1, ?_, ?_, ?_⟩
          · refine Sh.wk0 ?_
            dsimp only
            first | (rw [mixV_succ hf hv, show canonV (order g) f v = ⟨v.N, v.S, rp⟩ by simp [canonV, hk5, atD_of hat]]; simp [Wk, go_sem, simprocAttr, eGraph, List.map_set, eVal]; done) | (rw [mixV_no hlen hf hv hk5]; simp [Wk, go_sem, simprocAttr, eGraph]; done) | skip
          · exact hk
          · simp only; omega
      · have hk : k = t.F.length := by simp at ct55; omega
        refine CW.exit ?_
        refine CW.sh (Sh.frz 3 2 (by simp only [go_sem, simprocAttr] <;> exact rfl) rfl) ?_
        simp only [go_sem, simprocAttr]
        refine CW.rg ?_
        refine CWops.run htt 7 (by simp only [go_sem, simprocAttr, List.replicate]; exact rfl) (by simp [AV.cell, AV.tree, eObj, MX, canonL_len]; omega) ?_
        refine CWops.done ?_
        refine CW.rg (.run htt 2 (by simp only [go_sem, simprocAttr, wrap_succ (show i < MX by unfold MX; omega)]; exact rfl) (by simp [go_sem, simprocAttr, wrap_succ (show i < MX by unfold MX; omega)]) (.done ?_))
        refine ⟨i + 1, ?_, ?_, ?_⟩
        · refine Sh.wk0 ?_
          dsimp only
          rw [canonL_take g (order g) hid, hco]
          simp [Wk, go_sem, simprocAttr, eGraph, eObj, hk, mixV_all _ _ _ hlen]
        · exact hi
        · simp only; omega
    · have hi : i = (order g).length := by simp at ct28; omega
      refine CW.exit ?_
      refine CW.seq (.seq (.rg (.run htt 4 (by simp only [go_sem, simprocAttr, eGraph]; exact rfl) (by simp [go_sem, simprocAttr, eGraph]) (.done ?_))))
      refine CW.block ?_
      refine CW.loop (S := Nat) (fun i => ⟨3, [(1, .lv 0 [] 0), (2, .lv 1 [] 0), (3, .fp [.sl 1 ((order g).map eI), .fmap (atMap (order g))]), (4, .lv 2 [] 0), (87, .sl 1 (g.Roots.map eI)), (88, .int .i64 g.Roots.length), (89, .int .i64 i)], [(0, ⟨true, eGraph g⟩), (1, ⟨true, [.nilsl, .nilsl, .nilsl]⟩), (2, ⟨true, [.sl 2 (g.S.map eType), .own 3 ((canonL g (order g) 0 (order g)).map eObj), .own 1 (((g.Roots.take i).map (atD (order g))).map eI)]⟩)]⟩) (fun i => i ≤ g.Roots.length) (fun i => g.Roots.length - i) (0) ?_ (Nat.zero_le _) (fun i h1 => ?_)
      · rw [hi, List.take_length]; refine Sh.trans (Sh.nilCell 2 [] 2 1 (by simp [go_sem, simprocAttr]) rfl) (Sh.wk0 ?_); simp [Wk, go_sem, simprocAttr, eGraph]
      refine CW.seq (.rg (.rn htt 1 (.done ?_)))
      refine CW.seq ?_
      refine CW.cd (fun ct90 => ?_) (fun ct90 => ?_)
      · have hi : i < g.Roots.length := by simpa using ct90
        obtain ⟨x, hx⟩ : ∃ x, g.Roots[i]? = some x := ⟨g.Roots[i], List.getElem?_eq_getElem hi⟩
        obtain ⟨rp, hat⟩ := atL_mem (hm.rootIn (List.mem_of_getElem? hx))
        refine CW.skip ?_
        refine CW.seq ?_
        refine CW.block ?_
        refine CW.seq (.rg (.run htt 3 (by simp only [go_sem, simprocAttr, hx, eI]; exact rfl) (by simp [go_sem, simprocAttr, hx, eI]) (.done ?_)))
        refine CW.drawn mixed 9 (by decide) (by kernel_rfl) (by kernel_rfl) (by kernel_rfl) ?_
        refine Seg.run htt 9 (by simp only [go_sem, simprocAttr, maplk_atMap, hat, List.replicate]; exact rfl) ?_
        refine Seg.done ?_
        refine CWops.run htt 3 (by simp only [go_sem, simprocAttr, maplk_atMap, hat, List.replicate]; exact rfl) (by simp [AV.cell, AV.tree, eI, MX]; omega) ?_
        refine CWops.done ?_
        refine CW.rg (.run htt 2 (by simp only [go_sem, simprocAttr, wrap_succ (show i < MX by unfold MX; omega)]; exact rfl) (by simp [go_sem, simprocAttr, wrap_succ (show i < MX by unfold MX; omega)]) (.done ?_))
        refine ⟨i + 1, ?_, ?_, ?_⟩
        · refine Sh.wk0 ?_
          simp [Wk, go_sem, simprocAttr, eGraph, List.take_add_one, hx, atD_of hat, eI]
        · exact hi
        · simp only; omega
      · have hi : i = g.Roots.length := by simp at ct90; omega
        refine CW.exit ?_
        refine CW.seq ?_
        refine CW.sh (Sh.trans (Sh.frz 2 1 (by simp only [go_sem, simprocAttr] <;> exact rfl) rfl) (Sh.frz 2 2 (by simp only [go_sem, simprocAttr] <;> exact rfl) rfl)) ?_
        simp only [go_sem, simprocAttr]
        refine CW.rg (.rn htt 2 (.done ?_))
        refine CW.ret ?_
        refine retQ.rt (by simp only [f10, go_sem, simprocAttr]; exact rfl) ?_
        refine ⟨_, ?_, rfl⟩
        simp [leP, leL, gCanon, ct14, canonG, eGraph, hi, frz_Obj, frz_I]
theorem canon_Iso (up : Bool) (a b : Graph) : PCall prog up 11 [.agg (eGraph a), .agg (eGraph b)] (· = .bool (gIso a b)) := by
  refine PCall.intro htt func11 (by kernel_rfl) rfl (Nat.le_of_ble_eq_true rfl) fun hl => ?_

  simp only [tmps0, Nat.reduceAdd]
  refine CW.seq (.rg (.run htt 3 (by simp only [go_sem, simprocAttr, eGraph]; exact rfl) (by simp [go_sem, simprocAttr, eGraph]) (.done ?_)))
  refine CW.seq ?_
  refine CW.drawn mixed 10 (by decide) (by kernel_rfl) (by kernel_rfl) (by kernel_rfl) ?_
  refine Seg.run htt 1 (by simp only [go_sem, simprocAttr, eGraph]; exact rfl) ?_
  refine Seg.call (graph_May up a) (by simp only [go_sem, simprocAttr, eGraph]) (by simp only [go_sem, simprocAttr, eGraph] <;> exact rfl) (by simp only [go_sem, simprocAttr, eGraph]) (by simp only [go_sem, simprocAttr, eGraph]) rfl ?_
  refine Seg.run htt 1 (by simp only [go_sem, simprocAttr, eGraph]; exact rfl) ?_
  all_goals (first | refine Seg.guard 7 (by simp only [go_sem, simprocAttr, eGraph]; exact rfl) (fun g7 => ?_) (fun g7 => ?_) | skip)
  all_goals (refine Seg.run htt 1 (by simp only [go_sem, simprocAttr, eGraph]; exact rfl) ?_)
  all_goals (first | (refine Seg.skip ?_ ?_; next => (simp only [go_sem, simprocAttr]; done)) | (refine Seg.call (graph_May up b) (by simp only [go_sem, simprocAttr, eGraph]) (by simp only [go_sem, simprocAttr, eGraph] <;> exact rfl) (by simp only [go_sem, simprocAttr, eGraph]) (by simp only [go_sem, simprocAttr, eGraph]) rfl ?_))
  all_goals (refine Seg.run htt 2 (by simp only [go_sem, simprocAttr, eGraph]; exact rfl) ?_)
  all_goals (first | refine Seg.guard 11 (by simp only [go_sem, simprocAttr, eGraph]; exact rfl) (fun g11 => ?_) (fun g11 => ?_) | skip)
  all_goals (refine Seg.run htt 1 (by simp only [go_sem, simprocAttr, eGraph]; exact rfl) ?_)
  all_goals (first | (refine Seg.skip ?_ ?_; next => (simp only [go_sem, simprocAttr]; done)) | (refine Seg.callA (canon_Canon up a) (by simp only [go_sem, simprocAttr, eGraph]) (by simp only [go_sem, simprocAttr, eGraph] <;> exact rfl) (by simp only [go_sem, simprocAttr, eGraph]) (by simp only [go_sem, simprocAttr, eGraph]) ?_))
  all_goals (refine Seg.run htt 1 (by simp only [go_sem, simprocAttr, eGraph]; exact rfl) ?_)
  all_goals (refine Seg.done ?_)
  all_goals (first | (refine CWops.skip ?_ ?_; next => (simp only [go_sem, simprocAttr]; done)) | (refine CWops.callA (canon_Canon up b) (by simp only [go_sem, simprocAttr, eGraph]) (by simp only [go_sem, simprocAttr, eGraph] <;> exact rfl) (by simp only [go_sem, simprocAttr, eGraph]) (by simp only [go_sem, simprocAttr, eGraph]) (fun rt15 hrt15 => ?_); subst hrt15))
  all_goals (first | (refine CWops.skip ?_ ?_; next => (simp only [go_sem, simprocAttr]; done)) | (refine CWops.call (graph_Same up (gCanon a) (gCanon b)) (by simp only [go_sem, simprocAttr, eGraph]) (by simp only [go_sem, simprocAttr, eGraph] <;> exact rfl) (by simp only [go_sem, simprocAttr, eGraph]) (fun rt16 hrt16 => ?_); subst hrt16; refine ⟨rfl, ?_⟩))
  all_goals (refine CWops.run htt 2 (by simp only [go_sem, simprocAttr, eGraph]; exact rfl) (by simp [go_sem, simprocAttr, eGraph]) ?_)
  all_goals (refine CWops.done ?_)
  all_goals (
    refine CW.ret ?_
    refine retQ.rt (by simp only [f11, go_sem, simprocAttr]; exact rfl) ?_
    refine ⟨_, ?_, rfl⟩
    simp_all [leP, gIso])
theorem one_MX (b : UInt8) : (Array.size #[b] ≤ MX) = True := eq_true (by show 1 ≤ MX; unfold MX; decide)
theorem law06_One (up : Bool) : PCall prog up 54 [] (· = .agg (eSchema oneS)) := by
  refine PCall.intro htt func54 (by kernel_rfl) rfl (Nat.le_of_ble_eq_true rfl) fun hl => ?_

  simp only [tmps0, Nat.reduceAdd]
  refine CW.seq (.rg (.rn htt 1 (.done ?_)))
  refine CW.seq (.rg (.run htt 2 (by simp only [go_sem, simprocAttr, one_MX]; exact rfl) (by simp [go_sem, simprocAttr, one_MX]) (.run htt 1 (by simp only [go_sem, simprocAttr, List.replicate, one_MX]; exact rfl) (by simp [go_sem, simprocAttr]) ?_)))
  refine CWops.sh (Sh.frzT 3 1 (by simp only [go_sem, simprocAttr]) (by simp only [go_sem, simprocAttr] <;> exact rfl) rfl) ?_
  simp only [go_sem, simprocAttr, AV.freeze]
  refine CWops.run htt 1 (by simp only [go_sem, simprocAttr, one_MX]; exact rfl) (by simp [go_sem, simprocAttr, one_MX]) (.run htt 1 (by simp only [go_sem, simprocAttr, List.replicate, one_MX]; exact rfl) (by simp [go_sem, simprocAttr]) ?_)
  refine CWops.sh (Sh.frzT 5 2 (by simp only [go_sem, simprocAttr]) (by simp only [go_sem, simprocAttr] <;> exact rfl) rfl) ?_
  simp only [go_sem, simprocAttr, AV.freeze]
  refine CWops.run htt 2 (by simp only [go_sem, simprocAttr, one_MX]; exact rfl) (by simp [go_sem, simprocAttr, one_MX]) (.done ?_)
  refine CW.ret ?_
  refine retQ.rt (by simp only [f54, go_sem, simprocAttr]; exact rfl) ?_
  refine ⟨_, ?_, rfl⟩
  simp [leP, leL, eSchema, eType, eField, oneS]
theorem law06_Few (up : Bool) (s : List GType) (k : Int) : PCall prog up 21 [.agg (eSchema s), .int .i64 k] (· = .bool (few06 s k)) := by
  refine PCall.intro htt func21 (by kernel_rfl) rfl (Nat.le_of_ble_eq_true rfl) fun hl => ?_
  have hL := (hl (.agg (eSchema s)) (by simp)).agg
  have hb := (hL (.sl 2 (s.map eType)) (by simp [eSchema])).sl.1
  simp only [List.length_map] at hb
  simp only [tmps0, Nat.reduceAdd]
  refine CW.seq (.rg (.run htt 2 (by simp only [go_sem, simprocAttr, eSchema]; exact rfl) (by simp [go_sem, simprocAttr, eSchema]) (.done ?_)))
  refine CW.seq (.seq (.rg (.rn htt 1 (.done ?_))))
  refine CW.block ?_
  refine CW.loop (S := Nat) (fun i => ⟨1, [(1, .int .i64 k), (2, .lv 0 [] 0), (5, .int .i64 i)], [(0, ⟨true, eSchema s⟩)]⟩) (fun i => i ≤ s.length ∧ ∀ (j : Nat) (y), j < i → s[j]? = some y → decide ((y.F.length : Int) ≤ k) = true) (fun i => s.length - i) (0) ?_ ⟨Nat.zero_le _, fun j y hj => by omega⟩ (fun i ⟨h1, h2⟩ => ?_)
  · refine Sh.wk0 ?_; simp [Wk, go_sem, simprocAttr, eSchema]
  refine CW.seq (.seq (.rg (.run htt 5 (by simp only [go_sem, simprocAttr, eSchema]; exact rfl) (by simp [go_sem, simprocAttr, eSchema]) (.done ?_))))
  refine CW.cd (fun ct10 => ?_) (fun ct10 => ?_)
  · have hi : i < s.length := by simpa using ct10
    obtain ⟨x, hx⟩ : ∃ x, s[i]? = some x := ⟨s[i], List.getElem?_eq_getElem hi⟩
    refine CW.skip ?_
    refine CW.seq ?_
    refine CW.block ?_
    refine CW.seq (.rg (.run htt 9 (by simp only [go_sem, simprocAttr, eSchema, hx, eType]; exact rfl) (by simp [go_sem, simprocAttr, eSchema, hx, eType]) (.done ?_)))
    refine CW.cd (fun ct21 => ?_) (fun ct21 => ?_)
    · have hp : decide ((x.F.length : Int) ≤ k) = false := by simp at ct21 ⊢; omega
      refine CW.seq (.rg (.rn htt 1 (.done ?_)))
      refine CW.ret ?_
      refine retQ.rt (by simp only [f21, go_sem, simprocAttr]; exact rfl) ?_
      refine ⟨_, ?_, rfl⟩
      have : few06 s k = false := by unfold few06; rw [allI_no hx hp]; rfl
      simp [leP, this]
    · have hp : decide ((x.F.length : Int) ≤ k) = true := by simp at ct21 ⊢; omega
      refine CW.skip ?_
      refine CW.rg (.run htt 3 (by simp only [go_sem, simprocAttr, wrap_succ (Nat.lt_of_lt_of_le hi hb)]; exact rfl) (by simp [go_sem, simprocAttr, wrap_succ (Nat.lt_of_lt_of_le hi hb)]) (.done ?_))
      refine ⟨i + 1, ?_, ?_, ?_⟩
      · refine Sh.wk0 ?_; simp [Wk, go_sem, simprocAttr, eSchema]
      · exact ⟨hi, belowI_succ (p := fun _ y => decide ((y.F.length : Int) ≤ k)) h2 hx hp⟩
      · simp only; omega
  · have hi : i = s.length := by simp at ct10; omega
    refine CW.exit ?_
    refine CW.seq (.rg (.run htt 6 (by simp only [go_sem, simprocAttr, eSchema]; exact rfl) (by simp [go_sem, simprocAttr, eSchema]) (.done ?_)))
    refine CW.ret ?_
    refine retQ.rt (by simp only [f21, go_sem, simprocAttr]; exact rfl) ?_
    refine ⟨_, ?_, rfl⟩
    have : few06 s k = decide ((s.length : Int) ≤ k) := by unfold few06; rw [belowI_all (p := fun _ (y : GType) => decide ((y.F.length : Int) ≤ k)) (by rw [← hi]; exact h2)]; simp
    simp [leP, this]
theorem law08_Few (up : Bool) (g : Graph) : PCall prog up 6 [.agg (eGraph g)] (· = .bool (fewG g)) := by
  refine PCall.intro htt func6 (by kernel_rfl) rfl (Nat.le_of_ble_eq_true rfl) fun hl => ?_
  have hL := (hl (.agg (eGraph g)) (by simp)).agg
  have hb := (hL (.sl 3 (g.O.map eObj)) (by simp [eGraph])).sl.1
  simp only [List.length_map] at hb
  simp only [tmps0, Nat.reduceAdd]
  refine CW.seq (.rg (.run htt 2 (by simp only [go_sem, simprocAttr, eGraph]; exact rfl) (by simp [go_sem, simprocAttr, eGraph]) (.done ?_)))
  refine CW.seq (.rg (.run htt 2 (by simp only [go_sem, simprocAttr, eGraph, eSchema]; exact rfl) (by simp [go_sem, simprocAttr, eGraph, eSchema]) ?_))
  refine CWops.call (law06_Few up g.S 10) (by simp only [go_sem, simprocAttr, eGraph, eSchema]) (by simp only [go_sem, simprocAttr, eGraph, eSchema] <;> exact rfl) (by simp only [go_sem, simprocAttr, eGraph, eSchema]) (fun rt7 hrt7 => ?_)
  subst hrt7; refine ⟨rfl, ?_⟩
  refine CWops.run htt 1 (by simp only [go_sem, simprocAttr, eGraph, eSchema]; exact rfl) (by simp [go_sem, simprocAttr, eGraph, eSchema]) (.done ?_)
  refine CW.seq ?_
  refine CW.cut ⟨1, [(1, .lv 0 [] 0), (21, .bool (!((few06 g.S 10 && decide (g.O.length ≤ 12)) && decide (g.Roots.length ≤ 10))))], [(0, ⟨true, eGraph g⟩)]⟩ ?_ ?_
  · refine CW.rg (.run htt 3 (by simp only [go_sem, simprocAttr, eGraph]; exact rfl) (by simp [go_sem, simprocAttr, eGraph]) ?_)
    all_goals (first | refine CWops.guard 10 (by simp only [go_sem, simprocAttr, eGraph]; exact rfl) (fun g10 => ?_) (fun g10 => ?_) | skip)
    all_goals (refine CWops.run htt 6 (by simp only [go_sem, simprocAttr, eGraph]; exact rfl) (by simp [go_sem, simprocAttr, eGraph]) ?_)
    all_goals (first | refine CWops.guard 16 (by simp only [go_sem, simprocAttr, eGraph]; exact rfl) (fun g16 => ?_) (fun g16 => ?_) | skip)
    all_goals (refine CWops.run htt 5 (by simp only [go_sem, simprocAttr, eGraph]; exact rfl) (by simp [go_sem, simprocAttr, eGraph]) ?_)
    all_goals (refine CWops.done ?_)
    all_goals (
      refine ⟨rfl, Sh.wk0 ?_⟩
      simp_all [Wk, go_sem, simprocAttr, eGraph] <;> first | done | omega | rfl | (rw [Bool.eq_iff_iff]; done) | (rw [Bool.eq_iff_iff]; simp; done) | (rw [Bool.eq_iff_iff]; simp; omega))
  refine CW.cd (fun ct21 => ?_) (fun ct21 => ?_)
  · simp only [Bool.not_eq_true'] at ct21
    refine CW.seq (.rg (.rn htt 1 (.done ?_)))
    refine CW.ret ?_
    refine retQ.rt (by simp only [f6, go_sem, simprocAttr]; exact rfl) ?_
    refine ⟨_, ?_, rfl⟩
    have : fewG g = false := by unfold fewG; rw [ct21]; rfl
    simp [leP, this]
  · simp only [Bool.not_eq_false'] at ct21
    refine CW.skip ?_
    refine CW.seq (.seq (.rg (.rn htt 1 (.done ?_))))
    refine CW.block ?_
    refine CW.loop (S := Nat) (fun i => ⟨1, [(1, .lv 0 [] 0), (4, .int .i64 i)], [(0, ⟨true, eGraph g⟩)]⟩) (fun i => i ≤ g.O.length ∧ ∀ (j : Nat) (y), j < i → g.O[j]? = some y → decide (y.F.length ≤ 10) = true) (fun i => g.O.length - i) (0) ?_ ⟨Nat.zero_le _, fun j y hj => by omega⟩ (fun i ⟨h1, h2⟩ => ?_)
    · refine Sh.wk0 ?_; simp [Wk, go_sem, simprocAttr, eGraph]
    refine CW.seq (.seq (.rg (.run htt 5 (by simp only [go_sem, simprocAttr, eGraph]; exact rfl) (by simp [go_sem, simprocAttr, eGraph]) (.done ?_))))
    refine CW.cd (fun ct26 => ?_) (fun ct26 => ?_)
    · have hi : i < g.O.length := by simpa using ct26
      obtain ⟨x, hx⟩ : ∃ x, g.O[i]? = some x := ⟨g.O[i], List.getElem?_eq_getElem hi⟩
      refine CW.skip ?_
      refine CW.seq ?_
      refine CW.block ?_
      refine CW.seq (.rg (.run htt 8 (by simp only [go_sem, simprocAttr, eGraph, hx, eObj]; exact rfl) (by simp [go_sem, simprocAttr, eGraph, hx, eObj]) (.done ?_)))
      refine CW.cd (fun ct36 => ?_) (fun ct36 => ?_)
      · have hp : decide (x.F.length ≤ 10) = false := by simp at ct36 ⊢; omega
        refine CW.seq (.rg (.rn htt 1 (.done ?_)))
        refine CW.ret ?_
        refine retQ.rt (by simp only [f6, go_sem, simprocAttr]; exact rfl) ?_
        refine ⟨_, ?_, rfl⟩
        have : fewG g = false := by unfold fewG; rw [allI_no hx hp]; simp
        simp [leP, this]
      · have hp : decide (x.F.length ≤ 10) = true := by simp at ct36 ⊢; omega
        refine CW.skip ?_
        refine CW.rg (.run htt 3 (by simp only [go_sem, simprocAttr, wrap_succ (Nat.lt_of_lt_of_le hi hb)]; exact rfl) (by simp [go_sem, simprocAttr, wrap_succ (Nat.lt_of_lt_of_le hi hb)]) (.done ?_))
        refine ⟨i + 1, ?_, ?_, ?_⟩
        · refine Sh.wk0 ?_; simp [Wk, go_sem, simprocAttr, eGraph]
        · exact ⟨hi, belowI_succ (p := fun _ y => decide (y.F.length ≤ 10)) h2 hx hp⟩
        · simp only; omega
    · have hi : i = g.O.length := by simp at ct26; omega
      refine CW.exit ?_
      refine CW.seq (.rg (.rn htt 1 (.done ?_)))
      refine CW.ret ?_
      refine retQ.rt (by simp only [f6, go_sem, simprocAttr]; exact rfl) ?_
      refine ⟨_, ?_, rfl⟩
      have : fewG g = true := by unfold fewG; rw [ct21, belowI_all (p := fun _ (y : GObj) => decide (y.F.length ≤ 10)) (by rw [← hi]; exact h2)]; rfl
      simp [leP, this]
end Go.Ab
namespace Go.Ab
open Go Go.Proofs.Tryz Go.RowKit
set_option maxRecDepth 100000
@[go_sem] theorem tt_35 : tiOf prog 35 = some ⟨.int IntKind.i64, 1, 8, [.int .i64 0], false⟩ := by kernel_rfl
theorem root_rng {g : Graph} (h : May g) : ∀ r ∈ g.Roots, -1 ≤ r ∧ r ≤ 1073741824 := fun r hr => by
  have := h.root r hr
  unfold rootB at this
  simp only [Bool.or_eq_true, decide_eq_true_eq] at this
  rcases this with rfl | this
  · omega
  · obtain ⟨t, ht⟩ := Option.isSome_iff_exists.1 this
    obtain ⟨o, ho, e, _⟩ := typ_some ht
    obtain ⟨i, hi⟩ := List.getElem?_of_mem ho
    have g1 := (h.ids i o hi).1
    obtain ⟨_, _, _, g2⟩ := h.objT hi
    have := g2.id
    omega
def partsAt (c : Graph) (i : Nat) : List (List UInt8) := schemaText c.S :: numsPut c.Roots :: (c.O.take i).map (objPut c.S)
theorem partsAt_succ {c : Graph} {i : Nat} {o : GObj} (h : c.O[i]? = some o) : partsAt c (i + 1) = partsAt c i ++ [objPut c.S o] := by
  unfold partsAt
  rw [List.take_add_one, h, Option.toList_some, List.map_append]; rfl
theorem partsAt_all (c : Graph) : partsAt c c.O.length = partsOf c := by unfold partsAt partsOf; rw [List.take_length]
theorem gParts_bad {g : Graph} (h : gMay g = false) : gParts g = ([], 1) := by unfold gParts; rw [if_pos h]
theorem gParts_big {g : Graph} (h : gMay g = true) (h2 : flowMay (partsOf (gCanon g)) = false) : gParts g = ([], 5) := by unfold gParts; rw [if_neg (by rw [h]; simp), if_pos h2]
theorem gParts_ok {g : Graph} (h : gMay g = true) (h2 : flowMay (partsOf (gCanon g)) = true) : gParts g = (partsOf (gCanon g), 0) := by unfold gParts; rw [if_neg (by rw [h]; simp), if_neg (by rw [h2]; simp)]
theorem strRows_mk (l : List UInt8) : strRows ⟨l.toArray⟩ = l.map eU8 := by simp [strRows, eU8]
theorem frz_P8 (l : List (List UInt8)) : (AV.own 1 (l.map eP8)).freeze = .sl 1 (l.map eP8) := frz_map (fun x a h => by simp [eP8] at h; subst h; rfl) 1 l
theorem code_parts (up : Bool) (g : Graph) : PCallP prog up 67 [.agg (eGraph g)] (fun r => r = .sl 1 ((gParts g).1.map eP8) ∧ (gParts g).2 = 0) (fun v => (gParts g).2 ≠ 0 ∧ v = .iface 143 (.agg #[.int .i64 (gParts g).2])) := by
  refine PCallP.intro htt func67 (by kernel_rfl) rfl (Nat.le_of_ble_eq_true rfl) fun hl => ?_

  simp only [tmps0, Nat.reduceAdd]
  refine CW.seq (.rg (.run htt 2 (by simp only [go_sem, simprocAttr, eGraph]; exact rfl) (by simp [go_sem, simprocAttr, eGraph]) (.done ?_)))
  refine CW.seq ?_
  refine CW.regionX (by kernel_rfl) (by kernel_rfl) ?_
  refine CWopsX.run htt 1 (by simp only [go_sem, simprocAttr, eGraph]; exact rfl) (by simp [go_sem, simprocAttr, eGraph]) ?_
  refine CWopsX.callPA (E := fun _ => False) (graph_May up g).toP (by simp only [go_sem, simprocAttr, eGraph]) (by simp only [go_sem, simprocAttr, eGraph] <;> exact rfl) (by simp only [go_sem, simprocAttr, eGraph]) (by simp only [go_sem, simprocAttr, eGraph]) (fun c hc => hc.elim (fun v h => h.1.elim)) (fun rt8 hrt8 => ?_)
  subst hrt8
  refine CWopsX.callPA (code_must up (gMay g) 1) (by simp only [go_sem, simprocAttr, eGraph]) (by simp only [go_sem, simprocAttr, eGraph] <;> exact rfl) (by simp only [go_sem, simprocAttr, eGraph]) (by simp only [go_sem, simprocAttr, eGraph]) (fun c hc => ?_) (fun rt9 hrt9 => ?_)
  · obtain ⟨v, ⟨hv1, hv2⟩, hv3⟩ := hc
    exact ⟨v, by rw [gParts_bad hv1]; exact ⟨by simp, hv2⟩, hv3⟩
  obtain ⟨rfl, hM⟩ := hrt9
  refine CWopsX.done ?_
  have hm := (may_iff g).1 hM
  have hc0 := (once_facts hM).1
  have hcan := canon_Canon up g
  have hbig := gParts_big hM
  have hgood := gParts_ok hM
  generalize gCanon g = c at hc0 hcan hbig hgood
  have hmc := (may_iff c).1 hc0
  have hr3 := hmc.r
  have ho8 := hmc.o
  refine CW.seq (.rg (.run htt 1 (by simp only [go_sem, simprocAttr, eGraph]; exact rfl) (by simp [go_sem, simprocAttr, eGraph]) ?_))
  refine CWops.callA (hcan) (by simp only [go_sem, simprocAttr, eGraph]) (by simp only [go_sem, simprocAttr, eGraph] <;> exact rfl) (by simp only [go_sem, simprocAttr, eGraph]) (by simp only [go_sem, simprocAttr, eGraph]) (fun rt11 hrt11 => ?_)
  subst hrt11
  refine CWops.run htt 2 (by simp only [go_sem, simprocAttr, eGraph]; exact rfl) (by simp [go_sem, simprocAttr, eGraph]) (.done ?_)
  refine CW.seq ?_
  refine CW.drawn mixed 7 (by decide) (by kernel_rfl) (by kernel_rfl) (by kernel_rfl) ?_
  refine Seg.run htt 2 (by simp only [go_sem, simprocAttr, eGraph, eSchema, strRows_mk]; exact rfl) ?_
  refine Seg.callA (schema_Text up c.S hmc.s) (by simp only [go_sem, simprocAttr, eGraph, eSchema, strRows_mk]) (by simp only [go_sem, simprocAttr, eGraph, eSchema, strRows_mk] <;> exact rfl) (by simp only [go_sem, simprocAttr, eGraph, eSchema, strRows_mk]) (by simp only [go_sem, simprocAttr, eGraph, eSchema, strRows_mk]) ?_
  refine Seg.strBytes htt (by simp only [go_sem, simprocAttr]) tt_9 rfl tt_107 rfl tt_5 rfl (by simp only [go_sem, simprocAttr]; exact rfl) ?_
  refine Seg.run htt 2 (by simp only [go_sem, simprocAttr, eGraph, eSchema, strRows_mk]; exact rfl) ?_
  refine Seg.callA (code_numbers up c.Roots (root_rng hmc) (by omega)) (by simp only [go_sem, simprocAttr, eGraph, eSchema, strRows_mk]) (by simp only [go_sem, simprocAttr, eGraph, eSchema, strRows_mk] <;> exact rfl) (by simp only [go_sem, simprocAttr, eGraph, eSchema, strRows_mk]) (by simp only [go_sem, simprocAttr, eGraph, eSchema, strRows_mk]) ?_
  refine Seg.done ?_
  refine CWops.run htt 2 (by simp only [go_sem, simprocAttr, eGraph, eSchema, strRows_mk]; exact rfl) (by simp [go_sem, simprocAttr, eGraph, eSchema, strRows_mk]) (.done ?_)
  refine CW.seq (.seq (.rg (.run htt 4 (by simp only [go_sem, simprocAttr, eGraph]; exact rfl) (by simp [go_sem, simprocAttr, eGraph]) (.done ?_))))
  refine CW.block ?_
  refine CW.loop (S := Nat) (fun i => ⟨3, [(3, .lv 1 [] 0), (4, .ref 2 [] 0), (21, .sl 3 (c.O.map eObj)), (22, .int .i64 c.O.length), (23, .int .i64 i)], [(0, ⟨true, eGraph g⟩), (1, ⟨true, eGraph c⟩), (2, ⟨false, [.own 1 ((partsAt c i).map eP8)]⟩)]⟩) (fun i => i ≤ c.O.length) (fun i => c.O.length - i) (0) ?_ (Nat.zero_le _) (fun i h1 => ?_)
  · refine Sh.wk0 ?_; simp [Wk, go_sem, simprocAttr, eGraph, partsAt, eP8]
  refine CW.seq (.rg (.rn htt 1 (.done ?_)))
  refine CW.seq ?_
  refine CW.cd (fun ct24 => ?_) (fun ct24 => ?_)
  · have hi : i < c.O.length := by simpa using ct24
    obtain ⟨o, ho⟩ : ∃ o, c.O[i]? = some o := ⟨c.O[i], List.getElem?_eq_getElem hi⟩
    obtain ⟨_, t, hT, hmo⟩ := hmc.objT ho
    have ht := hmo.at_
    have hlen := hmo.len
    have hq1 : o.T = ((o.T.toNat : Nat) : Int) := by have := hmo.t0; omega
    obtain ⟨hs4, hsh⟩ := short_of hmc.s
    have hq2 : o.T.toNat ≤ 1000 := by have := (List.getElem?_eq_some_iff.1 ht).1; omega
    have hst := hsh t (List.mem_of_getElem? ht)
    have hfit : ∀ (k : Nat) (f : GField) (v : GVal), t.F[k]? = some f → o.F[k]? = some v → valFits f v = true := fun k f v h1 h2 => by
      have := hmo.lead k f v h1 h2
      unfold leadsB at this
      simp only [Bool.and_eq_true] at this
      exact this.1
    have hpl : (partsAt c i).length ≤ 10 := by unfold partsAt; simp only [List.length_cons, List.length_map, List.length_take]; omega
    refine CW.skip ?_
    refine CW.seq ?_
    refine CW.block ?_
    refine CW.seq (.rg (.run htt 4 (by simp only [go_sem, simprocAttr, ho, eObj]; exact rfl) (by simp [go_sem, simprocAttr, ho, eObj]) (.done ?_)))
    refine CW.rg ?_
    refine CWops.run htt 4 (by simp only [go_sem, simprocAttr, eGraph, eSchema, eObj]; exact rfl) (by first | (simp [go_sem, simprocAttr]; done) | (simp [go_sem, simprocAttr]; unfold MX; omega)) ?_
    refine CWops.callA (code_object up c.S o t o.T.toNat hq1 hq2 ht hlen (by have := hst.l; omega) hfit) (by simp only [go_sem, simprocAttr, eGraph, eSchema, eObj]) (by simp only [go_sem, simprocAttr, eGraph, eSchema, eObj] <;> exact rfl) (by simp only [go_sem, simprocAttr, eGraph, eSchema, eObj]) (by simp only [go_sem, simprocAttr, eGraph, eSchema, eObj]) (fun rt31 hrt31 => ?_)
    subst hrt31
    refine CWops.run htt 3 (by simp only [go_sem, simprocAttr, eGraph, eSchema, eObj]; exact rfl) (by first | (simp [go_sem, simprocAttr]; done) | (simp [go_sem, simprocAttr]; unfold MX; omega)) ?_
    refine CWops.done ?_
    refine CW.rg (.run htt 2 (by simp only [go_sem, simprocAttr, wrap_succ (show i < MX by unfold MX; omega)]; exact rfl) (by simp [go_sem, simprocAttr, wrap_succ (show i < MX by unfold MX; omega)]) (.done ?_))
    refine ⟨i + 1, ?_, ?_, ?_⟩
    · refine Sh.wk (fun x => if x = 2 then 5 else x) ?_; simp [Wk, go_sem, simprocAttr, partsAt_succ ho, eGraph, eP8]
    · exact hi
    · simp only; omega
  · have hi : i = c.O.length := by simp at ct24; omega
    refine CW.exit ?_
    refine CW.seq ?_
    refine CW.regionX (by kernel_rfl) (by kernel_rfl) ?_
    refine CWopsX.run htt 2 (by simp only [go_sem, simprocAttr]; exact rfl) (by simp [go_sem, simprocAttr]) ?_
    refine CWopsX.callP (E := fun _ => False) (flow_May up 0 (partsAt c i)).toP (by simp only [go_sem, simprocAttr]) (by simp only [go_sem, simprocAttr] <;> exact rfl) (by simp only [go_sem, simprocAttr, frz_P8]) (fun c hc => hc.elim (fun v h => h.1.elim)) (fun rt37 hrt37 => ?_)
    subst hrt37
    refine ⟨rfl, ?_⟩
    rw [hi, partsAt_all]
    refine CWopsX.callPA (code_must up (flowMay (partsOf c)) 5) (by simp only [go_sem, simprocAttr]) (by simp only [go_sem, simprocAttr] <;> exact rfl) (by simp only [go_sem, simprocAttr]) (by simp only [go_sem, simprocAttr]) (fun c hc => ?_) (fun rt38 hrt38 => ?_)
    · obtain ⟨v, ⟨hv1, hv2⟩, hv3⟩ := hc
      exact ⟨v, by rw [hbig hv1]; exact ⟨by simp, hv2⟩, hv3⟩
    obtain ⟨rfl, hF⟩ := hrt38
    refine CWopsX.done ?_
    refine CW.seq (.rg (.rn htt 2 (.done ?_)))
    refine CW.ret ?_
    refine retQ.rt (by simp only [f67, go_sem, simprocAttr]; exact rfl) ?_
    have e := hgood hF
    refine ⟨.sl 1 ((partsOf c).map eP8), ?_, ?_⟩
    · simp [leP, frz_P8]
      first | done | exact leP_refl _ | exact leP_refl.leL_refl _
    · rw [e]; exact ⟨rfl, rfl⟩
def sumAt (ps : List (List UInt8)) (i : Nat) : List UInt8 := sumBytes (ps.take i)
theorem sumAt_succ {ps : List (List UInt8)} {i : Nat} {p : List UInt8} (h : ps[i]? = some p) : sumAt ps (i + 1) = (sumAt ps i ++ vPut p.length) ++ p := by
  unfold sumAt sumBytes
  rw [List.take_add_one, h, Option.toList_some, List.flatMap_append]
  simp
theorem sumAt_len {ps : List (List UInt8)} (h : ∀ p ∈ ps, p.length ≤ 200) : ∀ i, i ≤ ps.length → (sumAt ps i).length ≤ 210 * i
  | 0, _ => by simp [sumAt, sumBytes]
  | i + 1, hi => by
    have ih := sumAt_len h i (by omega)
    obtain ⟨p, hp⟩ : ∃ p, ps[i]? = some p := ⟨ps[i], List.getElem?_eq_getElem (by omega)⟩
    rw [sumAt_succ hp, List.length_append, List.length_append]
    have g1 := vPut_len p.length
    have g2 := h p (List.mem_of_getElem? hp)
    omega
theorem gParts_may {g : Graph} (h : (gParts g).2 = 0) : gMay g = true ∧ (gParts g).1 = partsOf (gCanon g) ∧ (gParts g).1.length ≤ 40 ∧ ∀ p ∈ (gParts g).1, p.length ≤ 200 := by
  by_cases h1 : gMay g = true
  · by_cases h2 : flowMay (partsOf (gCanon g)) = true
    · rw [gParts_ok h1 h2]
      unfold flowMay at h2
      simp only [Bool.and_eq_true, decide_eq_true_eq, List.all_eq_true] at h2
      exact ⟨h1, rfl, h2⟩
    · rw [gParts_big h1 (by simpa using h2)] at h; cases h
  · rw [gParts_bad (by simpa using h1)] at h; cases h
theorem code_Sum_1 (up : Bool) (g : Graph) : GCallX prog up 66 [.lv 0 [] 0, .lv 1 [] 0] 2 [(0, ⟨true, eGraph g⟩), (1, ⟨true, [.nilsl]⟩)] (fun _ σ' => (gParts g).2 = 0 ∧ ∃ t, σ' = ⟨2, t, [(0, ⟨true, eGraph g⟩), (1, ⟨true, [.own 1 ((sumBytes (gParts g).1).map eU8)]⟩)]⟩) (fun c σ' => ∃ k, c = [{ v := .iface 143 (.agg #[.int .i64 k]), recovered := false }] ∧ ((gParts g).2 ≠ 0 ∧ k = (gParts g).2 ∧ ∃ t, σ' = ⟨2, t, [(0, ⟨true, eGraph g⟩), (1, ⟨true, [.nilsl]⟩)]⟩)) := by
  refine GCallX.intro htt 2 func66 (by kernel_rfl) rfl (Nat.le_of_ble_eq_true rfl) (CW.told ?_)

  simp only [tmps0, Nat.reduceAdd]
  refine CW.seq ?_
  refine CW.regionX (by kernel_rfl) (by kernel_rfl) ?_
  refine CWopsX.run htt 1 (by simp only [go_sem, simprocAttr, eGraph]; exact rfl) (by simp [go_sem, simprocAttr, eGraph]) ?_
  refine CWopsX.callPA (code_parts up g) (by simp only [go_sem, simprocAttr, eGraph]) (by simp only [go_sem, simprocAttr, eGraph] <;> exact rfl) (by simp only [go_sem, simprocAttr, eGraph]) (by simp only [go_sem, simprocAttr, eGraph]) (fun c hc => ?_) (fun rt5 hrt5 => ?_)
  · obtain ⟨v, ⟨hv1, hv2⟩, hv3⟩ := hc
    refine ⟨⟨2, [(0, .lv 0 [] 0), (1, .lv 1 [] 0)], [(0, ⟨true, eGraph g⟩), (1, ⟨true, [.nilsl]⟩)]⟩, Sh.wk0 ?_, ?_⟩
    · simp [Wk, go_sem, simprocAttr, eGraph]
    · exact ⟨by simp [ptrOK, go_sem, simprocAttr, eGraph]; exact ⟨⟨0, by simp⟩, ⟨1, by simp⟩⟩, (gParts g).2, by rw [hv3, hv2], hv1, rfl, _, rfl⟩
  obtain ⟨rfl, hz⟩ := hrt5
  obtain ⟨hM, _, h40, h200⟩ := gParts_may hz
  obtain ⟨ps, hps⟩ : ∃ ps, (gParts g).1 = ps := ⟨_, rfl⟩
  rw [hps] at h40 h200
  rw [hps]
  refine CWopsX.run htt 2 (by simp only [go_sem, simprocAttr]; exact rfl) (by simp [go_sem, simprocAttr]) ?_
  refine CWopsX.done ?_
  refine CW.block ?_
  refine CW.loop (S := Nat) (fun i => ⟨2, [(0, .lv 0 [] 0), (1, .lv 1 [] 0), (5, .sl 1 (ps.map eP8)), (6, .int .i64 ps.length), (7, .int .i64 i)], [(0, ⟨true, eGraph g⟩), (1, ⟨true, [.own 1 ((sumAt ps i).map eU8)]⟩)]⟩) (fun i => i ≤ ps.length) (fun i => ps.length - i) (0) ?_ (Nat.zero_le _) (fun i h1 => ?_)
  · refine Sh.trans (Sh.nilCell 1 [] 0 1 (by simp [go_sem, simprocAttr]) rfl) (Sh.wk0 ?_); simp [Wk, go_sem, simprocAttr, eGraph, sumAt, sumBytes]
  refine CW.seq (.rg (.rn htt 1 (.done ?_)))
  refine CW.seq ?_
  refine CW.cd (fun ct8 => ?_) (fun ct8 => ?_)
  · have hi : i < ps.length := by simpa using ct8
    obtain ⟨p, hp⟩ : ∃ p, ps[i]? = some p := ⟨ps[i], List.getElem?_eq_getElem hi⟩
    have hp2 := h200 p (List.mem_of_getElem? hp)
    have hw : IntKind.u64.wrap (p.length : Int) = (p.length : Int) := by rw [wrapU64 (by omega) (by omega)]; rfl
    have hln := sumAt_len h200 i (by omega)
    have hpl := vPut_len p.length
    refine CW.skip ?_
    refine CW.seq ?_
    refine CW.block ?_
    refine CW.seq (.rg (.run htt 3 (by simp only [go_sem, simprocAttr, hp, eP8]; exact rfl) (by simp [go_sem, simprocAttr, hp, eP8]) (.done ?_)))
    refine CW.drawnP mixed [0, 1, 2, 3, 4, 6, 5, 7, 8] 6 7 [5] (D := [17]) (by simp only [permL_mk, nthO_zero, nthO_succ, renO_mk, List.map_cons, List.map_nil, go_sem, simprocAttr]; exact rfl) (by kernel_rfl) (by decide) (by decide) (by kernel_rfl) (by kernel_rfl) rfl (by kernel_rfl) (by kernel_rfl) ?_
    refine Seg.run htt 3 (by simp only [go_sem, simprocAttr]; exact rfl) ?_
    refine Seg.conv htt (by simp only [go_sem, simprocAttr]) tt_3 rfl tt_112 rfl (by simp only [go_sem, simprocAttr] <;> exact rfl) ?_
    simp only [hw]
    refine Seg.callA (vari_Put up p.length (by omega)) (by simp only [go_sem, simprocAttr]) (by simp only [go_sem, simprocAttr] <;> exact rfl) (by simp only [go_sem, simprocAttr]) (by simp only [go_sem, simprocAttr]) ?_
    refine Seg.run htt 1 (by simp only [go_sem, simprocAttr]; exact rfl) ?_
    refine Seg.done ?_
    refine Mid.eop htt [17] (Flo.cons htt rfl rfl (by simp only [go_sem, simprocAttr] <;> exact rfl) (Flo.nil)) (by decide) ?_ (by kernel_rfl) (by kernel_rfl) (fun u => by simp only [go_sem, simprocAttr]; exact rfl) ?_
    · (simp [go_sem, simprocAttr]; exact ⟨fun a _ b hb => by simp [eU8] at hb; subst hb; rfl, by unfold MX; omega⟩)
    refine Mid.done (Flo.cons htt rfl rfl (by simp only [go_sem, simprocAttr] <;> exact rfl) (Flo.nil)) ?_
    refine CWops.run htt 2 (by simp only [go_sem, simprocAttr]; exact rfl) (by first | (simp [go_sem, simprocAttr]; done) | (simp [go_sem, simprocAttr]; exact ⟨fun a _ b hb => by simp [eU8] at hb; subst hb; rfl, by unfold MX; omega⟩)) ?_
    refine CWops.done ?_
    refine CW.rg (.run htt 2 (by simp only [go_sem, simprocAttr, wrap_succ (show i < MX by unfold MX; omega)]; exact rfl) (by simp [go_sem, simprocAttr, wrap_succ (show i < MX by unfold MX; omega)]) (.done ?_))
    refine ⟨i + 1, ?_, ?_, ?_⟩
    · refine Sh.wk0 ?_; simp [Wk, go_sem, simprocAttr, sumAt_succ hp, eGraph]
    · exact hi
    · simp only; omega
  · have hi : i = ps.length := by simp at ct8; omega
    refine CW.exit ?_
    refine ⟨⟨2, [(0, .lv 0 [] 0), (1, .lv 1 [] 0)], [(0, ⟨true, eGraph g⟩), (1, ⟨true, [.own 1 ((sumBytes ps).map eU8)]⟩)]⟩, ?_, .inl rfl, by simp [ptrOK, go_sem, simprocAttr, eGraph]; exact ⟨⟨0, by simp⟩, ⟨1, by simp⟩⟩, _, by simp only [f66, go_sem, simprocAttr]; exact rfl, ?_⟩ -- end
    · refine Sh.wk0 ?_
      rw [hi]
      simp [Wk, go_sem, simprocAttr, eGraph, sumAt]
    · exact ⟨hz, _, rfl⟩
@[go_sem] theorem tt_1 : tiOf prog 1 = some ⟨.func, 1, 8, [.nilfunc], false⟩ := by kernel_rfl
theorem told_good (up : Bool) (g : Graph) (hz : (gParts g).2 = 0) : GCall prog up 65 [.func (.func 66) [] [.lv 0 [] 0, .lv 1 [] 0]] 2 [(0, ⟨true, eGraph g⟩), (1, ⟨true, [.nilsl]⟩)] (fun r σ' => r = .int .i64 0 ∧ ∃ t, σ' = ⟨2, t, [(0, ⟨true, eGraph g⟩), (1, ⟨true, [.own 1 ((sumBytes (gParts g).1).map eU8)]⟩)]⟩) :=
  GCall.mono (code_told up _ _ _ _ _ _ (code_Sum_1 up g)) fun r σ' h => by
    rcases h with ⟨_, ⟨_, h⟩, rfl⟩ | ⟨k, ⟨h, _⟩, _⟩
    · exact ⟨rfl, h⟩
    · exact absurd hz h
theorem told_bad (up : Bool) (g : Graph) (hz : (gParts g).2 ≠ 0) : GCall prog up 65 [.func (.func 66) [] [.lv 0 [] 0, .lv 1 [] 0]] 2 [(0, ⟨true, eGraph g⟩), (1, ⟨true, [.nilsl]⟩)] (fun r σ' => r = .int .i64 (gParts g).2 ∧ ∃ t, σ' = ⟨2, t, [(0, ⟨true, eGraph g⟩), (1, ⟨true, [.nilsl]⟩)]⟩) :=
  GCall.mono (code_told up _ _ _ _ _ _ (code_Sum_1 up g)) fun r σ' h => by
    rcases h with ⟨_, ⟨h, _⟩, _⟩ | ⟨k, ⟨_, rfl, h⟩, rfl⟩
    · exact absurd h hz
    · exact ⟨rfl, h⟩
theorem code_Sum_good (up : Bool) (g : Graph) (hz : (gParts g).2 = 0) : PCall prog up 24 [.agg (eGraph g)] (· = .tup [.int .u32 ((gSum g).1 : Int), .int .i64 (gSum g).2]) := by
  refine PCall.intro htt func24 (by kernel_rfl) rfl (Nat.le_of_ble_eq_true rfl) fun hl => ?_

  simp only [tmps0, Nat.reduceAdd]
  refine CW.seq (.rg (.run htt 3 (by simp only [go_sem, simprocAttr, eGraph]; exact rfl) (by simp [go_sem, simprocAttr, eGraph]) (.done ?_)))
  refine CW.seq (.rg (.rn htt 1 (.done ?_)))
  refine CW.seq (.rg (.run htt 1 (by simp only [go_sem, simprocAttr, eGraph]; exact rfl) (by simp [go_sem, simprocAttr, eGraph]) ?_))
  refine CWops.callG [0, 1] rfl (told_good up g hz) (by simp only [go_sem, simprocAttr]) (by simp only [go_sem, simprocAttr] <;> exact rfl) (by decide) (by simp [go_sem, simprocAttr, mName, memB, eGraph]) (by simp [go_sem, simprocAttr, mName, eGraph]) (by simp [go_sem, simprocAttr]) (by intro x hx; rcases (show x = 0 ∨ x = 1 by simp at hx; omega) with rfl | rfl <;> simp [go_sem, simprocAttr]) (by simp [go_sem, simprocAttr, mName]; exact ⟨[], [.lv 0 [] 0, .lv 1 [] 0], ⟨rfl, rfl⟩, by simp [SubL], by simp [SubL, Sub, mName]⟩) (fun r σ' hσ => ?_)
  obtain ⟨rfl, t', rfl⟩ := hσ
  simp only [aftS, renS, delAll, memB, mName, List.getD_nil, killH, kref, ren, Nat.beq_eq, go_sem, simprocAttr]
  refine CWops.run htt 1 (by simp only [go_sem, simprocAttr, eGraph]; exact rfl) (by simp [go_sem, simprocAttr, eGraph]) (.done ?_)
  refine CW.seq (.seq (.rg (.rn htt 2 (.done ?_))))
  refine CW.cd (fun ct9 => ?_) (fun ct9 => ?_)
  · cases ct9 
  · refine CW.skip ?_
    refine CW.seq (.rg (.run htt 1 (by simp only [go_sem, simprocAttr, frz_U8]; exact rfl) (by simp [go_sem, simprocAttr, frz_U8]) ?_))
    refine CWops.call (crc_Sum up (sumBytes (gParts g).1)) (by simp only [go_sem, simprocAttr, frz_U8]) (by simp only [go_sem, simprocAttr, frz_U8] <;> exact rfl) (by simp only [go_sem, simprocAttr, frz_U8]) (fun rt12 hrt12 => ?_)
    subst hrt12; refine ⟨rfl, ?_⟩
    refine CWops.run htt 2 (by simp only [go_sem, simprocAttr, frz_U8]; exact rfl) (by simp [go_sem, simprocAttr, frz_U8]) (.done ?_)
    refine CW.ret ?_
    refine retQ.rt (by simp only [f24, go_sem, simprocAttr]; exact rfl) ?_
    refine ⟨_, ?_, rfl⟩
    have e : gSum g = (crcSum (sumBytes (gParts g).1), 0) := by unfold gSum; rw [if_pos hz]
    rw [e]
    simp [leP]
    first | done | exact leP_refl _ | exact leP_refl.leL_refl _
theorem code_Sum_bad (up : Bool) (g : Graph) (hz : (gParts g).2 ≠ 0) : PCall prog up 24 [.agg (eGraph g)] (· = .tup [.int .u32 ((gSum g).1 : Int), .int .i64 (gSum g).2]) := by
  refine PCall.intro htt func24 (by kernel_rfl) rfl (Nat.le_of_ble_eq_true rfl) fun hl => ?_

  simp only [tmps0, Nat.reduceAdd]
  refine CW.seq (.rg (.run htt 3 (by simp only [go_sem, simprocAttr, eGraph]; exact rfl) (by simp [go_sem, simprocAttr, eGraph]) (.done ?_)))
  refine CW.seq (.rg (.rn htt 1 (.done ?_)))
  refine CW.seq (.rg (.run htt 1 (by simp only [go_sem, simprocAttr, eGraph]; exact rfl) (by simp [go_sem, simprocAttr, eGraph]) ?_))
  refine CWops.callG [0, 1] rfl (told_bad up g hz) (by simp only [go_sem, simprocAttr]) (by simp only [go_sem, simprocAttr] <;> exact rfl) (by decide) (by simp [go_sem, simprocAttr, mName, memB, eGraph]) (by simp [go_sem, simprocAttr, mName, eGraph]) (by simp [go_sem, simprocAttr]) (by intro x hx; rcases (show x = 0 ∨ x = 1 by simp at hx; omega) with rfl | rfl <;> simp [go_sem, simprocAttr]) (by simp [go_sem, simprocAttr, mName]; exact ⟨[], [.lv 0 [] 0, .lv 1 [] 0], ⟨rfl, rfl⟩, by simp [SubL], by simp [SubL, Sub, mName]⟩) (fun r σ' hσ => ?_)
  obtain ⟨rfl, t', rfl⟩ := hσ
  simp only [aftS, renS, delAll, memB, mName, List.getD_nil, killH, kref, ren, Nat.beq_eq, go_sem, simprocAttr]
  refine CWops.run htt 1 (by simp only [go_sem, simprocAttr, eGraph]; exact rfl) (by simp [go_sem, simprocAttr, eGraph]) (.done ?_)
  refine CW.seq (.seq (.rg (.rn htt 2 (.done ?_))))
  refine CW.cd (fun ct9 => ?_) (fun ct9 => ?_)
  · refine CW.seq (.rg (.rn htt 3 (.done ?_)))
    refine CW.ret ?_
    refine retQ.rt (by simp only [f24, go_sem, simprocAttr]; exact rfl) ?_
    refine ⟨_, ?_, rfl⟩
    have e : gSum g = (0, (gParts g).2) := by unfold gSum; rw [if_neg hz]
    rw [e]
    simp [leP]
    first | done | exact leP_refl _ | exact leP_refl.leL_refl _
  · exfalso; simp at ct9; exact hz ct9
theorem code_Sum (up : Bool) (g : Graph) : PCall prog up 24 [.agg (eGraph g)] (· = .tup [.int .u32 ((gSum g).1 : Int), .int .i64 (gSum g).2]) := by
  by_cases hz : (gParts g).2 = 0
  · exact code_Sum_good up g hz
  · exact code_Sum_bad up g hz
@[go_sem] theorem tt_105 : tiOf prog 105 = some ⟨.func, 1, 8, [.nilfunc], false⟩ := by kernel_rfl
theorem kind_odd_s (up : Bool) (a : Graph) (o : GObj) (t : Int) (ht : typ a.O o.Id = some t) : PCall prog up 62 [.agg (eObj o), .fp [.fmap (tmap a.O)]] (· = .bool (oddK a o)) := by
  refine PCall.intro htt func62 (by kernel_rfl) rfl (Nat.le_of_ble_eq_true rfl) fun hl => ?_

  simp only [tmps0, Nat.reduceAdd]
  refine CW.seq (.rg (.run htt 2 (by simp only [go_sem, simprocAttr, eObj]; exact rfl) (by simp [go_sem, simprocAttr, eObj]) (.done ?_)))
  refine CW.seq (.rg (.run htt 9 (by simp only [go_sem, simprocAttr, maplk_tmap, ht, eObj]; exact rfl) (by simp [go_sem, simprocAttr, maplk_tmap, ht, eObj]) (.done ?_)))
  refine CW.seq (.rg (.run htt 2 (by simp only [go_sem, simprocAttr, eObj]; exact rfl) (by simp [go_sem, simprocAttr, eObj]) ?_))
  all_goals (first | refine CWops.guard 14 (by simp only [go_sem, simprocAttr, eObj]; exact rfl) (fun g14 => ?_) (fun g14 => ?_) | skip)
  all_goals (refine CWops.run htt 6 (by simp only [go_sem, simprocAttr, eObj]; exact rfl) (by simp [go_sem, simprocAttr, eObj]) ?_)
  all_goals (refine CWops.done ?_)
  all_goals (
    refine CW.ret ?_
    refine retQ.rt (by simp only [f62, go_sem, simprocAttr]; exact rfl) ?_
    refine ⟨_, ?_, rfl⟩
    simp_all [leP, oddK])
theorem kind_odd_n (up : Bool) (a : Graph) (o : GObj) (ht : typ a.O o.Id = none) : PCall prog up 62 [.agg (eObj o), .fp [.fmap (tmap a.O)]] (· = .bool (oddK a o)) := by
  refine PCall.intro htt func62 (by kernel_rfl) rfl (Nat.le_of_ble_eq_true rfl) fun hl => ?_

  simp only [tmps0, Nat.reduceAdd]
  refine CW.seq (.rg (.run htt 2 (by simp only [go_sem, simprocAttr, eObj]; exact rfl) (by simp [go_sem, simprocAttr, eObj]) (.done ?_)))
  refine CW.seq (.rg (.run htt 9 (by simp only [go_sem, simprocAttr, maplk_tmap, ht, eObj]; exact rfl) (by simp [go_sem, simprocAttr, maplk_tmap, ht, eObj]) (.done ?_)))
  refine CW.seq (.rg (.run htt 2 (by simp only [go_sem, simprocAttr, eObj]; exact rfl) (by simp [go_sem, simprocAttr, eObj]) ?_))
  all_goals (first | refine CWops.guard 14 (by simp only [go_sem, simprocAttr, eObj]; exact rfl) (fun g14 => ?_) (fun g14 => ?_) | skip)
  all_goals (refine CWops.run htt 6 (by simp only [go_sem, simprocAttr, eObj]; exact rfl) (by simp [go_sem, simprocAttr, eObj]) ?_)
  all_goals (refine CWops.done ?_)
  all_goals (
    refine CW.ret ?_
    refine retQ.rt (by simp only [f62, go_sem, simprocAttr]; exact rfl) ?_
    refine ⟨_, ?_, rfl⟩
    simp_all [leP, oddK])
theorem frz_omap (m : List (Int × AV)) : (AV.omap m).freeze = .fmap m := by simp [AV.freeze]
theorem kind_odd (up : Bool) (a : Graph) (o : GObj) : PCall prog up 62 [.agg (eObj o), .fp [.fmap (tmap a.O)]] (· = .bool (oddK a o)) := by
  cases ht : typ a.O o.Id with
  | none => exact kind_odd_n up a o ht
  | some t => exact kind_odd_s up a o t ht
theorem contains_Obj (up : Bool) (xs : List GObj) (p : GObj → Bool) (fn : FuncId) (caps : List AV) (hc : pureL caps = true) (hp : ∀ x ∈ xs, PCall prog up fn (.agg (eObj x) :: caps) (· = .bool (p x))) : PCall prog up 64 [.sl 3 (xs.map eObj), .func (.func fn) [] caps] (· = .bool (xs.any p)) := by
  refine PCall.intro htt func64 (by kernel_rfl) rfl (Nat.le_of_ble_eq_true rfl) fun hl => ?_

  simp only [tmps0, Nat.reduceAdd]
  refine CW.seq (.rg (.rn htt 1 (.done ?_)))
  refine CW.seq (.rg (.run htt 2 (by simp only [go_sem, simprocAttr, hc]; exact rfl) (by simp [go_sem, simprocAttr, hc]) ?_))
  refine CWops.callA (index_Obj up xs p fn caps hc hp) (by simp only [go_sem, simprocAttr, hc]) (by simp only [go_sem, simprocAttr, hc] <;> exact rfl) (by simp only [go_sem, simprocAttr, hc]) (by simp only [go_sem, simprocAttr, hc]) (fun rt7 hrt7 => ?_)
  subst hrt7
  refine CWops.run htt 2 (by simp only [go_sem, simprocAttr, hc]; exact rfl) (by simp [go_sem, simprocAttr, hc]) (.done ?_)
  refine CW.ret ?_
  refine retQ.rt (by simp only [f64, go_sem, simprocAttr]; exact rfl) ?_
  refine ⟨_, ?_, rfl⟩
  simp only [leP, fnd_any]
theorem delta_kind (up : Bool) (a b : Graph) : PCall prog up 23 [.agg (eGraph a), .agg (eGraph b)] (· = .bool (gKind a b)) := by
  refine PCall.intro htt func23 (by kernel_rfl) rfl (Nat.le_of_ble_eq_true rfl) fun hl => ?_
  have hL := (hl (.agg (eGraph a)) (by simp)).agg
  have hb := (hL (.sl 3 (a.O.map eObj)) (by simp [eGraph])).sl.1
  simp only [List.length_map] at hb
  simp only [tmps0, Nat.reduceAdd]
  refine CW.seq (.rg (.run htt 3 (by simp only [go_sem, simprocAttr, eGraph]; exact rfl) (by simp [go_sem, simprocAttr, eGraph]) (.done ?_)))
  refine CW.seq (.rg (.rn htt 3 (.done ?_)))
  refine CW.seq (.seq (.rg (.run htt 4 (by simp only [go_sem, simprocAttr, eGraph]; exact rfl) (by simp [go_sem, simprocAttr, eGraph]) (.done ?_))))
  refine CW.block ?_
  refine CW.loop (S := Nat) (fun i => ⟨3, [(2, .lv 0 [] 0), (3, .lv 1 [] 0), (5, .lv 2 [] 0), (11, .sl 3 (a.O.map eObj)), (12, .int .i64 a.O.length), (13, .int .i64 i)], [(0, ⟨true, eGraph a⟩), (1, ⟨true, eGraph b⟩), (2, ⟨true, [.omap (tmap (a.O.take i))]⟩)]⟩) (fun i => i ≤ a.O.length) (fun i => a.O.length - i) (0) ?_ (Nat.zero_le _) (fun i h1 => ?_)
  · refine Sh.wk (fun x => if x = 2 then 3 else x) ?_; simp [Wk, go_sem, simprocAttr, tmap, eGraph]
  refine CW.seq (.rg (.rn htt 1 (.done ?_)))
  refine CW.seq ?_
  refine CW.cd (fun ct14 => ?_) (fun ct14 => ?_)
  · have hi : i < a.O.length := by simpa using ct14
    obtain ⟨o, hx⟩ : ∃ x, a.O[i]? = some x := ⟨a.O[i], List.getElem?_eq_getElem hi⟩
    refine CW.skip ?_
    refine CW.seq ?_
    refine CW.block ?_
    refine CW.seq (.rg (.run htt 4 (by simp only [go_sem, simprocAttr, hx, eObj]; exact rfl) (by simp [go_sem, simprocAttr, hx, eObj]) (.done ?_)))
    refine CW.rg ?_
    refine CWops.run htt 6 (by simp only [go_sem, simprocAttr, eObj]; exact rfl) (by have := tmap_len (a.O.take i); simp only [List.length_take] at this; simp; omega) ?_
    refine CWops.done ?_
    refine CW.rg (.run htt 2 (by simp only [go_sem, simprocAttr, wrap_succ (Nat.lt_of_lt_of_le hi hb)]; exact rfl) (by simp [go_sem, simprocAttr, wrap_succ (Nat.lt_of_lt_of_le hi hb)]) (.done ?_))
    refine ⟨i + 1, ?_, ?_, ?_⟩
    · refine Sh.wk0 ?_; simp [Wk, go_sem, simprocAttr, tmap_succ _ hx, eGraph]
    · exact hi
    · simp only; omega
  · have hi : i = a.O.length := by simp at ct14; omega
    rw [hi, List.take_length]
    refine CW.exit ?_
    refine CW.seq (.rg (.rn htt 2 (.done ?_)))
    refine CW.seq (.rg (.run htt 4 (by simp only [go_sem, simprocAttr, eGraph, eSchema, frz_omap]; exact rfl) (by simp [go_sem, simprocAttr, eGraph, eSchema, frz_omap]) ?_))
    refine CWops.callA (schema_Same up a.S b.S) (by simp only [go_sem, simprocAttr, eGraph, eSchema, frz_omap]) (by simp only [go_sem, simprocAttr, eGraph, eSchema, frz_omap] <;> exact rfl) (by simp only [go_sem, simprocAttr, eGraph, eSchema, frz_omap]) (by simp only [go_sem, simprocAttr, eGraph, eSchema, frz_omap]) (fun rt28 hrt28 => ?_)
    subst hrt28
    refine CWops.run htt 1 (by simp only [go_sem, simprocAttr, eGraph, eSchema, frz_omap]; exact rfl) (by simp [go_sem, simprocAttr, eGraph, eSchema, frz_omap]) ?_
    all_goals (first | refine CWops.guard 29 (by simp only [go_sem, simprocAttr, eGraph, eSchema, frz_omap]; exact rfl) (fun g29 => ?_) (fun g29 => ?_) | skip)
    all_goals (refine CWops.run htt 3 (by simp only [go_sem, simprocAttr, eGraph, eSchema, frz_omap]; exact rfl) (by simp [go_sem, simprocAttr, eGraph, eSchema, frz_omap]) ?_)
    all_goals (first | (refine CWops.skip ?_ ?_; next => (simp only [go_sem, simprocAttr]; done)) | (refine CWops.call (contains_Obj up b.O (oddK a) 62 [.fp [.fmap (tmap a.O)]] rfl (fun o _ => kind_odd up a o)) (by simp only [go_sem, simprocAttr, eGraph, eSchema, frz_omap]) (by simp only [go_sem, simprocAttr, eGraph, eSchema, frz_omap] <;> exact rfl) (by simp only [go_sem, simprocAttr, eGraph, eSchema, frz_omap]) (fun rt33 hrt33 => ?_); subst hrt33; refine ⟨rfl, ?_⟩))
    all_goals (refine CWops.run htt 3 (by simp only [go_sem, simprocAttr, eGraph, eSchema, frz_omap]; exact rfl) (by simp [go_sem, simprocAttr, eGraph, eSchema, frz_omap]) ?_)
    all_goals (refine CWops.done ?_)
    all_goals (
      refine CW.ret ?_
      refine retQ.rt (by simp only [f23, go_sem, simprocAttr]; exact rfl) ?_
      refine ⟨_, ?_, rfl⟩
      simp_all [leP, gKind])
@[go_sem] theorem tt_68 : tiOf prog 68 = some ⟨.func, 1, 8, [.nilfunc], false⟩ := by kernel_rfl
mutual
theorem Sub_pureM (m : Nat → Nat) (n : Nat) : ∀ (a : AV), a.pure = true → Sub m n a a
  | .agg l, h => by simp only [AV.pure] at h; simp only [Sub]; exact ⟨l, rfl, SubL_pureM m n l h⟩
  | .tup l, h => by simp only [AV.pure] at h; simp only [Sub]; exact ⟨l, rfl, SubL_pureM m n l h⟩
  | .func f x y, h => by simp only [AV.pure, Bool.and_eq_true] at h; simp only [Sub]; exact ⟨x, y, rfl, SubL_pureM m n x h.1, SubL_pureM m n y h.2⟩
  | .ifc t a, h => by simp only [AV.pure] at h; simp only [Sub]; exact ⟨a, rfl, Sub_pureM m n a h⟩
  | .undef, _ | .sl _ _, _ | .tight _ _, _ | .bool _, _ | .int _ _, _ | .str _, _ | .nilsl, _ | .nilp, _ | .fp _, _ | .nilmap, _ | .fmap _, _ | .nilfunc, _ | .nili, _ => by simp [Sub]
  | .own _ _, h | .ref _ _ _, h | .lv _ _ _, h | .omap _, h | .iter _ _, h => by simp [AV.pure] at h
theorem SubL_pureM (m : Nat → Nat) (n : Nat) : ∀ (l : List AV), pureL l = true → SubL m n l l
  | [], _ => by simp [SubL]
  | a :: r, h => by simp only [pureL, Bool.and_eq_true] at h; simp only [SubL]; exact ⟨Sub_pureM m n a h.1, SubL_pureM m n r h.2⟩
end

theorem filter_take {α : Type} (p : α → Bool) {l : List α} {i : Nat} {x : α} (h : l[i]? = some x) : (l.take (i + 1)).filter p = (l.take i).filter p ++ (if p x = true then [x] else []) := by
  rw [List.take_add_one, h, Option.toList_some, List.filter_append]
  congr 1
  by_cases hp : p x = true <;> simp [hp]
theorem filter_le {α : Type} (p : α → Bool) (l : List α) (i : Nat) : ((l.take i).filter p).length ≤ l.length := Nat.le_trans (List.length_filter_le _ _) (by rw [List.length_take]; omega)
theorem make_same (up : Bool) (old now : List GVal) (k : Nat) (c : GCell) (x y : GVal) (hx : old[k]? = some x) (hy : now[k]? = some y) : PCall prog up 30 [.int .i64 k, .agg (eCell c), .fp [.sl 3 (old.map eVal)], .fp [.sl 3 (now.map eVal)]] (· = .bool (decide (x = y))) := by
  refine PCall.intro htt func30 (by kernel_rfl) rfl (Nat.le_of_ble_eq_true rfl) fun hl => ?_

  simp only [tmps0, Nat.reduceAdd]
  refine CW.seq (.rg (.run htt 2 (by simp only [go_sem, simprocAttr, eCell, eVal]; exact rfl) (by simp [go_sem, simprocAttr, eCell, eVal]) (.done ?_)))
  refine CW.seq ?_
  refine CW.drawn mixed 8 (by decide) (by kernel_rfl) (by kernel_rfl) (by kernel_rfl) ?_
  refine Seg.run htt 8 (by simp only [go_sem, simprocAttr, hx, hy, eVal]; exact rfl) ?_
  refine Seg.done ?_
  refine CWops.run htt 2 (by simp only [go_sem, simprocAttr, hx, hy, eVal]; exact rfl) (by simp [go_sem, simprocAttr, hx, hy, eVal]) (.done ?_)
  refine CW.ret ?_
  refine retQ.rt (by simp only [f30, go_sem, simprocAttr]; exact rfl) ?_
  refine ⟨_, ?_, rfl⟩
  simp only [leP, AV.bool.injEq]
  rw [Bool.eq_iff_iff]
  simp [GVal.ext_iff', and_assoc]
theorem delta_dropped (up : Bool) (cs : List GCell) (hcs : cs.length ≤ 1000) (p : GCell → Bool) (fn : FuncId) (caps : List AV) (hc : pureL caps = true) (hp : ∀ (i : Nat) (c : GCell), cs[i]? = some c → PCall prog up fn (.int .i64 i :: .agg (eCell c) :: caps) (· = .bool (p c))) : PCall prog up 29 [.sl 4 (cs.map eCell), .func (.func fn) [] caps] (· = .sl 4 ((cs.filter fun c => !p c).map eCell)) := by
  refine PCall.intro htt func29 (by kernel_rfl) rfl (Nat.le_of_ble_eq_true rfl) fun hl => ?_

  simp only [tmps0, Nat.reduceAdd]
  refine CW.seq (.rg (.rn htt 1 (.done ?_)))
  refine CW.seq (.rg (.rn htt 1 (.done ?_)))
  refine CW.seq (.seq (.rg (.rn htt 3 (.done ?_))))
  refine CW.block ?_
  refine CW.loop (S := Nat) (fun i => ⟨1, [(1, .func (.func fn) [] caps), (5, .ref 0 [] 0), (8, .sl 4 (cs.map eCell)), (9, .int .i64 cs.length), (10, .int .i64 i)], [(0, ⟨false, [.own 4 (((cs.take i).filter fun c => !p c).map eCell)]⟩)]⟩) (fun i => i ≤ cs.length) (fun i => cs.length - i) (0) ?_ (Nat.zero_le _) (fun i h1 => ?_)
  · refine Sh.trans (Sh.nilRoot 5 4 (by simp only [go_sem, simprocAttr]) rfl) (Sh.wk0 ?_); simp [Wk, go_sem, simprocAttr, ex_func]; exact SubL_pureM _ _ _ hc
  refine CW.seq (.rg (.rn htt 1 (.done ?_)))
  refine CW.seq ?_
  refine CW.cd (fun ct11 => ?_) (fun ct11 => ?_)
  · have hi : i < cs.length := by simpa using ct11
    obtain ⟨c, hx⟩ : ∃ x, cs[i]? = some x := ⟨cs[i], List.getElem?_eq_getElem hi⟩
    have hfl := filter_le (fun c => !p c) cs i
    have hln : ((cs.take i).filter fun c => !p c).length + 1 ≤ MX := by unfold MX; omega
    have hln2 : (((cs.take i).filter fun c => !p c).length + 1) * 40 ≤ MX := by unfold MX; omega
    refine CW.skip ?_
    refine CW.seq ?_
    refine CW.block ?_
    refine CW.seq (.rg (.run htt 6 (by simp only [go_sem, simprocAttr, hx, eCell, eVal]; exact rfl) (by simp [go_sem, simprocAttr, hx, eCell, eVal]) (.done ?_)))
    refine CW.seq (.rg (.run htt 3 (by simp only [go_sem, simprocAttr, hc, eCell, eVal]; exact rfl) (by simp [go_sem, simprocAttr, hc, eCell, eVal]) ?_))
    refine CWops.callA ((by have q := hp i c hx; simp only [eCell, eVal] at q; exact q)) (by simp only [go_sem, simprocAttr, hc, eCell, eVal]) (by simp only [go_sem, simprocAttr, hc, eCell, eVal] <;> exact rfl) (by simp only [go_sem, simprocAttr, hc, eCell, eVal]) (by simp only [go_sem, simprocAttr, hc, eCell, eVal]) (fun rt18 hrt18 => ?_)
    subst hrt18
    refine CWops.run htt 1 (by simp only [go_sem, simprocAttr, hc, eCell, eVal]; exact rfl) (by simp [go_sem, simprocAttr, hc, eCell, eVal]) (.done ?_)
    refine CW.cd (fun ct19 => ?_) (fun ct19 => ?_)
    · have hsn : (cs.take (i + 1)).filter (fun c => !p c) = (cs.take i).filter (fun c => !p c) ++ [c] := by rw [filter_take _ hx, if_pos ct19]
      obtain ⟨q, hq⟩ : ∃ q : Nat, q = 1 := ⟨1, rfl⟩
      refine CW.rg (.run htt 5 (by simp only [go_sem, simprocAttr, eCell, eVal, hln, hln2]; exact rfl) (by simp [go_sem, simprocAttr, eCell, eVal, hln, hln2]) (.done ?_))
      refine CW.rg (.run htt 2 (by simp only [go_sem, simprocAttr, wrap_succ (show i < MX by unfold MX; omega)]; exact rfl) (by simp [go_sem, simprocAttr, wrap_succ (show i < MX by unfold MX; omega)]) (.done ?_))
      refine ⟨i + 1, ?_, ?_, ?_⟩
      · first | (refine Sh.wk0 ?_; simp [Wk, go_sem, simprocAttr, hsn, ex_func]; exact SubL_pureM _ _ _ hc) | (refine Sh.wk (fun x => if x = 0 then 3 else x) ?_; simp [Wk, go_sem, simprocAttr, hsn, eCell, eVal, ex_func]; exact SubL_pureM _ _ _ hc)
      · exact hi
      · simp only; omega
    · have hsn : (cs.take (i + 1)).filter (fun c => !p c) = (cs.take i).filter (fun c => !p c) := by rw [filter_take _ hx, if_neg (by rw [ct19]; simp), List.append_nil]
      obtain ⟨q, hq⟩ : ∃ q : Nat, q = 0 := ⟨0, rfl⟩
      refine CW.skip ?_
      refine CW.rg (.run htt 2 (by simp only [go_sem, simprocAttr, wrap_succ (show i < MX by unfold MX; omega)]; exact rfl) (by simp [go_sem, simprocAttr, wrap_succ (show i < MX by unfold MX; omega)]) (.done ?_))
      refine ⟨i + 1, ?_, ?_, ?_⟩
      · first | (refine Sh.wk0 ?_; simp [Wk, go_sem, simprocAttr, hsn, ex_func]; exact SubL_pureM _ _ _ hc) | (refine Sh.wk (fun x => if x = 0 then 3 else x) ?_; simp [Wk, go_sem, simprocAttr, hsn, eCell, eVal, ex_func]; exact SubL_pureM _ _ _ hc)
      · exact hi
      · simp only; omega
  · have hi : i = cs.length := by simp at ct11; omega
    refine CW.exit ?_
    refine CW.seq (.rg (.rn htt 2 (.done ?_)))
    refine CW.ret ?_
    refine retQ.rt (by simp only [f29, go_sem, simprocAttr]; exact rfl) ?_
    refine ⟨_, ?_, rfl⟩
    rw [hi, List.take_length]
    simp [leP, frz_Cell]
    first | done | exact leP_refl _ | exact leP_refl.leL_refl _
@[go_sem] theorem tt_34 : tiOf prog 34 = some ⟨.struct [(31, 0), (26, 1), (32, 2)], 3, 56, [.int .u32 0, .nilsl, .nilsl], true⟩ := by kernel_rfl
@[go_sem] theorem tt_32 : tiOf prog 32 = some ⟨.slice 40, 1, 24, [.nilsl], false⟩ := by kernel_rfl
@[go_sem] theorem tt_40 : tiOf prog 40 = some ⟨.struct [(3, 0), (3, 1), (38, 2)], 3, 40, [.int .i64 0, .int .i64 0, .nilsl], true⟩ := by kernel_rfl
theorem maplk_posM {l : List Int} (hn : l.Nodup) : ∀ (i : Nat), i ≤ l.length → ∀ x, maplk (posM (l.take i)) x = (posL (l.take i) x).map (.int .i64 ·)
  | 0, _, x => by simp [posM, posL, maplk]
  | i + 1, hi, x => by
    obtain ⟨y, hy⟩ : ∃ y, l[i]? = some y := ⟨l[i], List.getElem?_eq_getElem (by omega)⟩
    rw [posM_succ hy, maplk_mapput, maplk_posM hn i (by omega) x]
    unfold posL
    rw [List.take_add_one, hy, Option.toList_some, List.findIdx?_append]
    have hlen : (l.take i).length = i := by rw [List.length_take]; omega
    by_cases e : x = y
    · subst e
      have hno : (l.take i).findIdx? (fun z => decide (z = x)) = none := by
        rw [List.findIdx?_eq_none_iff]
        intro z hz
        have : z ≠ x := fun h => by
          subst h
          obtain ⟨j, hj⟩ := List.getElem?_of_mem hz
          rw [List.getElem?_take] at hj
          split at hj
          · rename_i hji
            obtain ⟨a1, a2⟩ := List.getElem?_eq_some_iff.1 hj
            obtain ⟨b1, b2⟩ := List.getElem?_eq_some_iff.1 hy
            have := (List.getElem_inj hn).1 (a2.trans b2.symm)
            omega
          · cases hj
        simp [this]
      rw [if_pos rfl, hno]
      simp [hlen]
    · rw [if_neg e]
      have h1 : ([y] : List Int).findIdx? (fun z => decide (z = x)) = none := by
        rw [List.findIdx?_eq_none_iff]
        intro z hz
        have : z = y := by simpa using hz
        subst this
        simp [show ¬ z = x from fun h => e h.symm]
      rw [h1]
      simp
theorem maplk_posA {l : List Int} (hn : l.Nodup) (x : Int) : maplk (posM l) x = (posL l x).map (.int .i64 ·) := by
  have := maplk_posM hn l.length (Nat.le_refl _) x
  rwa [List.take_length] at this
theorem make_facts {a b : Graph} (ha : May a) (hb : May b) (hk : gKind a b = true) {i : Nat} {x : Int} (hi : (order b)[i]? = some x) : ∃ (t : GType) (o : GObj) (K : List GVal) (p : Nat),
    (canonG b).O[i]? = some ⟨(i : Int), o.T, K⟩ ∧ K.length = t.F.length ∧ t.F.length ≤ 5 ∧ b.O[p]? = some o ∧ gFind b x = (p : Int) ∧ o.F.length = t.F.length ∧ (List.zipWith (mkItem a b) (canonG b).O (order b))[i]? = some (mkItem a b ⟨(i : Int), o.T, K⟩ x) ∧
    ((posL (order a) x = none ∧ mkItem a b ⟨(i : Int), o.T, K⟩ x = ⟨-1, o.T, cellsOf K⟩) ∨ ∃ (n pa : Nat) (oa : GObj), posL (order a) x = some (n : Int) ∧ a.O[pa]? = some oa ∧ gFind a x = (pa : Int) ∧ oa.F.length = t.F.length ∧
      mkItem a b ⟨(i : Int), o.T, K⟩ x = ⟨(n : Int), o.T, (cellsOf K).filter fun c => !decide (oa.F[c.F.toNat]? = o.F[c.F.toNat]?)⟩) := by
  have hkk := hk
  unfold gKind at hkk
  simp only [Bool.and_eq_true, decide_eq_true_eq, Bool.not_eq_true'] at hkk
  obtain ⟨hS, hodd⟩ := hkk
  have hxm : x ∈ order b := List.mem_of_getElem? hi
  obtain ⟨p, o, ho, hid, hf, hoa, _⟩ := hb.find (hb.order.ids x hxm)
  obtain ⟨_, t, ht, hmo⟩ := hb.objT ho
  have hst := (short_of hb.s).2 t (List.mem_of_getElem? hmo.at_)
  have hcO : canonO b (order b) i x = ⟨(i : Int), o.T, List.zipWith (canonV (order b)) t.F o.F⟩ := canonO_of hoa ht
  have hg := items_get (a := a) hi
  rw [hcO] at hg
  refine ⟨t, o, List.zipWith (canonV (order b)) t.F o.F, p, ?_, by rw [List.length_zipWith, hmo.len, Nat.min_self], hst.l, ho, hf, hmo.len, hg, ?_⟩
  · have := canonL_get b (order b) (order b) 0 i x hi
    rw [Nat.zero_add, hcO] at this
    exact this
  cases hp : posL (order a) x with
  | none => left; exact ⟨rfl, by unfold mkItem; rw [hp]⟩
  | some q =>
    right
    obtain ⟨n, n1, n2, n3⟩ := from_inv (a := a) (b := b) (c := ⟨(i : Int), o.T, List.zipWith (canonV (order b)) t.F o.F⟩) (x := x) (by
      unfold mkItem; rw [hp]; simp only
      unfold posL at hp
      rw [Option.map_eq_some_iff] at hp
      obtain ⟨n, _, rfl⟩ := hp
      omega)
    have hxa : x ∈ order a := List.mem_of_getElem? n3
    obtain ⟨pa, oa, hoa1, hida, hfa, hoaa, htyp⟩ := ha.find (ha.order.ids x hxa)
    obtain ⟨_, ta, hta, hmoa⟩ := ha.objT hoa1
    have hT : oa.T = o.T := by
      have h1 : ¬ oddK a o = true := fun h => by
        have : b.O.any (oddK a) = true := List.any_eq_true.2 ⟨o, List.mem_of_getElem? ho, h⟩
        rw [this] at hodd; cases hodd
      unfold oddK at h1
      rw [hid, htyp] at h1
      simpa using h1
    have htt : ta = t := by rw [hT, hS, ht] at hta; cases hta; rfl
    subst htt
    rw [hp] at n1
    cases n1
    have hda : objD a x = oa := by unfold objD; rw [hoaa]; rfl
    have hdb : objD b x = o := by unfold objD; rw [hoa]; rfl
    exact ⟨n, pa, oa, rfl, hoa1, hfa, hmoa.len, by unfold mkItem; rw [hp, hda, hdb]⟩
theorem canon_Olen {b : Graph} (hb : gMay b = true) : (canonG b).O.length = (order b).length := by
  have := (once_facts hb).2.2.2.1
  rw [gCanon_of hb] at this
  unfold gOrder at this
  rwa [if_pos hb] at this
theorem items_len {a b : Graph} (hb : gMay b = true) : (List.zipWith (mkItem a b) (canonG b).O (order b)).length = (order b).length := by
  rw [List.length_zipWith, canon_Olen hb, Nat.min_self]
theorem cellsOf_at {K : List GVal} {i : Nat} {c : GCell} (h : (cellsOf K)[i]? = some c) : c.F = (i : Int) ∧ i < K.length := by
  have key : ∀ (k : Nat) (T : List GVal) (i : Nat), (cellsFrom k T)[i]? = some c → c.F = ((k + i : Nat) : Int) ∧ i < T.length := by
    intro k T
    induction T generalizing k with
    | nil => intro i h; simp [cellsFrom] at h
    | cons v r ih =>
      intro i h
      cases i with
      | zero => simp [cellsFrom] at h; subst h; simp
      | succ i =>
        simp only [cellsFrom, List.getElem?_cons_succ] at h
        have := ih (k + 1) i h
        simp only [List.length_cons]
        exact ⟨by rw [this.1]; congr 1; omega, by omega⟩
  have := key 0 K i h
  rw [Nat.zero_add] at this
  exact this
theorem take_snoc {α : Type} {l : List α} {i : Nat} {x : α} (h : l[i]? = some x) : l.take (i + 1) = l.take i ++ [x] := by rw [List.take_add_one, h, Option.toList_some]
theorem eDelta_no : eDelta noDelta = [.int .u32 0, .sl 1 [], .sl 3 []] := rfl
end Go.Ab
namespace Go.Ab
open Go Go.Proofs.Tryz Go.RowKit
set_option maxRecDepth 100000
set_option maxHeartbeats 1600000
theorem frz_Item (xs : List GItem) : (AV.own 3 (xs.map eItem)).freeze = .sl 3 (xs.map eItem) := frz_map (fun x a h => by simp [eItem] at h; rcases h with rfl | rfl | rfl <;> rfl) 3 xs
theorem make_sames (up : Bool) {oa o : GObj} {K : List GVal} (h1 : oa.F.length = K.length) (h2 : o.F.length = K.length) (i : Nat) (c : GCell) (hc : (cellsOf K)[i]? = some c) :
    PCall prog up 30 (.int .i64 i :: .agg (eCell c) :: [.fp [.sl 3 (oa.F.map eVal)], .fp [.sl 3 (o.F.map eVal)]]) (· = .bool (decide (oa.F[c.F.toNat]? = o.F[c.F.toNat]?))) := by
  obtain ⟨e, hi⟩ := cellsOf_at hc
  obtain ⟨x, hx⟩ : ∃ x, oa.F[i]? = some x := ⟨oa.F[i], List.getElem?_eq_getElem (by omega)⟩
  obtain ⟨y, hy⟩ : ∃ y, o.F[i]? = some y := ⟨o.F[i], List.getElem?_eq_getElem (by omega)⟩
  have q := make_same up oa.F o.F i c x y hx hy
  rw [e, Int.toNat_natCast, hx, hy, show decide (some x = some y) = decide (x = y) from by simp]
  exact q
theorem delta_Make (up : Bool) (a b : Graph) : PCall prog up 7 [.agg (eGraph a), .agg (eGraph b)] (· = .tup [.agg (eDelta (gMake a b).1), .int .i64 (gMake a b).2]) := by
  refine PCall.intro htt func7 (by kernel_rfl) rfl (Nat.le_of_ble_eq_true rfl) fun hl => ?_

  simp only [tmps0, Nat.reduceAdd]
  refine CW.seq (.rg (.run htt 4 (by simp only [go_sem, simprocAttr, eGraph]; exact rfl) (by simp [go_sem, simprocAttr, eGraph]) (.done ?_)))
  refine CW.seq ?_
  refine CW.cut ⟨3, [(2, .lv 0 [] 0), (3, .lv 1 [] 0), (4, .lv 2 [] 0), (25, .bool (!(gMay a && gMay b)))], [(0, ⟨true, eGraph a⟩), (1, ⟨true, eGraph b⟩), (2, ⟨true, [.int .u32 0, .nilsl, .nilsl]⟩)]⟩ ?_ ?_
  · refine CW.rg (.run htt 1 (by simp only [go_sem, simprocAttr, eGraph]; exact rfl) (by simp [go_sem, simprocAttr, eGraph]) ?_)
    refine CWops.callA (graph_May up a) (by simp only [go_sem, simprocAttr, eGraph]) (by simp only [go_sem, simprocAttr, eGraph] <;> exact rfl) (by simp only [go_sem, simprocAttr, eGraph]) (by simp only [go_sem, simprocAttr, eGraph]) (fun rt19 hrt19 => ?_)
    subst hrt19
    refine CWops.run htt 2 (by simp only [go_sem, simprocAttr, eGraph]; exact rfl) (by simp [go_sem, simprocAttr, eGraph]) ?_
    all_goals (first | refine CWops.guard 21 (by simp only [go_sem, simprocAttr, eGraph]; exact rfl) (fun g21 => ?_) (fun g21 => ?_) | skip)
    all_goals (refine CWops.run htt 1 (by simp only [go_sem, simprocAttr, eGraph]; exact rfl) (by simp [go_sem, simprocAttr, eGraph]) ?_)
    all_goals (first | (refine CWops.skip ?_ ?_; next => (simp only [go_sem, simprocAttr]; done)) | (refine CWops.callA (graph_May up b) (by simp only [go_sem, simprocAttr, eGraph]) (by simp only [go_sem, simprocAttr, eGraph] <;> exact rfl) (by simp only [go_sem, simprocAttr, eGraph]) (by simp only [go_sem, simprocAttr, eGraph]) (fun rt23 hrt23 => ?_); subst hrt23))
    all_goals (refine CWops.run htt 2 (by simp only [go_sem, simprocAttr, eGraph]; exact rfl) (by simp [go_sem, simprocAttr, eGraph]) ?_)
    all_goals (refine CWops.done ?_)
    all_goals (
      refine ⟨rfl, Sh.wk0 ?_⟩
      simp_all [Wk, go_sem, simprocAttr, eGraph])
  refine CW.cd (fun ct25 => ?_) (fun ct25 => ?_)
  · have hM : (gMay a && gMay b) = false := by
      cases h : (gMay a && gMay b) with
      | false => rfl
      | true => rw [h] at ct25; cases ct25
    refine CW.seq (.rg (.rn htt 3 (.done ?_)))
    refine CW.ret ?_
    refine retQ.rt (by simp only [f7, go_sem, simprocAttr]; exact rfl) ?_
    refine ⟨_, ?_, rfl⟩
    have e : gMake a b = (noDelta, 1) := by unfold gMake; rw [if_pos hM]
    rw [e, eDelta_no]
    simp [leP, leL]
  · have hM : (gMay a && gMay b) = true := by simpa using ct25
    obtain ⟨hA, hB⟩ : gMay a = true ∧ gMay b = true := by simpa using hM
    have ha := (may_iff a).1 hA
    have hb := (may_iff b).1 hB
    have hna := ha.order.nodup
    have hcanB : PCall prog up 10 [.agg (eGraph b)] (· = .agg (eGraph (canonG b))) := by have q := canon_Canon up b; rw [gCanon_of hB] at q; exact q
    have hordA : PCall prog up 26 [.agg (eGraph a)] (· = .sl 1 ((order a).map eI)) := by have q := canon_Order up a; unfold gOrder at q; rw [if_pos hA] at q; exact q
    have hordB : PCall prog up 26 [.agg (eGraph b)] (· = .sl 1 ((order b).map eI)) := by have q := canon_Order up b; unfold gOrder at q; rw [if_pos hB] at q; exact q
    have ho8 : (order b).length ≤ 8 := by rw [← canon_Olen hB]; exact (canon_may hb).o
    have hil := items_len (a := a) hB
    refine CW.skip ?_
    refine CW.seq (.seq (.rg (.run htt 2 (by simp only [go_sem, simprocAttr, eGraph]; exact rfl) (by simp [go_sem, simprocAttr, eGraph]) ?_)))
    refine CWops.callA (delta_kind up a b) (by simp only [go_sem, simprocAttr, eGraph]) (by simp only [go_sem, simprocAttr, eGraph] <;> exact rfl) (by simp only [go_sem, simprocAttr, eGraph]) (by simp only [go_sem, simprocAttr, eGraph]) (fun rt29 hrt29 => ?_)
    subst hrt29
    refine CWops.run htt 1 (by simp only [go_sem, simprocAttr, eGraph]; exact rfl) (by simp [go_sem, simprocAttr, eGraph]) (.done ?_)
    refine CW.cd (fun ct30 => ?_) (fun ct30 => ?_)
    · have hK : gKind a b = false := by simpa using ct30
      refine CW.seq (.rg (.rn htt 3 (.done ?_)))
      refine CW.ret ?_
      refine retQ.rt (by simp only [f7, go_sem, simprocAttr]; exact rfl) ?_
      refine ⟨_, ?_, rfl⟩
      have e : gMake a b = (noDelta, 6) := by unfold gMake; rw [if_neg (by rw [hM]; simp), if_pos hK]
      rw [e, eDelta_no]
      simp [leP, leL]
    · have hK : gKind a b = true := by simpa using ct30
      refine CW.skip ?_
      refine CW.seq (.rg (.run htt 1 (by simp only [go_sem, simprocAttr, eGraph]; exact rfl) (by simp [go_sem, simprocAttr, eGraph]) ?_))
      refine CWops.callA (code_Sum up a) (by simp only [go_sem, simprocAttr, eGraph]) (by simp only [go_sem, simprocAttr, eGraph] <;> exact rfl) (by simp only [go_sem, simprocAttr, eGraph]) (by simp only [go_sem, simprocAttr, eGraph]) (fun rt34 hrt34 => ?_)
      subst hrt34
      refine CWops.run htt 5 (by simp only [go_sem, simprocAttr, eGraph]; exact rfl) (by simp [go_sem, simprocAttr, eGraph]) (.done ?_)
      refine CW.seq (.seq (.rg (.rn htt 2 (.done ?_))))
      refine CW.cd (fun ct38 => ?_) (fun ct38 => ?_)
      · have hS : (gSum a).2 ≠ 0 := by simpa using ct38
        refine CW.seq (.rg (.rn htt 4 (.done ?_)))
        refine CW.ret ?_
        refine retQ.rt (by simp only [f7, go_sem, simprocAttr]; exact rfl) ?_
        refine ⟨_, ?_, rfl⟩
        have e : gMake a b = (noDelta, (gSum a).2) := by unfold gMake; rw [if_neg (by rw [hM]; simp), if_neg (by rw [hK]; simp), if_pos hS]
        rw [e, eDelta_no]
        simp [leP, leL]
      · have hS : (gSum a).2 = 0 := by simpa using ct38
        refine CW.skip ?_
        refine CW.seq (.rg (.run htt 1 (by simp only [go_sem, simprocAttr, eGraph]; exact rfl) (by simp [go_sem, simprocAttr, eGraph]) ?_))
        refine CWops.callA (hcanB) (by simp only [go_sem, simprocAttr, eGraph]) (by simp only [go_sem, simprocAttr, eGraph] <;> exact rfl) (by simp only [go_sem, simprocAttr, eGraph]) (by simp only [go_sem, simprocAttr, eGraph]) (fun rt42 hrt42 => ?_)
        subst hrt42
        refine CWops.run htt 2 (by simp only [go_sem, simprocAttr, eGraph]; exact rfl) (by simp [go_sem, simprocAttr, eGraph]) (.done ?_)
        refine CW.seq (.rg (.run htt 1 (by simp only [go_sem, simprocAttr, eGraph]; exact rfl) (by simp [go_sem, simprocAttr, eGraph]) ?_))
        refine CWops.callA (hordA) (by simp only [go_sem, simprocAttr, eGraph]) (by simp only [go_sem, simprocAttr, eGraph] <;> exact rfl) (by simp only [go_sem, simprocAttr, eGraph]) (by simp only [go_sem, simprocAttr, eGraph]) (fun rt44 hrt44 => ?_)
        subst hrt44
        refine CWops.callA (delta_places up (order a)) (by simp only [go_sem, simprocAttr, eGraph]) (by simp only [go_sem, simprocAttr, eGraph] <;> exact rfl) (by simp only [go_sem, simprocAttr, eGraph]) (by simp only [go_sem, simprocAttr, eGraph]) (fun rt45 hrt45 => ?_)
        subst hrt45
        refine CWops.run htt 1 (by simp only [go_sem, simprocAttr, eGraph]; exact rfl) (by simp [go_sem, simprocAttr, eGraph]) (.done ?_)
        refine CW.seq (.rg (.run htt 6 (by simp only [go_sem, simprocAttr, eGraph]; exact rfl) (by simp [go_sem, simprocAttr, eGraph]) (.done ?_)))
        refine CW.seq (.seq (.rg (.run htt 1 (by simp only [go_sem, simprocAttr, eGraph]; exact rfl) (by simp [go_sem, simprocAttr, eGraph]) ?_)))
        refine CWops.callA (hordB) (by simp only [go_sem, simprocAttr, eGraph]) (by simp only [go_sem, simprocAttr, eGraph] <;> exact rfl) (by simp only [go_sem, simprocAttr, eGraph]) (by simp only [go_sem, simprocAttr, eGraph]) (fun rt51 hrt51 => ?_)
        subst hrt51
        refine CWops.run htt 2 (by simp only [go_sem, simprocAttr, eGraph]; exact rfl) (by simp [go_sem, simprocAttr, eGraph]) (.done ?_)
        refine CW.block ?_
        refine CW.loop (S := Nat) (fun i => ⟨5, [(2, .lv 0 [] 0), (3, .lv 1 [] 0), (4, .lv 2 [] 0), (8, .lv 3 [] 0), (9, .fmap (posM (order a))), (10, .lv 4 [] 0), (51, .sl 1 ((order b).map eI)), (52, .int .i64 (order b).length), (53, .int .i64 i)], [(0, ⟨true, eGraph a⟩), (1, ⟨true, eGraph b⟩), (2, ⟨true, [.int .u32 0, .nilsl, .nilsl]⟩), (3, ⟨true, eGraph (canonG b)⟩), (4, ⟨true, [.int .u32 ((gSum a).1 : Int), .sl 1 ((canonG b).Roots.map eI), .own 3 (((List.zipWith (mkItem a b) (canonG b).O (order b)).take i).map eItem)]⟩)]⟩) (fun i => i ≤ (order b).length) (fun i => (order b).length - i) (0) ?_ (Nat.zero_le _) (fun i h1 => ?_)
        · refine Sh.trans (Sh.nilCell 4 [] 2 3 (by simp [go_sem, simprocAttr]) rfl) (Sh.wk0 ?_); simp [Wk, go_sem, simprocAttr, eGraph]
        refine CW.seq (.rg (.rn htt 1 (.done ?_)))
        refine CW.seq ?_
        refine CW.cd (fun ct54 => ?_) (fun ct54 => ?_)
        · have hi : i < (order b).length := by simpa using ct54
          obtain ⟨x, hx⟩ : ∃ x, (order b)[i]? = some x := ⟨(order b)[i], List.getElem?_eq_getElem hi⟩
          obtain ⟨t, o, K, p, hci, hKl, ht5, hbo, hfb, hol, hg, hfacts⟩ := make_facts ha hb hK hx
          have hpb := (List.getElem?_eq_some_iff.1 hbo).1
          have hKl5 : K.length ≤ 1000 := by omega
          refine CW.skip ?_
          refine CW.seq ?_
          refine CW.block ?_
          refine CW.seq (.rg (.run htt 5 (by simp only [go_sem, simprocAttr, hx, eI]; exact rfl) (by simp [go_sem, simprocAttr, hx, eI]) (.done ?_)))
          refine CW.seq ?_
          refine CW.drawn mixed 14 (by decide) (by kernel_rfl) (by kernel_rfl) (by kernel_rfl) ?_
          refine Seg.run htt 11 (by simp only [go_sem, simprocAttr, eGraph, eObj, hci, eVal]; exact rfl) ?_
          refine Seg.callA (delta_cells up ⟨(i : Int), o.T, K⟩ hKl5) (by simp only [go_sem, simprocAttr, eGraph, eObj, hci, eVal]) (by simp only [go_sem, simprocAttr, eGraph, eObj, hci, eVal] <;> exact rfl) (by simp only [go_sem, simprocAttr, eGraph, eObj, hci, eVal]) (by simp only [go_sem, simprocAttr, eGraph, eObj, hci, eVal]) ?_
          refine Seg.run htt 2 (by simp only [go_sem, simprocAttr, eGraph, eObj, hci, eVal]; exact rfl) ?_
          refine Seg.done ?_
          refine CWops.run htt 1 (by simp only [go_sem, simprocAttr, eGraph, eObj, hci, eVal]; exact rfl) (by simp [go_sem, simprocAttr, eGraph, eObj, hci, eVal]) (.done ?_)
          refine CW.seq ?_
          refine CW.cut ⟨6, [(2, .lv 0 [] 0), (3, .lv 1 [] 0), (4, .lv 2 [] 0), (8, .lv 3 [] 0), (9, .fmap (posM (order a))), (10, .lv 4 [] 0), (51, .sl 1 ((order b).map eI)), (52, .int .i64 (order b).length), (53, .int .i64 i), (11, .int .i64 i), (12, .int .i64 x), (13, .lv 5 [] 0), (14, .int .i64 ((posL (order a) x).getD 0)), (15, .bool (posL (order a) x).isSome)], [(0, ⟨true, eGraph a⟩), (1, ⟨true, eGraph b⟩), (2, ⟨true, [.int .u32 0, .nilsl, .nilsl]⟩), (3, ⟨true, eGraph (canonG b)⟩), (4, ⟨true, [.int .u32 ((gSum a).1 : Int), .sl 1 ((canonG b).Roots.map eI), .own 3 (((List.zipWith (mkItem a b) (canonG b).O (order b)).take i).map eItem)]⟩), (5, ⟨true, [.int .i64 (-1), .int .i64 o.T, .sl 4 ((cellsOf K).map eCell)]⟩)]⟩ ?_ ?_
          · cases hp : posL (order a) x
            all_goals (refine CW.rg ?_)
            all_goals (refine CWops.run htt 8 (by simp only [go_sem, simprocAttr, maplk_posA hna, hp]; exact rfl) (by simp [go_sem, simprocAttr, maplk_posA hna, hp]) ?_)
            all_goals (refine CWops.done ?_)
            all_goals (
              refine ⟨rfl, Sh.wk0 ?_⟩
              simp [Wk, go_sem, simprocAttr, eGraph, hp])
          refine CW.seq (.rg (.rn htt 1 (.done ?_)))
          refine CW.cd (fun ct77 => ?_) (fun ct77 => ?_)
          · rcases hfacts with ⟨hL, hit⟩ | ⟨n, pa, oa, hL, h1a, h2a, h3a, hit⟩
            · rw [hL] at ct77; cases ct77
            have hpa := (List.getElem?_eq_some_iff.1 h1a).1
            refine CW.cut ⟨8, [(2, .lv 0 [] 0), (3, .lv 1 [] 0), (4, .lv 2 [] 0), (8, .lv 3 [] 0), (9, .fmap (posM (order a))), (10, .lv 4 [] 0), (51, .sl 1 ((order b).map eI)), (52, .int .i64 (order b).length), (53, .int .i64 i), (11, .int .i64 i), (12, .int .i64 x), (13, .lv 5 [] 0), (14, .int .i64 ((posL (order a) x).getD 0)), (15, .bool (posL (order a) x).isSome), (16, .lv 6 [] 0), (17, .lv 7 [] 0)], [(0, ⟨true, eGraph a⟩), (1, ⟨true, eGraph b⟩), (2, ⟨true, [.int .u32 0, .nilsl, .nilsl]⟩), (3, ⟨true, eGraph (canonG b)⟩), (4, ⟨true, [.int .u32 ((gSum a).1 : Int), .sl 1 ((canonG b).Roots.map eI), .own 3 (((List.zipWith (mkItem a b) (canonG b).O (order b)).take i).map eItem)]⟩), (5, ⟨true, [.int .i64 (-1), .int .i64 o.T, .sl 4 ((cellsOf K).map eCell)]⟩), (6, ⟨true, [.sl 3 (oa.F.map eVal)]⟩), (7, ⟨true, [.sl 3 (o.F.map eVal)]⟩)]⟩ ?_ ?_
            · refine CW.either mixed 16 17 (by decide) (by decide) (by decide) (by kernel_rfl) (by kernel_rfl) ?_ ?_
              · refine AnyOK.drawnP0 [0, 1, 2, 3, 4, 5, 6, 7, 8, 9, 10, 11, 12, 13, 14, 15, 16, 17, 18, 19] 16 19 [0, 1, 2, 3, 4, 5, 6, 7, 8, 9, 10, 11, 12, 13, 14, 15] (D := [78, 79, 80, 81, 82, 83, 84, 85, 86, 87, 88, 89, 90, 91, 92, 93]) (by simp only [addE_zero, addE_succ, List.toList_toArray, permL_mk, nthO_zero, nthO_succ, renO_mk, List.map_cons, List.map_nil, go_sem, simprocAttr]; exact rfl) (by kernel_rfl) (by decide) (by decide) (by kernel_rfl) (by kernel_rfl) rfl (by kernel_rfl) ?_
                refine Seg.run htt 4 (by simp only [go_sem, simprocAttr, eGraph, h1a, hbo, hpa, hpb, eObj]; exact rfl) ?_
                refine Seg.callA ((by have q := graph_Find up a x; have e : fnd (fun o => decide (o.Id = x)) a.O = (pa : Int) := h2a; rw [e] at q; exact q)) (by simp only [go_sem, simprocAttr, eGraph, h1a, hbo, hpa, hpb, eObj]) (by simp only [go_sem, simprocAttr, eGraph, h1a, hbo, hpa, hpb, eObj] <;> exact rfl) (by simp only [go_sem, simprocAttr, eGraph, h1a, hbo, hpa, hpb, eObj]) (by simp only [go_sem, simprocAttr, eGraph, h1a, hbo, hpa, hpb, eObj]) ?_
                refine Seg.run htt 7 (by simp only [go_sem, simprocAttr, eGraph, h1a, hbo, hpa, hpb, eObj]; exact rfl) ?_
                refine Seg.callA ((by have q := graph_Find up b x; have e : fnd (fun o => decide (o.Id = x)) b.O = (p : Int) := hfb; rw [e] at q; exact q)) (by simp only [go_sem, simprocAttr, eGraph, h1a, hbo, hpa, hpb, eObj]) (by simp only [go_sem, simprocAttr, eGraph, h1a, hbo, hpa, hpb, eObj] <;> exact rfl) (by simp only [go_sem, simprocAttr, eGraph, h1a, hbo, hpa, hpb, eObj]) (by simp only [go_sem, simprocAttr, eGraph, h1a, hbo, hpa, hpb, eObj]) ?_
                refine Seg.run htt 3 (by simp only [go_sem, simprocAttr, eGraph, h1a, hbo, hpa, hpb, eObj]; exact rfl) ?_
                refine Seg.done ⟨rfl, ?_⟩
                refine Mid.eop htt [78, 79, 80, 81, 82, 83, 84, 85, 86, 87, 88, 89, 90, 91, 92, 93] (Flo.cons htt rfl rfl (by simp only [go_sem, simprocAttr, eGraph, h1a, hbo, hpa, hpb, eObj] <;> exact rfl) (Flo.cons htt rfl rfl (by simp only [go_sem, simprocAttr, eGraph, h1a, hbo, hpa, hpb, eObj] <;> exact rfl) (Flo.cons htt rfl rfl (by simp only [go_sem, simprocAttr, eGraph, h1a, hbo, hpa, hpb, eObj] <;> exact rfl) (Flo.cons htt rfl rfl (by simp only [go_sem, simprocAttr, eGraph, h1a, hbo, hpa, hpb, eObj] <;> exact rfl) (Flo.st rfl (stab_callA (by have q := graph_Find up a x; have e : fnd (fun o => decide (o.Id = x)) a.O = (pa : Int) := h2a; rw [e] at q; exact q) (by simp only [go_sem, simprocAttr, eGraph, h1a, hbo, hpa, hpb, eObj]) (by simp only [go_sem, simprocAttr, eGraph, h1a, hbo, hpa, hpb, eObj] <;> exact rfl) (by simp only [go_sem, simprocAttr, eGraph, h1a, hbo, hpa, hpb, eObj]) (by simp only [go_sem, simprocAttr, eGraph, h1a, hbo, hpa, hpb, eObj])) (Flo.cons htt rfl rfl (by simp only [go_sem, simprocAttr, eGraph, h1a, hbo, hpa, hpb, eObj] <;> exact rfl) (Flo.cons htt rfl rfl (by simp only [go_sem, simprocAttr, eGraph, h1a, hbo, hpa, hpb, eObj] <;> exact rfl) (Flo.cons htt rfl rfl (by simp only [go_sem, simprocAttr, eGraph, h1a, hbo, hpa, hpb, eObj] <;> exact rfl) (Flo.cons htt rfl rfl (by simp only [go_sem, simprocAttr, eGraph, h1a, hbo, hpa, hpb, eObj] <;> exact rfl) (Flo.cons htt rfl rfl (by simp only [go_sem, simprocAttr, eGraph, h1a, hbo, hpa, hpb, eObj] <;> exact rfl) (Flo.cons htt rfl rfl (by simp only [go_sem, simprocAttr, eGraph, h1a, hbo, hpa, hpb, eObj] <;> exact rfl) (Flo.cons htt rfl rfl (by simp only [go_sem, simprocAttr, eGraph, h1a, hbo, hpa, hpb, eObj] <;> exact rfl) (Flo.st rfl (stab_callA (by have q := graph_Find up b x; have e : fnd (fun o => decide (o.Id = x)) b.O = (p : Int) := hfb; rw [e] at q; exact q) (by simp only [go_sem, simprocAttr, eGraph, h1a, hbo, hpa, hpb, eObj]) (by simp only [go_sem, simprocAttr, eGraph, h1a, hbo, hpa, hpb, eObj] <;> exact rfl) (by simp only [go_sem, simprocAttr, eGraph, h1a, hbo, hpa, hpb, eObj]) (by simp only [go_sem, simprocAttr, eGraph, h1a, hbo, hpa, hpb, eObj])) (Flo.cons htt rfl rfl (by simp only [go_sem, simprocAttr, eGraph, h1a, hbo, hpa, hpb, eObj] <;> exact rfl) (Flo.cons htt rfl rfl (by simp only [go_sem, simprocAttr, eGraph, h1a, hbo, hpa, hpb, eObj] <;> exact rfl) (Flo.cons htt rfl rfl (by simp only [go_sem, simprocAttr, eGraph, h1a, hbo, hpa, hpb, eObj] <;> exact rfl) (Flo.nil))))))))))))))))) (by decide) ?_ (by kernel_rfl) (by kernel_rfl) (fun u => by simp only [go_sem, simprocAttr, eGraph, h1a, hbo, hpa, hpb, eObj]; exact rfl) ?_
                · simp [go_sem, simprocAttr, eGraph, h1a, hbo, hpa, hpb, eObj]
                refine Mid.eop htt [78, 79, 80, 81, 82, 83, 84, 85, 86, 87, 88, 89, 90, 91, 92, 93] (Flo.cons htt rfl rfl (by simp only [go_sem, simprocAttr, eGraph, h1a, hbo, hpa, hpb, eObj] <;> exact rfl) (Flo.cons htt rfl rfl (by simp only [go_sem, simprocAttr, eGraph, h1a, hbo, hpa, hpb, eObj] <;> exact rfl) (Flo.cons htt rfl rfl (by simp only [go_sem, simprocAttr, eGraph, h1a, hbo, hpa, hpb, eObj] <;> exact rfl) (Flo.cons htt rfl rfl (by simp only [go_sem, simprocAttr, eGraph, h1a, hbo, hpa, hpb, eObj] <;> exact rfl) (Flo.st rfl (stab_callA (by have q := graph_Find up a x; have e : fnd (fun o => decide (o.Id = x)) a.O = (pa : Int) := h2a; rw [e] at q; exact q) (by simp only [go_sem, simprocAttr, eGraph, h1a, hbo, hpa, hpb, eObj]) (by simp only [go_sem, simprocAttr, eGraph, h1a, hbo, hpa, hpb, eObj] <;> exact rfl) (by simp only [go_sem, simprocAttr, eGraph, h1a, hbo, hpa, hpb, eObj]) (by simp only [go_sem, simprocAttr, eGraph, h1a, hbo, hpa, hpb, eObj])) (Flo.cons htt rfl rfl (by simp only [go_sem, simprocAttr, eGraph, h1a, hbo, hpa, hpb, eObj] <;> exact rfl) (Flo.cons htt rfl rfl (by simp only [go_sem, simprocAttr, eGraph, h1a, hbo, hpa, hpb, eObj] <;> exact rfl) (Flo.cons htt rfl rfl (by simp only [go_sem, simprocAttr, eGraph, h1a, hbo, hpa, hpb, eObj] <;> exact rfl) (Flo.cons htt rfl rfl (by simp only [go_sem, simprocAttr, eGraph, h1a, hbo, hpa, hpb, eObj] <;> exact rfl) (Flo.cons htt rfl rfl (by simp only [go_sem, simprocAttr, eGraph, h1a, hbo, hpa, hpb, eObj] <;> exact rfl) (Flo.cons htt rfl rfl (by simp only [go_sem, simprocAttr, eGraph, h1a, hbo, hpa, hpb, eObj] <;> exact rfl) (Flo.cons htt rfl rfl (by simp only [go_sem, simprocAttr, eGraph, h1a, hbo, hpa, hpb, eObj] <;> exact rfl) (Flo.st rfl (stab_callA (by have q := graph_Find up b x; have e : fnd (fun o => decide (o.Id = x)) b.O = (p : Int) := hfb; rw [e] at q; exact q) (by simp only [go_sem, simprocAttr, eGraph, h1a, hbo, hpa, hpb, eObj]) (by simp only [go_sem, simprocAttr, eGraph, h1a, hbo, hpa, hpb, eObj] <;> exact rfl) (by simp only [go_sem, simprocAttr, eGraph, h1a, hbo, hpa, hpb, eObj]) (by simp only [go_sem, simprocAttr, eGraph, h1a, hbo, hpa, hpb, eObj])) (Flo.cons htt rfl rfl (by simp only [go_sem, simprocAttr, eGraph, h1a, hbo, hpa, hpb, eObj] <;> exact rfl) (Flo.cons htt rfl rfl (by simp only [go_sem, simprocAttr, eGraph, h1a, hbo, hpa, hpb, eObj] <;> exact rfl) (Flo.cons htt rfl rfl (by simp only [go_sem, simprocAttr, eGraph, h1a, hbo, hpa, hpb, eObj] <;> exact rfl) (Flo.nil))))))))))))))))) (by decide) ?_ (by kernel_rfl) (by kernel_rfl) (fun u => by simp only [go_sem, simprocAttr, eGraph, h1a, hbo, hpa, hpb, eObj]; exact rfl) ?_
                · simp [go_sem, simprocAttr, eGraph, h1a, hbo, hpa, hpb, eObj]
                refine Mid.esto htt [78, 79, 80, 81, 82, 83, 84, 86, 87, 88, 89, 90, 91, 92, 93] (Flo.cons htt rfl rfl (by simp only [go_sem, simprocAttr, eGraph, h1a, hbo, hpa, hpb, eObj] <;> exact rfl) (Flo.cons htt rfl rfl (by simp only [go_sem, simprocAttr, eGraph, h1a, hbo, hpa, hpb, eObj] <;> exact rfl) (Flo.cons htt rfl rfl (by simp only [go_sem, simprocAttr, eGraph, h1a, hbo, hpa, hpb, eObj] <;> exact rfl) (Flo.cons htt rfl rfl (by simp only [go_sem, simprocAttr, eGraph, h1a, hbo, hpa, hpb, eObj] <;> exact rfl) (Flo.st rfl (stab_callA (by have q := graph_Find up a x; have e : fnd (fun o => decide (o.Id = x)) a.O = (pa : Int) := h2a; rw [e] at q; exact q) (by simp only [go_sem, simprocAttr, eGraph, h1a, hbo, hpa, hpb, eObj]) (by simp only [go_sem, simprocAttr, eGraph, h1a, hbo, hpa, hpb, eObj] <;> exact rfl) (by simp only [go_sem, simprocAttr, eGraph, h1a, hbo, hpa, hpb, eObj]) (by simp only [go_sem, simprocAttr, eGraph, h1a, hbo, hpa, hpb, eObj])) (Flo.cons htt rfl rfl (by simp only [go_sem, simprocAttr, eGraph, h1a, hbo, hpa, hpb, eObj] <;> exact rfl) (Flo.cons htt rfl rfl (by simp only [go_sem, simprocAttr, eGraph, h1a, hbo, hpa, hpb, eObj] <;> exact rfl) (Flo.cons htt rfl rfl (by simp only [go_sem, simprocAttr, eGraph, h1a, hbo, hpa, hpb, eObj] <;> exact rfl) (Flo.cons htt rfl rfl (by simp only [go_sem, simprocAttr, eGraph, h1a, hbo, hpa, hpb, eObj] <;> exact rfl) (Flo.cons htt rfl rfl (by simp only [go_sem, simprocAttr, eGraph, h1a, hbo, hpa, hpb, eObj] <;> exact rfl) (Flo.cons htt rfl rfl (by simp only [go_sem, simprocAttr, eGraph, h1a, hbo, hpa, hpb, eObj] <;> exact rfl) (Flo.cons htt rfl rfl (by simp only [go_sem, simprocAttr, eGraph, h1a, hbo, hpa, hpb, eObj] <;> exact rfl) (Flo.st rfl (stab_callA (by have q := graph_Find up b x; have e : fnd (fun o => decide (o.Id = x)) b.O = (p : Int) := hfb; rw [e] at q; exact q) (by simp only [go_sem, simprocAttr, eGraph, h1a, hbo, hpa, hpb, eObj]) (by simp only [go_sem, simprocAttr, eGraph, h1a, hbo, hpa, hpb, eObj] <;> exact rfl) (by simp only [go_sem, simprocAttr, eGraph, h1a, hbo, hpa, hpb, eObj]) (by simp only [go_sem, simprocAttr, eGraph, h1a, hbo, hpa, hpb, eObj])) (Flo.cons htt rfl rfl (by simp only [go_sem, simprocAttr, eGraph, h1a, hbo, hpa, hpb, eObj] <;> exact rfl) (Flo.cons htt rfl rfl (by simp only [go_sem, simprocAttr, eGraph, h1a, hbo, hpa, hpb, eObj] <;> exact rfl) (Flo.cons htt rfl rfl (by simp only [go_sem, simprocAttr, eGraph, h1a, hbo, hpa, hpb, eObj] <;> exact rfl) (Flo.nil))))))))))))))))) (by kernel_rfl) (by kernel_rfl) (fun u => by simp only [go_sem, simprocAttr, eGraph, h1a, hbo, hpa, hpb, eObj]; exact rfl) ?_
                refine Mid.done (Flo.cons htt rfl rfl (by simp only [go_sem, simprocAttr, eGraph, h1a, hbo, hpa, hpb, eObj] <;> exact rfl) (Flo.cons htt rfl rfl (by simp only [go_sem, simprocAttr, eGraph, h1a, hbo, hpa, hpb, eObj] <;> exact rfl) (Flo.cons htt rfl rfl (by simp only [go_sem, simprocAttr, eGraph, h1a, hbo, hpa, hpb, eObj] <;> exact rfl) (Flo.cons htt rfl rfl (by simp only [go_sem, simprocAttr, eGraph, h1a, hbo, hpa, hpb, eObj] <;> exact rfl) (Flo.st rfl (stab_callA (by have q := graph_Find up a x; have e : fnd (fun o => decide (o.Id = x)) a.O = (pa : Int) := h2a; rw [e] at q; exact q) (by simp only [go_sem, simprocAttr, eGraph, h1a, hbo, hpa, hpb, eObj]) (by simp only [go_sem, simprocAttr, eGraph, h1a, hbo, hpa, hpb, eObj] <;> exact rfl) (by simp only [go_sem, simprocAttr, eGraph, h1a, hbo, hpa, hpb, eObj]) (by simp only [go_sem, simprocAttr, eGraph, h1a, hbo, hpa, hpb, eObj])) (Flo.cons htt rfl rfl (by simp only [go_sem, simprocAttr, eGraph, h1a, hbo, hpa, hpb, eObj] <;> exact rfl) (Flo.cons htt rfl rfl (by simp only [go_sem, simprocAttr, eGraph, h1a, hbo, hpa, hpb, eObj] <;> exact rfl) (Flo.cons htt rfl rfl (by simp only [go_sem, simprocAttr, eGraph, h1a, hbo, hpa, hpb, eObj] <;> exact rfl) (Flo.cons htt rfl rfl (by simp only [go_sem, simprocAttr, eGraph, h1a, hbo, hpa, hpb, eObj] <;> exact rfl) (Flo.cons htt rfl rfl (by simp only [go_sem, simprocAttr, eGraph, h1a, hbo, hpa, hpb, eObj] <;> exact rfl) (Flo.cons htt rfl rfl (by simp only [go_sem, simprocAttr, eGraph, h1a, hbo, hpa, hpb, eObj] <;> exact rfl) (Flo.cons htt rfl rfl (by simp only [go_sem, simprocAttr, eGraph, h1a, hbo, hpa, hpb, eObj] <;> exact rfl) (Flo.st rfl (stab_callA (by have q := graph_Find up b x; have e : fnd (fun o => decide (o.Id = x)) b.O = (p : Int) := hfb; rw [e] at q; exact q) (by simp only [go_sem, simprocAttr, eGraph, h1a, hbo, hpa, hpb, eObj]) (by simp only [go_sem, simprocAttr, eGraph, h1a, hbo, hpa, hpb, eObj] <;> exact rfl) (by simp only [go_sem, simprocAttr, eGraph, h1a, hbo, hpa, hpb, eObj]) (by simp only [go_sem, simprocAttr, eGraph, h1a, hbo, hpa, hpb, eObj])) (Flo.cons htt rfl rfl (by simp only [go_sem, simprocAttr, eGraph, h1a, hbo, hpa, hpb, eObj] <;> exact rfl) (Flo.cons htt rfl rfl (by simp only [go_sem, simprocAttr, eGraph, h1a, hbo, hpa, hpb, eObj] <;> exact rfl) (Flo.cons htt rfl rfl (by simp only [go_sem, simprocAttr, eGraph, h1a, hbo, hpa, hpb, eObj] <;> exact rfl) (Flo.nil))))))))))))))))) ?_
                refine CWops.run htt 1 (by simp only [go_sem, simprocAttr, eGraph, h1a, hbo, hpa, hpb, eObj]; exact rfl) (by simp [go_sem, simprocAttr, eGraph, h1a, hbo, hpa, hpb, eObj]) (.done ?_)
                refine ⟨rfl, ?_⟩
                first | (refine Sh.wk0 ?_; simp [Wk, go_sem, simprocAttr, eGraph]; done) | (refine Sh.wk (fun x => if x = 6 then 7 else if x = 7 then 6 else x) ?_; simp [Wk, go_sem, simprocAttr, eGraph])
              · refine AnyOK.drawnP0 [0, 1, 2, 3, 4, 5, 6, 7, 8, 9, 10, 11, 12, 13, 14, 15, 17, 16, 18, 19] 16 19 [0, 1, 2, 3, 4, 5, 6, 7, 8, 9, 10, 11, 12, 13, 14, 15] (D := [78, 79, 80, 81, 82, 83, 84, 85, 86, 87, 88, 89, 90, 91, 92, 93]) (by simp only [addE_zero, addE_succ, List.toList_toArray, permL_mk, nthO_zero, nthO_succ, renO_mk, List.map_cons, List.map_nil, go_sem, simprocAttr]; exact rfl) (by kernel_rfl) (by decide) (by decide) (by kernel_rfl) (by kernel_rfl) rfl (by kernel_rfl) ?_
                refine Seg.run htt 4 (by simp only [go_sem, simprocAttr, eGraph, h1a, hbo, hpa, hpb, eObj]; exact rfl) ?_
                refine Seg.callA ((by have q := graph_Find up a x; have e : fnd (fun o => decide (o.Id = x)) a.O = (pa : Int) := h2a; rw [e] at q; exact q)) (by simp only [go_sem, simprocAttr, eGraph, h1a, hbo, hpa, hpb, eObj]) (by simp only [go_sem, simprocAttr, eGraph, h1a, hbo, hpa, hpb, eObj] <;> exact rfl) (by simp only [go_sem, simprocAttr, eGraph, h1a, hbo, hpa, hpb, eObj]) (by simp only [go_sem, simprocAttr, eGraph, h1a, hbo, hpa, hpb, eObj]) ?_
                refine Seg.run htt 7 (by simp only [go_sem, simprocAttr, eGraph, h1a, hbo, hpa, hpb, eObj]; exact rfl) ?_
                refine Seg.callA ((by have q := graph_Find up b x; have e : fnd (fun o => decide (o.Id = x)) b.O = (p : Int) := hfb; rw [e] at q; exact q)) (by simp only [go_sem, simprocAttr, eGraph, h1a, hbo, hpa, hpb, eObj]) (by simp only [go_sem, simprocAttr, eGraph, h1a, hbo, hpa, hpb, eObj] <;> exact rfl) (by simp only [go_sem, simprocAttr, eGraph, h1a, hbo, hpa, hpb, eObj]) (by simp only [go_sem, simprocAttr, eGraph, h1a, hbo, hpa, hpb, eObj]) ?_
                refine Seg.run htt 3 (by simp only [go_sem, simprocAttr, eGraph, h1a, hbo, hpa, hpb, eObj]; exact rfl) ?_
                refine Seg.done ⟨rfl, ?_⟩
                refine Mid.eop htt [78, 79, 80, 81, 82, 83, 84, 85, 86, 87, 88, 89, 90, 91, 92, 93] (Flo.cons htt rfl rfl (by simp only [go_sem, simprocAttr, eGraph, h1a, hbo, hpa, hpb, eObj] <;> exact rfl) (Flo.cons htt rfl rfl (by simp only [go_sem, simprocAttr, eGraph, h1a, hbo, hpa, hpb, eObj] <;> exact rfl) (Flo.cons htt rfl rfl (by simp only [go_sem, simprocAttr, eGraph, h1a, hbo, hpa, hpb, eObj] <;> exact rfl) (Flo.cons htt rfl rfl (by simp only [go_sem, simprocAttr, eGraph, h1a, hbo, hpa, hpb, eObj] <;> exact rfl) (Flo.st rfl (stab_callA (by have q := graph_Find up a x; have e : fnd (fun o => decide (o.Id = x)) a.O = (pa : Int) := h2a; rw [e] at q; exact q) (by simp only [go_sem, simprocAttr, eGraph, h1a, hbo, hpa, hpb, eObj]) (by simp only [go_sem, simprocAttr, eGraph, h1a, hbo, hpa, hpb, eObj] <;> exact rfl) (by simp only [go_sem, simprocAttr, eGraph, h1a, hbo, hpa, hpb, eObj]) (by simp only [go_sem, simprocAttr, eGraph, h1a, hbo, hpa, hpb, eObj])) (Flo.cons htt rfl rfl (by simp only [go_sem, simprocAttr, eGraph, h1a, hbo, hpa, hpb, eObj] <;> exact rfl) (Flo.cons htt rfl rfl (by simp only [go_sem, simprocAttr, eGraph, h1a, hbo, hpa, hpb, eObj] <;> exact rfl) (Flo.cons htt rfl rfl (by simp only [go_sem, simprocAttr, eGraph, h1a, hbo, hpa, hpb, eObj] <;> exact rfl) (Flo.cons htt rfl rfl (by simp only [go_sem, simprocAttr, eGraph, h1a, hbo, hpa, hpb, eObj] <;> exact rfl) (Flo.cons htt rfl rfl (by simp only [go_sem, simprocAttr, eGraph, h1a, hbo, hpa, hpb, eObj] <;> exact rfl) (Flo.cons htt rfl rfl (by simp only [go_sem, simprocAttr, eGraph, h1a, hbo, hpa, hpb, eObj] <;> exact rfl) (Flo.cons htt rfl rfl (by simp only [go_sem, simprocAttr, eGraph, h1a, hbo, hpa, hpb, eObj] <;> exact rfl) (Flo.st rfl (stab_callA (by have q := graph_Find up b x; have e : fnd (fun o => decide (o.Id = x)) b.O = (p : Int) := hfb; rw [e] at q; exact q) (by simp only [go_sem, simprocAttr, eGraph, h1a, hbo, hpa, hpb, eObj]) (by simp only [go_sem, simprocAttr, eGraph, h1a, hbo, hpa, hpb, eObj] <;> exact rfl) (by simp only [go_sem, simprocAttr, eGraph, h1a, hbo, hpa, hpb, eObj]) (by simp only [go_sem, simprocAttr, eGraph, h1a, hbo, hpa, hpb, eObj])) (Flo.cons htt rfl rfl (by simp only [go_sem, simprocAttr, eGraph, h1a, hbo, hpa, hpb, eObj] <;> exact rfl) (Flo.cons htt rfl rfl (by simp only [go_sem, simprocAttr, eGraph, h1a, hbo, hpa, hpb, eObj] <;> exact rfl) (Flo.cons htt rfl rfl (by simp only [go_sem, simprocAttr, eGraph, h1a, hbo, hpa, hpb, eObj] <;> exact rfl) (Flo.nil))))))))))))))))) (by decide) ?_ (by kernel_rfl) (by kernel_rfl) (fun u => by simp only [go_sem, simprocAttr, eGraph, h1a, hbo, hpa, hpb, eObj]; exact rfl) ?_
                · simp [go_sem, simprocAttr, eGraph, h1a, hbo, hpa, hpb, eObj]
                refine Mid.eop htt [78, 79, 80, 81, 82, 83, 84, 85, 86, 87, 88, 89, 90, 91, 92, 93] (Flo.cons htt rfl rfl (by simp only [go_sem, simprocAttr, eGraph, h1a, hbo, hpa, hpb, eObj] <;> exact rfl) (Flo.cons htt rfl rfl (by simp only [go_sem, simprocAttr, eGraph, h1a, hbo, hpa, hpb, eObj] <;> exact rfl) (Flo.cons htt rfl rfl (by simp only [go_sem, simprocAttr, eGraph, h1a, hbo, hpa, hpb, eObj] <;> exact rfl) (Flo.cons htt rfl rfl (by simp only [go_sem, simprocAttr, eGraph, h1a, hbo, hpa, hpb, eObj] <;> exact rfl) (Flo.st rfl (stab_callA (by have q := graph_Find up a x; have e : fnd (fun o => decide (o.Id = x)) a.O = (pa : Int) := h2a; rw [e] at q; exact q) (by simp only [go_sem, simprocAttr, eGraph, h1a, hbo, hpa, hpb, eObj]) (by simp only [go_sem, simprocAttr, eGraph, h1a, hbo, hpa, hpb, eObj] <;> exact rfl) (by simp only [go_sem, simprocAttr, eGraph, h1a, hbo, hpa, hpb, eObj]) (by simp only [go_sem, simprocAttr, eGraph, h1a, hbo, hpa, hpb, eObj])) (Flo.cons htt rfl rfl (by simp only [go_sem, simprocAttr, eGraph, h1a, hbo, hpa, hpb, eObj] <;> exact rfl) (Flo.cons htt rfl rfl (by simp only [go_sem, simprocAttr, eGraph, h1a, hbo, hpa, hpb, eObj] <;> exact rfl) (Flo.cons htt rfl rfl (by simp only [go_sem, simprocAttr, eGraph, h1a, hbo, hpa, hpb, eObj] <;> exact rfl) (Flo.cons htt rfl rfl (by simp only [go_sem, simprocAttr, eGraph, h1a, hbo, hpa, hpb, eObj] <;> exact rfl) (Flo.cons htt rfl rfl (by simp only [go_sem, simprocAttr, eGraph, h1a, hbo, hpa, hpb, eObj] <;> exact rfl) (Flo.cons htt rfl rfl (by simp only [go_sem, simprocAttr, eGraph, h1a, hbo, hpa, hpb, eObj] <;> exact rfl) (Flo.cons htt rfl rfl (by simp only [go_sem, simprocAttr, eGraph, h1a, hbo, hpa, hpb, eObj] <;> exact rfl) (Flo.st rfl (stab_callA (by have q := graph_Find up b x; have e : fnd (fun o => decide (o.Id = x)) b.O = (p : Int) := hfb; rw [e] at q; exact q) (by simp only [go_sem, simprocAttr, eGraph, h1a, hbo, hpa, hpb, eObj]) (by simp only [go_sem, simprocAttr, eGraph, h1a, hbo, hpa, hpb, eObj] <;> exact rfl) (by simp only [go_sem, simprocAttr, eGraph, h1a, hbo, hpa, hpb, eObj]) (by simp only [go_sem, simprocAttr, eGraph, h1a, hbo, hpa, hpb, eObj])) (Flo.cons htt rfl rfl (by simp only [go_sem, simprocAttr, eGraph, h1a, hbo, hpa, hpb, eObj] <;> exact rfl) (Flo.cons htt rfl rfl (by simp only [go_sem, simprocAttr, eGraph, h1a, hbo, hpa, hpb, eObj] <;> exact rfl) (Flo.cons htt rfl rfl (by simp only [go_sem, simprocAttr, eGraph, h1a, hbo, hpa, hpb, eObj] <;> exact rfl) (Flo.nil))))))))))))))))) (by decide) ?_ (by kernel_rfl) (by kernel_rfl) (fun u => by simp only [go_sem, simprocAttr, eGraph, h1a, hbo, hpa, hpb, eObj]; exact rfl) ?_
                · simp [go_sem, simprocAttr, eGraph, h1a, hbo, hpa, hpb, eObj]
                refine Mid.esto htt [78, 79, 80, 81, 82, 83, 84, 86, 87, 88, 89, 90, 91, 92, 93] (Flo.cons htt rfl rfl (by simp only [go_sem, simprocAttr, eGraph, h1a, hbo, hpa, hpb, eObj] <;> exact rfl) (Flo.cons htt rfl rfl (by simp only [go_sem, simprocAttr, eGraph, h1a, hbo, hpa, hpb, eObj] <;> exact rfl) (Flo.cons htt rfl rfl (by simp only [go_sem, simprocAttr, eGraph, h1a, hbo, hpa, hpb, eObj] <;> exact rfl) (Flo.cons htt rfl rfl (by simp only [go_sem, simprocAttr, eGraph, h1a, hbo, hpa, hpb, eObj] <;> exact rfl) (Flo.st rfl (stab_callA (by have q := graph_Find up a x; have e : fnd (fun o => decide (o.Id = x)) a.O = (pa : Int) := h2a; rw [e] at q; exact q) (by simp only [go_sem, simprocAttr, eGraph, h1a, hbo, hpa, hpb, eObj]) (by simp only [go_sem, simprocAttr, eGraph, h1a, hbo, hpa, hpb, eObj] <;> exact rfl) (by simp only [go_sem, simprocAttr, eGraph, h1a, hbo, hpa, hpb, eObj]) (by simp only [go_sem, simprocAttr, eGraph, h1a, hbo, hpa, hpb, eObj])) (Flo.cons htt rfl rfl (by simp only [go_sem, simprocAttr, eGraph, h1a, hbo, hpa, hpb, eObj] <;> exact rfl) (Flo.cons htt rfl rfl (by simp only [go_sem, simprocAttr, eGraph, h1a, hbo, hpa, hpb, eObj] <;> exact rfl) (Flo.cons htt rfl rfl (by simp only [go_sem, simprocAttr, eGraph, h1a, hbo, hpa, hpb, eObj] <;> exact rfl) (Flo.cons htt rfl rfl (by simp only [go_sem, simprocAttr, eGraph, h1a, hbo, hpa, hpb, eObj] <;> exact rfl) (Flo.cons htt rfl rfl (by simp only [go_sem, simprocAttr, eGraph, h1a, hbo, hpa, hpb, eObj] <;> exact rfl) (Flo.cons htt rfl rfl (by simp only [go_sem, simprocAttr, eGraph, h1a, hbo, hpa, hpb, eObj] <;> exact rfl) (Flo.cons htt rfl rfl (by simp only [go_sem, simprocAttr, eGraph, h1a, hbo, hpa, hpb, eObj] <;> exact rfl) (Flo.st rfl (stab_callA (by have q := graph_Find up b x; have e : fnd (fun o => decide (o.Id = x)) b.O = (p : Int) := hfb; rw [e] at q; exact q) (by simp only [go_sem, simprocAttr, eGraph, h1a, hbo, hpa, hpb, eObj]) (by simp only [go_sem, simprocAttr, eGraph, h1a, hbo, hpa, hpb, eObj] <;> exact rfl) (by simp only [go_sem, simprocAttr, eGraph, h1a, hbo, hpa, hpb, eObj]) (by simp only [go_sem, simprocAttr, eGraph, h1a, hbo, hpa, hpb, eObj])) (Flo.cons htt rfl rfl (by simp only [go_sem, simprocAttr, eGraph, h1a, hbo, hpa, hpb, eObj] <;> exact rfl) (Flo.cons htt rfl rfl (by simp only [go_sem, simprocAttr, eGraph, h1a, hbo, hpa, hpb, eObj] <;> exact rfl) (Flo.cons htt rfl rfl (by simp only [go_sem, simprocAttr, eGraph, h1a, hbo, hpa, hpb, eObj] <;> exact rfl) (Flo.nil))))))))))))))))) (by kernel_rfl) (by kernel_rfl) (fun u => by simp only [go_sem, simprocAttr, eGraph, h1a, hbo, hpa, hpb, eObj]; exact rfl) ?_
                refine Mid.done (Flo.cons htt rfl rfl (by simp only [go_sem, simprocAttr, eGraph, h1a, hbo, hpa, hpb, eObj] <;> exact rfl) (Flo.cons htt rfl rfl (by simp only [go_sem, simprocAttr, eGraph, h1a, hbo, hpa, hpb, eObj] <;> exact rfl) (Flo.cons htt rfl rfl (by simp only [go_sem, simprocAttr, eGraph, h1a, hbo, hpa, hpb, eObj] <;> exact rfl) (Flo.cons htt rfl rfl (by simp only [go_sem, simprocAttr, eGraph, h1a, hbo, hpa, hpb, eObj] <;> exact rfl) (Flo.st rfl (stab_callA (by have q := graph_Find up a x; have e : fnd (fun o => decide (o.Id = x)) a.O = (pa : Int) := h2a; rw [e] at q; exact q) (by simp only [go_sem, simprocAttr, eGraph, h1a, hbo, hpa, hpb, eObj]) (by simp only [go_sem, simprocAttr, eGraph, h1a, hbo, hpa, hpb, eObj] <;> exact rfl) (by simp only [go_sem, simprocAttr, eGraph, h1a, hbo, hpa, hpb, eObj]) (by simp only [go_sem, simprocAttr, eGraph, h1a, hbo, hpa, hpb, eObj])) (Flo.cons htt rfl rfl (by simp only [go_sem, simprocAttr, eGraph, h1a, hbo, hpa, hpb, eObj] <;> exact rfl) (Flo.cons htt rfl rfl (by simp only [go_sem, simprocAttr, eGraph, h1a, hbo, hpa, hpb, eObj] <;> exact rfl) (Flo.cons htt rfl rfl (by simp only [go_sem, simprocAttr, eGraph, h1a, hbo, hpa, hpb, eObj] <;> exact rfl) (Flo.cons htt rfl rfl (by simp only [go_sem, simprocAttr, eGraph, h1a, hbo, hpa, hpb, eObj] <;> exact rfl) (Flo.cons htt rfl rfl (by simp only [go_sem, simprocAttr, eGraph, h1a, hbo, hpa, hpb, eObj] <;> exact rfl) (Flo.cons htt rfl rfl (by simp only [go_sem, simprocAttr, eGraph, h1a, hbo, hpa, hpb, eObj] <;> exact rfl) (Flo.cons htt rfl rfl (by simp only [go_sem, simprocAttr, eGraph, h1a, hbo, hpa, hpb, eObj] <;> exact rfl) (Flo.st rfl (stab_callA (by have q := graph_Find up b x; have e : fnd (fun o => decide (o.Id = x)) b.O = (p : Int) := hfb; rw [e] at q; exact q) (by simp only [go_sem, simprocAttr, eGraph, h1a, hbo, hpa, hpb, eObj]) (by simp only [go_sem, simprocAttr, eGraph, h1a, hbo, hpa, hpb, eObj] <;> exact rfl) (by simp only [go_sem, simprocAttr, eGraph, h1a, hbo, hpa, hpb, eObj]) (by simp only [go_sem, simprocAttr, eGraph, h1a, hbo, hpa, hpb, eObj])) (Flo.cons htt rfl rfl (by simp only [go_sem, simprocAttr, eGraph, h1a, hbo, hpa, hpb, eObj] <;> exact rfl) (Flo.cons htt rfl rfl (by simp only [go_sem, simprocAttr, eGraph, h1a, hbo, hpa, hpb, eObj] <;> exact rfl) (Flo.cons htt rfl rfl (by simp only [go_sem, simprocAttr, eGraph, h1a, hbo, hpa, hpb, eObj] <;> exact rfl) (Flo.nil))))))))))))))))) ?_
                refine CWops.run htt 1 (by simp only [go_sem, simprocAttr, eGraph, h1a, hbo, hpa, hpb, eObj]; exact rfl) (by simp [go_sem, simprocAttr, eGraph, h1a, hbo, hpa, hpb, eObj]) (.done ?_)
                refine ⟨rfl, ?_⟩
                first | (refine Sh.wk0 ?_; simp [Wk, go_sem, simprocAttr, eGraph]; done) | (refine Sh.wk (fun x => if x = 6 then 7 else if x = 7 then 6 else x) ?_; simp [Wk, go_sem, simprocAttr, eGraph])
            refine CW.seq (.rg (.run htt 3 (by simp only [go_sem, simprocAttr, hL, Option.getD_some]; exact rfl) (by simp [go_sem, simprocAttr, hL, Option.getD_some]) (.done ?_)))
            refine CW.sh (Sh.frzB 6 rfl rfl rfl) ?_
            simp only [go_sem, simprocAttr, eGraph, mapT, mapS, frzF, List.map_cons, List.map_nil, delS]
            refine CW.sh (Sh.frzB 7 rfl rfl rfl) ?_
            simp only [go_sem, simprocAttr, eGraph, mapT, mapS, frzF, List.map_cons, List.map_nil, delS]
            refine CW.rg (.rn htt 3 ?_)
            refine CWops.callA (delta_dropped up (cellsOf K) (by unfold cellsOf; rw [cellsFrom_len]; omega) (fun c => decide (oa.F[c.F.toNat]? = o.F[c.F.toNat]?)) 30 [.fp [.sl 3 (oa.F.map eVal)], .fp [.sl 3 (o.F.map eVal)]] rfl (make_sames up (by omega) (by omega))) (by simp only [go_sem, simprocAttr]) (by simp only [go_sem, simprocAttr] <;> exact rfl) (by simp only [go_sem, simprocAttr]) (by simp only [go_sem, simprocAttr]) (fun rt99 hrt99 => ?_)
            subst hrt99
            refine CWops.rn htt 2 (.done ?_)
            refine CW.rg ?_
            refine CWops.run htt 7 (by simp only [go_sem, simprocAttr]; exact rfl) (by first | (simp [go_sem, simprocAttr]; done) | (simp [go_sem, simprocAttr]; unfold MX; omega) | (simp [go_sem, simprocAttr, eItem]; refine ⟨fun r hr c hc => ?_, ?_, ?_⟩ <;> first | (unfold MX; omega) | skip)) ?_
            refine CWops.done ?_
            refine CW.rg (.run htt 2 (by simp only [go_sem, simprocAttr, wrap_succ (show i < MX by unfold MX; omega)]; exact rfl) (by simp [go_sem, simprocAttr, wrap_succ (show i < MX by unfold MX; omega)]) (.done ?_))
            refine ⟨i + 1, ?_, ?_, ?_⟩
            · refine Sh.wk0 ?_; simp [Wk, go_sem, simprocAttr, take_snoc hg, hit, eItem, eGraph]
            · exact hi
            · simp only; omega
          · obtain ⟨hL, hit⟩ := hfacts.resolve_right (fun ⟨n, pa, oa, hL, _⟩ => by rw [hL] at ct77; cases ct77)
            refine CW.skip ?_
            refine CW.rg ?_
            refine CWops.run htt 7 (by simp only [go_sem, simprocAttr]; exact rfl) (by first | (simp [go_sem, simprocAttr]; done) | (simp [go_sem, simprocAttr]; unfold MX; omega) | (simp [go_sem, simprocAttr, eItem]; refine ⟨fun r hr c hc => ?_, ?_, ?_⟩ <;> first | (unfold MX; omega) | skip)) ?_
            refine CWops.done ?_
            refine CW.rg (.run htt 2 (by simp only [go_sem, simprocAttr, wrap_succ (show i < MX by unfold MX; omega)]; exact rfl) (by simp [go_sem, simprocAttr, wrap_succ (show i < MX by unfold MX; omega)]) (.done ?_))
            refine ⟨i + 1, ?_, ?_, ?_⟩
            · refine Sh.wk0 ?_; simp [Wk, go_sem, simprocAttr, take_snoc hg, hit, eItem, eGraph]
            · exact hi
            · simp only; omega
        · have hi : i = (order b).length := by simp at ct54; omega
          refine CW.exit ?_
          refine CW.seq (.rg (.rn htt 3 (.done ?_)))
          refine CW.ret ?_
          refine retQ.rt (by simp only [f7, go_sem, simprocAttr]; exact rfl) ?_
          refine ⟨_, ?_, rfl⟩
          have e : gMake a b = (⟨(gSum a).1, (canonG b).Roots, List.zipWith (mkItem a b) (canonG b).O (order b)⟩, 0) := by unfold gMake; rw [if_neg (by rw [hM]; simp), if_neg (by rw [hK]; simp), if_neg (by rw [hS]; simp)]
          have e2 : (List.zipWith (mkItem a b) (canonG b).O (order b)).take (order b).length = List.zipWith (mkItem a b) (canonG b).O (order b) := List.take_of_length_le (by rw [hil]; exact Nat.le_refl _)
          rw [hi, e]
          simp only [e2]
          generalize List.zipWith (mkItem a b) (canonG b).O (order b) = L
          simp [leP, leL, eDelta, frz_Item]
          first | done | exact leP_refl _ | exact leP_refl.leL_refl _
end Go.Ab
namespace Go.Ab
open Go Go.Proofs.Tryz Go.RowKit
set_option maxRecDepth 100000
@[go_sem] theorem tt_86 : tiOf prog 86 = some ⟨.struct [(28, 0), (60, 3)], 4, 80, [.nilsl, .nilsl, .nilsl, .nilmap], true⟩ := by kernel_rfl
@[go_sem] theorem tt_84 : tiOf prog 84 = some ⟨.ptr 86, 1, 8, [.nilp], false⟩ := by kernel_rfl
def mixW (φ : GField → GVal → GVal) (fs : List GField) (vs : List GVal) (k : Nat) : List GVal := List.zipWith (φ) (fs.take k) (vs.take k) ++ vs.drop k
theorem mixW_zero (φ : GField → GVal → GVal) (fs : List GField) (vs : List GVal) : mixW φ fs vs 0 = vs := by simp [mixW]
theorem mixW_all (φ : GField → GVal → GVal) (fs : List GField) (vs : List GVal) (h : vs.length = fs.length) : mixW φ fs vs fs.length = List.zipWith (φ) fs vs := by
  unfold mixW
  rw [List.take_length, List.take_of_length_le (by omega), List.drop_eq_nil_of_le (by omega), List.append_nil]
theorem mixW_get {φ : GField → GVal → GVal} {fs : List GField} {vs : List GVal} {k : Nat} {v : GVal} (h : vs.length = fs.length) (hv : vs[k]? = some v) : (mixW φ fs vs k)[k]? = some v := by
  have hlt := (List.getElem?_eq_some_iff.1 hv).1
  unfold mixW
  rw [List.getElem?_append_right (by simp; omega)]
  simp only [List.length_zipWith, List.length_take]
  rw [show k - min (min k fs.length) (min k vs.length) = 0 by omega, List.getElem?_drop]
  exact hv
theorem mixW_succ {φ : GField → GVal → GVal} {fs : List GField} {vs : List GVal} {k : Nat} {f : GField} {v : GVal} (hf : fs[k]? = some f) (hv : vs[k]? = some v) : mixW φ fs vs (k + 1) = (mixW φ fs vs k).set k (φ f v) := by
  have h1 := (List.getElem?_eq_some_iff.1 hf).1
  have h2 := (List.getElem?_eq_some_iff.1 hv).1
  have hd : vs.drop k = v :: vs.drop (k + 1) := by
    rw [List.drop_eq_getElem_cons h2]; congr 1; exact (List.getElem?_eq_some_iff.1 hv).2
  unfold mixW
  rw [hd, List.take_add_one, List.take_add_one, hf, hv]
  simp only [Option.toList_some]
  rw [List.zipWith_append (by simp; omega)]
  rw [List.set_append_right _ _ (by simp; omega)]
  simp only [List.length_zipWith, List.length_take]
  rw [show k - min (min k fs.length) (min k vs.length) = 0 by omega]
  simp
theorem mixW_no {φ : GField → GVal → GVal} {fs : List GField} {vs : List GVal} {k : Nat} {f : GField} {v : GVal} (h : vs.length = fs.length) (hf : fs[k]? = some f) (hv : vs[k]? = some v) (hk : φ f v = v) : mixW φ fs vs (k + 1) = mixW φ fs vs k := by
  rw [mixW_succ hf hv, hk, set_same (mixW_get h hv)]
def keepF (tf : Int → Int) (f : GField) (v : GVal) : GVal := if f.Kind = 5 ∧ v.R ≠ -1 then { v with R := tf v.R } else v
def TfOK (M : List (Int × AV)) (tf : Int → Int) : Prop := ∀ r, (∃ k, maplk M r = some (.int .i64 k) ∧ tf r = k) ∨ (maplk M r = none ∧ tf r = 1073741825)
theorem maker_kept (up : Bool) (c : Graph) (M : List (Int × AV)) (tf : Int → Int) (hM : TfOK M tf) (m : Nat) (o : GObj) (t : GType) (q : Nat) (ho : c.O[m]? = some o) (hq : o.T = (q : Int)) (ht : c.S[q]? = some t) (hlen : o.F.length = t.F.length) (h5 : t.F.length ≤ 5) : GCall prog up 132 [.lv 0 [] 0, .int .i64 m] 1 [(0, ⟨true, [.sl 2 (c.S.map eType), .sl 3 (c.O.map eObj), .sl 1 (c.Roots.map eI), .omap M]⟩)] (fun r σ' => r = .ref 1 [] 0 ∧ ∃ t', σ' = ⟨2, t', [(0, ⟨true, [.sl 2 (c.S.map eType), .sl 3 (c.O.map eObj), .sl 1 (c.Roots.map eI), .omap M]⟩), (1, ⟨false, [.own 3 ((List.zipWith (keepF tf) t.F o.F).map eVal)]⟩)]⟩) := by
  refine GCall.intro htt 1 func132 (by kernel_rfl) rfl (Nat.le_of_ble_eq_true rfl) (CW.told ?_)
  obtain ⟨oi, oT, oF⟩ := o
  simp only at hq hlen
  subst hq
  have hm := (List.getElem?_eq_some_iff.1 ho).1
  have hqs := (List.getElem?_eq_some_iff.1 ht).1
  simp only [tmps0, Nat.reduceAdd]
  refine CW.seq (.rg (.rn htt 1 (.done ?_)))
  refine CW.seq (.rg (.run htt 10 (by simp only [go_sem, simprocAttr, ho, hm, eObj]; exact rfl) (by simp [go_sem, simprocAttr, ho, hm, eObj]) (.done ?_)))
  refine CW.seq (.rg (.run htt 2 (by simp only [go_sem, simprocAttr, eObj]; exact rfl) (by simp [go_sem, simprocAttr, eObj]) ?_))
  refine CWops.callG [] rfl (clone_ValG up oF (by unfold MX; omega)) (by simp only [go_sem, simprocAttr]) (by simp only [go_sem, simprocAttr] <;> exact rfl) (by decide) (by simp [go_sem, simprocAttr, mName, memB]) (by simp [go_sem, simprocAttr, mName]) (by simp [go_sem, simprocAttr]) (by simp [go_sem, simprocAttr]) (by simp [go_sem, simprocAttr, mName]) (fun r σ' hσ => ?_)
  obtain ⟨σn, σt, σs⟩ := σ'
  simp only at hσ
  obtain ⟨rfl, rfl, rfl⟩ := hσ
  simp only [aftS, renS, delAll, memB, mName, List.getD_nil, killH, kref, ren, Nat.beq_eq, go_sem, simprocAttr]
  refine CWops.run htt 1 (by simp only [go_sem, simprocAttr, eObj]; exact rfl) (by simp [go_sem, simprocAttr, eObj]) (.done ?_)
  refine CW.seq (.seq ?_)
  refine CW.drawn mixed 13 (by decide) (by kernel_rfl) (by kernel_rfl) (by kernel_rfl) ?_
  refine Seg.run htt 13 (by simp only [go_sem, simprocAttr, eObj, ht, hqs, eType]; exact rfl) ?_
  refine Seg.done ?_
  refine CWops.run htt 1 (by simp only [go_sem, simprocAttr, eObj, ht, hqs, eType]; exact rfl) (by simp) ?_
  refine CWops.done ?_
  refine CW.block ?_
  refine CW.loop (S := Nat) (fun k => ⟨3, [(0, .lv 0 [] 0), (5, .lv 1 [] 0), (6, .ref 2 [] 0), (32, .sl 3 (t.F.map eField)), (33, .int .i64 t.F.length), (34, .int .i64 k)], [(0, ⟨true, [.sl 2 (c.S.map eType), .sl 3 (c.O.map eObj), .sl 1 (c.Roots.map eI), .omap M]⟩), (1, ⟨true, eObj ⟨oi, q, oF⟩⟩), (2, ⟨false, [.own 3 ((mixW (keepF tf) t.F oF k).map eVal)]⟩)]⟩) (fun k => k ≤ t.F.length) (fun k => t.F.length - k) (0) ?_ (Nat.zero_le _) (fun k k1 => ?_)
  · refine Sh.wk0 ?_; simp [Wk, go_sem, simprocAttr, mixW_zero, eObj]
  refine CW.seq (.rg (.rn htt 1 (.done ?_)))
  refine CW.seq ?_
  refine CW.cd (fun ct35 => ?_) (fun ct35 => ?_)
  · have hk : k < t.F.length := by simpa using ct35
    obtain ⟨v, hv⟩ : ∃ v, oF[k]? = some v := ⟨oF[k], List.getElem?_eq_getElem (by omega)⟩
    obtain ⟨f, hf⟩ : ∃ f, t.F[k]? = some f := ⟨t.F[k], List.getElem?_eq_getElem hk⟩
    have hgv := mixW_get (φ := keepF tf) hlen hv
    have hgl : k < (mixW (keepF tf) t.F oF k).length := (List.getElem?_eq_some_iff.1 hgv).1
    refine CW.skip ?_
    refine CW.seq ?_
    refine CW.block ?_
    refine CW.seq (.rg (.run htt 6 (by simp only [go_sem, simprocAttr, hf, eField]; exact rfl) (by simp [go_sem, simprocAttr, hf, eField]) (.done ?_)))
    refine CW.seq ?_
    refine CW.cut ⟨4, [(0, .lv 0 [] 0), (5, .lv 1 [] 0), (6, .ref 2 [] 0), (32, .sl 3 (t.F.map eField)), (33, .int .i64 t.F.length), (34, .int .i64 k), (7, .int .i64 k), (8, .lv 3 [] 0), (49, .bool (!decide (f.Kind = 5) || decide (v.R = -1)))], [(0, ⟨true, [.sl 2 (c.S.map eType), .sl 3 (c.O.map eObj), .sl 1 (c.Roots.map eI), .omap M]⟩), (1, ⟨true, eObj ⟨oi, q, oF⟩⟩), (2, ⟨false, [.own 3 ((mixW (keepF tf) t.F oF k).map eVal)]⟩), (3, ⟨true, eField f⟩)]⟩ ?_ ?_
    · refine CW.rg (.run htt 4 (by simp only [go_sem, simprocAttr, eField, hgv, hgl, eVal, List.length_map]; exact rfl) (by simp [go_sem, simprocAttr, eField, hgv, hgl, eVal, List.length_map]) ?_)
      all_goals (first | refine CWops.guard 42 (by simp only [go_sem, simprocAttr, eField, hgv, hgl, eVal, List.length_map]; exact rfl) (fun g42 => ?_) (fun g42 => ?_) | skip)
      all_goals (refine CWops.run htt 7 (by simp only [go_sem, simprocAttr, eField, hgv, hgl, eVal, List.length_map]; exact rfl) (by simp [go_sem, simprocAttr, eField, hgv, hgl, eVal, List.length_map]) ?_)
      all_goals (refine CWops.done ?_)
      all_goals (
        refine ⟨rfl, Sh.wk0 ?_⟩
        simp_all [Wk, go_sem, simprocAttr, eObj, eField, eVal])
    refine CW.cd (fun ct49 => ?_) (fun ct49 => ?_)
    · have hno : keepF tf f v = v := by
        unfold keepF
        rw [if_neg (fun h => by simp [h.1] at ct49; exact h.2 ct49)]
      have hnx := mixW_no hlen hf hv hno
      refine CW.exit ?_
      refine CW.rg (.run htt 2 (by simp only [go_sem, simprocAttr, wrap_succ (show k < MX by unfold MX; omega)]; exact rfl) (by simp [go_sem, simprocAttr, wrap_succ (show k < MX by unfold MX; omega)]) (.done ?_))
      refine ⟨k + 1, ?_, ?_, ?_⟩
      · refine Sh.wk0 ?_
        dsimp only
        rw [hnx]
        first | (simp [Wk, go_sem, simprocAttr, eObj]; done) | (simp [Wk, go_sem, simprocAttr, eObj, List.map_set, eVal, hIs]; done) | (rw [hT]; simp [Wk, go_sem, simprocAttr, eObj, List.map_set, eVal])
      · exact hk
      · simp only; omega
    · have hk5 : f.Kind = 5 ∧ v.R ≠ -1 := by simpa using ct49
      have hyes : keepF tf f v = ⟨v.N, v.S, tf v.R⟩ := by unfold keepF; rw [if_pos hk5]
      have hnx := mixW_succ (φ := keepF tf) hf hv
      rw [hyes] at hnx
      refine CW.skip ?_
      refine CW.cut ⟨4, [(0, .lv 0 [] 0), (5, .lv 1 [] 0), (6, .ref 2 [] 0), (32, .sl 3 (t.F.map eField)), (33, .int .i64 t.F.length), (34, .int .i64 k), (7, .int .i64 k), (8, .lv 3 [] 0), (9, .int .i64 (if (maplk M v.R).isSome = true then tf v.R else 0)), (10, .bool (maplk M v.R).isSome)], [(0, ⟨true, [.sl 2 (c.S.map eType), .sl 3 (c.O.map eObj), .sl 1 (c.Roots.map eI), .omap M]⟩), (1, ⟨true, eObj ⟨oi, q, oF⟩⟩), (2, ⟨false, [.own 3 ((mixW (keepF tf) t.F oF k).map eVal)]⟩), (3, ⟨true, eField f⟩)]⟩ ?_ ?_
      · rcases hM v.R with ⟨k', hm1, hm2⟩ | ⟨hm1, hm2⟩
        all_goals (refine CW.drawn mixed 14 (by decide) (by kernel_rfl) (by kernel_rfl) (by kernel_rfl) ?_)
        all_goals (refine Seg.run htt 14 (by simp only [go_sem, simprocAttr, hgv, hgl, eVal, List.length_map, hm1]; exact rfl) ?_)
        all_goals (refine Seg.done ?_)
        all_goals (refine CWops.run htt 1 (by simp only [go_sem, simprocAttr, hgv, hgl, eVal, List.length_map, hm1]; exact rfl) (by simp [go_sem, simprocAttr, hgv, hgl, eVal, List.length_map, hm1]) ?_)
        all_goals (refine CWops.done ?_)
        all_goals (
          refine ⟨rfl, Sh.wk0 ?_⟩
          simp [Wk, go_sem, simprocAttr, eObj, eField, hm1, hm2])
      refine CW.seq (.seq (.rg (.rn htt 2 (.done ?_))))
      refine CW.cd (fun ct64 => ?_) (fun ct64 => ?_)
      · have hIs : (maplk M v.R).isSome = false := by simpa using ct64
        have hT : tf v.R = 1073741825 := by
          rcases hM v.R with ⟨k', h1, _⟩ | ⟨_, h2⟩
          · rw [h1] at hIs; cases hIs
          · exact h2
        refine CW.rg (.rn htt 1 (.done ?_))
        refine CW.rg (.run htt 6 (by simp only [go_sem, simprocAttr, hgv, hgl, eVal, List.length_map, hIs]; exact rfl) (by simp [go_sem, simprocAttr, hgv, hgl, eVal, List.length_map, hIs]) (.done ?_))
        refine CW.rg (.run htt 2 (by simp only [go_sem, simprocAttr, wrap_succ (show k < MX by unfold MX; omega)]; exact rfl) (by simp [go_sem, simprocAttr, wrap_succ (show k < MX by unfold MX; omega)]) (.done ?_))
        refine ⟨k + 1, ?_, ?_, ?_⟩
        · refine Sh.wk0 ?_
          dsimp only
          rw [hnx]
          first | (simp [Wk, go_sem, simprocAttr, eObj]; done) | (simp [Wk, go_sem, simprocAttr, eObj, List.map_set, eVal, hIs]; done) | (rw [hT]; simp [Wk, go_sem, simprocAttr, eObj, List.map_set, eVal])
        · exact hk
        · simp only; omega
      · have hIs : (maplk M v.R).isSome = true := by simpa using ct64
        have hT : tf v.R = tf v.R := rfl
        refine CW.skip ?_
        refine CW.rg (.run htt 6 (by simp only [go_sem, simprocAttr, hgv, hgl, eVal, List.length_map, hIs]; exact rfl) (by simp [go_sem, simprocAttr, hgv, hgl, eVal, List.length_map, hIs]) (.done ?_))
        refine CW.rg (.run htt 2 (by simp only [go_sem, simprocAttr, wrap_succ (show k < MX by unfold MX; omega)]; exact rfl) (by simp [go_sem, simprocAttr, wrap_succ (show k < MX by unfold MX; omega)]) (.done ?_))
        refine ⟨k + 1, ?_, ?_, ?_⟩
        · refine Sh.wk0 ?_
          dsimp only
          rw [hnx]
          first | (simp [Wk, go_sem, simprocAttr, eObj]; done) | (simp [Wk, go_sem, simprocAttr, eObj, List.map_set, eVal, hIs]; done) | (rw [hT]; simp [Wk, go_sem, simprocAttr, eObj, List.map_set, eVal])
        · exact hk
        · simp only; omega
  · have hk : k = t.F.length := by simp at ct35; omega
    refine CW.exit ?_
    refine CW.seq (.rg (.rn htt 2 (.done ?_)))
    refine CW.ret ?_
    refine ⟨⟨2, [(0, .lv 0 [] 0), (4, .ref 1 [] 0)], [(0, ⟨true, [.sl 2 (c.S.map eType), .sl 3 (c.O.map eObj), .sl 1 (c.Roots.map eI), .omap M]⟩), (1, ⟨false, [.own 3 ((List.zipWith (keepF tf) t.F oF).map eVal)]⟩)]⟩, ?_, .inr rfl, by simp [ptrOK, go_sem, simprocAttr], _, by simp only [f132, go_sem, simprocAttr]; exact rfl, ?_⟩
    · rw [hk, mixW_all _ _ _ hlen]
      refine Sh.wk (fun x => if x = 1 then 2 else x) ?_
      simp [Wk, go_sem, simprocAttr]
    · exact ⟨rfl, _, rfl⟩
end Go.Ab
