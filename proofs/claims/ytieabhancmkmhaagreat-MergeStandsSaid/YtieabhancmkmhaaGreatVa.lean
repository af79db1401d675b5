/-
  What functions of the program answer: each by its contract. No condition but those of each theorem.
-/
import Derived.WalkKit
import Derived.Below
import Derived.Scope
import Derived.Test.YtieabhancmkmhaaGreatProg
import Derived.Orders
import Derived.Test.YtieabhancmkmhaaGreatFa
import Derived.Test.YtieabhancmkmhaaGreatFb
import Derived.Test.YtieabhancmkmhaaGreatFc
import Derived.Test.YtieabhancmkmhaaGreatFd
import Derived.Test.YtieabhancmkmhaaGreatFe
import Derived.Test.YtieabhancmkmhaaGreatDa
set_option linter.unusedVariables false
set_option linter.unusedSimpArgs false
namespace Go.Ab
open Go Go.Proofs.Tryz
set_option maxRecDepth 100000
set_option linter.unusedSimpArgs false
set_option linter.unusedVariables false
@[go_sem] theorem tt_3 : tiOf prog 3 = some ⟨.int IntKind.i64, 1, 8, [.int .i64 0], false⟩ := by kernel_rfl
@[go_sem] theorem tt_4 : tiOf prog 4 = some ⟨.bool, 1, 1, [.bool false], false⟩ := by kernel_rfl
@[go_sem] theorem tt_9 : tiOf prog 9 = some ⟨.str, 1, 16, [.str ⟨#[]⟩], false⟩ := by kernel_rfl
@[go_sem] theorem tt_26 : tiOf prog 26 = some ⟨.slice 3, 1, 24, [.nilsl], false⟩ := by kernel_rfl
@[go_sem] theorem tt_5 : tiOf prog 5 = some ⟨.int IntKind.u8, 1, 1, [.int .u8 0], false⟩ := by kernel_rfl
@[go_sem] theorem tt_21 : tiOf prog 21 = some ⟨.int IntKind.i32, 1, 4, [.int .i32 0], false⟩ := by kernel_rfl
@[go_sem] theorem tt_22 : tiOf prog 22 = some ⟨.slice 98, 1, 24, [.nilsl], false⟩ := by kernel_rfl
@[go_sem] theorem tt_24 : tiOf prog 24 = some ⟨.struct [(22, 0)], 1, 24, [.nilsl], true⟩ := by kernel_rfl
@[go_sem] theorem tt_25 : tiOf prog 25 = some ⟨.slice 47, 1, 24, [.nilsl], false⟩ := by kernel_rfl
@[go_sem] theorem tt_28 : tiOf prog 28 = some ⟨.struct [(24, 0), (25, 1), (26, 2)], 3, 72, [.nilsl, .nilsl, .nilsl], true⟩ := by kernel_rfl
@[go_sem] theorem tt_45 : tiOf prog 45 = some ⟨.slice 49, 1, 24, [.nilsl], false⟩ := by kernel_rfl
@[go_sem] theorem tt_47 : tiOf prog 47 = some ⟨.struct [(3, 0), (3, 1), (45, 2)], 3, 40, [.int .i64 0, .int .i64 0, .nilsl], true⟩ := by kernel_rfl
@[go_sem] theorem tt_49 : tiOf prog 49 = some ⟨.struct [(3, 0), (9, 1), (3, 2)], 3, 32, [.int .i64 0, .str ⟨#[]⟩, .int .i64 0], true⟩ := by kernel_rfl
@[go_sem] theorem tt_95 : tiOf prog 95 = some ⟨.struct [(9, 0), (3, 1), (9, 2)], 3, 40, [.str ⟨#[]⟩, .int .i64 0, .str ⟨#[]⟩], true⟩ := by kernel_rfl
@[go_sem] theorem tt_96 : tiOf prog 96 = some ⟨.slice 95, 1, 24, [.nilsl], false⟩ := by kernel_rfl
@[go_sem] theorem tt_98 : tiOf prog 98 = some ⟨.struct [(9, 0), (96, 1)], 2, 40, [.str ⟨#[]⟩, .nilsl], true⟩ := by kernel_rfl
theorem mixed : prog.follows .mixedOrders = true := by kernel_rfl
theorem htt : TTok prog (tiOf prog) := tiOf_ok prog
theorem ref08_Find (up : Bool) (g : Graph) (k : Int) : PCall prog up 20 [.agg (eGraph g), .int .i64 k] (· = .int .i64 (fnd (fun o => decide (o.Id = k)) g.O)) := by
  refine PCall.intro htt func20 (by kernel_rfl) rfl (Nat.le_of_ble_eq_true rfl) fun hl => ?_
  have hL := (hl (.agg (eGraph g)) (by simp)).agg
  have hb := (hL (.sl 3 (g.O.map eObj)) (by simp [eGraph])).sl.1
  simp only [List.length_map] at hb
  simp only [eGraph]
  simp only [tmps0, Nat.reduceAdd]
  refine CW.seq ?_
  refine CW.rg ?_
  refine CWops.rn htt 2 ?_
  refine CWops.done ?_
  refine CW.seq ?_
  refine CW.seq ?_
  refine CW.rg ?_
  refine CWops.rn htt 1 ?_
  refine CWops.done ?_
  refine CW.block ?_
  refine CW.loop (S := Nat) (fun i => ⟨1, [(1, .int .i64 k), (2, .lv 0 [] 0), (5, .int .i64 i)], [(0, ⟨true, eGraph g⟩)]⟩) (fun i => i ≤ g.O.length ∧ ∀ (j : Nat) (y), j < i → g.O[j]? = some y → decide (y.Id = k) = false) (fun i => g.O.length - i) (0) ?_ ⟨Nat.zero_le _, fun j y hj => by omega⟩ (fun i ⟨h1, h2⟩ => ?_)
  · refine Sh.wk0 ?_; simp [Wk, go_sem, simprocAttr, eGraph]
  refine CW.seq ?_
  refine CW.seq ?_
  refine CW.rg ?_
  refine CWops.run htt 5 (by simp only [go_sem, simprocAttr, eGraph]; exact rfl) (by simp [go_sem, simprocAttr, eGraph]) ?_
  refine CWops.done ?_
  refine CW.cond (by simp only [go_sem, simprocAttr]; first | done | exact rfl) (fun ct10 => ?_) (fun ct10 => ?_)
  · have hi : i < g.O.length := by simpa using ct10
    obtain ⟨x, hx⟩ : ∃ x, g.O[i]? = some x := ⟨g.O[i], List.getElem?_eq_getElem hi⟩
    refine CW.skip ?_
    refine CW.seq ?_
    refine CW.block ?_
    refine CW.seq ?_
    refine CW.rg ?_
    refine CWops.run htt 8 (by simp only [go_sem, simprocAttr, hx, eObj, eGraph]; exact rfl) (by simp [go_sem, simprocAttr, hx, eObj, eGraph]) ?_
    refine CWops.done ?_
    refine CW.cond (by simp only [go_sem, simprocAttr]; first | done | exact rfl) (fun ct20 => ?_) (fun ct20 => ?_)
    · have hp : decide (x.Id = k) = true := by simpa using ct20
      refine CW.seq ?_
      refine CW.rg ?_
      refine CWops.rn htt 2 ?_
      refine CWops.done ?_
      refine CW.ret ?_
      refine retQ.ret (by simp only [f20, go_sem, simprocAttr]; exact rfl) (by simp only [go_sem, simprocAttr]; exact rfl) ?_ -- ret1
      refine ⟨_, ?_, rfl⟩
      simp only [leP, AV.int.injEq, true_and]; exact (fnd_at hx hp h2).symm
    · have hp : decide (x.Id = k) = false := by simpa using ct20
      refine CW.skip ?_
      refine CW.rg ?_
      refine CWops.run htt 3 (by simp only [go_sem, simprocAttr, wrap_succ (Nat.lt_of_lt_of_le hi hb)]; exact rfl) (by simp [go_sem, simprocAttr, wrap_succ (Nat.lt_of_lt_of_le hi hb)]) ?_
      refine CWops.done ?_
      refine ⟨i + 1, ?_, ?_, ?_⟩
      · refine Sh.wk0 ?_; simp [Wk, go_sem, simprocAttr, eGraph]
      · exact ⟨hi, below_succ h2 hx hp⟩
      · simp only; omega
  · have hi : i = g.O.length := by simp at ct10; omega
    refine CW.exit ?_
    refine CW.seq ?_
    refine CW.rg ?_
    refine CWops.rn htt 1 ?_
    refine CWops.done ?_
    refine CW.ret ?_
    refine retQ.ret (by simp only [f20, go_sem, simprocAttr]; exact rfl) (by simp only [go_sem, simprocAttr]; exact rfl) ?_ -- ret2
    refine ⟨_, ?_, rfl⟩
    simp only [leP, AV.int.injEq, true_and]; exact (fnd_no (below_all (by rw [← hi]; exact h2))).symm
theorem index_Obj (up : Bool) (xs : List GObj) (p : GObj → Bool) (fn : FuncId) (caps : List AV) (hc : pureL caps = true) (hp : ∀ x ∈ xs, PCall prog up fn (.agg (eObj x) :: caps) (· = .bool (p x))) : PCall prog up 86 [.sl 3 (xs.map eObj), .func (.func fn) [] caps] (· = .int .i64 (fnd p xs)) := by
  refine PCall.intro htt func86 (by kernel_rfl) rfl (Nat.le_of_ble_eq_true rfl) fun hl => ?_
  have hb := (hl (.sl 3 (xs.map eObj)) (by simp)).sl.1
  simp only [List.length_map] at hb
  simp only [tmps0, Nat.reduceAdd]
  refine CW.seq ?_
  refine CW.rg ?_
  refine CWops.rn htt 1 ?_
  refine CWops.done ?_
  refine CW.seq ?_
  refine CW.seq ?_
  refine CW.rg ?_
  refine CWops.rn htt 3 ?_
  refine CWops.done ?_
  refine CW.block ?_
  refine CW.loop (S := Nat) (fun i => ⟨0, [(0, .sl 3 (xs.map eObj)), (1, .func (.func fn) [] caps), (7, .int .i64 xs.length), (8, .int .i64 i)], []⟩) (fun i => i ≤ xs.length ∧ ∀ (j : Nat) (y), j < i → xs[j]? = some y → p y = false) (fun i => xs.length - i) (0) ?_ ⟨Nat.zero_le _, fun j y hj => by omega⟩ (fun i ⟨h1, h2⟩ => ?_)
  · refine Sh.wk0 ?_; simp [Wk, go_sem, simprocAttr]; exact ⟨[], caps, ⟨rfl, rfl⟩, by simp [SubL], SubL_pure _ _ hc⟩
  refine CW.seq ?_
  refine CW.rg ?_
  refine CWops.rn htt 1 ?_
  refine CWops.done ?_
  refine CW.seq ?_
  refine CW.cond (by simp only [go_sem, simprocAttr]; first | done | exact rfl) (fun ct9 => ?_) (fun ct9 => ?_)
  · have hi : i < xs.length := by simpa using ct9
    obtain ⟨x, hx⟩ : ∃ x, xs[i]? = some x := ⟨xs[i], List.getElem?_eq_getElem hi⟩
    refine CW.skip ?_
    refine CW.seq ?_
    refine CW.block ?_
    refine CW.seq ?_
    refine CW.rg ?_
    refine CWops.rn htt 2 ?_
    refine CWops.done ?_
    refine CW.seq ?_
    refine CW.rg ?_
    refine CWops.run htt 5 (by simp only [go_sem, simprocAttr, hx, hc, eObj]; exact rfl) (by simp [go_sem, simprocAttr, hx, hc, eObj]) ?_
    refine CWops.callA (hp x (List.mem_of_getElem? hx)) (by simp only [go_sem, simprocAttr, hx, hc, eObj]) (by simp only [go_sem, simprocAttr, hx, hc, eObj]; first | done | exact rfl) (by simp only [go_sem, simprocAttr, hx, hc, eObj]) (by simp only [go_sem, simprocAttr, hx, hc, eObj]) (fun rt16 hrt16 => ?_)
    subst hrt16
    refine CWops.done ?_
    refine CW.cond (by simp only [go_sem, simprocAttr]; first | done | exact rfl) (fun ct16 => ?_) (fun ct16 => ?_)
    · refine CW.seq ?_
      refine CW.rg ?_
      refine CWops.rn htt 2 ?_
      refine CWops.done ?_
      refine CW.ret ?_
      refine retQ.ret (by simp only [f86, go_sem, simprocAttr]; exact rfl) (by simp only [go_sem, simprocAttr]; exact rfl) ?_ -- ret1
      refine ⟨_, ?_, rfl⟩
      simp only [leP, AV.int.injEq, true_and]; exact (fnd_at hx ct16 h2).symm
    · refine CW.skip ?_
      refine CW.rg ?_
      refine CWops.run htt 2 (by simp only [go_sem, simprocAttr, wrap_succ (Nat.lt_of_lt_of_le hi hb)]; exact rfl) (by simp [go_sem, simprocAttr, wrap_succ (Nat.lt_of_lt_of_le hi hb)]) ?_
      refine CWops.done ?_
      refine ⟨i + 1, ?_, ?_, ?_⟩
      · refine Sh.wk0 ?_; simp [Wk, go_sem, simprocAttr]; exact ⟨[], caps, ⟨rfl, rfl⟩, by simp [SubL], SubL_pure _ _ hc⟩
      · exact ⟨hi, below_succ h2 hx ct16⟩
      · simp only; omega
  · have hi : i = xs.length := by simp at ct9; omega
    refine CW.exit ?_
    refine CW.seq ?_
    refine CW.rg ?_
    refine CWops.rn htt 1 ?_
    refine CWops.done ?_
    refine CW.ret ?_
    refine retQ.ret (by simp only [f86, go_sem, simprocAttr]; exact rfl) (by simp only [go_sem, simprocAttr]; exact rfl) ?_ -- ret2
    refine ⟨_, ?_, rfl⟩
    simp only [leP, AV.int.injEq, true_and]; exact (fnd_no (below_all (by rw [← hi]; exact h2))).symm
theorem index_Type (up : Bool) (xs : List GType) (p : GType → Bool) (fn : FuncId) (caps : List AV) (hc : pureL caps = true) (hp : ∀ x ∈ xs, PCall prog up fn (.agg (eType x) :: caps) (· = .bool (p x))) : PCall prog up 117 [.sl 2 (xs.map eType), .func (.func fn) [] caps] (· = .int .i64 (fnd p xs)) := by
  refine PCall.intro htt func117 (by kernel_rfl) rfl (Nat.le_of_ble_eq_true rfl) fun hl => ?_
  have hb := (hl (.sl 2 (xs.map eType)) (by simp)).sl.1
  simp only [List.length_map] at hb
  simp only [tmps0, Nat.reduceAdd]
  refine CW.seq ?_
  refine CW.rg ?_
  refine CWops.rn htt 1 ?_
  refine CWops.done ?_
  refine CW.seq ?_
  refine CW.seq ?_
  refine CW.rg ?_
  refine CWops.rn htt 3 ?_
  refine CWops.done ?_
  refine CW.block ?_
  refine CW.loop (S := Nat) (fun i => ⟨0, [(0, .sl 2 (xs.map eType)), (1, .func (.func fn) [] caps), (7, .int .i64 xs.length), (8, .int .i64 i)], []⟩) (fun i => i ≤ xs.length ∧ ∀ (j : Nat) (y), j < i → xs[j]? = some y → p y = false) (fun i => xs.length - i) (0) ?_ ⟨Nat.zero_le _, fun j y hj => by omega⟩ (fun i ⟨h1, h2⟩ => ?_)
  · refine Sh.wk0 ?_; simp [Wk, go_sem, simprocAttr]; exact ⟨[], caps, ⟨rfl, rfl⟩, by simp [SubL], SubL_pure _ _ hc⟩
  refine CW.seq ?_
  refine CW.rg ?_
  refine CWops.rn htt 1 ?_
  refine CWops.done ?_
  refine CW.seq ?_
  refine CW.cond (by simp only [go_sem, simprocAttr]; first | done | exact rfl) (fun ct9 => ?_) (fun ct9 => ?_)
  · have hi : i < xs.length := by simpa using ct9
    obtain ⟨x, hx⟩ : ∃ x, xs[i]? = some x := ⟨xs[i], List.getElem?_eq_getElem hi⟩
    refine CW.skip ?_
    refine CW.seq ?_
    refine CW.block ?_
    refine CW.seq ?_
    refine CW.rg ?_
    refine CWops.rn htt 2 ?_
    refine CWops.done ?_
    refine CW.seq ?_
    refine CW.rg ?_
    refine CWops.run htt 5 (by simp only [go_sem, simprocAttr, hx, hc, eType]; exact rfl) (by simp [go_sem, simprocAttr, hx, hc, eType]) ?_
    refine CWops.callA (hp x (List.mem_of_getElem? hx)) (by simp only [go_sem, simprocAttr, hx, hc, eType]) (by simp only [go_sem, simprocAttr, hx, hc, eType]; first | done | exact rfl) (by simp only [go_sem, simprocAttr, hx, hc, eType]) (by simp only [go_sem, simprocAttr, hx, hc, eType]) (fun rt16 hrt16 => ?_)
    subst hrt16
    refine CWops.done ?_
    refine CW.cond (by simp only [go_sem, simprocAttr]; first | done | exact rfl) (fun ct16 => ?_) (fun ct16 => ?_)
    · refine CW.seq ?_
      refine CW.rg ?_
      refine CWops.rn htt 2 ?_
      refine CWops.done ?_
      refine CW.ret ?_
      refine retQ.ret (by simp only [f117, go_sem, simprocAttr]; exact rfl) (by simp only [go_sem, simprocAttr]; exact rfl) ?_ -- ret1
      refine ⟨_, ?_, rfl⟩
      simp only [leP, AV.int.injEq, true_and]; exact (fnd_at hx ct16 h2).symm
    · refine CW.skip ?_
      refine CW.rg ?_
      refine CWops.run htt 2 (by simp only [go_sem, simprocAttr, wrap_succ (Nat.lt_of_lt_of_le hi hb)]; exact rfl) (by simp [go_sem, simprocAttr, wrap_succ (Nat.lt_of_lt_of_le hi hb)]) ?_
      refine CWops.done ?_
      refine ⟨i + 1, ?_, ?_, ?_⟩
      · refine Sh.wk0 ?_; simp [Wk, go_sem, simprocAttr]; exact ⟨[], caps, ⟨rfl, rfl⟩, by simp [SubL], SubL_pure _ _ hc⟩
      · exact ⟨hi, below_succ h2 hx ct16⟩
      · simp only; omega
  · have hi : i = xs.length := by simp at ct9; omega
    refine CW.exit ?_
    refine CW.seq ?_
    refine CW.rg ?_
    refine CWops.rn htt 1 ?_
    refine CWops.done ?_
    refine CW.ret ?_
    refine retQ.ret (by simp only [f117, go_sem, simprocAttr]; exact rfl) (by simp only [go_sem, simprocAttr]; exact rfl) ?_ -- ret2
    refine ⟨_, ?_, rfl⟩
    simp only [leP, AV.int.injEq, true_and]; exact (fnd_no (below_all (by rw [← hi]; exact h2))).symm
theorem index_Field (up : Bool) (xs : List GField) (p : GField → Bool) (fn : FuncId) (caps : List AV) (hc : pureL caps = true) (hp : ∀ x ∈ xs, PCall prog up fn (.agg (eField x) :: caps) (· = .bool (p x))) : PCall prog up 119 [.sl 3 (xs.map eField), .func (.func fn) [] caps] (· = .int .i64 (fnd p xs)) := by
  refine PCall.intro htt func119 (by kernel_rfl) rfl (Nat.le_of_ble_eq_true rfl) fun hl => ?_
  have hb := (hl (.sl 3 (xs.map eField)) (by simp)).sl.1
  simp only [List.length_map] at hb
  simp only [tmps0, Nat.reduceAdd]
  refine CW.seq ?_
  refine CW.rg ?_
  refine CWops.rn htt 1 ?_
  refine CWops.done ?_
  refine CW.seq ?_
  refine CW.seq ?_
  refine CW.rg ?_
  refine CWops.rn htt 3 ?_
  refine CWops.done ?_
  refine CW.block ?_
  refine CW.loop (S := Nat) (fun i => ⟨0, [(0, .sl 3 (xs.map eField)), (1, .func (.func fn) [] caps), (7, .int .i64 xs.length), (8, .int .i64 i)], []⟩) (fun i => i ≤ xs.length ∧ ∀ (j : Nat) (y), j < i → xs[j]? = some y → p y = false) (fun i => xs.length - i) (0) ?_ ⟨Nat.zero_le _, fun j y hj => by omega⟩ (fun i ⟨h1, h2⟩ => ?_)
  · refine Sh.wk0 ?_; simp [Wk, go_sem, simprocAttr]; exact ⟨[], caps, ⟨rfl, rfl⟩, by simp [SubL], SubL_pure _ _ hc⟩
  refine CW.seq ?_
  refine CW.rg ?_
  refine CWops.rn htt 1 ?_
  refine CWops.done ?_
  refine CW.seq ?_
  refine CW.cond (by simp only [go_sem, simprocAttr]; first | done | exact rfl) (fun ct9 => ?_) (fun ct9 => ?_)
  · have hi : i < xs.length := by simpa using ct9
    obtain ⟨x, hx⟩ : ∃ x, xs[i]? = some x := ⟨xs[i], List.getElem?_eq_getElem hi⟩
    refine CW.skip ?_
    refine CW.seq ?_
    refine CW.block ?_
    refine CW.seq ?_
    refine CW.rg ?_
    refine CWops.rn htt 2 ?_
    refine CWops.done ?_
    refine CW.seq ?_
    refine CW.rg ?_
    refine CWops.run htt 5 (by simp only [go_sem, simprocAttr, hx, hc, eField]; exact rfl) (by simp [go_sem, simprocAttr, hx, hc, eField]) ?_
    refine CWops.callA (hp x (List.mem_of_getElem? hx)) (by simp only [go_sem, simprocAttr, hx, hc, eField]) (by simp only [go_sem, simprocAttr, hx, hc, eField]; first | done | exact rfl) (by simp only [go_sem, simprocAttr, hx, hc, eField]) (by simp only [go_sem, simprocAttr, hx, hc, eField]) (fun rt16 hrt16 => ?_)
    subst hrt16
    refine CWops.done ?_
    refine CW.cond (by simp only [go_sem, simprocAttr]; first | done | exact rfl) (fun ct16 => ?_) (fun ct16 => ?_)
    · refine CW.seq ?_
      refine CW.rg ?_
      refine CWops.rn htt 2 ?_
      refine CWops.done ?_
      refine CW.ret ?_
      refine retQ.ret (by simp only [f119, go_sem, simprocAttr]; exact rfl) (by simp only [go_sem, simprocAttr]; exact rfl) ?_ -- ret1
      refine ⟨_, ?_, rfl⟩
      simp only [leP, AV.int.injEq, true_and]; exact (fnd_at hx ct16 h2).symm
    · refine CW.skip ?_
      refine CW.rg ?_
      refine CWops.run htt 2 (by simp only [go_sem, simprocAttr, wrap_succ (Nat.lt_of_lt_of_le hi hb)]; exact rfl) (by simp [go_sem, simprocAttr, wrap_succ (Nat.lt_of_lt_of_le hi hb)]) ?_
      refine CWops.done ?_
      refine ⟨i + 1, ?_, ?_, ?_⟩
      · refine Sh.wk0 ?_; simp [Wk, go_sem, simprocAttr]; exact ⟨[], caps, ⟨rfl, rfl⟩, by simp [SubL], SubL_pure _ _ hc⟩
      · exact ⟨hi, below_succ h2 hx ct16⟩
      · simp only; omega
  · have hi : i = xs.length := by simp at ct9; omega
    refine CW.exit ?_
    refine CW.seq ?_
    refine CW.rg ?_
    refine CWops.rn htt 1 ?_
    refine CWops.done ?_
    refine CW.ret ?_
    refine retQ.ret (by simp only [f119, go_sem, simprocAttr]; exact rfl) (by simp only [go_sem, simprocAttr]; exact rfl) ?_ -- ret2
    refine ⟨_, ?_, rfl⟩
    simp only [leP, AV.int.injEq, true_and]; exact (fnd_no (below_all (by rw [← hi]; exact h2))).symm
theorem index_int (up : Bool) (xs : List Int) (p : Int → Bool) (fn : FuncId) (caps : List AV) (hc : pureL caps = true) (hp : ∀ x ∈ xs, PCall prog up fn (.int .i64 x :: caps) (· = .bool (p x))) : PCall prog up 93 [.sl 1 (xs.map eI), .func (.func fn) [] caps] (· = .int .i64 (fnd p xs)) := by
  refine PCall.intro htt func93 (by kernel_rfl) rfl (Nat.le_of_ble_eq_true rfl) fun hl => ?_
  have hb := (hl (.sl 1 (xs.map eI)) (by simp)).sl.1
  simp only [List.length_map] at hb
  simp only [tmps0, Nat.reduceAdd]
  refine CW.seq ?_
  refine CW.rg ?_
  refine CWops.rn htt 1 ?_
  refine CWops.done ?_
  refine CW.seq ?_
  refine CW.seq ?_
  refine CW.rg ?_
  refine CWops.rn htt 3 ?_
  refine CWops.done ?_
  refine CW.block ?_
  refine CW.loop (S := Nat) (fun i => ⟨0, [(0, .sl 1 (xs.map eI)), (1, .func (.func fn) [] caps), (7, .int .i64 xs.length), (8, .int .i64 i)], []⟩) (fun i => i ≤ xs.length ∧ ∀ (j : Nat) (y), j < i → xs[j]? = some y → p y = false) (fun i => xs.length - i) (0) ?_ ⟨Nat.zero_le _, fun j y hj => by omega⟩ (fun i ⟨h1, h2⟩ => ?_)
  · refine Sh.wk0 ?_; simp [Wk, go_sem, simprocAttr]; exact ⟨[], caps, ⟨rfl, rfl⟩, by simp [SubL], SubL_pure _ _ hc⟩
  refine CW.seq ?_
  refine CW.rg ?_
  refine CWops.rn htt 1 ?_
  refine CWops.done ?_
  refine CW.seq ?_
  refine CW.cond (by simp only [go_sem, simprocAttr]; first | done | exact rfl) (fun ct9 => ?_) (fun ct9 => ?_)
  · have hi : i < xs.length := by simpa using ct9
    obtain ⟨x, hx⟩ : ∃ x, xs[i]? = some x := ⟨xs[i], List.getElem?_eq_getElem hi⟩
    refine CW.skip ?_
    refine CW.seq ?_
    refine CW.block ?_
    refine CW.seq ?_
    refine CW.rg ?_
    refine CWops.rn htt 2 ?_
    refine CWops.done ?_
    refine CW.seq ?_
    refine CW.rg ?_
    refine CWops.run htt 5 (by simp only [go_sem, simprocAttr, hx, hc, eI]; exact rfl) (by simp [go_sem, simprocAttr, hx, hc, eI]) ?_
    refine CWops.callA (hp x (List.mem_of_getElem? hx)) (by simp only [go_sem, simprocAttr, hx, hc, eI]) (by simp only [go_sem, simprocAttr, hx, hc, eI]; first | done | exact rfl) (by simp only [go_sem, simprocAttr, hx, hc, eI]) (by simp only [go_sem, simprocAttr, hx, hc, eI]) (fun rt16 hrt16 => ?_)
    subst hrt16
    refine CWops.done ?_
    refine CW.cond (by simp only [go_sem, simprocAttr]; first | done | exact rfl) (fun ct16 => ?_) (fun ct16 => ?_)
    · refine CW.seq ?_
      refine CW.rg ?_
      refine CWops.rn htt 2 ?_
      refine CWops.done ?_
      refine CW.ret ?_
      refine retQ.ret (by simp only [f93, go_sem, simprocAttr]; exact rfl) (by simp only [go_sem, simprocAttr]; exact rfl) ?_ -- ret1
      refine ⟨_, ?_, rfl⟩
      simp only [leP, AV.int.injEq, true_and]; exact (fnd_at hx ct16 h2).symm
    · refine CW.skip ?_
      refine CW.rg ?_
      refine CWops.run htt 2 (by simp only [go_sem, simprocAttr, wrap_succ (Nat.lt_of_lt_of_le hi hb)]; exact rfl) (by simp [go_sem, simprocAttr, wrap_succ (Nat.lt_of_lt_of_le hi hb)]) ?_
      refine CWops.done ?_
      refine ⟨i + 1, ?_, ?_, ?_⟩
      · refine Sh.wk0 ?_; simp [Wk, go_sem, simprocAttr]; exact ⟨[], caps, ⟨rfl, rfl⟩, by simp [SubL], SubL_pure _ _ hc⟩
      · exact ⟨hi, below_succ h2 hx ct16⟩
      · simp only; omega
  · have hi : i = xs.length := by simp at ct9; omega
    refine CW.exit ?_
    refine CW.seq ?_
    refine CW.rg ?_
    refine CWops.rn htt 1 ?_
    refine CWops.done ?_
    refine CW.ret ?_
    refine retQ.ret (by simp only [f93, go_sem, simprocAttr]; exact rfl) (by simp only [go_sem, simprocAttr]; exact rfl) ?_ -- ret2
    refine ⟨_, ?_, rfl⟩
    simp only [leP, AV.int.injEq, true_and]; exact (fnd_no (below_all (by rw [← hi]; exact h2))).symm
end Go.Ab
namespace Go.Ab
open Go Go.Proofs.Tryz
set_option maxRecDepth 100000
set_option linter.unusedSimpArgs false
set_option linter.unusedVariables false
theorem equal_int (up : Bool) (a b : List Int) : PCall prog up 54 [.sl 1 (a.map eI), .sl 1 (b.map eI)] (· = .bool (decide (a = b))) := by
  refine PCall.intro htt func54 (by kernel_rfl) rfl (Nat.le_of_ble_eq_true rfl) fun hl => ?_
  have ha := (hl (.sl 1 (a.map eI)) (by simp)).sl.1
  have hb := (hl (.sl 1 (b.map eI)) (by simp)).sl.1
  simp only [List.length_map] at ha hb
  simp only [tmps0, Nat.reduceAdd]
  refine CW.seq ?_
  refine CW.rg ?_
  refine CWops.rn htt 1 ?_
  refine CWops.done ?_
  refine CW.seq ?_
  refine CW.seq ?_
  refine CW.rg ?_
  refine CWops.rn htt 5 ?_
  refine CWops.done ?_
  refine CW.cond (by simp only [go_sem, simprocAttr]; first | done | exact rfl) (fun ct10 => ?_) (fun ct10 => ?_)
  · have hne : a.length ≠ b.length := by simp at ct10; omega
    refine CW.seq ?_
    refine CW.rg ?_
    refine CWops.rn htt 1 ?_
    refine CWops.done ?_
    refine CW.ret ?_
    refine retQ.ret (by simp only [f54, go_sem, simprocAttr]; exact rfl) (by simp only [go_sem, simprocAttr]; exact rfl) ?_ -- ret1
    refine ⟨_, ?_, rfl⟩
    simp only [leP, AV.bool.injEq]; symm; apply decide_eq_false; intro h; exact hne (by rw [h])
  · have heq : a.length = b.length := by simp at ct10; omega
    refine CW.skip ?_
    refine CW.seq ?_
    refine CW.seq ?_
    refine CW.rg ?_
    refine CWops.rn htt 3 ?_
    refine CWops.done ?_
    refine CW.block ?_
    refine CW.loop (S := Nat) (fun i => ⟨0, [(0, .sl 1 (a.map eI)), (1, .sl 1 (b.map eI)), (12, .int .i64 a.length), (13, .int .i64 i)], []⟩) (fun i => i ≤ a.length ∧ a.take i = b.take i) (fun i => a.length - i) (0) ?_ ⟨Nat.zero_le _, rfl⟩ (fun i ⟨h1, h2⟩ => ?_)
    · refine Sh.wk0 ?_; simp [Wk, go_sem, simprocAttr]
    refine CW.seq ?_
    refine CW.rg ?_
    refine CWops.rn htt 1 ?_
    refine CWops.done ?_
    refine CW.seq ?_
    refine CW.cond (by simp only [go_sem, simprocAttr]; first | done | exact rfl) (fun ct14 => ?_) (fun ct14 => ?_)
    · have hi : i < a.length := by simpa using ct14
      obtain ⟨x, e1⟩ : ∃ x, a[i]? = some x := ⟨a[i], List.getElem?_eq_getElem hi⟩
      obtain ⟨y, e2⟩ : ∃ y, b[i]? = some y := ⟨b[i], List.getElem?_eq_getElem (by omega)⟩
      refine CW.skip ?_
      refine CW.seq ?_
      refine CW.block ?_
      refine CW.seq ?_
      refine CW.rg ?_
      refine CWops.rn htt 2 ?_
      refine CWops.done ?_
      refine CW.seq ?_
      refine CW.drawn mixed 8 (by decide) (by kernel_rfl) (by kernel_rfl) (by kernel_rfl) ?_
      refine Seg.run htt 8 (by simp only [go_sem, simprocAttr, e1, e2, eI]; exact rfl) ?_
      refine Seg.done ?_
      refine CWops.run htt 1 (by simp only [go_sem, simprocAttr, e1, e2, eI]; exact rfl) (by simp [go_sem, simprocAttr, e1, e2, eI]) ?_
      refine CWops.done ?_
      refine CW.cond (by simp only [go_sem, simprocAttr]; first | done | exact rfl) (fun ct24 => ?_) (fun ct24 => ?_)
      · have hp : x ≠ y := by
          intro e; subst e; simp at ct24
        refine CW.seq ?_
        refine CW.rg ?_
        refine CWops.rn htt 1 ?_
        refine CWops.done ?_
        refine CW.ret ?_
        refine retQ.ret (by simp only [f54, go_sem, simprocAttr]; exact rfl) (by simp only [go_sem, simprocAttr]; exact rfl) ?_ -- ret2
        refine ⟨_, ?_, rfl⟩
        simp only [leP, AV.bool.injEq]; symm; apply decide_eq_false; intro h; subst h; rw [e1] at e2; cases e2; exact hp rfl
      · have hp : x = y := by
          simp at ct24
          first | exact ct24 | simpa using ct24
        subst hp
        refine CW.skip ?_
        refine CW.rg ?_
        refine CWops.run htt 2 (by simp only [go_sem, simprocAttr, wrap_succ (Nat.lt_of_lt_of_le hi ha)]; exact rfl) (by simp [go_sem, simprocAttr, wrap_succ (Nat.lt_of_lt_of_le hi ha)]) ?_
        refine CWops.done ?_
        refine ⟨i + 1, ?_, ?_, ?_⟩
        · refine Sh.wk0 ?_; simp [Wk, go_sem, simprocAttr]
        · exact ⟨hi, take_same h2 e1 e2⟩
        · simp only; omega
    · have hi : i = a.length := by simp at ct14; omega
      refine CW.exit ?_
      refine CW.seq ?_
      refine CW.rg ?_
      refine CWops.rn htt 1 ?_
      refine CWops.done ?_
      refine CW.ret ?_
      refine retQ.ret (by simp only [f54, go_sem, simprocAttr]; exact rfl) (by simp only [go_sem, simprocAttr]; exact rfl) ?_ -- ret3
      refine ⟨_, ?_, rfl⟩
      simp only [leP, AV.bool.injEq]; symm; apply decide_eq_true; exact all_same h2 hi heq
theorem equal_Val (up : Bool) (a b : List GVal) : PCall prog up 53 [.sl 3 (a.map eVal), .sl 3 (b.map eVal)] (· = .bool (decide (a = b))) := by
  refine PCall.intro htt func53 (by kernel_rfl) rfl (Nat.le_of_ble_eq_true rfl) fun hl => ?_
  have ha := (hl (.sl 3 (a.map eVal)) (by simp)).sl.1
  have hb := (hl (.sl 3 (b.map eVal)) (by simp)).sl.1
  simp only [List.length_map] at ha hb
  simp only [tmps0, Nat.reduceAdd]
  refine CW.seq ?_
  refine CW.rg ?_
  refine CWops.rn htt 1 ?_
  refine CWops.done ?_
  refine CW.seq ?_
  refine CW.seq ?_
  refine CW.rg ?_
  refine CWops.rn htt 5 ?_
  refine CWops.done ?_
  refine CW.cond (by simp only [go_sem, simprocAttr]; first | done | exact rfl) (fun ct10 => ?_) (fun ct10 => ?_)
  · have hne : a.length ≠ b.length := by simp at ct10; omega
    refine CW.seq ?_
    refine CW.rg ?_
    refine CWops.rn htt 1 ?_
    refine CWops.done ?_
    refine CW.ret ?_
    refine retQ.ret (by simp only [f53, go_sem, simprocAttr]; exact rfl) (by simp only [go_sem, simprocAttr]; exact rfl) ?_ -- ret1
    refine ⟨_, ?_, rfl⟩
    simp only [leP, AV.bool.injEq]; symm; apply decide_eq_false; intro h; exact hne (by rw [h])
  · have heq : a.length = b.length := by simp at ct10; omega
    refine CW.skip ?_
    refine CW.seq ?_
    refine CW.seq ?_
    refine CW.rg ?_
    refine CWops.rn htt 3 ?_
    refine CWops.done ?_
    refine CW.block ?_
    refine CW.loop (S := Nat) (fun i => ⟨0, [(0, .sl 3 (a.map eVal)), (1, .sl 3 (b.map eVal)), (12, .int .i64 a.length), (13, .int .i64 i)], []⟩) (fun i => i ≤ a.length ∧ a.take i = b.take i) (fun i => a.length - i) (0) ?_ ⟨Nat.zero_le _, rfl⟩ (fun i ⟨h1, h2⟩ => ?_)
    · refine Sh.wk0 ?_; simp [Wk, go_sem, simprocAttr]
    refine CW.seq ?_
    refine CW.rg ?_
    refine CWops.rn htt 1 ?_
    refine CWops.done ?_
    refine CW.seq ?_
    refine CW.cond (by simp only [go_sem, simprocAttr]; first | done | exact rfl) (fun ct14 => ?_) (fun ct14 => ?_)
    · have hi : i < a.length := by simpa using ct14
      obtain ⟨x, e1⟩ : ∃ x, a[i]? = some x := ⟨a[i], List.getElem?_eq_getElem hi⟩
      obtain ⟨y, e2⟩ : ∃ y, b[i]? = some y := ⟨b[i], List.getElem?_eq_getElem (by omega)⟩
      refine CW.skip ?_
      refine CW.seq ?_
      refine CW.block ?_
      refine CW.seq ?_
      refine CW.rg ?_
      refine CWops.rn htt 2 ?_
      refine CWops.done ?_
      refine CW.seq ?_
      refine CW.drawn mixed 8 (by decide) (by kernel_rfl) (by kernel_rfl) (by kernel_rfl) ?_
      refine Seg.run htt 8 (by simp only [go_sem, simprocAttr, e1, e2, eVal]; exact rfl) ?_
      refine Seg.done ?_
      refine CWops.run htt 1 (by simp only [go_sem, simprocAttr, e1, e2, eVal]; exact rfl) (by simp [go_sem, simprocAttr, e1, e2, eVal]) ?_
      refine CWops.done ?_
      refine CW.cond (by simp only [go_sem, simprocAttr]; first | done | exact rfl) (fun ct24 => ?_) (fun ct24 => ?_)
      · have hp : x ≠ y := by
          intro e; subst e; simp at ct24
        refine CW.seq ?_
        refine CW.rg ?_
        refine CWops.rn htt 1 ?_
        refine CWops.done ?_
        refine CW.ret ?_
        refine retQ.ret (by simp only [f53, go_sem, simprocAttr]; exact rfl) (by simp only [go_sem, simprocAttr]; exact rfl) ?_ -- ret2
        refine ⟨_, ?_, rfl⟩
        simp only [leP, AV.bool.injEq]; symm; apply decide_eq_false; intro h; subst h; rw [e1] at e2; cases e2; exact hp rfl
      · have hp : x = y := by
          simp at ct24
          first | exact ct24 | simpa [GVal.ext_iff'] using ct24
        subst hp
        refine CW.skip ?_
        refine CW.rg ?_
        refine CWops.run htt 2 (by simp only [go_sem, simprocAttr, wrap_succ (Nat.lt_of_lt_of_le hi ha)]; exact rfl) (by simp [go_sem, simprocAttr, wrap_succ (Nat.lt_of_lt_of_le hi ha)]) ?_
        refine CWops.done ?_
        refine ⟨i + 1, ?_, ?_, ?_⟩
        · refine Sh.wk0 ?_; simp [Wk, go_sem, simprocAttr]
        · exact ⟨hi, take_same h2 e1 e2⟩
        · simp only; omega
    · have hi : i = a.length := by simp at ct14; omega
      refine CW.exit ?_
      refine CW.seq ?_
      refine CW.rg ?_
      refine CWops.rn htt 1 ?_
      refine CWops.done ?_
      refine CW.ret ?_
      refine retQ.ret (by simp only [f53, go_sem, simprocAttr]; exact rfl) (by simp only [go_sem, simprocAttr]; exact rfl) ?_ -- ret3
      refine ⟨_, ?_, rfl⟩
      simp only [leP, AV.bool.injEq]; symm; apply decide_eq_true; exact all_same h2 hi heq
theorem equal_Field (up : Bool) (a b : List GField) : PCall prog up 80 [.sl 3 (a.map eField), .sl 3 (b.map eField)] (· = .bool (decide (a = b))) := by
  refine PCall.intro htt func80 (by kernel_rfl) rfl (Nat.le_of_ble_eq_true rfl) fun hl => ?_
  have ha := (hl (.sl 3 (a.map eField)) (by simp)).sl.1
  have hb := (hl (.sl 3 (b.map eField)) (by simp)).sl.1
  simp only [List.length_map] at ha hb
  simp only [tmps0, Nat.reduceAdd]
  refine CW.seq ?_
  refine CW.rg ?_
  refine CWops.rn htt 1 ?_
  refine CWops.done ?_
  refine CW.seq ?_
  refine CW.seq ?_
  refine CW.rg ?_
  refine CWops.rn htt 5 ?_
  refine CWops.done ?_
  refine CW.cond (by simp only [go_sem, simprocAttr]; first | done | exact rfl) (fun ct10 => ?_) (fun ct10 => ?_)
  · have hne : a.length ≠ b.length := by simp at ct10; omega
    refine CW.seq ?_
    refine CW.rg ?_
    refine CWops.rn htt 1 ?_
    refine CWops.done ?_
    refine CW.ret ?_
    refine retQ.ret (by simp only [f80, go_sem, simprocAttr]; exact rfl) (by simp only [go_sem, simprocAttr]; exact rfl) ?_ -- ret1
    refine ⟨_, ?_, rfl⟩
    simp only [leP, AV.bool.injEq]; symm; apply decide_eq_false; intro h; exact hne (by rw [h])
  · have heq : a.length = b.length := by simp at ct10; omega
    refine CW.skip ?_
    refine CW.seq ?_
    refine CW.seq ?_
    refine CW.rg ?_
    refine CWops.rn htt 3 ?_
    refine CWops.done ?_
    refine CW.block ?_
    refine CW.loop (S := Nat) (fun i => ⟨0, [(0, .sl 3 (a.map eField)), (1, .sl 3 (b.map eField)), (12, .int .i64 a.length), (13, .int .i64 i)], []⟩) (fun i => i ≤ a.length ∧ a.take i = b.take i) (fun i => a.length - i) (0) ?_ ⟨Nat.zero_le _, rfl⟩ (fun i ⟨h1, h2⟩ => ?_)
    · refine Sh.wk0 ?_; simp [Wk, go_sem, simprocAttr]
    refine CW.seq ?_
    refine CW.rg ?_
    refine CWops.rn htt 1 ?_
    refine CWops.done ?_
    refine CW.seq ?_
    refine CW.cond (by simp only [go_sem, simprocAttr]; first | done | exact rfl) (fun ct14 => ?_) (fun ct14 => ?_)
    · have hi : i < a.length := by simpa using ct14
      obtain ⟨x, e1⟩ : ∃ x, a[i]? = some x := ⟨a[i], List.getElem?_eq_getElem hi⟩
      obtain ⟨y, e2⟩ : ∃ y, b[i]? = some y := ⟨b[i], List.getElem?_eq_getElem (by omega)⟩
      refine CW.skip ?_
      refine CW.seq ?_
      refine CW.block ?_
      refine CW.seq ?_
      refine CW.rg ?_
      refine CWops.rn htt 2 ?_
      refine CWops.done ?_
      refine CW.seq ?_
      refine CW.drawn mixed 8 (by decide) (by kernel_rfl) (by kernel_rfl) (by kernel_rfl) ?_
      refine Seg.run htt 8 (by simp only [go_sem, simprocAttr, e1, e2, eField]; exact rfl) ?_
      refine Seg.done ?_
      refine CWops.run htt 1 (by simp only [go_sem, simprocAttr, e1, e2, eField]; exact rfl) (by simp [go_sem, simprocAttr, e1, e2, eField]) ?_
      refine CWops.done ?_
      refine CW.cond (by simp only [go_sem, simprocAttr]; first | done | exact rfl) (fun ct24 => ?_) (fun ct24 => ?_)
      · have hp : x ≠ y := by
          intro e; subst e; simp at ct24
        refine CW.seq ?_
        refine CW.rg ?_
        refine CWops.rn htt 1 ?_
        refine CWops.done ?_
        refine CW.ret ?_
        refine retQ.ret (by simp only [f80, go_sem, simprocAttr]; exact rfl) (by simp only [go_sem, simprocAttr]; exact rfl) ?_ -- ret2
        refine ⟨_, ?_, rfl⟩
        simp only [leP, AV.bool.injEq]; symm; apply decide_eq_false; intro h; subst h; rw [e1] at e2; cases e2; exact hp rfl
      · have hp : x = y := by
          simp at ct24
          first | exact ct24 | simpa [GField.ext_iff'] using ct24
        subst hp
        refine CW.skip ?_
        refine CW.rg ?_
        refine CWops.run htt 2 (by simp only [go_sem, simprocAttr, wrap_succ (Nat.lt_of_lt_of_le hi ha)]; exact rfl) (by simp [go_sem, simprocAttr, wrap_succ (Nat.lt_of_lt_of_le hi ha)]) ?_
        refine CWops.done ?_
        refine ⟨i + 1, ?_, ?_, ?_⟩
        · refine Sh.wk0 ?_; simp [Wk, go_sem, simprocAttr]
        · exact ⟨hi, take_same h2 e1 e2⟩
        · simp only; omega
    · have hi : i = a.length := by simp at ct14; omega
      refine CW.exit ?_
      refine CW.seq ?_
      refine CW.rg ?_
      refine CWops.rn htt 1 ?_
      refine CWops.done ?_
      refine CW.ret ?_
      refine retQ.ret (by simp only [f80, go_sem, simprocAttr]; exact rfl) (by simp only [go_sem, simprocAttr]; exact rfl) ?_ -- ret3
      refine ⟨_, ?_, rfl⟩
      simp only [leP, AV.bool.injEq]; symm; apply decide_eq_true; exact all_same h2 hi heq
end Go.Ab
namespace Go.Ab
open Go Go.Proofs.Tryz
set_option maxRecDepth 100000
set_option linter.unusedSimpArgs false
set_option linter.unusedVariables false
theorem clone_Val (up : Bool) (xs : List GVal) (hx : xs.length * 32 ≤ MX) : PCall prog up 84 [.sl 3 (xs.map eVal)] (· = .sl 3 (xs.map eVal)) := by
  refine PCall.intro htt func84 (by kernel_rfl) rfl (Nat.le_of_ble_eq_true rfl) fun hl => ?_
  have hx1 : xs.length ≤ MX := by omega
  simp only [tmps0, Nat.reduceAdd]
  refine CW.seq ?_
  refine CW.rg ?_
  refine CWops.rn htt 1 ?_
  refine CWops.done ?_
  refine CW.seq ?_
  refine CW.seq ?_
  refine CW.rg ?_
  refine CWops.rn htt 1 ?_
  refine CWops.nilcmp (n := 3) (l := xs.map eVal) htt (by simp only [go_sem, simprocAttr]) (by simp only [go_sem, simprocAttr]) (by simp only [go_sem, simprocAttr]) tt_45 rfl (fun b hb => ⟨_, rfl, ?_⟩)
  refine CWops.done ?_
  refine CW.cond (by simp only [go_sem, simprocAttr]; first | done | exact rfl) (fun ct4 => ?_) (fun ct4 => ?_)
  · refine CW.seq ?_
    refine CW.rg ?_
    refine CWops.rn htt 1 ?_
    refine CWops.done ?_
    refine CW.ret ?_
    refine retQ.ret (by simp only [f84, go_sem, simprocAttr]; exact rfl) (by simp only [go_sem, simprocAttr]; exact rfl) ?_ -- ret1
    refine ⟨_, ?_, rfl⟩
    have h0 := hb ct4; simp [leP, h0]
  · refine CW.skip ?_
    refine CW.seq ?_
    refine CW.rg ?_
    refine CWops.run htt 4 (by simp only [go_sem, simprocAttr]; exact rfl) (by refine ⟨?_, ?_, ?_⟩ <;> first | (simp [eVal, AV.cell]; done) | (simp; omega)) ?_
    refine CWops.done ?_
    refine CW.ret ?_
    refine retQ.ret (by simp only [f84, go_sem, simprocAttr]; exact rfl) (by simp only [go_sem, simprocAttr]; exact rfl) ?_ -- ret2
    refine ⟨_, ?_, rfl⟩
    simp [leP, frz_I, frz_Val, frz_Obj, frz_Field, frz_Type]
theorem clone_Field (up : Bool) (xs : List GField) (hx : xs.length * 40 ≤ MX) : PCall prog up 73 [.sl 3 (xs.map eField)] (· = .sl 3 (xs.map eField)) := by
  refine PCall.intro htt func73 (by kernel_rfl) rfl (Nat.le_of_ble_eq_true rfl) fun hl => ?_
  have hx1 : xs.length ≤ MX := by omega
  simp only [tmps0, Nat.reduceAdd]
  refine CW.seq ?_
  refine CW.rg ?_
  refine CWops.rn htt 1 ?_
  refine CWops.done ?_
  refine CW.seq ?_
  refine CW.seq ?_
  refine CW.rg ?_
  refine CWops.rn htt 1 ?_
  refine CWops.nilcmp (n := 3) (l := xs.map eField) htt (by simp only [go_sem, simprocAttr]) (by simp only [go_sem, simprocAttr]) (by simp only [go_sem, simprocAttr]) tt_96 rfl (fun b hb => ⟨_, rfl, ?_⟩)
  refine CWops.done ?_
  refine CW.cond (by simp only [go_sem, simprocAttr]; first | done | exact rfl) (fun ct4 => ?_) (fun ct4 => ?_)
  · refine CW.seq ?_
    refine CW.rg ?_
    refine CWops.rn htt 1 ?_
    refine CWops.done ?_
    refine CW.ret ?_
    refine retQ.ret (by simp only [f73, go_sem, simprocAttr]; exact rfl) (by simp only [go_sem, simprocAttr]; exact rfl) ?_ -- ret1
    refine ⟨_, ?_, rfl⟩
    have h0 := hb ct4; simp [leP, h0]
  · refine CW.skip ?_
    refine CW.seq ?_
    refine CW.rg ?_
    refine CWops.run htt 4 (by simp only [go_sem, simprocAttr]; exact rfl) (by refine ⟨?_, ?_, ?_⟩ <;> first | (simp [eField, AV.cell]; done) | (simp; omega)) ?_
    refine CWops.done ?_
    refine CW.ret ?_
    refine retQ.ret (by simp only [f73, go_sem, simprocAttr]; exact rfl) (by simp only [go_sem, simprocAttr]; exact rfl) ?_ -- ret2
    refine ⟨_, ?_, rfl⟩
    simp [leP, frz_I, frz_Val, frz_Obj, frz_Field, frz_Type]
theorem equalFunc_Type (up : Bool) (a b : List GType) (p : GType → GType → Bool) (fn : FuncId) (caps : List AV) (hc : pureL caps = true) (hp : ∀ x ∈ a, ∀ y ∈ b, PCall prog up fn (.agg (eType x) :: .agg (eType y) :: caps) (· = .bool (p x y))) : PCall prog up 78 [.sl 2 (a.map eType), .sl 2 (b.map eType), .func (.func fn) [] caps] (· = .bool (allp p a b)) := by
  refine PCall.intro htt func78 (by kernel_rfl) rfl (Nat.le_of_ble_eq_true rfl) fun hl => ?_
  have ha := (hl (.sl 2 (a.map eType)) (by simp)).sl.1
  have hb := (hl (.sl 2 (b.map eType)) (by simp)).sl.1
  simp only [List.length_map] at ha hb
  simp only [tmps0, Nat.reduceAdd]
  refine CW.seq ?_
  refine CW.rg ?_
  refine CWops.rn htt 1 ?_
  refine CWops.done ?_
  refine CW.seq ?_
  refine CW.seq ?_
  refine CW.rg ?_
  refine CWops.rn htt 5 ?_
  refine CWops.done ?_
  refine CW.cond (by simp only [go_sem, simprocAttr]; first | done | exact rfl) (fun ct14 => ?_) (fun ct14 => ?_)
  · have hne : a.length ≠ b.length := by simp at ct14; omega
    refine CW.seq ?_
    refine CW.rg ?_
    refine CWops.rn htt 1 ?_
    refine CWops.done ?_
    refine CW.ret ?_
    refine retQ.ret (by simp only [f78, go_sem, simprocAttr]; exact rfl) (by simp only [go_sem, simprocAttr]; exact rfl) ?_ -- ret1
    refine ⟨_, ?_, rfl⟩
    simp only [leP, AV.bool.injEq]; exact (allp_len hne).symm
  · have heq : a.length = b.length := by simp at ct14; omega
    refine CW.skip ?_
    refine CW.seq ?_
    refine CW.seq ?_
    refine CW.rg ?_
    refine CWops.rn htt 3 ?_
    refine CWops.done ?_
    refine CW.block ?_
    refine CW.loop (S := Nat) (fun i => ⟨0, [(0, .sl 2 (a.map eType)), (1, .sl 2 (b.map eType)), (2, .func (.func fn) [] caps), (15, .sl 2 (a.map eType)), (16, .int .i64 a.length), (17, .int .i64 i)], []⟩) (fun i => i ≤ a.length ∧ allp p (a.take i) (b.take i) = true) (fun i => a.length - i) (0) ?_ ⟨Nat.zero_le _, rfl⟩ (fun i ⟨h1, h2⟩ => ?_)
    · refine Sh.wk0 ?_; simp [Wk, go_sem, simprocAttr]; exact ⟨[], caps, ⟨rfl, rfl⟩, by simp [SubL], SubL_pure _ _ hc⟩
    refine CW.seq ?_
    refine CW.rg ?_
    refine CWops.rn htt 1 ?_
    refine CWops.done ?_
    refine CW.seq ?_
    refine CW.cond (by simp only [go_sem, simprocAttr]; first | done | exact rfl) (fun ct18 => ?_) (fun ct18 => ?_)
    · have hi : i < a.length := by simpa using ct18
      obtain ⟨x, e1⟩ : ∃ x, a[i]? = some x := ⟨a[i], List.getElem?_eq_getElem hi⟩
      obtain ⟨y, e2⟩ : ∃ y, b[i]? = some y := ⟨b[i], List.getElem?_eq_getElem (by omega)⟩
      refine CW.skip ?_
      refine CW.seq ?_
      refine CW.block ?_
      refine CW.seq ?_
      refine CW.rg ?_
      refine CWops.run htt 6 (by simp only [go_sem, simprocAttr, e1, eType]; exact rfl) (by simp [go_sem, simprocAttr, e1, eType]) ?_
      refine CWops.done ?_
      refine CW.seq ?_
      refine CW.rg ?_
      refine CWops.run htt 6 (by simp only [go_sem, simprocAttr, e2, eType]; exact rfl) (by simp [go_sem, simprocAttr, e2, eType]) ?_
      refine CWops.done ?_
      refine CW.seq ?_
      refine CW.rg ?_
      refine CWops.run htt 3 (by simp only [go_sem, simprocAttr, hc, eType]; exact rfl) (by simp [go_sem, simprocAttr, hc, eType]) ?_
      refine CWops.callA (hp x (List.mem_of_getElem? e1) y (List.mem_of_getElem? e2)) (by simp only [go_sem, simprocAttr, hc, eType]) (by simp only [go_sem, simprocAttr, hc, eType]; first | done | exact rfl) (by simp only [go_sem, simprocAttr, hc, eType]) (by simp only [go_sem, simprocAttr, hc, eType]) (fun rt29 hrt29 => ?_)
      subst hrt29
      refine CWops.run htt 1 (by simp only [go_sem, simprocAttr, hc, eType]; exact rfl) (by simp [go_sem, simprocAttr, hc, eType]) ?_
      refine CWops.done ?_
      refine CW.cond (by simp only [go_sem, simprocAttr]; first | done | exact rfl) (fun ct30 => ?_) (fun ct30 => ?_)
      · have hp : p x y = false := by simpa using ct30
        refine CW.seq ?_
        refine CW.rg ?_
        refine CWops.rn htt 1 ?_
        refine CWops.done ?_
        refine CW.ret ?_
        refine retQ.ret (by simp only [f78, go_sem, simprocAttr]; exact rfl) (by simp only [go_sem, simprocAttr]; exact rfl) ?_ -- ret2
        refine ⟨_, ?_, rfl⟩
        simp only [leP, AV.bool.injEq]; exact (allp_no e1 e2 hp).symm
      · have hp : p x y = true := by simpa using ct30
        refine CW.skip ?_
        refine CW.rg ?_
        refine CWops.run htt 2 (by simp only [go_sem, simprocAttr, wrap_succ (Nat.lt_of_lt_of_le hi ha)]; exact rfl) (by simp [go_sem, simprocAttr, wrap_succ (Nat.lt_of_lt_of_le hi ha)]) ?_
        refine CWops.done ?_
        refine ⟨i + 1, ?_, ?_, ?_⟩
        · refine Sh.wk0 ?_; simp [Wk, go_sem, simprocAttr]; exact ⟨[], caps, ⟨rfl, rfl⟩, by simp [SubL], SubL_pure _ _ hc⟩
        · exact ⟨hi, allp_take h2 e1 e2 hp⟩
        · simp only; omega
    · have hi : i = a.length := by simp at ct18; omega
      refine CW.exit ?_
      refine CW.seq ?_
      refine CW.rg ?_
      refine CWops.rn htt 1 ?_
      refine CWops.done ?_
      refine CW.ret ?_
      refine retQ.ret (by simp only [f78, go_sem, simprocAttr]; exact rfl) (by simp only [go_sem, simprocAttr]; exact rfl) ?_ -- ret3
      refine ⟨_, ?_, rfl⟩
      simp only [leP, AV.bool.injEq]; rw [hi, List.take_length, heq, List.take_length] at h2; exact h2.symm
theorem equalFunc_Obj (up : Bool) (a b : List GObj) (p : GObj → GObj → Bool) (fn : FuncId) (caps : List AV) (hc : pureL caps = true) (hp : ∀ x ∈ a, ∀ y ∈ b, PCall prog up fn (.agg (eObj x) :: .agg (eObj y) :: caps) (· = .bool (p x y))) : PCall prog up 55 [.sl 3 (a.map eObj), .sl 3 (b.map eObj), .func (.func fn) [] caps] (· = .bool (allp p a b)) := by
  refine PCall.intro htt func55 (by kernel_rfl) rfl (Nat.le_of_ble_eq_true rfl) fun hl => ?_
  have ha := (hl (.sl 3 (a.map eObj)) (by simp)).sl.1
  have hb := (hl (.sl 3 (b.map eObj)) (by simp)).sl.1
  simp only [List.length_map] at ha hb
  simp only [tmps0, Nat.reduceAdd]
  refine CW.seq ?_
  refine CW.rg ?_
  refine CWops.rn htt 1 ?_
  refine CWops.done ?_
  refine CW.seq ?_
  refine CW.seq ?_
  refine CW.rg ?_
  refine CWops.rn htt 5 ?_
  refine CWops.done ?_
  refine CW.cond (by simp only [go_sem, simprocAttr]; first | done | exact rfl) (fun ct14 => ?_) (fun ct14 => ?_)
  · have hne : a.length ≠ b.length := by simp at ct14; omega
    refine CW.seq ?_
    refine CW.rg ?_
    refine CWops.rn htt 1 ?_
    refine CWops.done ?_
    refine CW.ret ?_
    refine retQ.ret (by simp only [f55, go_sem, simprocAttr]; exact rfl) (by simp only [go_sem, simprocAttr]; exact rfl) ?_ -- ret1
    refine ⟨_, ?_, rfl⟩
    simp only [leP, AV.bool.injEq]; exact (allp_len hne).symm
  · have heq : a.length = b.length := by simp at ct14; omega
    refine CW.skip ?_
    refine CW.seq ?_
    refine CW.seq ?_
    refine CW.rg ?_
    refine CWops.rn htt 3 ?_
    refine CWops.done ?_
    refine CW.block ?_
    refine CW.loop (S := Nat) (fun i => ⟨0, [(0, .sl 3 (a.map eObj)), (1, .sl 3 (b.map eObj)), (2, .func (.func fn) [] caps), (15, .sl 3 (a.map eObj)), (16, .int .i64 a.length), (17, .int .i64 i)], []⟩) (fun i => i ≤ a.length ∧ allp p (a.take i) (b.take i) = true) (fun i => a.length - i) (0) ?_ ⟨Nat.zero_le _, rfl⟩ (fun i ⟨h1, h2⟩ => ?_)
    · refine Sh.wk0 ?_; simp [Wk, go_sem, simprocAttr]; exact ⟨[], caps, ⟨rfl, rfl⟩, by simp [SubL], SubL_pure _ _ hc⟩
    refine CW.seq ?_
    refine CW.rg ?_
    refine CWops.rn htt 1 ?_
    refine CWops.done ?_
    refine CW.seq ?_
    refine CW.cond (by simp only [go_sem, simprocAttr]; first | done | exact rfl) (fun ct18 => ?_) (fun ct18 => ?_)
    · have hi : i < a.length := by simpa using ct18
      obtain ⟨x, e1⟩ : ∃ x, a[i]? = some x := ⟨a[i], List.getElem?_eq_getElem hi⟩
      obtain ⟨y, e2⟩ : ∃ y, b[i]? = some y := ⟨b[i], List.getElem?_eq_getElem (by omega)⟩
      refine CW.skip ?_
      refine CW.seq ?_
      refine CW.block ?_
      refine CW.seq ?_
      refine CW.rg ?_
      refine CWops.run htt 6 (by simp only [go_sem, simprocAttr, e1, eObj]; exact rfl) (by simp [go_sem, simprocAttr, e1, eObj]) ?_
      refine CWops.done ?_
      refine CW.seq ?_
      refine CW.rg ?_
      refine CWops.run htt 6 (by simp only [go_sem, simprocAttr, e2, eObj]; exact rfl) (by simp [go_sem, simprocAttr, e2, eObj]) ?_
      refine CWops.done ?_
      refine CW.seq ?_
      refine CW.rg ?_
      refine CWops.run htt 3 (by simp only [go_sem, simprocAttr, hc, eObj]; exact rfl) (by simp [go_sem, simprocAttr, hc, eObj]) ?_
      refine CWops.callA (hp x (List.mem_of_getElem? e1) y (List.mem_of_getElem? e2)) (by simp only [go_sem, simprocAttr, hc, eObj]) (by simp only [go_sem, simprocAttr, hc, eObj]; first | done | exact rfl) (by simp only [go_sem, simprocAttr, hc, eObj]) (by simp only [go_sem, simprocAttr, hc, eObj]) (fun rt29 hrt29 => ?_)
      subst hrt29
      refine CWops.run htt 1 (by simp only [go_sem, simprocAttr, hc, eObj]; exact rfl) (by simp [go_sem, simprocAttr, hc, eObj]) ?_
      refine CWops.done ?_
      refine CW.cond (by simp only [go_sem, simprocAttr]; first | done | exact rfl) (fun ct30 => ?_) (fun ct30 => ?_)
      · have hp : p x y = false := by simpa using ct30
        refine CW.seq ?_
        refine CW.rg ?_
        refine CWops.rn htt 1 ?_
        refine CWops.done ?_
        refine CW.ret ?_
        refine retQ.ret (by simp only [f55, go_sem, simprocAttr]; exact rfl) (by simp only [go_sem, simprocAttr]; exact rfl) ?_ -- ret2
        refine ⟨_, ?_, rfl⟩
        simp only [leP, AV.bool.injEq]; exact (allp_no e1 e2 hp).symm
      · have hp : p x y = true := by simpa using ct30
        refine CW.skip ?_
        refine CW.rg ?_
        refine CWops.run htt 2 (by simp only [go_sem, simprocAttr, wrap_succ (Nat.lt_of_lt_of_le hi ha)]; exact rfl) (by simp [go_sem, simprocAttr, wrap_succ (Nat.lt_of_lt_of_le hi ha)]) ?_
        refine CWops.done ?_
        refine ⟨i + 1, ?_, ?_, ?_⟩
        · refine Sh.wk0 ?_; simp [Wk, go_sem, simprocAttr]; exact ⟨[], caps, ⟨rfl, rfl⟩, by simp [SubL], SubL_pure _ _ hc⟩
        · exact ⟨hi, allp_take h2 e1 e2 hp⟩
        · simp only; omega
    · have hi : i = a.length := by simp at ct18; omega
      refine CW.exit ?_
      refine CW.seq ?_
      refine CW.rg ?_
      refine CWops.rn htt 1 ?_
      refine CWops.done ?_
      refine CW.ret ?_
      refine retQ.ret (by simp only [f55, go_sem, simprocAttr]; exact rfl) (by simp only [go_sem, simprocAttr]; exact rfl) ?_ -- ret3
      refine ⟨_, ?_, rfl⟩
      simp only [leP, AV.bool.injEq]; rw [hi, List.take_length, heq, List.take_length] at h2; exact h2.symm
end Go.Ab
namespace Go.Ab
open Go Go.Proofs.Tryz
set_option maxRecDepth 100000
set_option linter.unusedSimpArgs false
set_option linter.unusedVariables false
theorem schema_Find_1 (up : Bool) (x : GType) (k : ByteArray) : PCall prog up 118 [.agg (eType x), .fp [.str k]] (· = .bool (decide (x.Name = k))) := by
  refine PCall.intro htt func118 (by kernel_rfl) rfl (Nat.le_of_ble_eq_true rfl) fun hl => ?_

  simp only [tmps0, Nat.reduceAdd]
  refine CW.seq ?_
  refine CW.rg ?_
  refine CWops.run htt 2 (by simp only [go_sem, simprocAttr, eType]; exact rfl) (by simp [go_sem, simprocAttr, eType]) ?_
  refine CWops.done ?_
  refine CW.seq ?_
  refine CW.rg ?_
  refine CWops.run htt 5 (by simp only [go_sem, simprocAttr, eType]; exact rfl) (by simp [go_sem, simprocAttr, eType]) ?_
  refine CWops.done ?_
  refine CW.ret ?_
  refine retQ.ret (by simp only [f118, go_sem, simprocAttr]; exact rfl) (by simp only [go_sem, simprocAttr]; exact rfl) ?_ -- ret1
  refine ⟨_, ?_, rfl⟩
  simp [leP, leL, frz_I, frz_Val, frz_Obj, frz_Field, frz_Type]
theorem schema_Field_1 (up : Bool) (x : GField) (k : ByteArray) : PCall prog up 120 [.agg (eField x), .fp [.str k]] (· = .bool (decide (x.Name = k))) := by
  refine PCall.intro htt func120 (by kernel_rfl) rfl (Nat.le_of_ble_eq_true rfl) fun hl => ?_

  simp only [tmps0, Nat.reduceAdd]
  refine CW.seq ?_
  refine CW.rg ?_
  refine CWops.run htt 2 (by simp only [go_sem, simprocAttr, eField]; exact rfl) (by simp [go_sem, simprocAttr, eField]) ?_
  refine CWops.done ?_
  refine CW.seq ?_
  refine CW.rg ?_
  refine CWops.run htt 5 (by simp only [go_sem, simprocAttr, eField]; exact rfl) (by simp [go_sem, simprocAttr, eField]) ?_
  refine CWops.done ?_
  refine CW.ret ?_
  refine retQ.ret (by simp only [f120, go_sem, simprocAttr]; exact rfl) (by simp only [go_sem, simprocAttr]; exact rfl) ?_ -- ret1
  refine ⟨_, ?_, rfl⟩
  simp [leP, leL, frz_I, frz_Val, frz_Obj, frz_Field, frz_Type]
theorem graph_Find_1 (up : Bool) (x : GObj) (k : Int) : PCall prog up 94 [.agg (eObj x), .fp [.int .i64 k]] (· = .bool (decide (x.Id = k))) := by
  refine PCall.intro htt func94 (by kernel_rfl) rfl (Nat.le_of_ble_eq_true rfl) fun hl => ?_

  simp only [tmps0, Nat.reduceAdd]
  refine CW.seq ?_
  refine CW.rg ?_
  refine CWops.run htt 2 (by simp only [go_sem, simprocAttr, eObj]; exact rfl) (by simp [go_sem, simprocAttr, eObj]) ?_
  refine CWops.done ?_
  refine CW.seq ?_
  refine CW.rg ?_
  refine CWops.run htt 5 (by simp only [go_sem, simprocAttr, eObj]; exact rfl) (by simp [go_sem, simprocAttr, eObj]) ?_
  refine CWops.done ?_
  refine CW.ret ?_
  refine retQ.ret (by simp only [f94, go_sem, simprocAttr]; exact rfl) (by simp only [go_sem, simprocAttr]; exact rfl) ?_ -- ret1
  refine ⟨_, ?_, rfl⟩
  simp [leP, leL, frz_I, frz_Val, frz_Obj, frz_Field, frz_Type]
theorem schema_Find (up : Bool) (s : List GType) (k : ByteArray) : PCall prog up 90 [.agg (eSchema s), .str k] (· = .int .i64 (fnd (fun o => decide (o.Name = k)) s)) := by
  refine PCall.intro htt func90 (by kernel_rfl) rfl (Nat.le_of_ble_eq_true rfl) fun hl => ?_

  simp only [tmps0, Nat.reduceAdd]
  refine CW.seq ?_
  refine CW.rg ?_
  refine CWops.run htt 3 (by simp only [go_sem, simprocAttr, eSchema]; exact rfl) (by simp [go_sem, simprocAttr, eSchema]) ?_
  refine CWops.done ?_
  refine CW.seq ?_
  refine CW.rg ?_
  refine CWops.run htt 3 (by simp only [go_sem, simprocAttr, eSchema]; exact rfl) (by simp [go_sem, simprocAttr, eSchema]) ?_
  refine CWops.call (index_Type up s (fun o => decide (o.Name = k)) 118 [.fp [.str k]] rfl (fun x _ => schema_Find_1 up x k)) (by simp only [go_sem, simprocAttr, eSchema]) (by simp only [go_sem, simprocAttr, eSchema]; first | done | exact rfl) (by simp only [go_sem, simprocAttr, eSchema]) (fun rt8 hrt8 => ?_)
  subst hrt8; refine ⟨rfl, ?_⟩
  refine CWops.run htt 1 (by simp only [go_sem, simprocAttr, eSchema]; exact rfl) (by simp [go_sem, simprocAttr, eSchema]) ?_
  refine CWops.done ?_
  refine CW.ret ?_
  refine retQ.ret (by simp only [f90, go_sem, simprocAttr]; exact rfl) (by simp only [go_sem, simprocAttr]; exact rfl) ?_ -- ret1
  refine ⟨_, ?_, rfl⟩
  simp [leP, leL, frz_I, frz_Val, frz_Obj, frz_Field, frz_Type]
theorem schema_Field (up : Bool) (s : GType) (k : ByteArray) : PCall prog up 92 [.agg (eType s), .str k] (· = .int .i64 (fnd (fun o => decide (o.Name = k)) s.F)) := by
  refine PCall.intro htt func92 (by kernel_rfl) rfl (Nat.le_of_ble_eq_true rfl) fun hl => ?_

  simp only [tmps0, Nat.reduceAdd]
  refine CW.seq ?_
  refine CW.rg ?_
  refine CWops.run htt 3 (by simp only [go_sem, simprocAttr, eType]; exact rfl) (by simp [go_sem, simprocAttr, eType]) ?_
  refine CWops.done ?_
  refine CW.seq ?_
  refine CW.rg ?_
  refine CWops.run htt 3 (by simp only [go_sem, simprocAttr, eType]; exact rfl) (by simp [go_sem, simprocAttr, eType]) ?_
  refine CWops.call (index_Field up s.F (fun o => decide (o.Name = k)) 120 [.fp [.str k]] rfl (fun x _ => schema_Field_1 up x k)) (by simp only [go_sem, simprocAttr, eType]) (by simp only [go_sem, simprocAttr, eType]; first | done | exact rfl) (by simp only [go_sem, simprocAttr, eType]) (fun rt8 hrt8 => ?_)
  subst hrt8; refine ⟨rfl, ?_⟩
  refine CWops.run htt 1 (by simp only [go_sem, simprocAttr, eType]; exact rfl) (by simp [go_sem, simprocAttr, eType]) ?_
  refine CWops.done ?_
  refine CW.ret ?_
  refine retQ.ret (by simp only [f92, go_sem, simprocAttr]; exact rfl) (by simp only [go_sem, simprocAttr]; exact rfl) ?_ -- ret1
  refine ⟨_, ?_, rfl⟩
  simp [leP, leL, frz_I, frz_Val, frz_Obj, frz_Field, frz_Type]
theorem graph_Find (up : Bool) (g : Graph) (k : Int) : PCall prog up 61 [.agg (eGraph g), .int .i64 k] (· = .int .i64 (fnd (fun o => decide (o.Id = k)) g.O)) := by
  refine PCall.intro htt func61 (by kernel_rfl) rfl (Nat.le_of_ble_eq_true rfl) fun hl => ?_

  simp only [tmps0, Nat.reduceAdd]
  refine CW.seq ?_
  refine CW.rg ?_
  refine CWops.run htt 3 (by simp only [go_sem, simprocAttr, eGraph]; exact rfl) (by simp [go_sem, simprocAttr, eGraph]) ?_
  refine CWops.done ?_
  refine CW.seq ?_
  refine CW.rg ?_
  refine CWops.run htt 3 (by simp only [go_sem, simprocAttr, eGraph]; exact rfl) (by simp [go_sem, simprocAttr, eGraph]) ?_
  refine CWops.call (index_Obj up g.O (fun o => decide (o.Id = k)) 94 [.fp [.int .i64 k]] rfl (fun x _ => graph_Find_1 up x k)) (by simp only [go_sem, simprocAttr, eGraph]) (by simp only [go_sem, simprocAttr, eGraph]; first | done | exact rfl) (by simp only [go_sem, simprocAttr, eGraph]) (fun rt8 hrt8 => ?_)
  subst hrt8; refine ⟨rfl, ?_⟩
  refine CWops.run htt 1 (by simp only [go_sem, simprocAttr, eGraph]; exact rfl) (by simp [go_sem, simprocAttr, eGraph]) ?_
  refine CWops.done ?_
  refine CW.ret ?_
  refine retQ.ret (by simp only [f61, go_sem, simprocAttr]; exact rfl) (by simp only [go_sem, simprocAttr]; exact rfl) ?_ -- ret1
  refine ⟨_, ?_, rfl⟩
  simp [leP, leL, frz_I, frz_Val, frz_Obj, frz_Field, frz_Type]
theorem schema_Same_1 (up : Bool) (x y : GType) : PCall prog up 79 [.agg (eType x), .agg (eType y)] (· = .bool (decide (x = y))) := by
  refine PCall.intro htt func79 (by kernel_rfl) rfl (Nat.le_of_ble_eq_true rfl) fun hl => ?_

  simp only [tmps0, Nat.reduceAdd]
  refine CW.seq ?_
  refine CW.rg ?_
  refine CWops.run htt 3 (by simp only [go_sem, simprocAttr, eType]; exact rfl) (by simp [go_sem, simprocAttr, eType]) ?_
  refine CWops.done ?_
  refine CW.seq ?_
  refine CW.rg ?_
  refine CWops.run htt 6 (by simp only [go_sem, simprocAttr, eType]; exact rfl) (by simp [go_sem, simprocAttr, eType]) ?_
  all_goals (first | refine CWops.guard 10 (by simp only [go_sem, simprocAttr, eType]; exact rfl) (fun g10 => ?_) (fun g10 => ?_) | skip)
  all_goals (refine CWops.run htt 4 (by simp only [go_sem, simprocAttr, eType]; exact rfl) (by simp [go_sem, simprocAttr, eType]) ?_)
  all_goals (first | (refine CWops.skip ?_ ?_; next => (simp only [go_sem, simprocAttr]; done)) | (refine CWops.call (equal_Field up x.F y.F) (by simp only [go_sem, simprocAttr, eType]) (by simp only [go_sem, simprocAttr, eType]; first | done | exact rfl) (by simp only [go_sem, simprocAttr, eType]) (fun rt15 hrt15 => ?_); subst hrt15; refine ⟨rfl, ?_⟩))
  all_goals (refine CWops.run htt 2 (by simp only [go_sem, simprocAttr, eType]; exact rfl) (by simp [go_sem, simprocAttr, eType]) ?_)
  all_goals (refine CWops.done ?_)
  all_goals (
    refine CW.ret ?_
    refine retQ.ret (by simp only [f79, go_sem, simprocAttr]; exact rfl) (by simp only [go_sem, simprocAttr]; exact rfl) ?_ -- ret1
    refine ⟨_, ?_, rfl⟩
    simp_all [leP, GType.ext_iff'])
theorem graph_Same_1 (up : Bool) (x y : GObj) : PCall prog up 52 [.agg (eObj x), .agg (eObj y)] (· = .bool (decide (x = y))) := by
  refine PCall.intro htt func52 (by kernel_rfl) rfl (Nat.le_of_ble_eq_true rfl) fun hl => ?_

  simp only [tmps0, Nat.reduceAdd]
  refine CW.seq ?_
  refine CW.rg ?_
  refine CWops.run htt 3 (by simp only [go_sem, simprocAttr, eObj]; exact rfl) (by simp [go_sem, simprocAttr, eObj]) ?_
  refine CWops.done ?_
  refine CW.seq ?_
  refine CW.rg ?_
  refine CWops.run htt 6 (by simp only [go_sem, simprocAttr, eObj]; exact rfl) (by simp [go_sem, simprocAttr, eObj]) ?_
  all_goals (first | refine CWops.guard 10 (by simp only [go_sem, simprocAttr, eObj]; exact rfl) (fun g10 => ?_) (fun g10 => ?_) | skip)
  all_goals (refine CWops.run htt 7 (by simp only [go_sem, simprocAttr, eObj]; exact rfl) (by simp [go_sem, simprocAttr, eObj]) ?_)
  all_goals (first | refine CWops.guard 17 (by simp only [go_sem, simprocAttr, eObj]; exact rfl) (fun g17 => ?_) (fun g17 => ?_) | skip)
  all_goals (refine CWops.run htt 4 (by simp only [go_sem, simprocAttr, eObj]; exact rfl) (by simp [go_sem, simprocAttr, eObj]) ?_)
  all_goals (first | (refine CWops.skip ?_ ?_; next => (simp only [go_sem, simprocAttr]; done)) | (refine CWops.call (equal_Val up x.F y.F) (by simp only [go_sem, simprocAttr, eObj]) (by simp only [go_sem, simprocAttr, eObj]; first | done | exact rfl) (by simp only [go_sem, simprocAttr, eObj]) (fun rt22 hrt22 => ?_); subst hrt22; refine ⟨rfl, ?_⟩))
  all_goals (refine CWops.run htt 2 (by simp only [go_sem, simprocAttr, eObj]; exact rfl) (by simp [go_sem, simprocAttr, eObj]) ?_)
  all_goals (refine CWops.done ?_)
  all_goals (
    refine CW.ret ?_
    refine retQ.ret (by simp only [f52, go_sem, simprocAttr]; exact rfl) (by simp only [go_sem, simprocAttr]; exact rfl) ?_ -- ret1
    refine ⟨_, ?_, rfl⟩
    simp_all [leP, GObj.ext_iff'])
theorem schema_Same (up : Bool) (a b : List GType) : PCall prog up 44 [.agg (eSchema a), .agg (eSchema b)] (· = .bool (decide (a = b))) := by
  refine PCall.intro htt func44 (by kernel_rfl) rfl (Nat.le_of_ble_eq_true rfl) fun hl => ?_

  simp only [tmps0, Nat.reduceAdd]
  refine CW.seq ?_
  refine CW.rg ?_
  refine CWops.run htt 3 (by simp only [go_sem, simprocAttr, eSchema]; exact rfl) (by simp [go_sem, simprocAttr, eSchema]) ?_
  refine CWops.done ?_
  refine CW.seq ?_
  refine CW.rg ?_
  refine CWops.run htt 4 (by simp only [go_sem, simprocAttr, eSchema]; exact rfl) (by simp [go_sem, simprocAttr, eSchema]) ?_
  refine CWops.call (equalFunc_Type up a b (fun x y => decide (x = y)) 79 [] rfl (fun x _ y _ => schema_Same_1 up x y)) (by simp only [go_sem, simprocAttr, eSchema]) (by simp only [go_sem, simprocAttr, eSchema]; first | done | exact rfl) (by simp only [go_sem, simprocAttr, eSchema]) (fun rt9 hrt9 => ?_)
  subst hrt9; refine ⟨rfl, ?_⟩
  refine CWops.run htt 1 (by simp only [go_sem, simprocAttr, eSchema]; exact rfl) (by simp [go_sem, simprocAttr, eSchema]) ?_
  refine CWops.done ?_
  refine CW.ret ?_
  refine retQ.ret (by simp only [f44, go_sem, simprocAttr]; exact rfl) (by simp only [go_sem, simprocAttr]; exact rfl) ?_ -- ret1
  refine ⟨_, ?_, rfl⟩
  simp [leP, allp_eq]
theorem graph_Same (up : Bool) (a b : Graph) : PCall prog up 18 [.agg (eGraph a), .agg (eGraph b)] (· = .bool (decide (a = b))) := by
  refine PCall.intro htt func18 (by kernel_rfl) rfl (Nat.le_of_ble_eq_true rfl) fun hl => ?_

  simp only [tmps0, Nat.reduceAdd]
  refine CW.seq ?_
  refine CW.rg ?_
  refine CWops.run htt 3 (by simp only [go_sem, simprocAttr, eGraph]; exact rfl) (by simp [go_sem, simprocAttr, eGraph]) ?_
  refine CWops.done ?_
  refine CW.seq ?_
  refine CW.rg ?_
  refine CWops.rn htt 1 ?_
  refine CWops.done ?_
  refine CW.seq ?_
  refine CW.rg ?_
  refine CWops.run htt 4 (by simp only [go_sem, simprocAttr, eGraph, eSchema]; exact rfl) (by simp [go_sem, simprocAttr, eGraph, eSchema]) ?_
  refine CWops.call (schema_Same up a.S b.S) (by simp only [go_sem, simprocAttr, eGraph, eSchema]) (by simp only [go_sem, simprocAttr, eGraph, eSchema]; first | done | exact rfl) (by simp only [go_sem, simprocAttr, eGraph, eSchema]) (fun rt10 hrt10 => ?_)
  subst hrt10; refine ⟨rfl, ?_⟩
  refine CWops.run htt 1 (by simp only [go_sem, simprocAttr, eGraph, eSchema]; exact rfl) (by simp [go_sem, simprocAttr, eGraph, eSchema]) ?_
  all_goals (first | refine CWops.guard 11 (by simp only [go_sem, simprocAttr, eGraph, eSchema]; exact rfl) (fun g11 => ?_) (fun g11 => ?_) | skip)
  all_goals (refine CWops.run htt 4 (by simp only [go_sem, simprocAttr, eGraph, eSchema]; exact rfl) (by simp [go_sem, simprocAttr, eGraph, eSchema]) ?_)
  all_goals (first | (refine CWops.skip ?_ ?_; next => (simp only [go_sem, simprocAttr]; done)) | (refine CWops.call (equal_int up a.Roots b.Roots) (by simp only [go_sem, simprocAttr, eGraph, eSchema]) (by simp only [go_sem, simprocAttr, eGraph, eSchema]; first | done | exact rfl) (by simp only [go_sem, simprocAttr, eGraph, eSchema]) (fun rt16 hrt16 => ?_); subst hrt16; refine ⟨rfl, ?_⟩))
  all_goals (refine CWops.run htt 2 (by simp only [go_sem, simprocAttr, eGraph, eSchema]; exact rfl) (by simp [go_sem, simprocAttr, eGraph, eSchema]) ?_)
  all_goals (first | refine CWops.guard 18 (by simp only [go_sem, simprocAttr, eGraph, eSchema]; exact rfl) (fun g18 => ?_) (fun g18 => ?_) | skip)
  all_goals (refine CWops.run htt 5 (by simp only [go_sem, simprocAttr, eGraph, eSchema]; exact rfl) (by simp [go_sem, simprocAttr, eGraph, eSchema]) ?_)
  all_goals (first | (refine CWops.skip ?_ ?_; next => (simp only [go_sem, simprocAttr]; done)) | (refine CWops.call (equalFunc_Obj up a.O b.O (fun x y => decide (x = y)) 52 [] rfl (fun x _ y _ => graph_Same_1 up x y)) (by simp only [go_sem, simprocAttr, eGraph, eSchema]) (by simp only [go_sem, simprocAttr, eGraph, eSchema]; first | done | exact rfl) (by simp only [go_sem, simprocAttr, eGraph, eSchema]) (fun rt24 hrt24 => ?_); subst hrt24; refine ⟨rfl, ?_⟩))
  all_goals (refine CWops.run htt 2 (by simp only [go_sem, simprocAttr, eGraph, eSchema]; exact rfl) (by simp [go_sem, simprocAttr, eGraph, eSchema]) ?_)
  all_goals (refine CWops.done ?_)
  all_goals (
    refine CW.ret ?_
    refine retQ.ret (by simp only [f18, go_sem, simprocAttr]; exact rfl) (by simp only [go_sem, simprocAttr]; exact rfl) ?_ -- ret1
    refine ⟨_, ?_, rfl⟩
    simp_all [leP, allp_eq, Graph.ext_iff'])
end Go.Ab
namespace Go.Ab
open Go Go.Proofs.Tryz
set_option maxRecDepth 100000
set_option linter.unusedSimpArgs false
set_option linter.unusedVariables false
theorem name_letter (up : Bool) (c : Int) : PCall prog up 140 [.int .i32 c] (· = .bool (letterB c)) := by
  refine PCall.intro htt func140 (by kernel_rfl) rfl (Nat.le_of_ble_eq_true rfl) fun hl => ?_

  simp only [tmps0, Nat.reduceAdd]
  refine CW.seq ?_
  refine CW.rg ?_
  refine CWops.rn htt 1 ?_
  refine CWops.done ?_
  refine CW.seq ?_
  refine CW.rg ?_
  refine CWops.rn htt 3 ?_
  all_goals (first | refine CWops.guard 5 (by simp only [go_sem, simprocAttr]; exact rfl) (fun g5 => ?_) (fun g5 => ?_) | skip)
  all_goals (refine CWops.rn htt 4 ?_)
  all_goals (first | refine CWops.guard 9 (by simp only [go_sem, simprocAttr]; exact rfl) (fun g9 => ?_) (fun g9 => ?_) | skip)
  all_goals (refine CWops.rn htt 3 ?_)
  all_goals (first | refine CWops.guard 12 (by simp only [go_sem, simprocAttr]; exact rfl) (fun g12 => ?_) (fun g12 => ?_) | skip)
  all_goals (refine CWops.rn htt 4 ?_)
  all_goals (first | refine CWops.guard 16 (by simp only [go_sem, simprocAttr]; exact rfl) (fun g16 => ?_) (fun g16 => ?_) | skip)
  all_goals (refine CWops.rn htt 5 ?_)
  all_goals (refine CWops.done ?_)
  all_goals (
    refine CW.ret ?_
    refine retQ.ret (by simp only [f140, go_sem, simprocAttr]; exact rfl) (by simp only [go_sem, simprocAttr]; exact rfl) ?_ -- ret1
    refine ⟨_, ?_, rfl⟩
    simp_all [leP, letterB] <;> (intros; omega))
theorem name_digit (up : Bool) (c : Int) : PCall prog up 141 [.int .i32 c] (· = .bool (digitB c)) := by
  refine PCall.intro htt func141 (by kernel_rfl) rfl (Nat.le_of_ble_eq_true rfl) fun hl => ?_

  simp only [tmps0, Nat.reduceAdd]
  refine CW.seq ?_
  refine CW.rg ?_
  refine CWops.rn htt 1 ?_
  refine CWops.done ?_
  refine CW.seq ?_
  refine CW.rg ?_
  refine CWops.rn htt 3 ?_
  all_goals (first | refine CWops.guard 5 (by simp only [go_sem, simprocAttr]; exact rfl) (fun g5 => ?_) (fun g5 => ?_) | skip)
  all_goals (refine CWops.rn htt 4 ?_)
  all_goals (refine CWops.done ?_)
  all_goals (
    refine CW.ret ?_
    refine retQ.ret (by simp only [f141, go_sem, simprocAttr]; exact rfl) (by simp only [go_sem, simprocAttr]; exact rfl) ?_ -- ret1
    refine ⟨_, ?_, rfl⟩
    simp_all [leP, digitB] <;> (intros; omega))
theorem name_Len (up : Bool) (s : ByteArray) : PCall prog up 116 [.str s] (· = .int .i64 (nameLen s)) := by
  refine PCall.intro htt func116 (by kernel_rfl) rfl (Nat.le_of_ble_eq_true rfl) fun hl => ?_
  have hs := (hl (.str s) (by simp)).str
  simp only [tmps0, Nat.reduceAdd]
  refine CW.seq ?_
  refine CW.rg ?_
  refine CWops.rn htt 1 ?_
  refine CWops.done ?_
  refine CW.seq ?_
  refine CW.rg ?_
  refine CWops.rn htt 1 ?_
  refine CWops.done ?_
  refine CW.seq ?_
  refine CW.seq ?_
  refine CW.rg ?_
  refine CWops.rn htt 1 ?_
  refine CWops.range htt (by simp only [go_sem, simprocAttr]) (by simp only [go_sem, simprocAttr]; exact rfl) tt_9 rfl ?_
  refine CWops.done ?_
  refine CW.block ?_
  refine CW.loop (S := Nat × Nat) (fun q => ⟨1, [(3, .int .i64 q.2), (7, .ref 0 [] 0)], [(0, ⟨false, [.iter s q.1]⟩)]⟩) (fun q => q.2 ≤ q.1 ∧ ∃ f, s.size ≤ q.1 + f ∧ scan s s.size 0 = (scan s f q.1).map (· + q.2)) (fun q => s.size - q.1) ((0, 0)) ?_ ⟨Nat.le_refl _, s.size, by simp, by simp⟩ (fun q ⟨h1, f, hf, hsum⟩ => ?_)
  · refine Sh.wk0 ?_; simp [Wk, go_sem, simprocAttr]
  refine CW.seq ?_
  refine CW.rg ?_
  refine CWops.nextB (by simp only [go_sem, simprocAttr]) (by simp only [go_sem, simprocAttr]; exact rfl) (by simp only [go_sem, simprocAttr]; exact rfl) (fun b hb1 hb2 => ?_)
  refine CWops.rn htt 1 ?_
  refine CWops.done ?_
  refine CW.seq ?_
  refine CW.cond (by simp only [go_sem, simprocAttr]; first | done | exact rfl) (fun ct9 => ?_) (fun ct9 => ?_)
  · have hp := hb1 ct9
    subst ct9
    refine CW.skip ?_
    refine CW.block ?_
    refine CW.seq ?_
    refine CW.rg ?_
    refine CWops.rn htt 4 ?_
    refine CWops.done ?_
    refine CW.seq ?_
    refine CW.cut ⟨1, [(3, .int .i64 q.2), (7, .ref 0 [] 0), (23, .bool (badAt s q.1))], [(0, ⟨false, [.iter s (q.1 + (Utf8.decode s q.1).2)]⟩)]⟩ ?_ ?_
    · refine CW.rg ?_
      refine CWops.rn htt 1 ?_
      refine CWops.call (name_letter up ((Utf8.decode s q.1).1 : Nat)) (by simp only [go_sem, simprocAttr]) (by simp only [go_sem, simprocAttr]; first | done | exact rfl) (by simp only [go_sem, simprocAttr]) (fun rt13 hrt13 => ?_)
      subst hrt13; refine ⟨rfl, ?_⟩
      refine CWops.rn htt 2 ?_
      all_goals (first | refine CWops.guard 15 (by simp only [go_sem, simprocAttr]; exact rfl) (fun g15 => ?_) (fun g15 => ?_) | skip)
      all_goals (refine CWops.rn htt 3 ?_)
      all_goals (first | refine CWops.guard 18 (by simp only [go_sem, simprocAttr]; exact rfl) (fun g18 => ?_) (fun g18 => ?_) | skip)
      all_goals (refine CWops.rn htt 1 ?_)
      all_goals (first | (refine CWops.skip ?_ ?_; next => (simp only [go_sem, simprocAttr]; done)) | (refine CWops.call (name_digit up ((Utf8.decode s q.1).1 : Nat)) (by simp only [go_sem, simprocAttr]) (by simp only [go_sem, simprocAttr]; first | done | exact rfl) (by simp only [go_sem, simprocAttr]) (fun rt20 hrt20 => ?_); subst hrt20; refine ⟨rfl, ?_⟩))
      all_goals (refine CWops.rn htt 3 ?_)
      all_goals (refine CWops.done ?_)
      all_goals (
        refine ⟨rfl, Sh.wk0 ?_⟩
        simp_all [Wk, go_sem, simprocAttr, badAt, nextP])
    refine CW.cond (by simp only [go_sem, simprocAttr]; first | done | exact rfl) (fun ct23 => ?_) (fun ct23 => ?_)
    · have hbad : badAt s q.1 = true := ct23
      refine CW.seq ?_
      refine CW.rg ?_
      refine CWops.rn htt 1 ?_
      refine CWops.done ?_
      refine CW.ret ?_
      refine retQ.ret (by simp only [f116, go_sem, simprocAttr]; exact rfl) (by simp only [go_sem, simprocAttr]; exact rfl) ?_ -- ret1
      refine ⟨_, ?_, rfl⟩
      have : nameLen s = 0 := by unfold nameLen; rw [hsum, scan_bad hp hf hbad]; rfl
      simp [leP, this]
    · have hbad : badAt s q.1 = false := ct23
      obtain ⟨f', hf', hsc⟩ := scan_step hp hf hbad
      have hw := decode_pos s q.1
      refine CW.skip ?_
      refine CW.rg ?_
      refine CWops.run htt 3 (by simp only [go_sem, simprocAttr, wrap_succ (Nat.lt_of_le_of_lt h1 (Nat.lt_of_lt_of_le hp hs))]; exact rfl) (by simp [go_sem, simprocAttr, wrap_succ (Nat.lt_of_le_of_lt h1 (Nat.lt_of_lt_of_le hp hs))]) ?_
      refine CWops.done ?_
      refine ⟨(q.1 + (Utf8.decode s q.1).2, q.2 + 1), ?_, ?_, ?_⟩
      · refine Sh.wk0 ?_; simp [Wk, go_sem, simprocAttr]
      · refine ⟨by show q.2 + 1 ≤ q.1 + _; omega, f', hf', ?_⟩
        rw [hsum, hsc, Option.map_map]
        congr 1
        funext x
        simp only [Function.comp]; omega
      · show s.size - (q.1 + _) < s.size - q.1; omega
  · have hp := hb2 ct9
    subst ct9
    refine CW.exit ?_
    refine CW.seq ?_
    refine CW.seq ?_
    refine CW.rg ?_
    refine CWops.rn htt 2 ?_
    refine CWops.done ?_
    refine CW.cond (by simp only [go_sem, simprocAttr]; first | done | exact rfl) (fun ct27 => ?_) (fun ct27 => ?_)
    · simp at ct27
      refine CW.seq ?_
      refine CW.rg ?_
      refine CWops.rn htt 1 ?_
      refine CWops.done ?_
      refine CW.ret ?_
      refine retQ.ret (by simp only [f116, go_sem, simprocAttr]; exact rfl) (by simp only [go_sem, simprocAttr]; exact rfl) ?_ -- ret2
      refine ⟨_, ?_, rfl⟩
      have : nameLen s = 0 := by
        unfold nameLen; rw [hsum, scan_end hp]; simp; omega
      simp [leP, this]
    · simp at ct27
      refine CW.skip ?_
      refine CW.seq ?_
      refine CW.rg ?_
      refine CWops.rn htt 2 ?_
      refine CWops.done ?_
      refine CW.ret ?_
      refine retQ.ret (by simp only [f116, go_sem, simprocAttr]; exact rfl) (by simp only [go_sem, simprocAttr]; exact rfl) ?_ -- ret3
      refine ⟨_, ?_, rfl⟩
      have : nameLen s = q.2 := by
        unfold nameLen; rw [hsum, scan_end hp]; simp; omega
      simp [leP, this]
theorem name_May (up : Bool) (s : ByteArray) : PCall prog up 89 [.str s] (· = .bool (nameMay s)) := by
  refine PCall.intro htt func89 (by kernel_rfl) rfl (Nat.le_of_ble_eq_true rfl) fun hl => ?_

  simp only [tmps0, Nat.reduceAdd]
  refine CW.seq ?_
  refine CW.rg ?_
  refine CWops.rn htt 1 ?_
  refine CWops.done ?_
  refine CW.seq ?_
  refine CW.rg ?_
  refine CWops.rn htt 1 ?_
  refine CWops.call (name_Len up s) (by simp only [go_sem, simprocAttr]) (by simp only [go_sem, simprocAttr]; first | done | exact rfl) (by simp only [go_sem, simprocAttr]) (fun rt4 hrt4 => ?_)
  subst hrt4; refine ⟨rfl, ?_⟩
  refine CWops.rn htt 2 ?_
  refine CWops.done ?_
  refine CW.ret ?_
  refine retQ.ret (by simp only [f89, go_sem, simprocAttr]; exact rfl) (by simp only [go_sem, simprocAttr]; exact rfl) ?_ -- ret1
  refine ⟨_, ?_, rfl⟩
  simp [leP, nameMay]
end Go.Ab
namespace Go.Ab
open Go Go.Proofs.Tryz
set_option maxRecDepth 100000
set_option linter.unusedSimpArgs false
set_option linter.unusedVariables false
theorem schema_field (up : Bool) (s : List GType) (f : GField) : PCall prog up 91 [.agg (eSchema s), .agg (eField f)] (· = .bool (fieldMay s f)) := by
  refine PCall.intro htt func91 (by kernel_rfl) rfl (Nat.le_of_ble_eq_true rfl) fun hl => ?_

  simp only [tmps0, Nat.reduceAdd]
  refine CW.seq ?_
  refine CW.rg ?_
  refine CWops.run htt 3 (by simp only [go_sem, simprocAttr, eSchema, eField]; exact rfl) (by simp [go_sem, simprocAttr, eSchema, eField]) ?_
  refine CWops.done ?_
  refine CW.seq ?_
  refine CW.rg ?_
  refine CWops.run htt 4 (by simp only [go_sem, simprocAttr, eField]; exact rfl) (by simp [go_sem, simprocAttr, eField]) ?_
  refine CWops.done ?_
  refine CW.cut ⟨2, [(2, .lv 0 [] 0), (3, .lv 1 [] 0), (5, .bool (if f.Kind = 5 then !decide (sFind s f.To = -1) else decide (f.To = ⟨#[]⟩)))], [(0, ⟨true, eSchema s⟩), (1, ⟨true, eField f⟩)]⟩ ?_ ?_
  · refine CW.seq ?_
    refine CW.rg ?_
    refine CWops.run htt 3 (by simp only [go_sem, simprocAttr, eField]; exact rfl) (by simp [go_sem, simprocAttr, eField]) ?_
    refine CWops.done ?_
    refine CW.cond (by simp only [go_sem, simprocAttr]; first | done | exact rfl) (fun ct11 => ?_) (fun ct11 => ?_)
    · refine CW.rg ?_
      refine CWops.run htt 3 (by simp only [go_sem, simprocAttr, eSchema, eField]; exact rfl) (by simp [go_sem, simprocAttr, eSchema, eField]) ?_
      refine CWops.call (schema_Find up s f.To) (by simp only [go_sem, simprocAttr, eSchema, eField]) (by simp only [go_sem, simprocAttr, eSchema, eField]; first | done | exact rfl) (by simp only [go_sem, simprocAttr, eSchema, eField]) (fun rt15 hrt15 => ?_)
      subst hrt15; refine ⟨rfl, ?_⟩
      refine CWops.run htt 2 (by simp only [go_sem, simprocAttr, eSchema, eField]; exact rfl) (by simp [go_sem, simprocAttr, eSchema, eField]) ?_
      refine CWops.done ?_
      refine ⟨rfl, Sh.wk0 ?_⟩
      simp_all [Wk, go_sem, simprocAttr, eSchema, eField, sFind] <;> rfl
    · refine CW.skip ?_
      refine ⟨rfl, Sh.wk0 ?_⟩
      simp_all [Wk, go_sem, simprocAttr, eSchema, eField, sFind] <;> rfl
  refine CW.seq ?_
  refine CW.rg ?_
  refine CWops.run htt 2 (by simp only [go_sem, simprocAttr, eField]; exact rfl) (by simp [go_sem, simprocAttr, eField]) ?_
  all_goals (first | refine CWops.guard 18 (by simp only [go_sem, simprocAttr, eField]; exact rfl) (fun g18 => ?_) (fun g18 => ?_) | skip)
  all_goals (refine CWops.run htt 2 (by simp only [go_sem, simprocAttr, eField]; exact rfl) (by simp [go_sem, simprocAttr, eField]) ?_)
  all_goals (first | (refine CWops.skip ?_ ?_; next => (simp only [go_sem, simprocAttr]; done)) | (refine CWops.call (name_May up f.Name) (by simp only [go_sem, simprocAttr, eField]) (by simp only [go_sem, simprocAttr, eField]; first | done | exact rfl) (by simp only [go_sem, simprocAttr, eField]) (fun rt21 hrt21 => ?_); subst hrt21; refine ⟨rfl, ?_⟩))
  all_goals (refine CWops.run htt 2 (by simp only [go_sem, simprocAttr, eField]; exact rfl) (by simp [go_sem, simprocAttr, eField]) ?_)
  all_goals (first | refine CWops.guard 23 (by simp only [go_sem, simprocAttr, eField]; exact rfl) (fun g23 => ?_) (fun g23 => ?_) | skip)
  all_goals (refine CWops.run htt 5 (by simp only [go_sem, simprocAttr, eField]; exact rfl) (by simp [go_sem, simprocAttr, eField]) ?_)
  all_goals (first | refine CWops.guard 28 (by simp only [go_sem, simprocAttr, eField]; exact rfl) (fun g28 => ?_) (fun g28 => ?_) | skip)
  all_goals (refine CWops.run htt 5 (by simp only [go_sem, simprocAttr, eField]; exact rfl) (by simp [go_sem, simprocAttr, eField]) ?_)
  all_goals (refine CWops.done ?_)
  all_goals (
    refine CW.ret ?_
    refine retQ.ret (by simp only [f91, go_sem, simprocAttr]; exact rfl) (by simp only [go_sem, simprocAttr]; exact rfl) ?_ -- ret1
    refine ⟨_, ?_, rfl⟩
    by_cases hk : f.Kind = 5 <;> simp_all [leP, fieldMay] <;> (intros; omega))
theorem schema_May (up : Bool) (s : List GType) : PCall prog up 56 [.agg (eSchema s)] (· = .bool (schemaMay s)) := by
  refine PCall.intro htt func56 (by kernel_rfl) rfl (Nat.le_of_ble_eq_true rfl) fun hl => ?_
  have hL := (hl (.agg (eSchema s)) (by simp)).agg
  have hS := (hL (.sl 2 (s.map eType)) (by simp [eSchema])).sl
  have hb := hS.1
  have hF : ∀ x ∈ s, x.F.length ≤ MX := fun x hx => by
    have h1 := (hS.2 (eType x) (List.mem_map_of_mem hx)).2 (.sl 3 (x.F.map eField)) (by simp [eType])
    simpa using h1.sl.1
  simp only [List.length_map] at hb
  simp only [tmps0, Nat.reduceAdd]
  refine CW.seq ?_
  refine CW.rg ?_
  refine CWops.run htt 2 (by simp only [go_sem, simprocAttr, eSchema]; exact rfl) (by simp [go_sem, simprocAttr, eSchema]) ?_
  refine CWops.done ?_
  refine CW.seq ?_
  refine CW.cut ⟨1, [(1, .lv 0 [] 0), (16, .bool (!(decide (0 < s.length) && decide (s.length ≤ 4))))], [(0, ⟨true, eSchema s⟩)]⟩ ?_ ?_
  · refine CW.rg ?_
    refine CWops.rn htt 5 ?_
    all_goals (first | refine CWops.guard 11 (by simp only [go_sem, simprocAttr]; exact rfl) (fun g11 => ?_) (fun g11 => ?_) | skip)
    all_goals (refine CWops.rn htt 5 ?_)
    all_goals (refine CWops.done ?_)
    all_goals (
      refine ⟨rfl, Sh.wk0 ?_⟩
      cases s <;> simp_all [Wk, go_sem, simprocAttr, eSchema] <;> first | omega | (rw [Bool.eq_iff_iff]; simp; omega))
  refine CW.cond (by simp only [go_sem, simprocAttr]; first | done | exact rfl) (fun ct16 => ?_) (fun ct16 => ?_)
  · simp only [Bool.not_eq_true'] at ct16
    refine CW.seq ?_
    refine CW.rg ?_
    refine CWops.rn htt 1 ?_
    refine CWops.done ?_
    refine CW.ret ?_
    refine retQ.ret (by simp only [f56, go_sem, simprocAttr]; exact rfl) (by simp only [go_sem, simprocAttr]; exact rfl) ?_ -- ret1
    refine ⟨_, ?_, rfl⟩
    have : schemaMay s = false := by unfold schemaMay; rw [ct16]; rfl
    simp [leP, this]
  · simp only [Bool.not_eq_false'] at ct16
    refine CW.skip ?_
    refine CW.seq ?_
    refine CW.seq ?_
    refine CW.rg ?_
    refine CWops.rn htt 4 ?_
    refine CWops.done ?_
    refine CW.block ?_
    refine CW.loop (S := Nat) (fun i => ⟨1, [(1, .lv 0 [] 0), (18, .sl 2 (s.map eType)), (19, .int .i64 s.length), (20, .int .i64 i)], [(0, ⟨true, eSchema s⟩)]⟩) (fun i => i ≤ s.length ∧ ∀ (j : Nat) (y), j < i → s[j]? = some y → typeMay s j y = true) (fun i => s.length - i) (0) ?_ ⟨Nat.zero_le _, fun j y hj => by omega⟩ (fun i ⟨h1, h2⟩ => ?_)
    · refine Sh.wk0 ?_; simp [Wk, go_sem, simprocAttr, eSchema]
    refine CW.seq ?_
    refine CW.rg ?_
    refine CWops.rn htt 1 ?_
    refine CWops.done ?_
    refine CW.seq ?_
    refine CW.cond (by simp only [go_sem, simprocAttr]; first | done | exact rfl) (fun ct21 => ?_) (fun ct21 => ?_)
    · have hi : i < s.length := by simpa using ct21
      obtain ⟨x, hx⟩ : ∃ x, s[i]? = some x := ⟨s[i], List.getElem?_eq_getElem hi⟩
      refine CW.skip ?_
      refine CW.seq ?_
      refine CW.block ?_
      refine CW.seq ?_
      refine CW.rg ?_
      refine CWops.run htt 6 (by simp only [go_sem, simprocAttr, hx, eType]; exact rfl) (by simp [go_sem, simprocAttr, hx, eType]) ?_
      refine CWops.done ?_
      refine CW.seq ?_
      refine CW.cut ⟨2, [(1, .lv 0 [] 0), (3, .int .i64 i), (4, .lv 1 [] 0), (18, .sl 2 (s.map eType)), (19, .int .i64 s.length), (20, .int .i64 i), (42, .bool (!((nameMay x.Name && decide (sFind s x.Name = i)) && decide (x.F.length ≤ 5))))], [(0, ⟨true, eSchema s⟩), (1, ⟨true, eType x⟩)]⟩ ?_ ?_
      · refine CW.rg ?_
        refine CWops.run htt 2 (by simp only [go_sem, simprocAttr, eSchema]; exact rfl) (by simp [go_sem, simprocAttr, eSchema]) ?_
        refine CWops.call (name_May up x.Name) (by simp only [go_sem, simprocAttr, eSchema]) (by simp only [go_sem, simprocAttr, eSchema]; first | done | exact rfl) (by simp only [go_sem, simprocAttr, eSchema]) (fun rt27 hrt27 => ?_)
        subst hrt27; refine ⟨rfl, ?_⟩
        refine CWops.run htt 2 (by simp only [go_sem, simprocAttr, eSchema]; exact rfl) (by simp [go_sem, simprocAttr, eSchema]) ?_
        all_goals (first | refine CWops.guard 29 (by simp only [go_sem, simprocAttr, eSchema]; exact rfl) (fun g29 => ?_) (fun g29 => ?_) | skip)
        all_goals (refine CWops.run htt 3 (by simp only [go_sem, simprocAttr, eSchema]; exact rfl) (by simp [go_sem, simprocAttr, eSchema]) ?_)
        all_goals (first | (refine CWops.skip ?_ ?_; next => (simp only [go_sem, simprocAttr]; done)) | (refine CWops.call (schema_Find up s x.Name) (by simp only [go_sem, simprocAttr, eSchema]) (by simp only [go_sem, simprocAttr, eSchema]; first | done | exact rfl) (by simp only [go_sem, simprocAttr, eSchema]) (fun rt33 hrt33 => ?_); subst hrt33; refine ⟨rfl, ?_⟩))
        all_goals (refine CWops.run htt 4 (by simp only [go_sem, simprocAttr, eSchema]; exact rfl) (by simp [go_sem, simprocAttr, eSchema]) ?_)
        all_goals (first | refine CWops.guard 37 (by simp only [go_sem, simprocAttr, eSchema]; exact rfl) (fun g37 => ?_) (fun g37 => ?_) | skip)
        all_goals (refine CWops.run htt 5 (by simp only [go_sem, simprocAttr, eSchema]; exact rfl) (by simp [go_sem, simprocAttr, eSchema]) ?_)
        all_goals (refine CWops.done ?_)
        all_goals (
          refine ⟨rfl, Sh.wk0 ?_⟩
          simp_all [Wk, go_sem, simprocAttr, eSchema, eType, sFind] <;> first | omega | (rw [Bool.eq_iff_iff]; simp; omega))
      refine CW.cond (by simp only [go_sem, simprocAttr]; first | done | exact rfl) (fun ct42 => ?_) (fun ct42 => ?_)
      · simp only [Bool.not_eq_true'] at ct42
        refine CW.seq ?_
        refine CW.rg ?_
        refine CWops.rn htt 1 ?_
        refine CWops.done ?_
        refine CW.ret ?_
        refine retQ.ret (by simp only [f56, go_sem, simprocAttr]; exact rfl) (by simp only [go_sem, simprocAttr]; exact rfl) ?_ -- ret2
        refine ⟨_, ?_, rfl⟩
        have : schemaMay s = false := by unfold schemaMay; rw [allI_no hx (by rw [Nat.zero_add]; unfold typeMay; rw [ct42]; rfl)]; simp
        simp [leP, this]
      · simp only [Bool.not_eq_false'] at ct42
        refine CW.skip ?_
        refine CW.seq ?_
        refine CW.rg ?_
        refine CWops.rn htt 4 ?_
        refine CWops.done ?_
        refine CW.block ?_
        refine CW.loop (S := Nat) (fun k => ⟨2, [(1, .lv 0 [] 0), (3, .int .i64 i), (4, .lv 1 [] 0), (18, .sl 2 (s.map eType)), (19, .int .i64 s.length), (20, .int .i64 i), (44, .sl 3 (x.F.map eField)), (45, .int .i64 x.F.length), (46, .int .i64 k)], [(0, ⟨true, eSchema s⟩), (1, ⟨true, eType x⟩)]⟩) (fun k => k ≤ x.F.length ∧ ∀ (j : Nat) (y), j < k → x.F[j]? = some y → (fieldMay s y && decide (fFind x.F y.Name = j)) = true) (fun k => x.F.length - k) (0) ?_ ⟨Nat.zero_le _, fun j y hj => by omega⟩ (fun k ⟨k1, k2⟩ => ?_)
        · refine Sh.wk0 ?_; simp [Wk, go_sem, simprocAttr, eSchema, eType]
        refine CW.seq ?_
        refine CW.rg ?_
        refine CWops.rn htt 1 ?_
        refine CWops.done ?_
        refine CW.seq ?_
        refine CW.cond (by simp only [go_sem, simprocAttr]; first | done | exact rfl) (fun ct47 => ?_) (fun ct47 => ?_)
        · have hk : k < x.F.length := by simpa using ct47
          obtain ⟨f, hf⟩ : ∃ f, x.F[k]? = some f := ⟨x.F[k], List.getElem?_eq_getElem hk⟩
          refine CW.skip ?_
          refine CW.seq ?_
          refine CW.block ?_
          refine CW.seq ?_
          refine CW.rg ?_
          refine CWops.run htt 6 (by simp only [go_sem, simprocAttr, hf, eField]; exact rfl) (by simp [go_sem, simprocAttr, hf, eField]) ?_
          refine CWops.done ?_
          refine CW.cut ⟨2, [(1, .lv 0 [] 0), (3, .int .i64 i), (4, .lv 1 [] 0), (18, .sl 2 (s.map eType)), (19, .int .i64 s.length), (20, .int .i64 i), (44, .sl 3 (x.F.map eField)), (45, .int .i64 x.F.length), (46, .int .i64 k), (62, .bool (!(fieldMay s f && decide (fFind x.F f.Name = k))))], [(0, ⟨true, eSchema s⟩), (1, ⟨true, eType x⟩)]⟩ ?_ ?_
          · refine CW.rg ?_
            refine CWops.run htt 2 (by simp only [go_sem, simprocAttr, eSchema, eField, eType]; exact rfl) (by simp [go_sem, simprocAttr, eSchema, eField, eType]) ?_
            refine CWops.call (schema_field up s f) (by simp only [go_sem, simprocAttr, eSchema, eField, eType]) (by simp only [go_sem, simprocAttr, eSchema, eField, eType]; first | done | exact rfl) (by simp only [go_sem, simprocAttr, eSchema, eField, eType]) (fun rt53 hrt53 => ?_)
            subst hrt53; refine ⟨rfl, ?_⟩
            refine CWops.run htt 2 (by simp only [go_sem, simprocAttr, eSchema, eField, eType]; exact rfl) (by simp [go_sem, simprocAttr, eSchema, eField, eType]) ?_
            all_goals (first | refine CWops.guard 55 (by simp only [go_sem, simprocAttr, eSchema, eField, eType]; exact rfl) (fun g55 => ?_) (fun g55 => ?_) | skip)
            all_goals (refine CWops.run htt 3 (by simp only [go_sem, simprocAttr, eSchema, eField, eType]; exact rfl) (by simp [go_sem, simprocAttr, eSchema, eField, eType]) ?_)
            all_goals (first | (refine CWops.skip ?_ ?_; next => (simp only [go_sem, simprocAttr]; done)) | (refine CWops.call (schema_Field up x f.Name) (by simp only [go_sem, simprocAttr, eSchema, eField, eType]) (by simp only [go_sem, simprocAttr, eSchema, eField, eType]; first | done | exact rfl) (by simp only [go_sem, simprocAttr, eSchema, eField, eType]) (fun rt59 hrt59 => ?_); subst hrt59; refine ⟨rfl, ?_⟩))
            all_goals (refine CWops.run htt 3 (by simp only [go_sem, simprocAttr, eSchema, eField, eType]; exact rfl) (by simp [go_sem, simprocAttr, eSchema, eField, eType]) ?_)
            all_goals (refine CWops.done ?_)
            all_goals (
              refine ⟨rfl, Sh.wk0 ?_⟩
              simp_all [Wk, go_sem, simprocAttr, eSchema, eType, fFind] <;> rfl)
          refine CW.cond (by simp only [go_sem, simprocAttr]; first | done | exact rfl) (fun ct62 => ?_) (fun ct62 => ?_)
          · simp only [Bool.not_eq_true'] at ct62
            refine CW.seq ?_
            refine CW.rg ?_
            refine CWops.rn htt 1 ?_
            refine CWops.done ?_
            refine CW.ret ?_
            refine retQ.ret (by simp only [f56, go_sem, simprocAttr]; exact rfl) (by simp only [go_sem, simprocAttr]; exact rfl) ?_ -- ret3
            refine ⟨_, ?_, rfl⟩
            have : schemaMay s = false := by unfold schemaMay; rw [allI_no hx (by rw [Nat.zero_add]; unfold typeMay fieldsMay; rw [allI_no hf (by rw [Nat.zero_add]; exact ct62)]; simp)]; simp
            simp [leP, this]
          · simp only [Bool.not_eq_false'] at ct62
            refine CW.skip ?_
            refine CW.rg ?_
            refine CWops.run htt 2 (by simp only [go_sem, simprocAttr, wrap_succ (Nat.lt_of_lt_of_le hk (hF x (List.mem_of_getElem? hx)))]; exact rfl) (by simp [go_sem, simprocAttr, wrap_succ (Nat.lt_of_lt_of_le hk (hF x (List.mem_of_getElem? hx)))]) ?_
            refine CWops.done ?_
            refine ⟨k + 1, ?_, ?_, ?_⟩
            · refine Sh.wk0 ?_; simp [Wk, go_sem, simprocAttr, eSchema, eType]
            · exact ⟨hk, belowI_succ (p := fun j y => fieldMay s y && decide (fFind x.F y.Name = j)) k2 hf ct62⟩
            · simp only; omega
        · have hk : k = x.F.length := by simp at ct47; omega
          refine CW.exit ?_
          refine CW.rg ?_
          refine CWops.run htt 2 (by simp only [go_sem, simprocAttr, wrap_succ (Nat.lt_of_lt_of_le hi hb)]; exact rfl) (by simp [go_sem, simprocAttr, wrap_succ (Nat.lt_of_lt_of_le hi hb)]) ?_
          refine CWops.done ?_
          refine ⟨i + 1, ?_, ?_, ?_⟩
          · refine Sh.wk0 ?_; simp [Wk, go_sem, simprocAttr, eSchema]
          · exact ⟨hi, belowI_succ h2 hx (by unfold typeMay fieldsMay; rw [ct42, belowI_all (by rw [← hk]; exact k2)]; rfl)⟩
          · simp only; omega
    · have hi : i = s.length := by simp at ct21; omega
      refine CW.exit ?_
      refine CW.seq ?_
      refine CW.rg ?_
      refine CWops.rn htt 1 ?_
      refine CWops.done ?_
      refine CW.ret ?_
      refine retQ.ret (by simp only [f56, go_sem, simprocAttr]; exact rfl) (by simp only [go_sem, simprocAttr]; exact rfl) ?_ -- ret4
      refine ⟨_, ?_, rfl⟩
      have : schemaMay s = true := by unfold schemaMay; rw [ct16, belowI_all (by rw [← hi]; exact h2)]; rfl
      simp [leP, this]
end Go.Ab
namespace Go.Ab
open Go Go.Proofs.Tryz
set_option maxRecDepth 100000
set_option linter.unusedSimpArgs false
set_option linter.unusedVariables false
@[go_sem] theorem tt_20 : tiOf prog 20 = some ⟨.iface [], 1, 16, [.nili], false⟩ := by kernel_rfl
@[go_sem] theorem tt_166 : tiOf prog 166 = some ⟨.int IntKind.i64, 1, 8, [.int .i64 0], false⟩ := by kernel_rfl
@[go_sem] theorem tt_88 : tiOf prog 88 = some ⟨.map 3 3, 1, 8, [.nilmap], false⟩ := by kernel_rfl
@[go_sem] theorem tt_91 : tiOf prog 91 = some ⟨.func, 1, 8, [.nilfunc], false⟩ := by kernel_rfl
def vOf (k : Int) (v : GVal) : AV :=
  if ((decide (0 ≤ k) && decide (k ≤ 3)) && (decide (v.S = ⟨#[]⟩) && decide (v.R = 0))) = true then .ifc 3 (.int .i64 v.N) else
  if (decide (k = 4) && (decide (v.N = 0) && decide (v.R = 0))) = true then .ifc 9 (.str v.S) else
  if (decide (k = 5) && (decide (v.N = 0) && decide (v.S = ⟨#[]⟩))) = true then .ifc 166 (.int .i64 v.R) else .nili
theorem value_of (up : Bool) (k : Int) (v : GVal) : PCall prog up 122 [.int .i64 k, .agg (eVal v)] (· = vOf k v) := by
  refine PCall.intro htt func122 (by kernel_rfl) rfl (Nat.le_of_ble_eq_true rfl) fun hl => ?_

  simp only [tmps0, Nat.reduceAdd]
  refine CW.seq ?_
  refine CW.rg ?_
  refine CWops.run htt 2 (by simp only [go_sem, simprocAttr, eVal]; exact rfl) (by simp [go_sem, simprocAttr, eVal]) ?_
  refine CWops.done ?_
  refine CW.seq ?_
  refine CW.block ?_
  refine CW.cut ⟨1, [(0, .int .i64 k), (3, .lv 0 [] 0), (5, .bool ((decide (0 ≤ k) && decide (k ≤ 3)) && (decide (v.S = ⟨#[]⟩) && decide (v.R = 0))))], [(0, ⟨true, eVal v⟩)]⟩ ?_ ?_
  · refine CW.rg ?_
    refine CWops.run htt 3 (by simp only [go_sem, simprocAttr, eVal]; exact rfl) (by simp [go_sem, simprocAttr, eVal]) ?_
    all_goals (first | refine CWops.guard 8 (by simp only [go_sem, simprocAttr, eVal]; exact rfl) (fun g8 => ?_) (fun g8 => ?_) | skip)
    all_goals (refine CWops.run htt 4 (by simp only [go_sem, simprocAttr, eVal]; exact rfl) (by simp [go_sem, simprocAttr, eVal]) ?_)
    all_goals (first | refine CWops.guard 12 (by simp only [go_sem, simprocAttr, eVal]; exact rfl) (fun g12 => ?_) (fun g12 => ?_) | skip)
    all_goals (refine CWops.run htt 7 (by simp only [go_sem, simprocAttr, eVal]; exact rfl) (by simp [go_sem, simprocAttr, eVal]) ?_)
    all_goals (refine CWops.done ?_)
    all_goals (
      refine ⟨rfl, Sh.wk0 ?_⟩
      simp_all [Wk, go_sem, simprocAttr, eVal] <;> first | done | omega | (rw [Bool.eq_iff_iff]; simp; omega) | skip)
  refine CW.cond (by simp only [go_sem, simprocAttr]; first | done | exact rfl) (fun ct5 => ?_) (fun ct5 => ?_)
  · refine CW.seq ?_
    refine CW.rg ?_
    refine CWops.run htt 4 (by simp only [go_sem, simprocAttr, eVal]; exact rfl) (by simp [go_sem, simprocAttr, eVal]) ?_
    refine CWops.done ?_
    refine CW.ret ?_
    refine retQ.ret (by simp only [f122, go_sem, simprocAttr]; exact rfl) (by simp only [go_sem, simprocAttr]; exact rfl) ?_ -- ret1
    refine ⟨_, ?_, rfl⟩
    simp only [vOf, ct5, if_true, leP]
  · refine CW.cut ⟨1, [(0, .int .i64 k), (3, .lv 0 [] 0), (22, .bool (decide (k = 4) && (decide (v.N = 0) && decide (v.R = 0))))], [(0, ⟨true, eVal v⟩)]⟩ ?_ ?_
    · refine CW.rg ?_
      refine CWops.run htt 3 (by simp only [go_sem, simprocAttr, eVal]; exact rfl) (by simp [go_sem, simprocAttr, eVal]) ?_
      all_goals (first | refine CWops.guard 25 (by simp only [go_sem, simprocAttr, eVal]; exact rfl) (fun g25 => ?_) (fun g25 => ?_) | skip)
      all_goals (refine CWops.run htt 7 (by simp only [go_sem, simprocAttr, eVal]; exact rfl) (by simp [go_sem, simprocAttr, eVal]) ?_)
      all_goals (refine CWops.done ?_)
      all_goals (
        refine ⟨rfl, Sh.wk0 ?_⟩
        simp_all [Wk, go_sem, simprocAttr, eVal] <;> first | done | omega | (rw [Bool.eq_iff_iff]; simp; omega) | skip)
    refine CW.cond (by simp only [go_sem, simprocAttr]; first | done | exact rfl) (fun ct22 => ?_) (fun ct22 => ?_)
    · refine CW.seq ?_
      refine CW.rg ?_
      refine CWops.run htt 4 (by simp only [go_sem, simprocAttr, eVal]; exact rfl) (by simp [go_sem, simprocAttr, eVal]) ?_
      refine CWops.done ?_
      refine CW.ret ?_
      refine retQ.ret (by simp only [f122, go_sem, simprocAttr]; exact rfl) (by simp only [go_sem, simprocAttr]; exact rfl) ?_ -- ret2
      refine ⟨_, ?_, rfl⟩
      simp only [vOf, ct5, ct22, Bool.false_eq_true, if_true, if_false, leP]
    · refine CW.cut ⟨1, [(0, .int .i64 k), (3, .lv 0 [] 0), (35, .bool (decide (k = 5) && (decide (v.N = 0) && decide (v.S = ⟨#[]⟩))))], [(0, ⟨true, eVal v⟩)]⟩ ?_ ?_
      · refine CW.rg ?_
        refine CWops.run htt 3 (by simp only [go_sem, simprocAttr, eVal]; exact rfl) (by simp [go_sem, simprocAttr, eVal]) ?_
        all_goals (first | refine CWops.guard 38 (by simp only [go_sem, simprocAttr, eVal]; exact rfl) (fun g38 => ?_) (fun g38 => ?_) | skip)
        all_goals (refine CWops.run htt 7 (by simp only [go_sem, simprocAttr, eVal]; exact rfl) (by simp [go_sem, simprocAttr, eVal]) ?_)
        all_goals (refine CWops.done ?_)
        all_goals (
          refine ⟨rfl, Sh.wk0 ?_⟩
          simp_all [Wk, go_sem, simprocAttr, eVal] <;> first | done | omega | (rw [Bool.eq_iff_iff]; simp; omega) | skip)
      refine CW.cond (by simp only [go_sem, simprocAttr]; first | done | exact rfl) (fun ct35 => ?_) (fun ct35 => ?_)
      · refine CW.seq ?_
        refine CW.rg ?_
        refine CWops.run htt 4 (by simp only [go_sem, simprocAttr, eVal]; exact rfl) (by simp [go_sem, simprocAttr, eVal]) ?_
        refine CWops.done ?_
        refine CW.ret ?_
        refine retQ.ret (by simp only [f122, go_sem, simprocAttr]; exact rfl) (by simp only [go_sem, simprocAttr]; exact rfl) ?_ -- ret3
        refine ⟨_, ?_, rfl⟩
        simp only [vOf, ct5, ct22, ct35, Bool.false_eq_true, if_true, if_false, leP]
      · refine CW.skip ?_
        refine CW.seq ?_
        refine CW.rg ?_
        refine CWops.rn htt 1 ?_
        refine CWops.done ?_
        refine CW.ret ?_
        refine retQ.ret (by simp only [f122, go_sem, simprocAttr]; exact rfl) (by simp only [go_sem, simprocAttr]; exact rfl) ?_ -- ret4
        refine ⟨_, ?_, rfl⟩
        simp only [vOf, ct5, ct22, ct35, if_true, Bool.false_eq_true, if_false, leP]
theorem value_fits_nil (up : Bool) (k : Int) : PCall prog up 121 [.int .i64 k, .nili] (· = .bool (false)) := by
  refine PCall.intro htt func121 (by kernel_rfl) rfl (Nat.le_of_ble_eq_true rfl) fun hl => ?_

  simp only [tmps0, Nat.reduceAdd]
  refine CW.seq ?_
  refine CW.rg ?_
  refine CWops.rn htt 1 ?_
  refine CWops.done ?_
  refine CW.seq ?_
  refine CW.seq ?_
  refine CW.rg ?_
  refine CWops.rn htt 1 ?_
  refine CWops.done ?_
  refine CW.block ?_
  refine CW.seq ?_
  refine CW.rg ?_
  refine CWops.rn htt 3 ?_
  refine CWops.done ?_
  refine CW.cond (by simp only [go_sem, simprocAttr]; first | done | exact rfl) (fun ct11 => ?_) (fun ct11 => ?_)
  · cases ct11 
  · refine CW.seq ?_
    refine CW.rg ?_
    refine CWops.rn htt 3 ?_
    refine CWops.done ?_
    refine CW.cond (by simp only [go_sem, simprocAttr]; first | done | exact rfl) (fun ct28 => ?_) (fun ct28 => ?_)
    · cases ct28 
    · refine CW.seq ?_
      refine CW.rg ?_
      refine CWops.rn htt 3 ?_
      refine CWops.done ?_
      refine CW.cond (by simp only [go_sem, simprocAttr]; first | done | exact rfl) (fun ct34 => ?_) (fun ct34 => ?_)
      · cases ct34 
      · refine CW.skip ?_
        refine CW.seq ?_
        refine CW.rg ?_
        refine CWops.rn htt 1 ?_
        refine CWops.done ?_
        refine CW.ret ?_
        refine retQ.ret (by simp only [f121, go_sem, simprocAttr]; exact rfl) (by simp only [go_sem, simprocAttr]; exact rfl) ?_ -- ret1
        refine ⟨_, ?_, rfl⟩
        simp [leP]
theorem value_fits_str (up : Bool) (k : Int) (s : ByteArray) : PCall prog up 121 [.int .i64 k, .ifc 9 (.str s)] (· = .bool (decide (s.size ≤ 12))) := by
  refine PCall.intro htt func121 (by kernel_rfl) rfl (Nat.le_of_ble_eq_true rfl) fun hl => ?_

  simp only [tmps0, Nat.reduceAdd]
  refine CW.seq ?_
  refine CW.rg ?_
  refine CWops.rn htt 1 ?_
  refine CWops.done ?_
  refine CW.seq ?_
  refine CW.seq ?_
  refine CW.rg ?_
  refine CWops.rn htt 1 ?_
  refine CWops.done ?_
  refine CW.block ?_
  refine CW.seq ?_
  refine CW.rg ?_
  refine CWops.rn htt 3 ?_
  refine CWops.done ?_
  refine CW.cond (by simp only [go_sem, simprocAttr]; first | done | exact rfl) (fun ct11 => ?_) (fun ct11 => ?_)
  · cases ct11 
  · refine CW.seq ?_
    refine CW.rg ?_
    refine CWops.rn htt 3 ?_
    refine CWops.done ?_
    refine CW.cond (by simp only [go_sem, simprocAttr]; first | done | exact rfl) (fun ct28 => ?_) (fun ct28 => ?_)
    · refine CW.seq ?_
      refine CW.rg ?_
      refine CWops.rn htt 1 ?_
      refine CWops.done ?_
      refine CW.seq ?_
      refine CW.rg ?_
      refine CWops.rn htt 4 ?_
      refine CWops.done ?_
      refine CW.ret ?_
      refine retQ.ret (by simp only [f121, go_sem, simprocAttr]; exact rfl) (by simp only [go_sem, simprocAttr]; exact rfl) ?_ -- ret1
      refine ⟨_, ?_, rfl⟩
      simp [leP] <;> omega
    · cases ct28
theorem value_fits_id (up : Bool) (k : Int) (r : Int) : PCall prog up 121 [.int .i64 k, .ifc 166 (.int .i64 r)] (· = .bool (decide (-1 ≤ r) && decide (r ≤ 1073741824))) := by
  refine PCall.intro htt func121 (by kernel_rfl) rfl (Nat.le_of_ble_eq_true rfl) fun hl => ?_

  simp only [tmps0, Nat.reduceAdd]
  refine CW.seq ?_
  refine CW.rg ?_
  refine CWops.rn htt 1 ?_
  refine CWops.done ?_
  refine CW.seq ?_
  refine CW.seq ?_
  refine CW.rg ?_
  refine CWops.rn htt 1 ?_
  refine CWops.done ?_
  refine CW.block ?_
  refine CW.seq ?_
  refine CW.rg ?_
  refine CWops.rn htt 3 ?_
  refine CWops.done ?_
  refine CW.cond (by simp only [go_sem, simprocAttr]; first | done | exact rfl) (fun ct11 => ?_) (fun ct11 => ?_)
  · cases ct11 
  · refine CW.seq ?_
    refine CW.rg ?_
    refine CWops.rn htt 3 ?_
    refine CWops.done ?_
    refine CW.cond (by simp only [go_sem, simprocAttr]; first | done | exact rfl) (fun ct28 => ?_) (fun ct28 => ?_)
    · cases ct28 
    · refine CW.seq ?_
      refine CW.rg ?_
      refine CWops.rn htt 3 ?_
      refine CWops.done ?_
      refine CW.cond (by simp only [go_sem, simprocAttr]; first | done | exact rfl) (fun ct34 => ?_) (fun ct34 => ?_)
      · refine CW.seq ?_
        refine CW.rg ?_
        refine CWops.rn htt 1 ?_
        refine CWops.done ?_
        refine CW.seq ?_
        refine CW.rg ?_
        refine CWops.rn htt 3 ?_
        all_goals (first | refine CWops.guard 38 (by simp only [go_sem, simprocAttr]; exact rfl) (fun g38 => ?_) (fun g38 => ?_) | skip)
        all_goals (refine CWops.rn htt 4 ?_)
        all_goals (refine CWops.done ?_)
        all_goals (
          refine CW.ret ?_
          refine retQ.ret (by simp only [f121, go_sem, simprocAttr]; exact rfl) (by simp only [go_sem, simprocAttr]; exact rfl) ?_ -- ret1
          refine ⟨_, ?_, rfl⟩
          simp_all [leP] <;> (intros; omega))
      · cases ct34
theorem pw_0 : (2 : Int) ^ min (IntKind.i64.wrap (IntKind.i64.wrap (8 * 2 ^ min 0 64) - 1)).toNat 64 = 128 := by decide
theorem pw_1 : (2 : Int) ^ min (IntKind.i64.wrap (IntKind.i64.wrap (8 * 2 ^ min 1 64) - 1)).toNat 64 = 32768 := by decide
theorem pw_2 : (2 : Int) ^ min (IntKind.i64.wrap (IntKind.i64.wrap (8 * 2 ^ min 2 64) - 1)).toNat 64 = 2147483648 := by decide
theorem pw_3 : (2 : Int) ^ min (IntKind.i64.wrap (IntKind.i64.wrap (8 * 2 ^ min 3 64) - 1)).toNat 64 = 9223372036854775808 := by decide
theorem fd (n : Int) (m : Nat) (h : 0 < m) : (decide (n.fdiv m = 0) || decide (n.fdiv m = -1)) = (decide (-(m : Int) ≤ n) && decide (n < m)) := by
  have h0 : (0 : Int) < m := by omega
  have e := Int.mul_fdiv_add_fmod n m
  have h1 := Int.fmod_nonneg_of_pos n h0
  have h2 := Int.fmod_lt_of_pos n h0
  rw [Bool.eq_iff_iff]
  simp only [Bool.or_eq_true, Bool.and_eq_true, decide_eq_true_eq]
  constructor
  · rintro (h | h) <;> rw [h] at e <;> omega
  · rintro ⟨h3, h4⟩
    have : n.fdiv m < 1 := by
      refine Int.lt_of_not_ge fun h5 => ?_
      have := Int.mul_le_mul_of_nonneg_left h5 (Int.le_of_lt h0)
      omega
    have : -2 < n.fdiv m := by
      refine Int.lt_of_not_ge fun h5 => ?_
      have := Int.mul_le_mul_of_nonneg_left h5 (Int.le_of_lt h0)
      omega
    omega
theorem value_fits_int0 (up : Bool) (k : Int) (n : Int) (hk : k = 0) : PCall prog up 121 [.int .i64 k, .ifc 3 (.int .i64 n)] (· = .bool (numFits k n)) := by
  refine PCall.intro htt func121 (by kernel_rfl) rfl (Nat.le_of_ble_eq_true rfl) fun hl => ?_
  subst hk
  simp only [tmps0, Nat.reduceAdd]
  refine CW.seq ?_
  refine CW.rg ?_
  refine CWops.rn htt 1 ?_
  refine CWops.done ?_
  refine CW.seq ?_
  refine CW.seq ?_
  refine CW.rg ?_
  refine CWops.rn htt 1 ?_
  refine CWops.done ?_
  refine CW.block ?_
  refine CW.seq ?_
  refine CW.rg ?_
  refine CWops.rn htt 3 ?_
  refine CWops.done ?_
  refine CW.cond (by simp only [go_sem, simprocAttr]; first | done | exact rfl) (fun ct11 => ?_) (fun ct11 => ?_)
  · refine CW.seq ?_
    refine CW.rg ?_
    refine CWops.rn htt 1 ?_
    refine CWops.done ?_
    refine CW.seq ?_
    refine CW.rg ?_
    refine CWops.rn htt 3 ?_
    refine CWops.done ?_
    refine CW.seq ?_
    refine CW.rg ?_
    refine CWops.run htt 6 (by simp only [go_sem, simprocAttr, pw_0]; exact rfl) (by simp [go_sem, simprocAttr, pw_0]) ?_
    all_goals (first | refine CWops.guard 20 (by simp only [go_sem, simprocAttr, pw_0]; exact rfl) (fun g20 => ?_) (fun g20 => ?_) | skip)
    all_goals (refine CWops.run htt 7 (by simp only [go_sem, simprocAttr, pw_0]; exact rfl) (by simp [go_sem, simprocAttr, pw_0]) ?_)
    all_goals (refine CWops.done ?_)
    all_goals (
      refine CW.ret ?_
      refine retQ.ret (by simp only [f121, go_sem, simprocAttr]; exact rfl) (by simp only [go_sem, simprocAttr]; exact rfl) ?_ -- ret1
      refine ⟨_, ?_, rfl⟩
      have := Bool.eq_iff_iff.1 (fd n (128) (by decide))
      simp only [Bool.or_eq_true, Bool.and_eq_true, decide_eq_true_eq] at this
      simp_all [leP, numFits] <;> first | done | omega | skip)
  · cases ct11
theorem value_fits_int1 (up : Bool) (k : Int) (n : Int) (hk : k = 1) : PCall prog up 121 [.int .i64 k, .ifc 3 (.int .i64 n)] (· = .bool (numFits k n)) := by
  refine PCall.intro htt func121 (by kernel_rfl) rfl (Nat.le_of_ble_eq_true rfl) fun hl => ?_
  subst hk
  simp only [tmps0, Nat.reduceAdd]
  refine CW.seq ?_
  refine CW.rg ?_
  refine CWops.rn htt 1 ?_
  refine CWops.done ?_
  refine CW.seq ?_
  refine CW.seq ?_
  refine CW.rg ?_
  refine CWops.rn htt 1 ?_
  refine CWops.done ?_
  refine CW.block ?_
  refine CW.seq ?_
  refine CW.rg ?_
  refine CWops.rn htt 3 ?_
  refine CWops.done ?_
  refine CW.cond (by simp only [go_sem, simprocAttr]; first | done | exact rfl) (fun ct11 => ?_) (fun ct11 => ?_)
  · refine CW.seq ?_
    refine CW.rg ?_
    refine CWops.rn htt 1 ?_
    refine CWops.done ?_
    refine CW.seq ?_
    refine CW.rg ?_
    refine CWops.rn htt 3 ?_
    refine CWops.done ?_
    refine CW.seq ?_
    refine CW.rg ?_
    refine CWops.run htt 6 (by simp only [go_sem, simprocAttr, pw_1]; exact rfl) (by simp [go_sem, simprocAttr, pw_1]) ?_
    all_goals (first | refine CWops.guard 20 (by simp only [go_sem, simprocAttr, pw_1]; exact rfl) (fun g20 => ?_) (fun g20 => ?_) | skip)
    all_goals (refine CWops.run htt 7 (by simp only [go_sem, simprocAttr, pw_1]; exact rfl) (by simp [go_sem, simprocAttr, pw_1]) ?_)
    all_goals (refine CWops.done ?_)
    all_goals (
      refine CW.ret ?_
      refine retQ.ret (by simp only [f121, go_sem, simprocAttr]; exact rfl) (by simp only [go_sem, simprocAttr]; exact rfl) ?_ -- ret1
      refine ⟨_, ?_, rfl⟩
      have := Bool.eq_iff_iff.1 (fd n (32768) (by decide))
      simp only [Bool.or_eq_true, Bool.and_eq_true, decide_eq_true_eq] at this
      simp_all [leP, numFits] <;> first | done | omega | skip)
  · cases ct11
theorem value_fits_int2 (up : Bool) (k : Int) (n : Int) (hk : k = 2) : PCall prog up 121 [.int .i64 k, .ifc 3 (.int .i64 n)] (· = .bool (numFits k n)) := by
  refine PCall.intro htt func121 (by kernel_rfl) rfl (Nat.le_of_ble_eq_true rfl) fun hl => ?_
  subst hk
  simp only [tmps0, Nat.reduceAdd]
  refine CW.seq ?_
  refine CW.rg ?_
  refine CWops.rn htt 1 ?_
  refine CWops.done ?_
  refine CW.seq ?_
  refine CW.seq ?_
  refine CW.rg ?_
  refine CWops.rn htt 1 ?_
  refine CWops.done ?_
  refine CW.block ?_
  refine CW.seq ?_
  refine CW.rg ?_
  refine CWops.rn htt 3 ?_
  refine CWops.done ?_
  refine CW.cond (by simp only [go_sem, simprocAttr]; first | done | exact rfl) (fun ct11 => ?_) (fun ct11 => ?_)
  · refine CW.seq ?_
    refine CW.rg ?_
    refine CWops.rn htt 1 ?_
    refine CWops.done ?_
    refine CW.seq ?_
    refine CW.rg ?_
    refine CWops.rn htt 3 ?_
    refine CWops.done ?_
    refine CW.seq ?_
    refine CW.rg ?_
    refine CWops.run htt 6 (by simp only [go_sem, simprocAttr, pw_2]; exact rfl) (by simp [go_sem, simprocAttr, pw_2]) ?_
    all_goals (first | refine CWops.guard 20 (by simp only [go_sem, simprocAttr, pw_2]; exact rfl) (fun g20 => ?_) (fun g20 => ?_) | skip)
    all_goals (refine CWops.run htt 7 (by simp only [go_sem, simprocAttr, pw_2]; exact rfl) (by simp [go_sem, simprocAttr, pw_2]) ?_)
    all_goals (refine CWops.done ?_)
    all_goals (
      refine CW.ret ?_
      refine retQ.ret (by simp only [f121, go_sem, simprocAttr]; exact rfl) (by simp only [go_sem, simprocAttr]; exact rfl) ?_ -- ret1
      refine ⟨_, ?_, rfl⟩
      have := Bool.eq_iff_iff.1 (fd n (2147483648) (by decide))
      simp only [Bool.or_eq_true, Bool.and_eq_true, decide_eq_true_eq] at this
      simp_all [leP, numFits] <;> first | done | omega | skip)
  · cases ct11
theorem value_fits_int3 (up : Bool) (k : Int) (n : Int) (hk : k = 3) : PCall prog up 121 [.int .i64 k, .ifc 3 (.int .i64 n)] (· = .bool (numFits k n)) := by
  refine PCall.intro htt func121 (by kernel_rfl) rfl (Nat.le_of_ble_eq_true rfl) fun hl => ?_
  subst hk
  simp only [tmps0, Nat.reduceAdd]
  refine CW.seq ?_
  refine CW.rg ?_
  refine CWops.rn htt 1 ?_
  refine CWops.done ?_
  refine CW.seq ?_
  refine CW.seq ?_
  refine CW.rg ?_
  refine CWops.rn htt 1 ?_
  refine CWops.done ?_
  refine CW.block ?_
  refine CW.seq ?_
  refine CW.rg ?_
  refine CWops.rn htt 3 ?_
  refine CWops.done ?_
  refine CW.cond (by simp only [go_sem, simprocAttr]; first | done | exact rfl) (fun ct11 => ?_) (fun ct11 => ?_)
  · refine CW.seq ?_
    refine CW.rg ?_
    refine CWops.rn htt 1 ?_
    refine CWops.done ?_
    refine CW.seq ?_
    refine CW.rg ?_
    refine CWops.rn htt 3 ?_
    refine CWops.done ?_
    refine CW.seq ?_
    refine CW.rg ?_
    refine CWops.run htt 6 (by simp only [go_sem, simprocAttr, pw_3]; exact rfl) (by simp [go_sem, simprocAttr, pw_3]) ?_
    all_goals (first | refine CWops.guard 20 (by simp only [go_sem, simprocAttr, pw_3]; exact rfl) (fun g20 => ?_) (fun g20 => ?_) | skip)
    all_goals (refine CWops.run htt 7 (by simp only [go_sem, simprocAttr, pw_3]; exact rfl) (by simp [go_sem, simprocAttr, pw_3]) ?_)
    all_goals (refine CWops.done ?_)
    all_goals (
      refine CW.ret ?_
      refine retQ.ret (by simp only [f121, go_sem, simprocAttr]; exact rfl) (by simp only [go_sem, simprocAttr]; exact rfl) ?_ -- ret1
      refine ⟨_, ?_, rfl⟩
      have := Bool.eq_iff_iff.1 (fd n (9223372036854775808) (by decide))
      simp only [Bool.or_eq_true, Bool.and_eq_true, decide_eq_true_eq] at this
      simp_all [leP, numFits] <;> first | done | omega | skip)
  · cases ct11
theorem vOf_pure (k : Int) (v : GVal) : (vOf k v).pure = true := by
  unfold vOf; repeat' split
  all_goals rfl
theorem value_fits (up : Bool) (f : GField) (v : GVal) : PCall prog up 121 [.int .i64 f.Kind, vOf f.Kind v] (· = .bool (valFits f v)) := by
  unfold vOf valFits
  split
  · rename_i h
    simp only [Bool.and_eq_true, decide_eq_true_eq] at h
    obtain ⟨⟨h1, h2⟩, h3, h4⟩ := h
    rw [if_neg (by omega), if_neg (by omega)]
    have : f.Kind = 0 ∨ f.Kind = 1 ∨ f.Kind = 2 ∨ f.Kind = 3 := by omega
    rw [h3, h4]
    simp only [decide_true, Bool.and_true]
    rcases this with e | e | e | e
    · exact value_fits_int0 up _ _ e
    · exact value_fits_int1 up _ _ e
    · exact value_fits_int2 up _ _ e
    · exact value_fits_int3 up _ _ e
  · rename_i h
    split
    · rename_i h2
      simp only [Bool.and_eq_true, decide_eq_true_eq] at h2
      rw [if_pos h2.1, h2.2.1, h2.2.2]
      simpa using value_fits_str up _ _
    · rename_i h2
      split
      · rename_i h3
        simp only [Bool.and_eq_true, decide_eq_true_eq] at h3
        rw [if_neg (by omega), if_pos h3.1, h3.2.1, h3.2.2]
        simpa using value_fits_id up _ _
      · rename_i h3
        refine (value_fits_nil up f.Kind).mono fun r hr => ?_
        rw [hr]
        congr 1
        symm
        split
        · rename_i e; simp [e] at h2 ⊢; intros; omega
        · split
          · rename_i e; simp [e] at h3 ⊢; intros; simp_all
          · rename_i e4 e5
            unfold numFits
            simp at h
            simp
            intro h5
            refine fun h6 => h ?_ ?_ h6
            · repeat' split at h5
              all_goals first | omega | cases h5
            · repeat' split at h5
              all_goals first | omega | cases h5
theorem value_Fits (up : Bool) (f : GField) (v : GVal) : PCall prog up 95 [.agg (eField f), .agg (eVal v)] (· = .bool (valFits f v)) := by
  refine PCall.intro htt func95 (by kernel_rfl) rfl (Nat.le_of_ble_eq_true rfl) fun hl => ?_

  simp only [tmps0, Nat.reduceAdd]
  refine CW.seq ?_
  refine CW.rg ?_
  refine CWops.run htt 3 (by simp only [go_sem, simprocAttr, eField, eVal]; exact rfl) (by simp [go_sem, simprocAttr, eField, eVal]) ?_
  refine CWops.done ?_
  refine CW.seq ?_
  refine CW.drawn mixed 6 (by decide) (by kernel_rfl) (by kernel_rfl) (by kernel_rfl) ?_
  refine Seg.run htt 5 (by simp only [go_sem, simprocAttr, eField, eVal, vOf_pure]; exact rfl) ?_
  refine Seg.callA (value_of up f.Kind v) (by simp only [go_sem, simprocAttr, eField, eVal, vOf_pure]) (by simp only [go_sem, simprocAttr, eField, eVal, vOf_pure]; first | done | exact rfl) (by simp only [go_sem, simprocAttr, eField, eVal, vOf_pure]) (by simp only [go_sem, simprocAttr, eField, eVal, vOf_pure]) ?_
  refine Seg.done ?_
  refine CWops.callA (value_fits up f v) (by simp only [go_sem, simprocAttr, eField, eVal, vOf_pure]) (by simp only [go_sem, simprocAttr, eField, eVal, vOf_pure]; first | done | exact rfl) (by simp only [go_sem, simprocAttr, eField, eVal, vOf_pure]) (by simp only [go_sem, simprocAttr, eField, eVal, vOf_pure]) (fun rt11 hrt11 => ?_)
  subst hrt11
  refine CWops.run htt 1 (by simp only [go_sem, simprocAttr, eField, eVal, vOf_pure]; exact rfl) (by simp [go_sem, simprocAttr, eField, eVal, vOf_pure]) ?_
  refine CWops.done ?_
  refine CW.ret ?_
  refine retQ.ret (by simp only [f95, go_sem, simprocAttr]; exact rfl) (by simp only [go_sem, simprocAttr]; exact rfl) ?_ -- ret1
  refine ⟨_, ?_, rfl⟩
  simp [leP]
end Go.Ab
namespace Go.Ab
open Go Go.Proofs.Tryz
set_option maxRecDepth 100000
set_option linter.unusedSimpArgs false
set_option linter.unusedVariables false
theorem graph_types (up : Bool) (g : Graph) : PCall prog up 57 [.agg (eGraph g)] (· = .fmap (tmap g.O)) := by
  refine PCall.intro htt func57 (by kernel_rfl) rfl (Nat.le_of_ble_eq_true rfl) fun hl => ?_
  have hL := (hl (.agg (eGraph g)) (by simp)).agg
  have hb := (hL (.sl 3 (g.O.map eObj)) (by simp [eGraph])).sl.1
  simp only [List.length_map] at hb
  simp only [tmps0, Nat.reduceAdd]
  refine CW.seq ?_
  refine CW.rg ?_
  refine CWops.run htt 2 (by simp only [go_sem, simprocAttr, eGraph]; exact rfl) (by simp [go_sem, simprocAttr, eGraph]) ?_
  refine CWops.done ?_
  refine CW.seq ?_
  refine CW.rg ?_
  refine CWops.rn htt 2 ?_
  refine CWops.done ?_
  refine CW.seq ?_
  refine CW.seq ?_
  refine CW.rg ?_
  refine CWops.run htt 4 (by simp only [go_sem, simprocAttr, eGraph]; exact rfl) (by simp [go_sem, simprocAttr, eGraph]) ?_
  refine CWops.done ?_
  refine CW.block ?_
  refine CW.loop (S := Nat) (fun i => ⟨2, [(3, .ref 1 [] 0), (8, .sl 3 (g.O.map eObj)), (9, .int .i64 g.O.length), (10, .int .i64 i)], [(1, ⟨false, [.omap (tmap (g.O.take i))]⟩)]⟩) (fun i => i ≤ g.O.length) (fun i => g.O.length - i) (0) ?_ (Nat.zero_le _) (fun i h1 => ?_)
  · refine Sh.wk0 ?_; simp [Wk, go_sem, simprocAttr, tmap]
  refine CW.seq ?_
  refine CW.rg ?_
  refine CWops.rn htt 1 ?_
  refine CWops.done ?_
  refine CW.seq ?_
  refine CW.cond (by simp only [go_sem, simprocAttr]; first | done | exact rfl) (fun ct11 => ?_) (fun ct11 => ?_)
  · have hi : i < g.O.length := by simpa using ct11
    obtain ⟨x, hx⟩ : ∃ x, g.O[i]? = some x := ⟨g.O[i], List.getElem?_eq_getElem hi⟩
    refine CW.skip ?_
    refine CW.seq ?_
    refine CW.block ?_
    refine CW.seq ?_
    refine CW.rg ?_
    refine CWops.run htt 4 (by simp only [go_sem, simprocAttr, hx, eObj]; exact rfl) (by simp [go_sem, simprocAttr, hx, eObj]) ?_
    refine CWops.done ?_
    refine CW.rg ?_
    refine CWops.run htt 6 (by simp only [go_sem, simprocAttr, eObj]; exact rfl) (by have := tmap_len (g.O.take i); simp only [List.length_take] at this; simp; omega) ?_
    refine CWops.done ?_
    refine CW.rg ?_
    refine CWops.run htt 2 (by simp only [go_sem, simprocAttr, wrap_succ (Nat.lt_of_lt_of_le hi hb)]; exact rfl) (by simp [go_sem, simprocAttr, wrap_succ (Nat.lt_of_lt_of_le hi hb)]) ?_
    refine CWops.done ?_
    refine ⟨i + 1, ?_, ?_, ?_⟩
    · refine Sh.wk0 ?_; simp [Wk, go_sem, simprocAttr, tmap_succ _ hx]
    · exact hi
    · simp only; omega
  · have hi : i = g.O.length := by simp at ct11; omega
    refine CW.exit ?_
    refine CW.seq ?_
    refine CW.rg ?_
    refine CWops.rn htt 2 ?_
    refine CWops.done ?_
    refine CW.ret ?_
    refine retQ.ret (by simp only [f57, go_sem, simprocAttr]; exact rfl) (by simp only [go_sem, simprocAttr]; exact rfl) ?_ -- ret1
    refine ⟨_, ?_, rfl⟩
    simp only [leP, hi, List.take_length, AV.freeze]
theorem graph_leads_some (up : Bool) (g : Graph) (f : GField) (v : GVal) (t : Int) (ht : typ g.O v.R = some t) : PCall prog up 62 [.agg (eGraph g), .fmap (tmap g.O), .agg (eField f), .agg (eVal v)] (· = .bool (leadsB g f v)) := by
  refine PCall.intro htt func62 (by kernel_rfl) rfl (Nat.le_of_ble_eq_true rfl) fun hl => ?_

  simp only [tmps0, Nat.reduceAdd]
  refine CW.seq ?_
  refine CW.rg ?_
  refine CWops.run htt 4 (by simp only [go_sem, simprocAttr, eGraph, eField, eVal]; exact rfl) (by simp [go_sem, simprocAttr, eGraph, eField, eVal]) ?_
  refine CWops.done ?_
  refine CW.seq ?_
  refine CW.seq ?_
  refine CW.rg ?_
  refine CWops.run htt 2 (by simp only [go_sem, simprocAttr, eField, eVal]; exact rfl) (by simp [go_sem, simprocAttr, eField, eVal]) ?_
  refine CWops.call (value_Fits up f v) (by simp only [go_sem, simprocAttr, eField, eVal]) (by simp only [go_sem, simprocAttr, eField, eVal]; first | done | exact rfl) (by simp only [go_sem, simprocAttr, eField, eVal]) (fun rt13 hrt13 => ?_)
  subst hrt13; refine ⟨rfl, ?_⟩
  refine CWops.run htt 1 (by simp only [go_sem, simprocAttr, eField, eVal]; exact rfl) (by simp [go_sem, simprocAttr, eField, eVal]) ?_
  refine CWops.done ?_
  refine CW.cond (by simp only [go_sem, simprocAttr]; first | done | exact rfl) (fun ct14 => ?_) (fun ct14 => ?_)
  · simp only [Bool.not_eq_true'] at ct14
    refine CW.seq ?_
    refine CW.rg ?_
    refine CWops.rn htt 1 ?_
    refine CWops.done ?_
    refine CW.ret ?_
    refine retQ.ret (by simp only [f62, go_sem, simprocAttr]; exact rfl) (by simp only [go_sem, simprocAttr]; exact rfl) ?_ -- ret1
    refine ⟨_, ?_, rfl⟩
    unfold leadsB sFind
    rw [ht]
    clear ht hl
    simp only [leP, AV.bool.injEq]
    first | (cases g32; done) | (cases g30; done) | (simp only [ct14, Bool.false_and]; done) | (rw [ct14, Bool.true_and]; first | (simp only [g25, Bool.true_or]; done) | (simp only [g25, g30, Bool.true_or, Bool.false_or]; done) | (simp only [g25, g30, Bool.true_or, Bool.false_or]; rfl))
  · simp only [Bool.not_eq_false'] at ct14
    refine CW.skip ?_
    refine CW.seq ?_
    refine CW.rg ?_
    refine CWops.run htt 9 (by simp only [go_sem, simprocAttr, eVal, maplk_tmap, ht]; exact rfl) (by simp [go_sem, simprocAttr, eVal, maplk_tmap, ht]) ?_
    refine CWops.done ?_
    refine CW.seq ?_
    refine CW.rg ?_
    refine CWops.run htt 4 (by simp only [go_sem, simprocAttr, eGraph, eField, eVal, eSchema]; exact rfl) (by simp [go_sem, simprocAttr, eGraph, eField, eVal, eSchema]) ?_
    all_goals (first | refine CWops.guard 25 (by simp only [go_sem, simprocAttr, eGraph, eField, eVal, eSchema]; exact rfl) (fun g25 => ?_) (fun g25 => ?_) | skip)
    all_goals (refine CWops.run htt 5 (by simp only [go_sem, simprocAttr, eGraph, eField, eVal, eSchema]; exact rfl) (by simp [go_sem, simprocAttr, eGraph, eField, eVal, eSchema]) ?_)
    all_goals (first | refine CWops.guard 30 (by simp only [go_sem, simprocAttr, eGraph, eField, eVal, eSchema]; exact rfl) (fun g30 => ?_) (fun g30 => ?_) | skip)
    all_goals (refine CWops.run htt 2 (by simp only [go_sem, simprocAttr, eGraph, eField, eVal, eSchema]; exact rfl) (by simp [go_sem, simprocAttr, eGraph, eField, eVal, eSchema]) ?_)
    all_goals (first | refine CWops.guard 32 (by simp only [go_sem, simprocAttr, eGraph, eField, eVal, eSchema]; exact rfl) (fun g32 => ?_) (fun g32 => ?_) | skip)
    all_goals (refine CWops.run htt 5 (by simp only [go_sem, simprocAttr, eGraph, eField, eVal, eSchema]; exact rfl) (by simp [go_sem, simprocAttr, eGraph, eField, eVal, eSchema]) ?_)
    all_goals (first | (refine CWops.skip ?_ ?_; next => (simp only [go_sem, simprocAttr]; done)) | (refine CWops.call (schema_Find up g.S f.To) (by simp only [go_sem, simprocAttr, eGraph, eField, eVal, eSchema]) (by simp only [go_sem, simprocAttr, eGraph, eField, eVal, eSchema]; first | done | exact rfl) (by simp only [go_sem, simprocAttr, eGraph, eField, eVal, eSchema]) (fun rt38 hrt38 => ?_); subst hrt38; refine ⟨rfl, ?_⟩))
    all_goals (refine CWops.run htt 4 (by simp only [go_sem, simprocAttr, eGraph, eField, eVal, eSchema]; exact rfl) (by simp [go_sem, simprocAttr, eGraph, eField, eVal, eSchema]) ?_)
    all_goals (refine CWops.done ?_)
    all_goals (
      refine CW.ret ?_
      refine retQ.ret (by simp only [f62, go_sem, simprocAttr]; exact rfl) (by simp only [go_sem, simprocAttr]; exact rfl) ?_ -- ret2
      refine ⟨_, ?_, rfl⟩
      unfold leadsB sFind
      rw [ht]
      clear ht hl
      simp only [leP, AV.bool.injEq]
      first | (cases g32; done) | (cases g30; done) | (simp only [ct14, Bool.false_and]; done) | (rw [ct14, Bool.true_and]; first | (simp only [g25, Bool.true_or]; done) | (simp only [g25, g30, Bool.true_or, Bool.false_or]; done) | (simp only [g25, g30, Bool.true_or, Bool.false_or]; rfl)))
theorem graph_leads_none (up : Bool) (g : Graph) (f : GField) (v : GVal) (ht : typ g.O v.R = none) : PCall prog up 62 [.agg (eGraph g), .fmap (tmap g.O), .agg (eField f), .agg (eVal v)] (· = .bool (leadsB g f v)) := by
  refine PCall.intro htt func62 (by kernel_rfl) rfl (Nat.le_of_ble_eq_true rfl) fun hl => ?_

  simp only [tmps0, Nat.reduceAdd]
  refine CW.seq ?_
  refine CW.rg ?_
  refine CWops.run htt 4 (by simp only [go_sem, simprocAttr, eGraph, eField, eVal]; exact rfl) (by simp [go_sem, simprocAttr, eGraph, eField, eVal]) ?_
  refine CWops.done ?_
  refine CW.seq ?_
  refine CW.seq ?_
  refine CW.rg ?_
  refine CWops.run htt 2 (by simp only [go_sem, simprocAttr, eField, eVal]; exact rfl) (by simp [go_sem, simprocAttr, eField, eVal]) ?_
  refine CWops.call (value_Fits up f v) (by simp only [go_sem, simprocAttr, eField, eVal]) (by simp only [go_sem, simprocAttr, eField, eVal]; first | done | exact rfl) (by simp only [go_sem, simprocAttr, eField, eVal]) (fun rt13 hrt13 => ?_)
  subst hrt13; refine ⟨rfl, ?_⟩
  refine CWops.run htt 1 (by simp only [go_sem, simprocAttr, eField, eVal]; exact rfl) (by simp [go_sem, simprocAttr, eField, eVal]) ?_
  refine CWops.done ?_
  refine CW.cond (by simp only [go_sem, simprocAttr]; first | done | exact rfl) (fun ct14 => ?_) (fun ct14 => ?_)
  · simp only [Bool.not_eq_true'] at ct14
    refine CW.seq ?_
    refine CW.rg ?_
    refine CWops.rn htt 1 ?_
    refine CWops.done ?_
    refine CW.ret ?_
    refine retQ.ret (by simp only [f62, go_sem, simprocAttr]; exact rfl) (by simp only [go_sem, simprocAttr]; exact rfl) ?_ -- ret1
    refine ⟨_, ?_, rfl⟩
    unfold leadsB sFind
    rw [ht]
    clear ht hl
    simp only [leP, AV.bool.injEq]
    first | (cases g32; done) | (cases g30; done) | (simp only [ct14, Bool.false_and]; done) | (rw [ct14, Bool.true_and]; first | (simp only [g25, Bool.true_or]; done) | (simp only [g25, g30, Bool.true_or, Bool.false_or]; done) | (simp only [g25, g30, Bool.true_or, Bool.false_or]; rfl))
  · simp only [Bool.not_eq_false'] at ct14
    refine CW.skip ?_
    refine CW.seq ?_
    refine CW.rg ?_
    refine CWops.run htt 9 (by simp only [go_sem, simprocAttr, eVal, maplk_tmap, ht]; exact rfl) (by simp [go_sem, simprocAttr, eVal, maplk_tmap, ht]) ?_
    refine CWops.done ?_
    refine CW.seq ?_
    refine CW.rg ?_
    refine CWops.run htt 4 (by simp only [go_sem, simprocAttr, eGraph, eField, eVal, eSchema]; exact rfl) (by simp [go_sem, simprocAttr, eGraph, eField, eVal, eSchema]) ?_
    all_goals (first | refine CWops.guard 25 (by simp only [go_sem, simprocAttr, eGraph, eField, eVal, eSchema]; exact rfl) (fun g25 => ?_) (fun g25 => ?_) | skip)
    all_goals (refine CWops.run htt 5 (by simp only [go_sem, simprocAttr, eGraph, eField, eVal, eSchema]; exact rfl) (by simp [go_sem, simprocAttr, eGraph, eField, eVal, eSchema]) ?_)
    all_goals (first | refine CWops.guard 30 (by simp only [go_sem, simprocAttr, eGraph, eField, eVal, eSchema]; exact rfl) (fun g30 => ?_) (fun g30 => ?_) | skip)
    all_goals (refine CWops.run htt 2 (by simp only [go_sem, simprocAttr, eGraph, eField, eVal, eSchema]; exact rfl) (by simp [go_sem, simprocAttr, eGraph, eField, eVal, eSchema]) ?_)
    all_goals (first | refine CWops.guard 32 (by simp only [go_sem, simprocAttr, eGraph, eField, eVal, eSchema]; exact rfl) (fun g32 => ?_) (fun g32 => ?_) | skip)
    all_goals (refine CWops.run htt 5 (by simp only [go_sem, simprocAttr, eGraph, eField, eVal, eSchema]; exact rfl) (by simp [go_sem, simprocAttr, eGraph, eField, eVal, eSchema]) ?_)
    all_goals (first | (refine CWops.skip ?_ ?_; next => (simp only [go_sem, simprocAttr]; done)) | (refine CWops.call (schema_Find up g.S f.To) (by simp only [go_sem, simprocAttr, eGraph, eField, eVal, eSchema]) (by simp only [go_sem, simprocAttr, eGraph, eField, eVal, eSchema]; first | done | exact rfl) (by simp only [go_sem, simprocAttr, eGraph, eField, eVal, eSchema]) (fun rt38 hrt38 => ?_); subst hrt38; refine ⟨rfl, ?_⟩))
    all_goals (refine CWops.run htt 4 (by simp only [go_sem, simprocAttr, eGraph, eField, eVal, eSchema]; exact rfl) (by simp [go_sem, simprocAttr, eGraph, eField, eVal, eSchema]) ?_)
    all_goals (refine CWops.done ?_)
    all_goals (
      refine CW.ret ?_
      refine retQ.ret (by simp only [f62, go_sem, simprocAttr]; exact rfl) (by simp only [go_sem, simprocAttr]; exact rfl) ?_ -- ret2
      refine ⟨_, ?_, rfl⟩
      unfold leadsB sFind
      rw [ht]
      clear ht hl
      simp only [leP, AV.bool.injEq]
      first | (cases g32; done) | (cases g30; done) | (simp only [ct14, Bool.false_and]; done) | (rw [ct14, Bool.true_and]; first | (simp only [g25, Bool.true_or]; done) | (simp only [g25, g30, Bool.true_or, Bool.false_or]; done) | (simp only [g25, g30, Bool.true_or, Bool.false_or]; rfl)))
theorem graph_leads (up : Bool) (g : Graph) (f : GField) (v : GVal) : PCall prog up 62 [.agg (eGraph g), .fmap (tmap g.O), .agg (eField f), .agg (eVal v)] (· = .bool (leadsB g f v)) := by
  cases ht : typ g.O v.R with
  | none => exact graph_leads_none up g f v ht
  | some t => exact graph_leads_some up g f v t ht
theorem graph_object (up : Bool) (g : Graph) (o : GObj) (last : Int) : PCall prog up 58 [.agg (eGraph g), .fmap (tmap g.O), .agg (eObj o), .int .i64 last] (· = .bool (objectB g o last)) := by
  refine PCall.intro htt func58 (by kernel_rfl) rfl (Nat.le_of_ble_eq_true rfl) fun hl => ?_
  have hL := (hl (.agg (eObj o)) (by simp)).agg
  have hb := (hL (.sl 3 (o.F.map eVal)) (by simp [eObj])).sl.1
  simp only [List.length_map] at hb
  simp only [tmps0, Nat.reduceAdd]
  refine CW.seq ?_
  refine CW.rg ?_
  refine CWops.run htt 3 (by simp only [go_sem, simprocAttr, eGraph, eObj]; exact rfl) (by simp [go_sem, simprocAttr, eGraph, eObj]) ?_
  refine CWops.done ?_
  refine CW.seq ?_
  refine CW.cut ⟨2, [(1, .fmap (tmap g.O)), (4, .lv 0 [] 0), (6, .lv 1 [] 0), (34, .bool (!((decide (last < o.Id) && decide (o.Id ≤ 1073741824)) && (decide (0 ≤ o.T) && decide (o.T < g.S.length)))))], [(0, ⟨true, eGraph g⟩), (1, ⟨true, eObj o⟩)]⟩ ?_ ?_
  · refine CW.rg ?_
    refine CWops.run htt 5 (by simp only [go_sem, simprocAttr, eGraph, eSchema, eObj]; exact rfl) (by simp [go_sem, simprocAttr, eGraph, eSchema, eObj]) ?_
    all_goals (first | refine CWops.guard 16 (by simp only [go_sem, simprocAttr, eGraph, eSchema, eObj]; exact rfl) (fun g16 => ?_) (fun g16 => ?_) | skip)
    all_goals (refine CWops.run htt 5 (by simp only [go_sem, simprocAttr, eGraph, eSchema, eObj]; exact rfl) (by simp [go_sem, simprocAttr, eGraph, eSchema, eObj]) ?_)
    all_goals (first | refine CWops.guard 21 (by simp only [go_sem, simprocAttr, eGraph, eSchema, eObj]; exact rfl) (fun g21 => ?_) (fun g21 => ?_) | skip)
    all_goals (refine CWops.run htt 5 (by simp only [go_sem, simprocAttr, eGraph, eSchema, eObj]; exact rfl) (by simp [go_sem, simprocAttr, eGraph, eSchema, eObj]) ?_)
    all_goals (first | refine CWops.guard 26 (by simp only [go_sem, simprocAttr, eGraph, eSchema, eObj]; exact rfl) (fun g26 => ?_) (fun g26 => ?_) | skip)
    all_goals (refine CWops.run htt 8 (by simp only [go_sem, simprocAttr, eGraph, eSchema, eObj]; exact rfl) (by simp [go_sem, simprocAttr, eGraph, eSchema, eObj]) ?_)
    all_goals (refine CWops.done ?_)
    all_goals (
      refine ⟨rfl, Sh.wk0 ?_⟩
      simp_all [Wk, go_sem, simprocAttr, eGraph, eObj] <;> first | done | omega | rfl | (rw [Bool.eq_iff_iff]; done) | (rw [Bool.eq_iff_iff]; simp; done) | (rw [Bool.eq_iff_iff]; simp; omega))
  refine CW.cond (by simp only [go_sem, simprocAttr]; first | done | exact rfl) (fun ct34 => ?_) (fun ct34 => ?_)
  · simp only [Bool.not_eq_true'] at ct34
    refine CW.seq ?_
    refine CW.rg ?_
    refine CWops.rn htt 1 ?_
    refine CWops.done ?_
    refine CW.ret ?_
    refine retQ.ret (by simp only [f58, go_sem, simprocAttr]; exact rfl) (by simp only [go_sem, simprocAttr]; exact rfl) ?_ -- ret1
    refine ⟨_, ?_, rfl⟩
    have : objectB g o last = false := by
      unfold objectB
      cases e : typeAt g.S o.T with
      | none => simp
      | some t =>
        have : (decide (0 ≤ o.T) && decide (o.T < g.S.length)) = true := by
          unfold typeAt at e; split at e
          · have := (List.getElem?_eq_some_iff.1 e).1; simp; omega
          · cases e
        rw [this] at ct34; simp only [Bool.and_true] at ct34; rw [ct34]; rfl
    simp [leP, this]
  · simp only [Bool.not_eq_false', Bool.and_eq_true, decide_eq_true_eq] at ct34
    obtain ⟨⟨h1, h2⟩, h3, h4⟩ := ct34
    obtain ⟨oi, oT, oF⟩ := o
    simp only at h1 h2 h3 h4 hb
    obtain ⟨n, rfl⟩ := Int.eq_ofNat_of_zero_le h3
    obtain ⟨t, ht⟩ : ∃ t, g.S[n]? = some t := ⟨g.S[n], List.getElem?_eq_getElem (by omega)⟩
    have hA : typeAt g.S n = some t := by unfold typeAt; rw [if_pos h3]; simpa using ht
    refine CW.skip ?_
    refine CW.seq ?_
    refine CW.rg ?_
    refine CWops.run htt 9 (by simp only [go_sem, simprocAttr, eGraph, eObj, eType, ht]; exact rfl) (by simp [go_sem, simprocAttr, eGraph, eObj, eType, ht]) ?_
    refine CWops.done ?_
    refine CW.seq ?_
    refine CW.seq ?_
    refine CW.rg ?_
    refine CWops.run htt 6 (by simp only [go_sem, simprocAttr, eObj]; exact rfl) (by simp [go_sem, simprocAttr, eObj]) ?_
    refine CWops.done ?_
    refine CW.cond (by simp only [go_sem, simprocAttr]; first | done | exact rfl) (fun ct48 => ?_) (fun ct48 => ?_)
    · have hn : oF.length ≠ t.F.length := by simp at ct48; omega
      refine CW.seq ?_
      refine CW.rg ?_
      refine CWops.rn htt 1 ?_
      refine CWops.done ?_
      refine CW.ret ?_
      refine retQ.ret (by simp only [f58, go_sem, simprocAttr]; exact rfl) (by simp only [go_sem, simprocAttr]; exact rfl) ?_ -- ret2
      refine ⟨_, ?_, rfl⟩
      have : objectB g ⟨oi, n, oF⟩ last = false := by
        unfold objectB; rw [hA]; simp [hn]
      simp [leP, this]
    · have hn : oF.length = t.F.length := by simp at ct48; omega
      refine CW.skip ?_
      refine CW.seq ?_
      refine CW.seq ?_
      refine CW.rg ?_
      refine CWops.run htt 4 (by simp only [go_sem, simprocAttr, eObj]; exact rfl) (by simp [go_sem, simprocAttr, eObj]) ?_
      refine CWops.done ?_
      refine CW.block ?_
      refine CW.loop (S := Nat) (fun k => ⟨2, [(1, .fmap (tmap g.O)), (4, .lv 0 [] 0), (6, .lv 1 [] 0), (9, .sl 3 (t.F.map eField)), (50, .sl 3 (oF.map eVal)), (51, .int .i64 oF.length), (52, .int .i64 k)], [(0, ⟨true, eGraph g⟩), (1, ⟨true, eObj ⟨oi, n, oF⟩⟩)]⟩) (fun k => k ≤ oF.length ∧ ∀ (j : Nat) (y), j < k → oF[j]? = some y → leadsAt g t.F j y = true) (fun k => oF.length - k) (0) ?_ ⟨Nat.zero_le _, fun j y hj => by omega⟩ (fun k ⟨k1, k2⟩ => ?_)
      · refine Sh.wk0 ?_; simp [Wk, go_sem, simprocAttr, eGraph, eObj]
      refine CW.seq ?_
      refine CW.rg ?_
      refine CWops.rn htt 1 ?_
      refine CWops.done ?_
      refine CW.seq ?_
      refine CW.cond (by simp only [go_sem, simprocAttr]; first | done | exact rfl) (fun ct53 => ?_) (fun ct53 => ?_)
      · have hk : k < oF.length := by simpa using ct53
        obtain ⟨v, hv⟩ : ∃ v, oF[k]? = some v := ⟨oF[k], List.getElem?_eq_getElem hk⟩
        obtain ⟨f, hf⟩ : ∃ f, t.F[k]? = some f := ⟨t.F[k], List.getElem?_eq_getElem (by omega)⟩
        refine CW.skip ?_
        refine CW.seq ?_
        refine CW.block ?_
        refine CW.seq ?_
        refine CW.rg ?_
        refine CWops.run htt 6 (by simp only [go_sem, simprocAttr, hv, eVal]; exact rfl) (by simp [go_sem, simprocAttr, hv, eVal]) ?_
        refine CWops.done ?_
        refine CW.seq ?_
        refine CW.drawn mixed 7 (by decide) (by kernel_rfl) (by kernel_rfl) (by kernel_rfl) ?_
        refine Seg.run htt 7 (by simp only [go_sem, simprocAttr, hf, eGraph, eField, eVal]; exact rfl) ?_
        refine Seg.done ?_
        refine CWops.call (graph_leads up g f v) (by simp only [go_sem, simprocAttr, hf, eGraph, eField, eVal]) (by simp only [go_sem, simprocAttr, hf, eGraph, eField, eVal]; first | done | exact rfl) (by simp only [go_sem, simprocAttr, hf, eGraph, eField, eVal]) (fun rt64 hrt64 => ?_)
        subst hrt64; refine ⟨rfl, ?_⟩
        refine CWops.run htt 1 (by simp only [go_sem, simprocAttr, hf, eGraph, eField, eVal]; exact rfl) (by simp [go_sem, simprocAttr, hf, eGraph, eField, eVal]) ?_
        refine CWops.done ?_
        refine CW.cond (by simp only [go_sem, simprocAttr]; first | done | exact rfl) (fun ct65 => ?_) (fun ct65 => ?_)
        · simp only [Bool.not_eq_true'] at ct65
          refine CW.seq ?_
          refine CW.rg ?_
          refine CWops.rn htt 1 ?_
          refine CWops.done ?_
          refine CW.ret ?_
          refine retQ.ret (by simp only [f58, go_sem, simprocAttr]; exact rfl) (by simp only [go_sem, simprocAttr]; exact rfl) ?_ -- ret3
          refine ⟨_, ?_, rfl⟩
          have : objectB g ⟨oi, n, oF⟩ last = false := by
            unfold objectB; rw [hA]; simp only; rw [allI_no hv (by rw [Nat.zero_add]; unfold leadsAt; rw [hf]; exact ct65)]; simp
          simp [leP, this]
        · simp only [Bool.not_eq_false'] at ct65
          refine CW.skip ?_
          refine CW.rg ?_
          refine CWops.run htt 2 (by simp only [go_sem, simprocAttr, wrap_succ (Nat.lt_of_lt_of_le hk hb)]; exact rfl) (by simp [go_sem, simprocAttr, wrap_succ (Nat.lt_of_lt_of_le hk hb)]) ?_
          refine CWops.done ?_
          refine ⟨k + 1, ?_, ?_, ?_⟩
          · refine Sh.wk0 ?_; simp [Wk, go_sem, simprocAttr, eGraph, eObj]
          · exact ⟨hk, belowI_succ k2 hv (by unfold leadsAt; rw [hf]; exact ct65)⟩
          · simp only; omega
      · have hk : k = oF.length := by simp at ct53; omega
        refine CW.exit ?_
        refine CW.seq ?_
        refine CW.rg ?_
        refine CWops.rn htt 1 ?_
        refine CWops.done ?_
        refine CW.ret ?_
        refine retQ.ret (by simp only [f58, go_sem, simprocAttr]; exact rfl) (by simp only [go_sem, simprocAttr]; exact rfl) ?_ -- ret4
        refine ⟨_, ?_, rfl⟩
        have : objectB g ⟨oi, n, oF⟩ last = true := by
          unfold objectB; rw [hA]; simp only; rw [belowI_all (by rw [← hk]; exact k2)]; simp [h1, h2, hn]
        simp [leP, this]
theorem graph_May_1s (up : Bool) (g : Graph) (r t : Int) (ht : typ g.O r = some t) : PCall prog up 59 [.int .i64 r, .fp [.fmap (tmap g.O)]] (· = .bool (!rootB g r)) := by
  refine PCall.intro htt func59 (by kernel_rfl) rfl (Nat.le_of_ble_eq_true rfl) fun hl => ?_

  simp only [tmps0, Nat.reduceAdd]
  refine CW.seq ?_
  refine CW.rg ?_
  refine CWops.rn htt 1 ?_
  refine CWops.done ?_
  refine CW.seq ?_
  refine CW.rg ?_
  refine CWops.run htt 8 (by simp only [go_sem, simprocAttr, maplk_tmap, ht]; exact rfl) (by simp [go_sem, simprocAttr, maplk_tmap, ht]) ?_
  refine CWops.done ?_
  refine CW.seq ?_
  refine CW.rg ?_
  refine CWops.rn htt 3 ?_
  all_goals (first | refine CWops.guard 14 (by simp only [go_sem, simprocAttr]; exact rfl) (fun g14 => ?_) (fun g14 => ?_) | skip)
  all_goals (refine CWops.rn htt 4 ?_)
  all_goals (refine CWops.done ?_)
  all_goals (
    refine CW.ret ?_
    refine retQ.ret (by simp only [f59, go_sem, simprocAttr]; exact rfl) (by simp only [go_sem, simprocAttr]; exact rfl) ?_ -- ret1
    refine ⟨_, ?_, rfl⟩
    simp_all [leP, rootB])
theorem graph_May_1n (up : Bool) (g : Graph) (r : Int) (ht : typ g.O r = none) : PCall prog up 59 [.int .i64 r, .fp [.fmap (tmap g.O)]] (· = .bool (!rootB g r)) := by
  refine PCall.intro htt func59 (by kernel_rfl) rfl (Nat.le_of_ble_eq_true rfl) fun hl => ?_

  simp only [tmps0, Nat.reduceAdd]
  refine CW.seq ?_
  refine CW.rg ?_
  refine CWops.rn htt 1 ?_
  refine CWops.done ?_
  refine CW.seq ?_
  refine CW.rg ?_
  refine CWops.run htt 8 (by simp only [go_sem, simprocAttr, maplk_tmap, ht]; exact rfl) (by simp [go_sem, simprocAttr, maplk_tmap, ht]) ?_
  refine CWops.done ?_
  refine CW.seq ?_
  refine CW.rg ?_
  refine CWops.rn htt 3 ?_
  all_goals (first | refine CWops.guard 14 (by simp only [go_sem, simprocAttr]; exact rfl) (fun g14 => ?_) (fun g14 => ?_) | skip)
  all_goals (refine CWops.rn htt 4 ?_)
  all_goals (refine CWops.done ?_)
  all_goals (
    refine CW.ret ?_
    refine retQ.ret (by simp only [f59, go_sem, simprocAttr]; exact rfl) (by simp only [go_sem, simprocAttr]; exact rfl) ?_ -- ret1
    refine ⟨_, ?_, rfl⟩
    simp_all [leP, rootB])
theorem graph_May_1 (up : Bool) (g : Graph) (r : Int) : PCall prog up 59 [.int .i64 r, .fp [.fmap (tmap g.O)]] (· = .bool (!rootB g r)) := by
  cases ht : typ g.O r with
  | none => exact graph_May_1n up g r ht
  | some t => exact graph_May_1s up g r t ht
theorem fnd_any {α : Type} (p : α → Bool) (l : List α) : decide (0 ≤ fnd p l) = l.any p := by
  cases h : l.any p with
  | true =>
    have : 0 ≤ fnd p l := by
      unfold fnd
      split
      · omega
      · rename_i e
        rw [List.findIdx?_eq_none_iff] at e
        obtain ⟨x, hx, hp⟩ := List.any_eq_true.1 h
        rw [e x hx] at hp; cases hp
    simp [this]
  | false =>
    have : fnd p l = -1 := fnd_no fun j y hy => by
      cases hp : p y with
      | false => rfl
      | true => rw [any_at hy hp] at h; cases h
    rw [this]; rfl
theorem contains_int (up : Bool) (xs : List Int) (p : Int → Bool) (fn : FuncId) (caps : List AV) (hc : pureL caps = true) (hp : ∀ x ∈ xs, PCall prog up fn (.int .i64 x :: caps) (· = .bool (p x))) : PCall prog up 60 [.sl 1 (xs.map eI), .func (.func fn) [] caps] (· = .bool (xs.any p)) := by
  refine PCall.intro htt func60 (by kernel_rfl) rfl (Nat.le_of_ble_eq_true rfl) fun hl => ?_

  simp only [tmps0, Nat.reduceAdd]
  refine CW.seq ?_
  refine CW.rg ?_
  refine CWops.rn htt 1 ?_
  refine CWops.done ?_
  refine CW.seq ?_
  refine CW.rg ?_
  refine CWops.run htt 2 (by simp only [go_sem, simprocAttr, hc]; exact rfl) (by simp [go_sem, simprocAttr, hc]) ?_
  refine CWops.callA (index_int up xs p fn caps hc hp) (by simp only [go_sem, simprocAttr, hc]) (by simp only [go_sem, simprocAttr, hc]; first | done | exact rfl) (by simp only [go_sem, simprocAttr, hc]) (by simp only [go_sem, simprocAttr, hc]) (fun rt7 hrt7 => ?_)
  subst hrt7
  refine CWops.run htt 2 (by simp only [go_sem, simprocAttr, hc]; exact rfl) (by simp [go_sem, simprocAttr, hc]) ?_
  refine CWops.done ?_
  refine CW.ret ?_
  refine retQ.ret (by simp only [f60, go_sem, simprocAttr]; exact rfl) (by simp only [go_sem, simprocAttr]; exact rfl) ?_ -- ret1
  refine ⟨_, ?_, rfl⟩
  simp only [leP, fnd_any]
theorem graph_May (up : Bool) (g : Graph) : PCall prog up 19 [.agg (eGraph g)] (· = .bool (gMay g)) := by
  refine PCall.intro htt func19 (by kernel_rfl) rfl (Nat.le_of_ble_eq_true rfl) fun hl => ?_
  have hL := (hl (.agg (eGraph g)) (by simp)).agg
  have hb := (hL (.sl 3 (g.O.map eObj)) (by simp [eGraph])).sl.1
  simp only [List.length_map] at hb
  simp only [tmps0, Nat.reduceAdd]
  refine CW.seq ?_
  refine CW.rg ?_
  refine CWops.run htt 2 (by simp only [go_sem, simprocAttr, eGraph]; exact rfl) (by simp [go_sem, simprocAttr, eGraph]) ?_
  refine CWops.done ?_
  refine CW.seq ?_
  refine CW.cut ⟨1, [(1, .lv 0 [] 0), (23, .bool (!((schemaMay g.S && decide (g.O.length ≤ 8)) && decide (g.Roots.length ≤ 3))))], [(0, ⟨true, eGraph g⟩)]⟩ ?_ ?_
  · refine CW.rg ?_
    refine CWops.run htt 2 (by simp only [go_sem, simprocAttr, eGraph, eSchema]; exact rfl) (by simp [go_sem, simprocAttr, eGraph, eSchema]) ?_
    refine CWops.call (schema_May up g.S) (by simp only [go_sem, simprocAttr, eGraph, eSchema]) (by simp only [go_sem, simprocAttr, eGraph, eSchema]; first | done | exact rfl) (by simp only [go_sem, simprocAttr, eGraph, eSchema]) (fun rt10 hrt10 => ?_)
    subst hrt10; refine ⟨rfl, ?_⟩
    refine CWops.run htt 2 (by simp only [go_sem, simprocAttr, eGraph, eSchema]; exact rfl) (by simp [go_sem, simprocAttr, eGraph, eSchema]) ?_
    all_goals (first | refine CWops.guard 12 (by simp only [go_sem, simprocAttr, eGraph, eSchema]; exact rfl) (fun g12 => ?_) (fun g12 => ?_) | skip)
    all_goals (refine CWops.run htt 6 (by simp only [go_sem, simprocAttr, eGraph, eSchema]; exact rfl) (by simp [go_sem, simprocAttr, eGraph, eSchema]) ?_)
    all_goals (first | refine CWops.guard 18 (by simp only [go_sem, simprocAttr, eGraph, eSchema]; exact rfl) (fun g18 => ?_) (fun g18 => ?_) | skip)
    all_goals (refine CWops.run htt 5 (by simp only [go_sem, simprocAttr, eGraph, eSchema]; exact rfl) (by simp [go_sem, simprocAttr, eGraph, eSchema]) ?_)
    all_goals (refine CWops.done ?_)
    all_goals (
      refine ⟨rfl, Sh.wk0 ?_⟩
      simp_all [Wk, go_sem, simprocAttr, eGraph] <;> first | done | omega | rfl | (rw [Bool.eq_iff_iff]; done) | (rw [Bool.eq_iff_iff]; simp; done) | (rw [Bool.eq_iff_iff]; simp; omega))
  refine CW.cond (by simp only [go_sem, simprocAttr]; first | done | exact rfl) (fun ct23 => ?_) (fun ct23 => ?_)
  · simp only [Bool.not_eq_true'] at ct23
    refine CW.seq ?_
    refine CW.rg ?_
    refine CWops.rn htt 1 ?_
    refine CWops.done ?_
    refine CW.ret ?_
    refine retQ.ret (by simp only [f19, go_sem, simprocAttr]; exact rfl) (by simp only [go_sem, simprocAttr]; exact rfl) ?_ -- ret1
    refine ⟨_, ?_, rfl⟩
    have : gMay g = false := by unfold gMay; rw [ct23]; rfl
    simp [leP, this]
  · simp only [Bool.not_eq_false'] at ct23
    refine CW.skip ?_
    refine CW.seq ?_
    refine CW.rg ?_
    refine CWops.run htt 1 (by simp only [go_sem, simprocAttr, eGraph]; exact rfl) (by simp [go_sem, simprocAttr, eGraph]) ?_
    refine CWops.callA (graph_types up g) (by simp only [go_sem, simprocAttr, eGraph]) (by simp only [go_sem, simprocAttr, eGraph]; first | done | exact rfl) (by simp only [go_sem, simprocAttr, eGraph]) (by simp only [go_sem, simprocAttr, eGraph]) (fun rt25 hrt25 => ?_)
    subst hrt25
    refine CWops.run htt 2 (by simp only [go_sem, simprocAttr, eGraph]; exact rfl) (by simp [go_sem, simprocAttr, eGraph]) ?_
    refine CWops.done ?_
    refine CW.seq ?_
    refine CW.rg ?_
    refine CWops.rn htt 1 ?_
    refine CWops.done ?_
    refine CW.seq ?_
    refine CW.seq ?_
    refine CW.rg ?_
    refine CWops.run htt 4 (by simp only [go_sem, simprocAttr, eGraph]; exact rfl) (by simp [go_sem, simprocAttr, eGraph]) ?_
    refine CWops.done ?_
    refine CW.block ?_
    refine CW.loop (S := Nat) (fun i => ⟨2, [(1, .lv 0 [] 0), (3, .lv 1 [] 0), (4, .int .i64 (prevId g.O i)), (27, .sl 3 (g.O.map eObj)), (28, .int .i64 g.O.length), (29, .int .i64 i)], [(0, ⟨true, eGraph g⟩), (1, ⟨true, [.fmap (tmap g.O)]⟩)]⟩) (fun i => i ≤ g.O.length ∧ ∀ (j : Nat) (y), j < i → g.O[j]? = some y → objectB g y (prevId g.O j) = true) (fun i => g.O.length - i) (0) ?_ ⟨Nat.zero_le _, fun j y hj => by omega⟩ (fun i ⟨h1, h2⟩ => ?_)
    · refine Sh.wk0 ?_; simp [Wk, go_sem, simprocAttr, eGraph, prevId]
    refine CW.seq ?_
    refine CW.rg ?_
    refine CWops.rn htt 1 ?_
    refine CWops.done ?_
    refine CW.seq ?_
    refine CW.cond (by simp only [go_sem, simprocAttr]; first | done | exact rfl) (fun ct30 => ?_) (fun ct30 => ?_)
    · have hi : i < g.O.length := by simpa using ct30
      obtain ⟨x, hx⟩ : ∃ x, g.O[i]? = some x := ⟨g.O[i], List.getElem?_eq_getElem hi⟩
      refine CW.skip ?_
      refine CW.seq ?_
      refine CW.block ?_
      refine CW.seq ?_
      refine CW.rg ?_
      refine CWops.run htt 4 (by simp only [go_sem, simprocAttr, hx, eObj]; exact rfl) (by simp [go_sem, simprocAttr, hx, eObj]) ?_
      refine CWops.done ?_
      refine CW.seq ?_
      refine CW.seq ?_
      refine CW.rg ?_
      refine CWops.run htt 4 (by simp only [go_sem, simprocAttr, eGraph, eObj]; exact rfl) (by simp [go_sem, simprocAttr, eGraph, eObj]) ?_
      refine CWops.call (graph_object up g x (prevId g.O i)) (by simp only [go_sem, simprocAttr, eGraph, eObj]) (by simp only [go_sem, simprocAttr, eGraph, eObj]; first | done | exact rfl) (by simp only [go_sem, simprocAttr, eGraph, eObj]) (fun rt37 hrt37 => ?_)
      subst hrt37; refine ⟨rfl, ?_⟩
      refine CWops.run htt 1 (by simp only [go_sem, simprocAttr, eGraph, eObj]; exact rfl) (by simp [go_sem, simprocAttr, eGraph, eObj]) ?_
      refine CWops.done ?_
      refine CW.cond (by simp only [go_sem, simprocAttr]; first | done | exact rfl) (fun ct38 => ?_) (fun ct38 => ?_)
      · simp only [Bool.not_eq_true'] at ct38
        refine CW.seq ?_
        refine CW.rg ?_
        refine CWops.rn htt 1 ?_
        refine CWops.done ?_
        refine CW.ret ?_
        refine retQ.ret (by simp only [f19, go_sem, simprocAttr]; exact rfl) (by simp only [go_sem, simprocAttr]; exact rfl) ?_ -- ret2
        refine ⟨_, ?_, rfl⟩
        have : gMay g = false := by unfold gMay; rw [allI_no hx (by rw [Nat.zero_add]; exact ct38)]; simp
        simp [leP, this]
      · simp only [Bool.not_eq_false'] at ct38
        refine CW.skip ?_
        refine CW.rg ?_
        refine CWops.run htt 3 (by simp only [go_sem, simprocAttr, eObj]; exact rfl) (by simp [go_sem, simprocAttr, eObj]) ?_
        refine CWops.done ?_
        refine CW.rg ?_
        refine CWops.run htt 2 (by simp only [go_sem, simprocAttr, wrap_succ (Nat.lt_of_lt_of_le hi hb)]; exact rfl) (by simp [go_sem, simprocAttr, wrap_succ (Nat.lt_of_lt_of_le hi hb)]) ?_
        refine CWops.done ?_
        refine ⟨i + 1, ?_, ?_, ?_⟩
        · refine Sh.wk0 ?_; simp [Wk, go_sem, simprocAttr, eGraph, prevId, hx]
        · exact ⟨hi, belowI_succ (p := fun j y => objectB g y (prevId g.O j)) h2 hx ct38⟩
        · simp only; omega
    · have hi : i = g.O.length := by simp at ct30; omega
      refine CW.exit ?_
      refine CW.seq ?_
      refine CW.rg ?_
      refine CWops.rn htt 2 ?_
      refine CWops.done ?_
      refine CW.seq ?_
      refine CW.rg ?_
      refine CWops.run htt 3 (by simp only [go_sem, simprocAttr, eGraph]; exact rfl) (by simp [go_sem, simprocAttr, eGraph]) ?_
      refine CWops.call (contains_int up g.Roots (fun r => !rootB g r) 59 [.fp [.fmap (tmap g.O)]] rfl (fun r _ => graph_May_1 up g r)) (by simp only [go_sem, simprocAttr, eGraph]) (by simp only [go_sem, simprocAttr, eGraph]; first | done | exact rfl) (by simp only [go_sem, simprocAttr, eGraph]) (fun rt46 hrt46 => ?_)
      subst hrt46; refine ⟨rfl, ?_⟩
      refine CWops.run htt 2 (by simp only [go_sem, simprocAttr, eGraph]; exact rfl) (by simp [go_sem, simprocAttr, eGraph]) ?_
      refine CWops.done ?_
      refine CW.ret ?_
      refine retQ.ret (by simp only [f19, go_sem, simprocAttr]; exact rfl) (by simp only [go_sem, simprocAttr]; exact rfl) ?_ -- ret3
      refine ⟨_, ?_, rfl⟩
      have : gMay g = !g.Roots.any (fun r => !rootB g r) := by unfold gMay; rw [ct23, belowI_all (p := fun i o => objectB g o (prevId g.O i)) (by rw [← hi]; exact h2)]; simp [List.any_eq_not_all_not]
      simp [leP, this]
end Go.Ab
namespace Go.Ab
open Go Go.Proofs.Tryz
set_option maxRecDepth 100000
set_option linter.unusedSimpArgs false
set_option linter.unusedVariables false
theorem clone_ValG (up : Bool) (xs : List GVal) (hx : xs.length * 32 ≤ MX) : GCall prog up 84 [.sl 3 (xs.map eVal)] 0 [] (fun r σ' => r = .ref 0 [] 0 ∧ σ'.n = 1 ∧ σ'.s = [(0, ⟨false, [.own 3 (xs.map eVal)]⟩)]) := by
  refine GCall.intro htt 0 func84 (by kernel_rfl) rfl (Nat.le_of_ble_eq_true rfl) (CW.told ?_)
  have hx1 : xs.length ≤ MX := by omega
  simp only [tmps0, Nat.reduceAdd]
  refine CW.seq ?_
  refine CW.rg ?_
  refine CWops.rn htt 1 ?_
  refine CWops.done ?_
  refine CW.seq ?_
  refine CW.seq ?_
  refine CW.rg ?_
  refine CWops.rn htt 1 ?_
  refine CWops.nilcmp (n := 3) (l := xs.map eVal) htt (by simp only [go_sem, simprocAttr]) (by simp only [go_sem, simprocAttr]) (by simp only [go_sem, simprocAttr]) tt_45 rfl (fun b hb => ⟨_, rfl, ?_⟩)
  refine CWops.done ?_
  refine CW.cond (by simp only [go_sem, simprocAttr]; first | done | exact rfl) (fun ct4 => ?_) (fun ct4 => ?_)
  · refine CW.seq ?_
    refine CW.rg ?_
    refine CWops.rn htt 1 ?_
    refine CWops.done ?_
    refine CW.ret ?_
    refine ⟨⟨1, [(2, .ref 0 [] 0)], [(0, ⟨false, [.own 3 (xs.map eVal)]⟩)]⟩, ?_, .inr rfl, by simp [ptrOK, go_sem, simprocAttr], _, by simp only [f84, go_sem, simprocAttr]; exact rfl, ?_⟩ -- ret1
    · have h0 := hb ct4
      refine Sh.trans (Sh.nilRoot 2 3 (by simp only [go_sem, simprocAttr]) rfl) (Sh.wk0 ?_)
      simp [Wk, go_sem, simprocAttr, h0]
    · exact ⟨rfl, rfl, rfl⟩
  · refine CW.skip ?_
    refine CW.seq ?_
    refine CW.rg ?_
    refine CWops.run htt 4 (by simp only [go_sem, simprocAttr]; exact rfl) (by refine ⟨?_, ?_, ?_⟩ <;> first | (simp [eVal, AV.cell]; done) | (simp; omega)) ?_
    refine CWops.done ?_
    refine CW.ret ?_
    refine ⟨⟨1, [(2, .ref 0 [] 0)], [(0, ⟨false, [.own 3 (xs.map eVal)]⟩)]⟩, ?_, .inr rfl, by simp [ptrOK, go_sem, simprocAttr], _, by simp only [f84, go_sem, simprocAttr]; exact rfl, ?_⟩ -- ret2
    · refine Sh.wk (fun x => x + 1) ?_
      simp [Wk, go_sem, simprocAttr]
    · exact ⟨rfl, rfl, rfl⟩
theorem clone_TypeG (up : Bool) (xs : List GType) (hx : xs.length * 40 ≤ MX) : GCall prog up 72 [.sl 2 (xs.map eType)] 0 [] (fun r σ' => r = .ref 0 [] 0 ∧ σ'.n = 1 ∧ σ'.s = [(0, ⟨false, [.own 2 (xs.map eType)]⟩)]) := by
  refine GCall.intro htt 0 func72 (by kernel_rfl) rfl (Nat.le_of_ble_eq_true rfl) (CW.told ?_)
  have hx1 : xs.length ≤ MX := by omega
  simp only [tmps0, Nat.reduceAdd]
  refine CW.seq ?_
  refine CW.rg ?_
  refine CWops.rn htt 1 ?_
  refine CWops.done ?_
  refine CW.seq ?_
  refine CW.seq ?_
  refine CW.rg ?_
  refine CWops.rn htt 1 ?_
  refine CWops.nilcmp (n := 2) (l := xs.map eType) htt (by simp only [go_sem, simprocAttr]) (by simp only [go_sem, simprocAttr]) (by simp only [go_sem, simprocAttr]) tt_22 rfl (fun b hb => ⟨_, rfl, ?_⟩)
  refine CWops.done ?_
  refine CW.cond (by simp only [go_sem, simprocAttr]; first | done | exact rfl) (fun ct4 => ?_) (fun ct4 => ?_)
  · refine CW.seq ?_
    refine CW.rg ?_
    refine CWops.rn htt 1 ?_
    refine CWops.done ?_
    refine CW.ret ?_
    refine ⟨⟨1, [(2, .ref 0 [] 0)], [(0, ⟨false, [.own 2 (xs.map eType)]⟩)]⟩, ?_, .inr rfl, by simp [ptrOK, go_sem, simprocAttr], _, by simp only [f72, go_sem, simprocAttr]; exact rfl, ?_⟩ -- ret1
    · have h0 := hb ct4
      refine Sh.trans (Sh.nilRoot 2 2 (by simp only [go_sem, simprocAttr]) rfl) (Sh.wk0 ?_)
      simp [Wk, go_sem, simprocAttr, h0]
    · exact ⟨rfl, rfl, rfl⟩
  · refine CW.skip ?_
    refine CW.seq ?_
    refine CW.rg ?_
    refine CWops.run htt 4 (by simp only [go_sem, simprocAttr]; exact rfl) (by refine ⟨?_, ?_, ?_⟩ <;> first | (simp [eType, AV.cell]; done) | (simp; omega)) ?_
    refine CWops.done ?_
    refine CW.ret ?_
    refine ⟨⟨1, [(2, .ref 0 [] 0)], [(0, ⟨false, [.own 2 (xs.map eType)]⟩)]⟩, ?_, .inr rfl, by simp [ptrOK, go_sem, simprocAttr], _, by simp only [f72, go_sem, simprocAttr]; exact rfl, ?_⟩ -- ret2
    · refine Sh.wk (fun x => x + 1) ?_
      simp [Wk, go_sem, simprocAttr]
    · exact ⟨rfl, rfl, rfl⟩
end Go.Ab
namespace Go.Ab
open Go Go.Proofs.Tryz
set_option maxRecDepth 100000
set_option linter.unusedSimpArgs false
set_option linter.unusedVariables false
theorem one_MX (b : UInt8) : (Array.size #[b] ≤ MX) = True := eq_true (by show 1 ≤ MX; unfold MX; decide)
theorem law06_One (up : Bool) : PCall prog up 63 [] (· = .agg (eSchema oneS)) := by
  refine PCall.intro htt func63 (by kernel_rfl) rfl (Nat.le_of_ble_eq_true rfl) fun hl => ?_

  simp only [tmps0, Nat.reduceAdd]
  refine CW.seq ?_
  refine CW.rg ?_
  refine CWops.rn htt 1 ?_
  refine CWops.done ?_
  refine CW.seq ?_
  refine CW.rg ?_
  refine CWops.run htt 2 (by simp only [go_sem, simprocAttr, one_MX]; exact rfl) (by simp [go_sem, simprocAttr, one_MX]) ?_
  refine CWops.run htt 1 (by simp only [go_sem, simprocAttr, List.replicate, one_MX]; exact rfl) (by simp [go_sem, simprocAttr]) ?_
  refine CWops.sh (Sh.frzT 3 1 (by simp only [go_sem, simprocAttr]) (by simp only [go_sem, simprocAttr]; first | done | exact rfl) rfl) ?_
  simp only [go_sem, simprocAttr, AV.freeze]
  refine CWops.run htt 1 (by simp only [go_sem, simprocAttr, one_MX]; exact rfl) (by simp [go_sem, simprocAttr, one_MX]) ?_
  refine CWops.run htt 1 (by simp only [go_sem, simprocAttr, List.replicate, one_MX]; exact rfl) (by simp [go_sem, simprocAttr]) ?_
  refine CWops.sh (Sh.frzT 5 2 (by simp only [go_sem, simprocAttr]) (by simp only [go_sem, simprocAttr]; first | done | exact rfl) rfl) ?_
  simp only [go_sem, simprocAttr, AV.freeze]
  refine CWops.run htt 2 (by simp only [go_sem, simprocAttr, one_MX]; exact rfl) (by simp [go_sem, simprocAttr, one_MX]) ?_
  refine CWops.done ?_
  refine CW.ret ?_
  refine retQ.ret (by simp only [f63, go_sem, simprocAttr]; exact rfl) (by simp only [go_sem, simprocAttr]; exact rfl) ?_ -- ret1
  refine ⟨_, ?_, rfl⟩
  simp [leP, leL, eSchema, eType, eField, oneS]
theorem law06_Few (up : Bool) (s : List GType) (k : Int) : PCall prog up 64 [.agg (eSchema s), .int .i64 k] (· = .bool (few06 s k)) := by
  refine PCall.intro htt func64 (by kernel_rfl) rfl (Nat.le_of_ble_eq_true rfl) fun hl => ?_
  have hL := (hl (.agg (eSchema s)) (by simp)).agg
  have hb := (hL (.sl 2 (s.map eType)) (by simp [eSchema])).sl.1
  simp only [List.length_map] at hb
  simp only [tmps0, Nat.reduceAdd]
  refine CW.seq ?_
  refine CW.rg ?_
  refine CWops.run htt 2 (by simp only [go_sem, simprocAttr, eSchema]; exact rfl) (by simp [go_sem, simprocAttr, eSchema]) ?_
  refine CWops.done ?_
  refine CW.seq ?_
  refine CW.seq ?_
  refine CW.rg ?_
  refine CWops.rn htt 1 ?_
  refine CWops.done ?_
  refine CW.block ?_
  refine CW.loop (S := Nat) (fun i => ⟨1, [(1, .int .i64 k), (2, .lv 0 [] 0), (5, .int .i64 i)], [(0, ⟨true, eSchema s⟩)]⟩) (fun i => i ≤ s.length ∧ ∀ (j : Nat) (y), j < i → s[j]? = some y → decide ((y.F.length : Int) ≤ k) = true) (fun i => s.length - i) (0) ?_ ⟨Nat.zero_le _, fun j y hj => by omega⟩ (fun i ⟨h1, h2⟩ => ?_)
  · refine Sh.wk0 ?_; simp [Wk, go_sem, simprocAttr, eSchema]
  refine CW.seq ?_
  refine CW.seq ?_
  refine CW.rg ?_
  refine CWops.run htt 5 (by simp only [go_sem, simprocAttr, eSchema]; exact rfl) (by simp [go_sem, simprocAttr, eSchema]) ?_
  refine CWops.done ?_
  refine CW.cond (by simp only [go_sem, simprocAttr]; first | done | exact rfl) (fun ct10 => ?_) (fun ct10 => ?_)
  · have hi : i < s.length := by simpa using ct10
    obtain ⟨x, hx⟩ : ∃ x, s[i]? = some x := ⟨s[i], List.getElem?_eq_getElem hi⟩
    refine CW.skip ?_
    refine CW.seq ?_
    refine CW.block ?_
    refine CW.seq ?_
    refine CW.rg ?_
    refine CWops.run htt 9 (by simp only [go_sem, simprocAttr, eSchema, hx, eType]; exact rfl) (by simp [go_sem, simprocAttr, eSchema, hx, eType]) ?_
    refine CWops.done ?_
    refine CW.cond (by simp only [go_sem, simprocAttr]; first | done | exact rfl) (fun ct21 => ?_) (fun ct21 => ?_)
    · have hp : decide ((x.F.length : Int) ≤ k) = false := by simp at ct21 ⊢; omega
      refine CW.seq ?_
      refine CW.rg ?_
      refine CWops.rn htt 1 ?_
      refine CWops.done ?_
      refine CW.ret ?_
      refine retQ.ret (by simp only [f64, go_sem, simprocAttr]; exact rfl) (by simp only [go_sem, simprocAttr]; exact rfl) ?_ -- ret1
      refine ⟨_, ?_, rfl⟩
      have : few06 s k = false := by unfold few06; rw [allI_no hx hp]; rfl
      simp [leP, this]
    · have hp : decide ((x.F.length : Int) ≤ k) = true := by simp at ct21 ⊢; omega
      refine CW.skip ?_
      refine CW.rg ?_
      refine CWops.run htt 3 (by simp only [go_sem, simprocAttr, wrap_succ (Nat.lt_of_lt_of_le hi hb)]; exact rfl) (by simp [go_sem, simprocAttr, wrap_succ (Nat.lt_of_lt_of_le hi hb)]) ?_
      refine CWops.done ?_
      refine ⟨i + 1, ?_, ?_, ?_⟩
      · refine Sh.wk0 ?_; simp [Wk, go_sem, simprocAttr, eSchema]
      · exact ⟨hi, belowI_succ (p := fun _ y => decide ((y.F.length : Int) ≤ k)) h2 hx hp⟩
      · simp only; omega
  · have hi : i = s.length := by simp at ct10; omega
    refine CW.exit ?_
    refine CW.seq ?_
    refine CW.rg ?_
    refine CWops.run htt 6 (by simp only [go_sem, simprocAttr, eSchema]; exact rfl) (by simp [go_sem, simprocAttr, eSchema]) ?_
    refine CWops.done ?_
    refine CW.ret ?_
    refine retQ.ret (by simp only [f64, go_sem, simprocAttr]; exact rfl) (by simp only [go_sem, simprocAttr]; exact rfl) ?_ -- ret2
    refine ⟨_, ?_, rfl⟩
    have : few06 s k = decide ((s.length : Int) ≤ k) := by unfold few06; rw [belowI_all (p := fun _ (y : GType) => decide ((y.F.length : Int) ≤ k)) (by rw [← hi]; exact h2)]; simp
    simp [leP, this]
theorem law08_Few (up : Bool) (g : Graph) : PCall prog up 23 [.agg (eGraph g)] (· = .bool (fewG g)) := by
  refine PCall.intro htt func23 (by kernel_rfl) rfl (Nat.le_of_ble_eq_true rfl) fun hl => ?_
  have hL := (hl (.agg (eGraph g)) (by simp)).agg
  have hb := (hL (.sl 3 (g.O.map eObj)) (by simp [eGraph])).sl.1
  simp only [List.length_map] at hb
  simp only [tmps0, Nat.reduceAdd]
  refine CW.seq ?_
  refine CW.rg ?_
  refine CWops.run htt 2 (by simp only [go_sem, simprocAttr, eGraph]; exact rfl) (by simp [go_sem, simprocAttr, eGraph]) ?_
  refine CWops.done ?_
  refine CW.seq ?_
  refine CW.rg ?_
  refine CWops.run htt 2 (by simp only [go_sem, simprocAttr, eGraph, eSchema]; exact rfl) (by simp [go_sem, simprocAttr, eGraph, eSchema]) ?_
  refine CWops.call (law06_Few up g.S 10) (by simp only [go_sem, simprocAttr, eGraph, eSchema]) (by simp only [go_sem, simprocAttr, eGraph, eSchema]; first | done | exact rfl) (by simp only [go_sem, simprocAttr, eGraph, eSchema]) (fun rt7 hrt7 => ?_)
  subst hrt7; refine ⟨rfl, ?_⟩
  refine CWops.run htt 1 (by simp only [go_sem, simprocAttr, eGraph, eSchema]; exact rfl) (by simp [go_sem, simprocAttr, eGraph, eSchema]) ?_
  refine CWops.done ?_
  refine CW.seq ?_
  refine CW.cut ⟨1, [(1, .lv 0 [] 0), (21, .bool (!((few06 g.S 10 && decide (g.O.length ≤ 12)) && decide (g.Roots.length ≤ 10))))], [(0, ⟨true, eGraph g⟩)]⟩ ?_ ?_
  · refine CW.rg ?_
    refine CWops.run htt 3 (by simp only [go_sem, simprocAttr, eGraph]; exact rfl) (by simp [go_sem, simprocAttr, eGraph]) ?_
    all_goals (first | refine CWops.guard 10 (by simp only [go_sem, simprocAttr, eGraph]; exact rfl) (fun g10 => ?_) (fun g10 => ?_) | skip)
    all_goals (refine CWops.run htt 6 (by simp only [go_sem, simprocAttr, eGraph]; exact rfl) (by simp [go_sem, simprocAttr, eGraph]) ?_)
    all_goals (first | refine CWops.guard 16 (by simp only [go_sem, simprocAttr, eGraph]; exact rfl) (fun g16 => ?_) (fun g16 => ?_) | skip)
    all_goals (refine CWops.run htt 5 (by simp only [go_sem, simprocAttr, eGraph]; exact rfl) (by simp [go_sem, simprocAttr, eGraph]) ?_)
    all_goals (refine CWops.done ?_)
    all_goals (
      refine ⟨rfl, Sh.wk0 ?_⟩
      simp_all [Wk, go_sem, simprocAttr, eGraph] <;> first | done | omega | rfl | (rw [Bool.eq_iff_iff]; done) | (rw [Bool.eq_iff_iff]; simp; done) | (rw [Bool.eq_iff_iff]; simp; omega))
  refine CW.cond (by simp only [go_sem, simprocAttr]; first | done | exact rfl) (fun ct21 => ?_) (fun ct21 => ?_)
  · simp only [Bool.not_eq_true'] at ct21
    refine CW.seq ?_
    refine CW.rg ?_
    refine CWops.rn htt 1 ?_
    refine CWops.done ?_
    refine CW.ret ?_
    refine retQ.ret (by simp only [f23, go_sem, simprocAttr]; exact rfl) (by simp only [go_sem, simprocAttr]; exact rfl) ?_ -- ret1
    refine ⟨_, ?_, rfl⟩
    have : fewG g = false := by unfold fewG; rw [ct21]; rfl
    simp [leP, this]
  · simp only [Bool.not_eq_false'] at ct21
    refine CW.skip ?_
    refine CW.seq ?_
    refine CW.seq ?_
    refine CW.rg ?_
    refine CWops.rn htt 1 ?_
    refine CWops.done ?_
    refine CW.block ?_
    refine CW.loop (S := Nat) (fun i => ⟨1, [(1, .lv 0 [] 0), (4, .int .i64 i)], [(0, ⟨true, eGraph g⟩)]⟩) (fun i => i ≤ g.O.length ∧ ∀ (j : Nat) (y), j < i → g.O[j]? = some y → decide (y.F.length ≤ 10) = true) (fun i => g.O.length - i) (0) ?_ ⟨Nat.zero_le _, fun j y hj => by omega⟩ (fun i ⟨h1, h2⟩ => ?_)
    · refine Sh.wk0 ?_; simp [Wk, go_sem, simprocAttr, eGraph]
    refine CW.seq ?_
    refine CW.seq ?_
    refine CW.rg ?_
    refine CWops.run htt 5 (by simp only [go_sem, simprocAttr, eGraph]; exact rfl) (by simp [go_sem, simprocAttr, eGraph]) ?_
    refine CWops.done ?_
    refine CW.cond (by simp only [go_sem, simprocAttr]; first | done | exact rfl) (fun ct26 => ?_) (fun ct26 => ?_)
    · have hi : i < g.O.length := by simpa using ct26
      obtain ⟨x, hx⟩ : ∃ x, g.O[i]? = some x := ⟨g.O[i], List.getElem?_eq_getElem hi⟩
      refine CW.skip ?_
      refine CW.seq ?_
      refine CW.block ?_
      refine CW.seq ?_
      refine CW.rg ?_
      refine CWops.run htt 8 (by simp only [go_sem, simprocAttr, eGraph, hx, eObj]; exact rfl) (by simp [go_sem, simprocAttr, eGraph, hx, eObj]) ?_
      refine CWops.done ?_
      refine CW.cond (by simp only [go_sem, simprocAttr]; first | done | exact rfl) (fun ct36 => ?_) (fun ct36 => ?_)
      · have hp : decide (x.F.length ≤ 10) = false := by simp at ct36 ⊢; omega
        refine CW.seq ?_
        refine CW.rg ?_
        refine CWops.rn htt 1 ?_
        refine CWops.done ?_
        refine CW.ret ?_
        refine retQ.ret (by simp only [f23, go_sem, simprocAttr]; exact rfl) (by simp only [go_sem, simprocAttr]; exact rfl) ?_ -- ret2
        refine ⟨_, ?_, rfl⟩
        have : fewG g = false := by unfold fewG; rw [allI_no hx hp]; simp
        simp [leP, this]
      · have hp : decide (x.F.length ≤ 10) = true := by simp at ct36 ⊢; omega
        refine CW.skip ?_
        refine CW.rg ?_
        refine CWops.run htt 3 (by simp only [go_sem, simprocAttr, wrap_succ (Nat.lt_of_lt_of_le hi hb)]; exact rfl) (by simp [go_sem, simprocAttr, wrap_succ (Nat.lt_of_lt_of_le hi hb)]) ?_
        refine CWops.done ?_
        refine ⟨i + 1, ?_, ?_, ?_⟩
        · refine Sh.wk0 ?_; simp [Wk, go_sem, simprocAttr, eGraph]
        · exact ⟨hi, belowI_succ (p := fun _ y => decide (y.F.length ≤ 10)) h2 hx hp⟩
        · simp only; omega
    · have hi : i = g.O.length := by simp at ct26; omega
      refine CW.exit ?_
      refine CW.seq ?_
      refine CW.rg ?_
      refine CWops.rn htt 1 ?_
      refine CWops.done ?_
      refine CW.ret ?_
      refine retQ.ret (by simp only [f23, go_sem, simprocAttr]; exact rfl) (by simp only [go_sem, simprocAttr]; exact rfl) ?_ -- ret3
      refine ⟨_, ?_, rfl⟩
      have : fewG g = true := by unfold fewG; rw [ct21, belowI_all (p := fun _ (y : GObj) => decide (y.F.length ≤ 10)) (by rw [← hi]; exact h2)]; rfl
      simp [leP, this]
end Go.Ab
namespace Go.Ab
open Go Go.Proofs.Tryz
set_option maxRecDepth 100000
set_option linter.unusedSimpArgs false
set_option linter.unusedVariables false
@[go_sem] theorem tt_31 : tiOf prog 31 = some ⟨.slice 62, 1, 24, [.nilsl], false⟩ := by kernel_rfl
@[go_sem] theorem tt_33 : tiOf prog 33 = some ⟨.struct [(26, 0), (26, 1), (31, 2), (26, 3)], 4, 96, [.nilsl, .nilsl, .nilsl, .nilsl], true⟩ := by kernel_rfl
@[go_sem] theorem tt_34 : tiOf prog 34 = some ⟨.int IntKind.i64, 1, 8, [.int .i64 0], false⟩ := by kernel_rfl
@[go_sem] theorem tt_62 : tiOf prog 62 = some ⟨.array 2 3, 2, 16, [.int .i64 0, .int .i64 0], false⟩ := by kernel_rfl
theorem clone_ObjG (up : Bool) (xs : List GObj) (hx : xs.length * 40 ≤ MX) : GCall prog up 83 [.sl 3 (xs.map eObj)] 0 [] (fun r σ' => r = .ref 0 [] 0 ∧ σ'.n = 1 ∧ σ'.s = [(0, ⟨false, [.own 3 (xs.map eObj)]⟩)]) := by
  refine GCall.intro htt 0 func83 (by kernel_rfl) rfl (Nat.le_of_ble_eq_true rfl) (CW.told ?_)
  have hx1 : xs.length ≤ MX := by omega
  simp only [tmps0, Nat.reduceAdd]
  refine CW.seq ?_
  refine CW.rg ?_
  refine CWops.rn htt 1 ?_
  refine CWops.done ?_
  refine CW.seq ?_
  refine CW.seq ?_
  refine CW.rg ?_
  refine CWops.rn htt 1 ?_
  refine CWops.nilcmp (n := 3) (l := xs.map eObj) htt (by simp only [go_sem, simprocAttr]) (by simp only [go_sem, simprocAttr]) (by simp only [go_sem, simprocAttr]) tt_25 rfl (fun b hb => ⟨_, rfl, ?_⟩)
  refine CWops.done ?_
  refine CW.cond (by simp only [go_sem, simprocAttr]; first | done | exact rfl) (fun ct4 => ?_) (fun ct4 => ?_)
  · refine CW.seq ?_
    refine CW.rg ?_
    refine CWops.rn htt 1 ?_
    refine CWops.done ?_
    refine CW.ret ?_
    refine ⟨⟨1, [(2, .ref 0 [] 0)], [(0, ⟨false, [.own 3 (xs.map eObj)]⟩)]⟩, ?_, .inr rfl, by simp [ptrOK, go_sem, simprocAttr], _, by simp only [f83, go_sem, simprocAttr]; exact rfl, ?_⟩ -- ret1
    · have h0 := hb ct4
      refine Sh.trans (Sh.nilRoot 2 3 (by simp only [go_sem, simprocAttr]) rfl) (Sh.wk0 ?_)
      simp [Wk, go_sem, simprocAttr, h0]
    · exact ⟨rfl, rfl, rfl⟩
  · refine CW.skip ?_
    refine CW.seq ?_
    refine CW.rg ?_
    refine CWops.run htt 4 (by simp only [go_sem, simprocAttr]; exact rfl) (by refine ⟨?_, ?_, ?_⟩ <;> first | (simp [eObj, AV.cell]; done) | (simp; omega)) ?_
    refine CWops.done ?_
    refine CW.ret ?_
    refine ⟨⟨1, [(2, .ref 0 [] 0)], [(0, ⟨false, [.own 3 (xs.map eObj)]⟩)]⟩, ?_, .inr rfl, by simp [ptrOK, go_sem, simprocAttr], _, by simp only [f83, go_sem, simprocAttr]; exact rfl, ?_⟩ -- ret2
    · refine Sh.wk (fun x => x + 1) ?_
      simp [Wk, go_sem, simprocAttr]
    · exact ⟨rfl, rfl, rfl⟩
theorem clone_IntG (up : Bool) (xs : List Int) (hx : xs.length * 8 ≤ MX) : GCall prog up 85 [.sl 1 (xs.map eI)] 0 [] (fun r σ' => r = .ref 0 [] 0 ∧ σ'.n = 1 ∧ σ'.s = [(0, ⟨false, [.own 1 (xs.map eI)]⟩)]) := by
  refine GCall.intro htt 0 func85 (by kernel_rfl) rfl (Nat.le_of_ble_eq_true rfl) (CW.told ?_)
  have hx1 : xs.length ≤ MX := by omega
  simp only [tmps0, Nat.reduceAdd]
  refine CW.seq ?_
  refine CW.rg ?_
  refine CWops.rn htt 1 ?_
  refine CWops.done ?_
  refine CW.seq ?_
  refine CW.seq ?_
  refine CW.rg ?_
  refine CWops.rn htt 1 ?_
  refine CWops.nilcmp (n := 1) (l := xs.map eI) htt (by simp only [go_sem, simprocAttr]) (by simp only [go_sem, simprocAttr]) (by simp only [go_sem, simprocAttr]) tt_26 rfl (fun b hb => ⟨_, rfl, ?_⟩)
  refine CWops.done ?_
  refine CW.cond (by simp only [go_sem, simprocAttr]; first | done | exact rfl) (fun ct4 => ?_) (fun ct4 => ?_)
  · refine CW.seq ?_
    refine CW.rg ?_
    refine CWops.rn htt 1 ?_
    refine CWops.done ?_
    refine CW.ret ?_
    refine ⟨⟨1, [(2, .ref 0 [] 0)], [(0, ⟨false, [.own 1 (xs.map eI)]⟩)]⟩, ?_, .inr rfl, by simp [ptrOK, go_sem, simprocAttr], _, by simp only [f85, go_sem, simprocAttr]; exact rfl, ?_⟩ -- ret1
    · have h0 := hb ct4
      refine Sh.trans (Sh.nilRoot 2 1 (by simp only [go_sem, simprocAttr]) rfl) (Sh.wk0 ?_)
      simp [Wk, go_sem, simprocAttr, h0]
    · exact ⟨rfl, rfl, rfl⟩
  · refine CW.skip ?_
    refine CW.seq ?_
    refine CW.rg ?_
    refine CWops.run htt 4 (by simp only [go_sem, simprocAttr]; exact rfl) (by refine ⟨?_, ?_, ?_⟩ <;> first | (simp [eI, AV.cell]; done) | (simp; omega)) ?_
    refine CWops.done ?_
    refine CW.ret ?_
    refine ⟨⟨1, [(2, .ref 0 [] 0)], [(0, ⟨false, [.own 1 (xs.map eI)]⟩)]⟩, ?_, .inr rfl, by simp [ptrOK, go_sem, simprocAttr], _, by simp only [f85, go_sem, simprocAttr]; exact rfl, ?_⟩ -- ret2
    · refine Sh.wk (fun x => x + 1) ?_
      simp [Wk, go_sem, simprocAttr]
    · exact ⟨rfl, rfl, rfl⟩
theorem graph_own (up : Bool) (g : Graph) (hz : GSz g) : GCall prog up 48 [.agg (eGraph g)] 0 [] (fun r σ' => r = .agg [.ref 0 [] 0, .ref 0 [] 1, .ref 0 [] 2] ∧ σ'.n = 2 ∧ σ'.s = [(0, ⟨true, OWN g⟩), (1, ⟨true, [.ref 0 [] 0, .ref 0 [] 1, .ref 0 [] 2]⟩)]) := by
  refine GCall.intro htt 0 func48 (by kernel_rfl) rfl (Nat.le_of_ble_eq_true rfl) (CW.told ?_)
  have hb1 : g.S.length ≤ MX := by have := hz.s; omega
  have hb2 : g.O.length ≤ MX := by have := hz.o; omega
  simp only [tmps0, Nat.reduceAdd]
  refine CW.seq ?_
  refine CW.rg ?_
  refine CWops.run htt 2 (by simp only [go_sem, simprocAttr, eGraph]; exact rfl) (by simp [go_sem, simprocAttr, eGraph]) ?_
  refine CWops.done ?_
  refine CW.seq ?_
  refine CW.rg ?_
  refine CWops.run htt 3 (by simp only [go_sem, simprocAttr, eGraph]; exact rfl) (by simp [go_sem, simprocAttr, eGraph]) ?_
  refine CWops.callG [] rfl (clone_TypeG up g.S hz.s) (by simp only [go_sem, simprocAttr]) (by simp only [go_sem, simprocAttr]; first | done | exact rfl) (by decide) (by simp [go_sem, simprocAttr, mName, memB]) (by simp [go_sem, simprocAttr, mName]) (by simp [go_sem, simprocAttr]) (by simp [go_sem, simprocAttr]) (by simp [go_sem, simprocAttr, mName]) (fun r σ' hσ => ?_)
  obtain ⟨σn, σt, σs⟩ := σ'
  simp only at hσ
  obtain ⟨rfl, rfl, rfl⟩ := hσ
  simp only [aftS, renS, delAll, memB, mName, List.getD_nil, killH, kref, ren, Nat.beq_eq, go_sem, simprocAttr]
  refine CWops.run htt 3 (by simp only [go_sem, simprocAttr, eGraph]; exact rfl) (by simp [go_sem, simprocAttr, eGraph]) ?_
  refine CWops.done ?_
  refine CW.seq ?_
  refine CW.seq ?_
  refine CW.rg ?_
  refine CWops.rn htt 5 ?_
  refine CWops.done ?_
  refine CW.block ?_
  refine CW.loop (S := Nat) (fun i => ⟨2, [(1, .lv 0 [] 0), (2, .lv 1 [] 0), (15, .ref 0 [] 0), (16, .int .i64 g.S.length), (17, .int .i64 i)], [(0, ⟨true, [.own 2 (g.S.map eType), .sl 3 (g.O.map eObj), .sl 1 (g.Roots.map eI)]⟩), (1, ⟨true, [.nilsl, .nilsl, .nilsl]⟩)]⟩) (fun i => i ≤ g.S.length) (fun i => g.S.length - i) (0) ?_ (Nat.zero_le _) (fun i h3 => ?_)
  · refine Sh.wk0 ?_; simp [Wk, go_sem, simprocAttr, eGraph]
  refine CW.seq ?_
  refine CW.rg ?_
  refine CWops.rn htt 1 ?_
  refine CWops.done ?_
  refine CW.seq ?_
  refine CW.cond (by simp only [go_sem, simprocAttr]; first | done | exact rfl) (fun ct18 => ?_) (fun ct18 => ?_)
  · have hi : i < g.S.length := by simpa using ct18
    obtain ⟨x, hx⟩ : ∃ x, g.S[i]? = some x := ⟨g.S[i], List.getElem?_eq_getElem hi⟩
    refine CW.skip ?_
    refine CW.seq ?_
    refine CW.block ?_
    refine CW.seq ?_
    refine CW.rg ?_
    refine CWops.run htt 6 (by simp only [go_sem, simprocAttr, hi, hx, eType]; exact rfl) (by simp [go_sem, simprocAttr, hi, hx, eType]) ?_
    refine CWops.done ?_
    refine CW.drawn mixed 7 (by decide) (by kernel_rfl) (by kernel_rfl) (by kernel_rfl) ?_
    refine Seg.run htt 6 (by simp only [go_sem, simprocAttr, hi, hx, eType]; exact rfl) ?_
    refine Seg.callA (clone_Field up x.F (hz.sf x (List.mem_of_getElem? hx))) (by simp only [go_sem, simprocAttr, hi, hx, eType]) (by simp only [go_sem, simprocAttr, hi, hx, eType]; first | done | exact rfl) (by simp only [go_sem, simprocAttr, hi, hx, eType]) (by simp only [go_sem, simprocAttr, hi, hx, eType]) ?_
    refine Seg.done ?_
    refine CWops.run htt 3 (by simp only [go_sem, simprocAttr, hi, hx, eType]; exact rfl) (by simp [go_sem, simprocAttr, hi, hx, eType]) ?_
    refine CWops.done ?_
    refine CW.rg ?_
    refine CWops.run htt 2 (by simp only [go_sem, simprocAttr, wrap_succ (Nat.lt_of_lt_of_le hi hb1)]; exact rfl) (by simp [go_sem, simprocAttr, wrap_succ (Nat.lt_of_lt_of_le hi hb1)]) ?_
    refine CWops.done ?_
    refine ⟨i + 1, ?_, ?_, ?_⟩
    · refine Sh.wk0 ?_
      have hss : (g.S.map eType).set i [.str x.Name, .sl 3 (x.F.map eField)] = g.S.map eType := set_same (by rw [List.getElem?_map, hx]; rfl)
      simp [Wk, go_sem, simprocAttr, hss]
    · exact hi
    · simp only; omega
  · have hi : i = g.S.length := by simp at ct18; omega
    refine CW.exit ?_
    refine CW.seq ?_
    refine CW.rg ?_
    refine CWops.rn htt 2 ?_
    refine CWops.callG [] rfl (clone_ObjG up g.O hz.o) (by simp only [go_sem, simprocAttr]) (by simp only [go_sem, simprocAttr]; first | done | exact rfl) (by decide) (by simp [go_sem, simprocAttr, mName, memB]) (by simp [go_sem, simprocAttr, mName]) (by simp [go_sem, simprocAttr]) (by simp [go_sem, simprocAttr]) (by simp [go_sem, simprocAttr, mName]) (fun r σ' hσ => ?_)
    obtain ⟨σn, σt, σs⟩ := σ'
    simp only at hσ
    obtain ⟨rfl, rfl, rfl⟩ := hσ
    simp only [aftS, renS, delAll, memB, mName, List.getD_nil, killH, kref, ren, Nat.beq_eq, go_sem, simprocAttr]
    refine CWops.rn htt 2 ?_
    refine CWops.done ?_
    refine CW.seq ?_
    refine CW.seq ?_
    refine CW.rg ?_
    refine CWops.rn htt 4 ?_
    refine CWops.done ?_
    refine CW.block ?_
    refine CW.loop (S := Nat) (fun i => ⟨2, [(1, .lv 0 [] 0), (2, .lv 1 [] 0), (37, .ref 0 [] 1), (38, .int .i64 g.O.length), (39, .int .i64 i)], [(0, ⟨true, [.own 2 (g.S.map eType), .own 3 (mixO g.O i), .sl 1 (g.Roots.map eI)]⟩), (1, ⟨true, [.nilsl, .nilsl, .nilsl]⟩)]⟩) (fun i => i ≤ g.O.length) (fun i => g.O.length - i) (0) ?_ (Nat.zero_le _) (fun i h4 => ?_)
    · refine Sh.wk0 ?_; simp [Wk, go_sem, simprocAttr, mixO_zero]
    refine CW.seq ?_
    refine CW.rg ?_
    refine CWops.rn htt 1 ?_
    refine CWops.done ?_
    refine CW.seq ?_
    refine CW.cond (by simp only [go_sem, simprocAttr]; first | done | exact rfl) (fun ct40 => ?_) (fun ct40 => ?_)
    · have hi : i < g.O.length := by simpa using ct40
      obtain ⟨x, hx⟩ : ∃ x, g.O[i]? = some x := ⟨g.O[i], List.getElem?_eq_getElem hi⟩
      refine CW.skip ?_
      refine CW.seq ?_
      refine CW.block ?_
      refine CW.seq ?_
      refine CW.rg ?_
      refine CWops.run htt 6 (by simp only [go_sem, simprocAttr, hi, mixO_get hx, mixO_len, eObj]; exact rfl) (by simp [go_sem, simprocAttr, hi, mixO_get hx, mixO_len, eObj]) ?_
      refine CWops.done ?_
      refine CW.drawn mixed 6 (by decide) (by kernel_rfl) (by kernel_rfl) (by kernel_rfl) ?_
      refine Seg.run htt 5 (by simp only [go_sem, simprocAttr, hi, mixO_get hx, mixO_len, eObj]; exact rfl) ?_
      refine Seg.callN (clone_ValG up x.F (hz.of_ x (List.mem_of_getElem? hx))) (by simp only [go_sem, simprocAttr]) (by simp only [go_sem, simprocAttr]; first | done | exact rfl) (by simp [go_sem, simprocAttr]) ?_
      refine Seg.done ?_
      refine CWops.run htt 3 (by simp only [go_sem, simprocAttr, hi, mixO_get hx, mixO_len, eObj]; exact rfl) (by simp [go_sem, simprocAttr, hi, mixO_get hx, mixO_len, eObj]) ?_
      refine CWops.done ?_
      refine CW.rg ?_
      refine CWops.run htt 2 (by simp only [go_sem, simprocAttr, wrap_succ (Nat.lt_of_lt_of_le hi hb2)]; exact rfl) (by simp [go_sem, simprocAttr, wrap_succ (Nat.lt_of_lt_of_le hi hb2)]) ?_
      refine CWops.done ?_
      refine ⟨i + 1, ?_, ?_, ?_⟩
      · refine Sh.wk0 ?_
        dsimp only
        rw [← mixO_set hx]
        simp [Wk, go_sem, simprocAttr, eObjO]
      · exact hi
      · simp only; omega
    · have hi : i = g.O.length := by simp at ct40; omega
      refine CW.exit ?_
      refine CW.seq ?_
      refine CW.rg ?_
      refine CWops.rn htt 2 ?_
      refine CWops.callG [] rfl (clone_IntG up g.Roots hz.r) (by simp only [go_sem, simprocAttr]) (by simp only [go_sem, simprocAttr]; first | done | exact rfl) (by decide) (by simp [go_sem, simprocAttr, mName, memB]) (by simp [go_sem, simprocAttr, mName]) (by simp [go_sem, simprocAttr]) (by simp [go_sem, simprocAttr]) (by simp [go_sem, simprocAttr, mName]) (fun r σ' hσ => ?_)
      obtain ⟨σn, σt, σs⟩ := σ'
      simp only at hσ
      obtain ⟨rfl, rfl, rfl⟩ := hσ
      simp only [aftS, renS, delAll, memB, mName, List.getD_nil, killH, kref, ren, Nat.beq_eq, go_sem, simprocAttr]
      refine CWops.rn htt 2 ?_
      refine CWops.done ?_
      refine CW.seq ?_
      refine CW.rg ?_
      refine CWops.rn htt 2 ?_
      refine CWops.done ?_
      refine CW.ret ?_
      refine ⟨⟨2, [(2, .lv 1 [] 0)], [(0, ⟨true, OWN g⟩), (1, ⟨true, [.ref 0 [] 0, .ref 0 [] 1, .ref 0 [] 2]⟩)]⟩, ?_, .inr rfl, by simp [ptrOK, go_sem, simprocAttr], _, by simp only [f48, go_sem, simprocAttr]; exact rfl, ?_⟩ -- ret1
      · refine Sh.wk0 ?_
        rw [hi, mixO_all]
        simp [Wk, go_sem, simprocAttr, OWN]
      · exact ⟨rfl, rfl, rfl⟩
end Go.Ab
namespace Go.Ab
open Go Go.Proofs.Tryz
set_option maxRecDepth 100000
set_option linter.unusedSimpArgs false
set_option linter.unusedVariables false
theorem graph_Set_none (up : Bool) (g : Graph) (id k : Int) (v : GVal) (hz : GSz g) (f1 : fnd (fun o => decide (o.Id = id)) g.O = -1) (f3 : g.O.findIdx? (fun o => decide (o.Id = id)) = none) : PCall prog up 21 [.agg (eGraph g), .int .i64 id, .int .i64 k, .agg (eVal v)] (· = .tup [.agg (eGraph (gSet g id k v).1), .int .i64 (gSet g id k v).2]) := by
  refine PCall.intro htt func21 (by kernel_rfl) rfl (Nat.le_of_ble_eq_true rfl) fun hl => ?_

  simp only [tmps0, Nat.reduceAdd]
  refine CW.seq ?_
  refine CW.rg ?_
  refine CWops.run htt 4 (by simp only [go_sem, simprocAttr, eGraph, eVal]; exact rfl) (by simp [go_sem, simprocAttr, eGraph, eVal]) ?_
  refine CWops.done ?_
  refine CW.cut ⟨6, [(0, .agg (eGraph g)), (1, .int .i64 id), (2, .int .i64 k), (4, .lv 0 [] 0), (7, .lv 1 [] 0), (8, .lv 2 [] 0), (9, .int .i64 0), (10, .lv 5 [] 0)], [(0, ⟨true, eGraph g⟩), (1, ⟨true, eVal v⟩), (2, ⟨true, [.nilsl, .nilsl, .nilsl]⟩), (3, ⟨true, OWN g⟩), (5, ⟨true, [.ref 3 [] 0, .ref 3 [] 1, .ref 3 [] 2]⟩)]⟩ ?_ ?_
  · refine CW.rg ?_
    refine CWops.run htt 1 (by simp only [go_sem, simprocAttr, eGraph, OWN]; exact rfl) (by simp [go_sem, simprocAttr, eGraph, OWN]) ?_
    refine CWops.callG [] rfl (graph_own up g hz) (by simp only [go_sem, simprocAttr]) (by simp only [go_sem, simprocAttr]; first | done | exact rfl) (by decide) (by simp [go_sem, simprocAttr, mName, memB]) (by simp [go_sem, simprocAttr, mName]) (by simp [go_sem, simprocAttr]) (by simp [go_sem, simprocAttr]) (by simp [go_sem, simprocAttr, mName, eGraph]) (fun r σ' hσ => ?_)
    obtain ⟨σn, σt, σs⟩ := σ'
    simp only at hσ
    obtain ⟨rfl, rfl, rfl⟩ := hσ
    simp only [aftS, renS, delAll, memB, mName, List.getD_nil, killH, kref, ren, Nat.beq_eq, go_sem, simprocAttr]
    refine CWops.run htt 2 (by simp only [go_sem, simprocAttr, eGraph, OWN]; exact rfl) (by simp [go_sem, simprocAttr, eGraph, OWN]) ?_
    refine CWops.done ?_
    first | refine ⟨rfl, Sh.wk0 ?_⟩ | refine Sh.wk0 ?_
    simp [Wk, go_sem, simprocAttr, eGraph, eVal, OWN]
  refine CW.seq ?_
  refine CW.seq ?_
  refine CW.rg ?_
  refine CWops.run htt 1 (by simp only [go_sem, simprocAttr, eGraph]; exact rfl) (by simp [go_sem, simprocAttr, eGraph]) ?_
  refine CWops.call (graph_May up g) (by simp only [go_sem, simprocAttr, eGraph]) (by simp only [go_sem, simprocAttr, eGraph]; first | done | exact rfl) (by simp only [go_sem, simprocAttr, eGraph]) (fun rt15 hrt15 => ?_)
  subst hrt15; refine ⟨rfl, ?_⟩
  refine CWops.run htt 1 (by simp only [go_sem, simprocAttr, eGraph]; exact rfl) (by simp [go_sem, simprocAttr, eGraph]) ?_
  refine CWops.done ?_
  refine CW.cond (by simp only [go_sem, simprocAttr]; first | done | exact rfl) (fun ct16 => ?_) (fun ct16 => ?_)
  · simp only [Bool.not_eq_true'] at ct16
    refine CW.seq ?_
    try simp only [OWN]
    refine CW.sh (Sh.trans (Sh.frzC 3 0 5 0 (by decide) rfl rfl rfl) (Sh.trans (Sh.frzC 3 1 5 1 (by decide) rfl rfl rfl) (Sh.frzC 3 2 5 2 (by decide) rfl rfl rfl))) ?_
    simp only [go_sem, simprocAttr]
    refine CW.rg ?_
    refine CWops.rn htt 3 ?_
    refine CWops.done ?_
    refine CW.ret ?_
    refine retQ.ret (by simp only [f21, go_sem, simprocAttr]; exact rfl) (by simp only [go_sem, simprocAttr]; exact rfl) ?_ -- ret1
    refine ⟨_, ?_, rfl⟩
    simp [leP, leL, gSet, ct16, eGraph]
  · simp only [Bool.not_eq_false'] at ct16
    have hm := (may_iff g).1 ct16
    refine CW.skip ?_
    refine CW.seq ?_
    refine CW.rg ?_
    refine CWops.run htt 2 (by simp only [go_sem, simprocAttr, eGraph]; exact rfl) (by simp [go_sem, simprocAttr, eGraph]) ?_
    refine CWops.call ((by have := graph_Find up g id; rw [f1] at this; exact this)) (by simp only [go_sem, simprocAttr, eGraph]) (by simp only [go_sem, simprocAttr, eGraph]; first | done | exact rfl) (by simp only [go_sem, simprocAttr, eGraph]) (fun rt20 hrt20 => ?_)
    subst hrt20; refine ⟨rfl, ?_⟩
    refine CWops.run htt 1 (by simp only [go_sem, simprocAttr, eGraph]; exact rfl) (by simp [go_sem, simprocAttr, eGraph]) ?_
    refine CWops.done ?_
    refine CW.seq ?_
    refine CW.block ?_
    refine CW.seq ?_
    refine CW.seq ?_
    refine CW.rg ?_
    refine CWops.rn htt 3 ?_
    refine CWops.done ?_
    refine CW.cond (by simp only [go_sem, simprocAttr]; first | done | exact rfl) (fun ct21 => ?_) (fun ct21 => ?_)
    · refine CW.skip ?_
      refine CW.cond (by simp only [go_sem, simprocAttr]; first | done | exact rfl) (fun ct21 => ?_) (fun ct21 => ?_)
      · refine CW.seq ?_
        try simp only [OWN]
        refine CW.sh (Sh.trans (Sh.frzC 3 0 5 0 (by decide) rfl rfl rfl) (Sh.trans (Sh.frzC 3 1 5 1 (by decide) rfl rfl rfl) (Sh.frzC 3 2 5 2 (by decide) rfl rfl rfl))) ?_
        simp only [go_sem, simprocAttr]
        refine CW.rg ?_
        refine CWops.rn htt 3 ?_
        refine CWops.done ?_
        refine CW.ret ?_
        refine retQ.ret (by simp only [f21, go_sem, simprocAttr]; exact rfl) (by simp only [go_sem, simprocAttr]; exact rfl) ?_ -- ret2
        refine ⟨_, ?_, rfl⟩
        simp [leP, leL, gSet, ct16, f3, eGraph]
      · simp at ct21 
    · simp at ct21
theorem graph_Set_some (up : Bool) (g : Graph) (id k : Int) (v : GVal) (hz : GSz g) (i : Nat) (x : GObj) (f1 : fnd (fun o => decide (o.Id = id)) g.O = i) (f2 : g.O[i]? = some x) (f3 : g.O.findIdx? (fun o => decide (o.Id = id)) = some i) : PCall prog up 21 [.agg (eGraph g), .int .i64 id, .int .i64 k, .agg (eVal v)] (· = .tup [.agg (eGraph (gSet g id k v).1), .int .i64 (gSet g id k v).2]) := by
  refine PCall.intro htt func21 (by kernel_rfl) rfl (Nat.le_of_ble_eq_true rfl) fun hl => ?_
  obtain ⟨oi, oT, oF⟩ := x
  simp only [tmps0, Nat.reduceAdd]
  refine CW.seq ?_
  refine CW.rg ?_
  refine CWops.run htt 4 (by simp only [go_sem, simprocAttr, eGraph, eVal]; exact rfl) (by simp [go_sem, simprocAttr, eGraph, eVal]) ?_
  refine CWops.done ?_
  refine CW.cut ⟨6, [(0, .agg (eGraph g)), (1, .int .i64 id), (2, .int .i64 k), (4, .lv 0 [] 0), (7, .lv 1 [] 0), (8, .lv 2 [] 0), (9, .int .i64 0), (10, .lv 5 [] 0)], [(0, ⟨true, eGraph g⟩), (1, ⟨true, eVal v⟩), (2, ⟨true, [.nilsl, .nilsl, .nilsl]⟩), (3, ⟨true, OWN g⟩), (5, ⟨true, [.ref 3 [] 0, .ref 3 [] 1, .ref 3 [] 2]⟩)]⟩ ?_ ?_
  · refine CW.rg ?_
    refine CWops.run htt 1 (by simp only [go_sem, simprocAttr, eGraph, OWN]; exact rfl) (by simp [go_sem, simprocAttr, eGraph, OWN]) ?_
    refine CWops.callG [] rfl (graph_own up g hz) (by simp only [go_sem, simprocAttr]) (by simp only [go_sem, simprocAttr]; first | done | exact rfl) (by decide) (by simp [go_sem, simprocAttr, mName, memB]) (by simp [go_sem, simprocAttr, mName]) (by simp [go_sem, simprocAttr]) (by simp [go_sem, simprocAttr]) (by simp [go_sem, simprocAttr, mName, eGraph]) (fun r σ' hσ => ?_)
    obtain ⟨σn, σt, σs⟩ := σ'
    simp only at hσ
    obtain ⟨rfl, rfl, rfl⟩ := hσ
    simp only [aftS, renS, delAll, memB, mName, List.getD_nil, killH, kref, ren, Nat.beq_eq, go_sem, simprocAttr]
    refine CWops.run htt 2 (by simp only [go_sem, simprocAttr, eGraph, OWN]; exact rfl) (by simp [go_sem, simprocAttr, eGraph, OWN]) ?_
    refine CWops.done ?_
    first | refine ⟨rfl, Sh.wk0 ?_⟩ | refine Sh.wk0 ?_
    simp [Wk, go_sem, simprocAttr, eGraph, eVal, OWN]
  refine CW.seq ?_
  refine CW.seq ?_
  refine CW.rg ?_
  refine CWops.run htt 1 (by simp only [go_sem, simprocAttr, eGraph]; exact rfl) (by simp [go_sem, simprocAttr, eGraph]) ?_
  refine CWops.call (graph_May up g) (by simp only [go_sem, simprocAttr, eGraph]) (by simp only [go_sem, simprocAttr, eGraph]; first | done | exact rfl) (by simp only [go_sem, simprocAttr, eGraph]) (fun rt15 hrt15 => ?_)
  subst hrt15; refine ⟨rfl, ?_⟩
  refine CWops.run htt 1 (by simp only [go_sem, simprocAttr, eGraph]; exact rfl) (by simp [go_sem, simprocAttr, eGraph]) ?_
  refine CWops.done ?_
  refine CW.cond (by simp only [go_sem, simprocAttr]; first | done | exact rfl) (fun ct16 => ?_) (fun ct16 => ?_)
  · simp only [Bool.not_eq_true'] at ct16
    refine CW.seq ?_
    try simp only [OWN]
    refine CW.sh (Sh.trans (Sh.frzC 3 0 5 0 (by decide) rfl rfl rfl) (Sh.trans (Sh.frzC 3 1 5 1 (by decide) rfl rfl rfl) (Sh.frzC 3 2 5 2 (by decide) rfl rfl rfl))) ?_
    simp only [go_sem, simprocAttr]
    refine CW.rg ?_
    refine CWops.rn htt 3 ?_
    refine CWops.done ?_
    refine CW.ret ?_
    refine retQ.ret (by simp only [f21, go_sem, simprocAttr]; exact rfl) (by simp only [go_sem, simprocAttr]; exact rfl) ?_ -- ret1
    refine ⟨_, ?_, rfl⟩
    simp [leP, leL, gSet, ct16, eGraph]
  · simp only [Bool.not_eq_false'] at ct16
    have hm := (may_iff g).1 ct16
    refine CW.skip ?_
    refine CW.seq ?_
    refine CW.rg ?_
    refine CWops.run htt 2 (by simp only [go_sem, simprocAttr, eGraph]; exact rfl) (by simp [go_sem, simprocAttr, eGraph]) ?_
    refine CWops.call ((by have := graph_Find up g id; rw [f1] at this; exact this)) (by simp only [go_sem, simprocAttr, eGraph]) (by simp only [go_sem, simprocAttr, eGraph]; first | done | exact rfl) (by simp only [go_sem, simprocAttr, eGraph]) (fun rt20 hrt20 => ?_)
    subst hrt20; refine ⟨rfl, ?_⟩
    refine CWops.run htt 1 (by simp only [go_sem, simprocAttr, eGraph]; exact rfl) (by simp [go_sem, simprocAttr, eGraph]) ?_
    refine CWops.done ?_
    refine CW.seq ?_
    refine CW.block ?_
    refine CW.seq ?_
    refine CW.seq ?_
    refine CW.rg ?_
    refine CWops.rn htt 3 ?_
    refine CWops.done ?_
    refine CW.cond (by simp only [go_sem, simprocAttr]; first | done | exact rfl) (fun ct21 => ?_) (fun ct21 => ?_)
    · exfalso; revert ct21; simp <;> omega 
    · refine CW.seq ?_
      refine CW.rg ?_
      refine CWops.rn htt 3 ?_
      refine CWops.done ?_
      refine CW.cond (by simp only [go_sem, simprocAttr]; first | done | exact rfl) (fun ct21 => ?_) (fun ct21 => ?_)
      · have hk : k < 0 := by simpa using ct21
        refine CW.skip ?_
        refine CW.cond (by simp only [go_sem, simprocAttr]; first | done | exact rfl) (fun ct21 => ?_) (fun ct21 => ?_)
        · refine CW.seq ?_
          try simp only [OWN]
          refine CW.sh (Sh.trans (Sh.frzC 3 0 5 0 (by decide) rfl rfl rfl) (Sh.trans (Sh.frzC 3 1 5 1 (by decide) rfl rfl rfl) (Sh.frzC 3 2 5 2 (by decide) rfl rfl rfl))) ?_
          simp only [go_sem, simprocAttr]
          refine CW.rg ?_
          refine CWops.rn htt 3 ?_
          refine CWops.done ?_
          refine CW.ret ?_
          refine retQ.ret (by simp only [f21, go_sem, simprocAttr]; exact rfl) (by simp only [go_sem, simprocAttr]; exact rfl) ?_ -- ret2
          refine ⟨_, ?_, rfl⟩
          simp [leP, leL, gSet, ct16, f3, f2, hk, eGraph]
        · exfalso; revert ct21; simp <;> omega 
      · have hk : 0 ≤ k := by simpa using ct21
        obtain ⟨k, rfl⟩ := Int.eq_ofNat_of_zero_le hk
        refine CW.rg ?_
        refine CWops.run htt 10 (by simp only [go_sem, simprocAttr, eGraph, f2, eObj, (List.getElem?_eq_some_iff.1 f2).1]; exact rfl) (by simp [go_sem, simprocAttr, eGraph, f2, eObj, (List.getElem?_eq_some_iff.1 f2).1]) ?_
        refine CWops.done ?_
        refine CW.cond (by simp only [go_sem, simprocAttr]; first | done | exact rfl) (fun ct21 => ?_) (fun ct21 => ?_)
        · have hkl : oF.length ≤ k := by simpa using ct21
          refine CW.seq ?_
          try simp only [OWN]
          refine CW.sh (Sh.trans (Sh.frzC 3 0 5 0 (by decide) rfl rfl rfl) (Sh.trans (Sh.frzC 3 1 5 1 (by decide) rfl rfl rfl) (Sh.frzC 3 2 5 2 (by decide) rfl rfl rfl))) ?_
          simp only [go_sem, simprocAttr]
          refine CW.rg ?_
          refine CWops.rn htt 3 ?_
          refine CWops.done ?_
          refine CW.ret ?_
          refine retQ.ret (by simp only [f21, go_sem, simprocAttr]; exact rfl) (by simp only [go_sem, simprocAttr]; exact rfl) ?_ -- ret3
          refine ⟨_, ?_, rfl⟩
          simp [leP, leL, gSet, ct16, f3, f2, hkl, show ¬ ((k : Int) < 0) by omega, eGraph]
        · have hkl : k < oF.length := by simp at ct21; omega
          obtain ⟨w, hw⟩ : ∃ w, oF[k]? = some w := ⟨oF[k], List.getElem?_eq_getElem hkl⟩
          obtain ⟨_, t, hT, hmo⟩ := hm.objT f2
          obtain ⟨q, rfl⟩ := Int.eq_ofNat_of_zero_le (show 0 ≤ oT from hmo.t0)
          have ht : g.S[q]? = some t := by simpa using hmo.at_
          have hlen : oF.length = t.F.length := hmo.len
          have htF : k < t.F.length := by omega
          obtain ⟨f, hf⟩ : ∃ f, t.F[k]? = some f := ⟨t.F[k], List.getElem?_eq_getElem htF⟩
          have hil : i < g.O.length := (List.getElem?_eq_some_iff.1 f2).1
          have hql : q < g.S.length := (List.getElem?_eq_some_iff.1 ht).1
          refine CW.seq ?_
          refine CW.drawn mixed 19 (by decide) (by kernel_rfl) (by kernel_rfl) (by kernel_rfl) ?_
          refine Seg.run htt 2 (by simp only [go_sem, simprocAttr, eGraph, f2, eObj, ht, eType, hf, eField, hil, hql, htF, eVal]; exact rfl) ?_
          refine Seg.callA (graph_types up g) (by simp only [go_sem, simprocAttr, eGraph, f2, eObj, ht, eType, hf, eField, hil, hql, htF, eVal]) (by simp only [go_sem, simprocAttr, eGraph, f2, eObj, ht, eType, hf, eField, hil, hql, htF, eVal]; first | done | exact rfl) (by simp only [go_sem, simprocAttr, eGraph, f2, eObj, ht, eType, hf, eField, hil, hql, htF, eVal]) (by simp only [go_sem, simprocAttr, eGraph, f2, eObj, ht, eType, hf, eField, hil, hql, htF, eVal]) ?_
          refine Seg.run htt 16 (by simp only [go_sem, simprocAttr, eGraph, f2, eObj, ht, eType, hf, eField, hil, hql, htF, eVal]; exact rfl) ?_
          refine Seg.done ?_
          refine CWops.call (graph_leads up g f v) (by simp only [go_sem, simprocAttr, eGraph, f2, eObj, ht, eType, hf, eField, hil, hql, htF, eVal]) (by simp only [go_sem, simprocAttr, eGraph, f2, eObj, ht, eType, hf, eField, hil, hql, htF, eVal]; first | done | exact rfl) (by simp only [go_sem, simprocAttr, eGraph, f2, eObj, ht, eType, hf, eField, hil, hql, htF, eVal]) (fun rt56 hrt56 => ?_)
          subst hrt56; refine ⟨rfl, ?_⟩
          refine CWops.run htt 2 (by simp only [go_sem, simprocAttr, eGraph, f2, eObj, ht, eType, hf, eField, hil, hql, htF, eVal]; exact rfl) (by simp [go_sem, simprocAttr, eGraph, f2, eObj, ht, eType, hf, eField, hil, hql, htF, eVal]) ?_
          refine CWops.done ?_
          refine CW.cond (by simp only [go_sem, simprocAttr]; first | done | exact rfl) (fun ct36 => ?_) (fun ct36 => ?_)
          · simp only [Bool.not_eq_true'] at ct36
            refine CW.seq ?_
            try simp only [OWN]
            refine CW.sh (Sh.trans (Sh.frzC 3 0 5 0 (by decide) rfl rfl rfl) (Sh.trans (Sh.frzC 3 1 5 1 (by decide) rfl rfl rfl) (Sh.frzC 3 2 5 2 (by decide) rfl rfl rfl))) ?_
            simp only [go_sem, simprocAttr]
            refine CW.rg ?_
            refine CWops.rn htt 3 ?_
            refine CWops.done ?_
            refine CW.ret ?_
            refine retQ.ret (by simp only [f21, go_sem, simprocAttr]; exact rfl) (by simp only [go_sem, simprocAttr]; exact rfl) ?_ -- ret4
            refine ⟨_, ?_, rfl⟩
            simp [leP, leL, gSet, ct16, f3, f2, hkl, Nat.not_le.2 hkl, show ¬ ((k : Int) < 0) by omega, eGraph, tyF, hT, leadsAt, hf, ct36]
          · simp only [Bool.not_eq_false'] at ct36
            refine CW.skip ?_
            refine CW.seq ?_
            refine CW.drawn mixed 8 (by decide) (by kernel_rfl) (by kernel_rfl) (by kernel_rfl) ?_
            refine Seg.run htt 8 (by simp only [go_sem, simprocAttr, OWN, f2, hil, hkl, eObjO, eVal, hw, List.getElem?_set_self, List.length_map, List.length_set, List.set_set]; exact rfl) ?_
            refine Seg.done ?_
            refine CWops.run htt 2 (by simp only [go_sem, simprocAttr, OWN, f2, hil, hkl, eObjO, eVal, hw, List.getElem?_set_self, List.length_map, List.length_set, List.set_set]; exact rfl) (by simp [go_sem, simprocAttr, OWN, f2, hil, hkl, eObjO, eVal, hw, List.getElem?_set_self, List.length_map, List.length_set, List.set_set]) ?_
            refine CWops.done ?_
            have e : (List.map eObjO g.O).set i [.int .i64 oi, .int .i64 (q : Int), .own 3 ((List.map eVal oF).set k [.int .i64 v.N, .str v.S, .int .i64 v.R])] = (g.O.set i ⟨oi, q, oF.set k v⟩).map eObjO := by rw [List.map_set]; simp [eObjO, List.map_set, eVal]
            simp only [e]
            refine CW.seq ?_
            try simp only [OWN]
            refine CW.sh (Sh.frzC 3 0 5 0 (by decide) rfl rfl rfl) ?_
            simp only [go_sem, simprocAttr]
            refine CW.sh (Sh.frzC 3 1 5 1 (by decide) rfl rfl rfl) ?_
            simp only [go_sem, simprocAttr]
            refine CW.sh (Sh.frzC 3 2 5 2 (by decide) rfl rfl rfl) ?_
            simp only [go_sem, simprocAttr]
            refine CW.rg ?_
            refine CWops.rn htt 3 ?_
            refine CWops.done ?_
            refine CW.ret ?_
            refine retQ.ret (by simp only [f21, go_sem, simprocAttr]; exact rfl) (by simp only [go_sem, simprocAttr]; exact rfl) ?_ -- ret5
            refine ⟨_, ?_, rfl⟩
            simp [leP, leL, gSet, ct16, f3, f2, hkl, Nat.not_le.2 hkl, show ¬ ((k : Int) < 0) by omega, eGraph, tyF, hT, leadsAt, hf, ct36, sSet]
theorem graph_Set (up : Bool) (g : Graph) (id k : Int) (v : GVal) (hz : GSz g) : PCall prog up 21 [.agg (eGraph g), .int .i64 id, .int .i64 k, .agg (eVal v)] (· = .tup [.agg (eGraph (gSet g id k v).1), .int .i64 (gSet g id k v).2]) := by
  rcases find_cases (fun o => decide (o.Id = id)) g.O with ⟨f1, f2, f3⟩ | ⟨i, x, f1, f2, _, f3, _⟩
  · exact graph_Set_none up g id k v hz f1 f3
  · exact graph_Set_some up g id k v hz i x f1 f2 f3
end Go.Ab
namespace Go.Ab
open Go Go.Proofs.Tryz
set_option maxRecDepth 100000
set_option linter.unusedSimpArgs false
set_option linter.unusedVariables false
theorem diff_other_none (up : Bool) (g : Graph) (id : Int) (f1 : fnd (fun o => decide (o.Id = id)) g.O = -1) (f2 : objAt g id = none) : PCall prog up 45 [.agg (eGraph g), .int .i64 id] (· = .tup [.agg (eObj (objD g id)), .bool (hasId g id)]) := by
  refine PCall.intro htt func45 (by kernel_rfl) rfl (Nat.le_of_ble_eq_true rfl) fun hl => ?_

  simp only [tmps0, Nat.reduceAdd]
  refine CW.seq ?_
  refine CW.rg ?_
  refine CWops.run htt 3 (by simp only [go_sem, simprocAttr, eGraph]; exact rfl) (by simp [go_sem, simprocAttr, eGraph]) ?_
  refine CWops.done ?_
  refine CW.seq ?_
  refine CW.rg ?_
  refine CWops.run htt 2 (by simp only [go_sem, simprocAttr, eGraph]; exact rfl) (by simp [go_sem, simprocAttr, eGraph]) ?_
  refine CWops.call ((by have := graph_Find up g id; rw [f1] at this; exact this)) (by simp only [go_sem, simprocAttr, eGraph]) (by simp only [go_sem, simprocAttr, eGraph]; first | done | exact rfl) (by simp only [go_sem, simprocAttr, eGraph]) (fun rt9 hrt9 => ?_)
  subst hrt9; refine ⟨rfl, ?_⟩
  refine CWops.run htt 1 (by simp only [go_sem, simprocAttr, eGraph]; exact rfl) (by simp [go_sem, simprocAttr, eGraph]) ?_
  refine CWops.done ?_
  refine CW.seq ?_
  refine CW.seq ?_
  refine CW.rg ?_
  refine CWops.rn htt 2 ?_
  refine CWops.done ?_
  refine CW.cond (by simp only [go_sem, simprocAttr]; first | done | exact rfl) (fun ct11 => ?_) (fun ct11 => ?_)
  · refine CW.seq ?_
    refine CW.rg ?_
    refine CWops.rn htt 3 ?_
    refine CWops.done ?_
    refine CW.ret ?_
    refine retQ.ret (by simp only [f45, go_sem, simprocAttr]; exact rfl) (by simp only [go_sem, simprocAttr]; exact rfl) ?_ -- ret1
    refine ⟨_, ?_, rfl⟩
    simp [leP, leL, hasId, objD, f2, eObj]
  · simp at ct11
theorem diff_other_some (up : Bool) (g : Graph) (id : Int) (i : Nat) (x : GObj) (f1 : fnd (fun o => decide (o.Id = id)) g.O = i) (f2 : g.O[i]? = some x) (f3 : objAt g id = some x) : PCall prog up 45 [.agg (eGraph g), .int .i64 id] (· = .tup [.agg (eObj (objD g id)), .bool (hasId g id)]) := by
  refine PCall.intro htt func45 (by kernel_rfl) rfl (Nat.le_of_ble_eq_true rfl) fun hl => ?_

  simp only [tmps0, Nat.reduceAdd]
  refine CW.seq ?_
  refine CW.rg ?_
  refine CWops.run htt 3 (by simp only [go_sem, simprocAttr, eGraph]; exact rfl) (by simp [go_sem, simprocAttr, eGraph]) ?_
  refine CWops.done ?_
  refine CW.seq ?_
  refine CW.rg ?_
  refine CWops.run htt 2 (by simp only [go_sem, simprocAttr, eGraph]; exact rfl) (by simp [go_sem, simprocAttr, eGraph]) ?_
  refine CWops.call ((by have := graph_Find up g id; rw [f1] at this; exact this)) (by simp only [go_sem, simprocAttr, eGraph]) (by simp only [go_sem, simprocAttr, eGraph]; first | done | exact rfl) (by simp only [go_sem, simprocAttr, eGraph]) (fun rt9 hrt9 => ?_)
  subst hrt9; refine ⟨rfl, ?_⟩
  refine CWops.run htt 1 (by simp only [go_sem, simprocAttr, eGraph]; exact rfl) (by simp [go_sem, simprocAttr, eGraph]) ?_
  refine CWops.done ?_
  refine CW.seq ?_
  refine CW.seq ?_
  refine CW.rg ?_
  refine CWops.rn htt 2 ?_
  refine CWops.done ?_
  refine CW.cond (by simp only [go_sem, simprocAttr]; first | done | exact rfl) (fun ct11 => ?_) (fun ct11 => ?_)
  · exfalso; revert ct11; simp <;> omega 
  · refine CW.skip ?_
    refine CW.seq ?_
    refine CW.rg ?_
    refine CWops.run htt 7 (by simp only [go_sem, simprocAttr, eGraph, f2, eObj, (List.getElem?_eq_some_iff.1 f2).1]; exact rfl) (by simp [go_sem, simprocAttr, eGraph, f2, eObj, (List.getElem?_eq_some_iff.1 f2).1]) ?_
    refine CWops.done ?_
    refine CW.ret ?_
    refine retQ.ret (by simp only [f45, go_sem, simprocAttr]; exact rfl) (by simp only [go_sem, simprocAttr]; exact rfl) ?_ -- ret1
    refine ⟨_, ?_, rfl⟩
    simp [leP, leL, hasId, objD, f3, eObj]
theorem diff_other (up : Bool) (g : Graph) (id : Int) : PCall prog up 45 [.agg (eGraph g), .int .i64 id] (· = .tup [.agg (eObj (objD g id)), .bool (hasId g id)]) := by
  rcases find_cases (fun o => decide (o.Id = id)) g.O with ⟨f1, f2, _⟩ | ⟨i, x, f1, f2, f3, _, _⟩
  · exact diff_other_none up g id f1 f2
  · exact diff_other_some up g id i x f1 f2 f3
theorem diff_root (up : Bool) (g : Graph) (i : Nat) : PCall prog up 46 [.agg (eGraph g), .int .i64 i] (· = .int .i64 (rootAt g i)) := by
  refine PCall.intro htt func46 (by kernel_rfl) rfl (Nat.le_of_ble_eq_true rfl) fun hl => ?_

  simp only [tmps0, Nat.reduceAdd]
  refine CW.seq ?_
  refine CW.rg ?_
  refine CWops.run htt 2 (by simp only [go_sem, simprocAttr, eGraph]; exact rfl) (by simp [go_sem, simprocAttr, eGraph]) ?_
  refine CWops.done ?_
  refine CW.seq ?_
  refine CW.seq ?_
  refine CW.rg ?_
  refine CWops.run htt 5 (by simp only [go_sem, simprocAttr, eGraph]; exact rfl) (by simp [go_sem, simprocAttr, eGraph]) ?_
  refine CWops.done ?_
  refine CW.cond (by simp only [go_sem, simprocAttr]; first | done | exact rfl) (fun ct9 => ?_) (fun ct9 => ?_)
  · have hi : i < g.Roots.length := by simpa using ct9
    obtain ⟨x, hx⟩ : ∃ x, g.Roots[i]? = some x := ⟨g.Roots[i], List.getElem?_eq_getElem hi⟩
    refine CW.seq ?_
    refine CW.rg ?_
    refine CWops.run htt 6 (by simp only [go_sem, simprocAttr, eGraph, hi, hx, eI]; exact rfl) (by simp [go_sem, simprocAttr, eGraph, hi, hx, eI]) ?_
    refine CWops.done ?_
    refine CW.ret ?_
    refine retQ.ret (by simp only [f46, go_sem, simprocAttr]; exact rfl) (by simp only [go_sem, simprocAttr]; exact rfl) ?_ -- ret1
    refine ⟨_, ?_, rfl⟩
    simp [leP, rootAt, hx]
  · have hi : g.Roots.length ≤ i := by simpa using ct9
    refine CW.skip ?_
    refine CW.seq ?_
    refine CW.rg ?_
    refine CWops.rn htt 1 ?_
    refine CWops.done ?_
    refine CW.ret ?_
    refine retQ.ret (by simp only [f46, go_sem, simprocAttr]; exact rfl) (by simp only [go_sem, simprocAttr]; exact rfl) ?_ -- ret2
    refine ⟨_, ?_, rfl⟩
    simp [leP, rootAt, List.getElem?_eq_none hi]
theorem diff_None (up : Bool) (c : GChange) (hc : c.New.length + c.Gone.length + c.Set.length + c.Roots.length ≤ MX) : PCall prog up 17 [.agg (eChange c)] (· = .bool (gNone c)) := by
  refine PCall.intro htt func17 (by kernel_rfl) rfl (Nat.le_of_ble_eq_true rfl) fun hl => ?_

  simp only [tmps0, Nat.reduceAdd]
  refine CW.seq ?_
  refine CW.rg ?_
  refine CWops.run htt 2 (by simp only [go_sem, simprocAttr, eChange]; exact rfl) (by simp [go_sem, simprocAttr, eChange]) ?_
  refine CWops.done ?_
  refine CW.seq ?_
  refine CW.rg ?_
  refine CWops.run htt 17 (by simp only [go_sem, simprocAttr, eChange, wrap_add (show c.New.length + c.Gone.length ≤ MX by omega), wrap_add (show c.New.length + c.Gone.length + c.Set.length ≤ MX by omega), wrap_add hc]; exact rfl) (by simp [go_sem, simprocAttr, eChange, wrap_add (show c.New.length + c.Gone.length ≤ MX by omega), wrap_add (show c.New.length + c.Gone.length + c.Set.length ≤ MX by omega), wrap_add hc]) ?_
  refine CWops.done ?_
  refine CW.ret ?_
  refine retQ.ret (by simp only [f17, go_sem, simprocAttr]; exact rfl) (by simp only [go_sem, simprocAttr]; exact rfl) ?_ -- ret1
  refine ⟨_, ?_, rfl⟩
  rw [gNone_iff]
  simp only [leP, AV.bool.injEq]
  rw [Bool.eq_iff_iff]
  simp only [decide_eq_true_eq]
  omega
end Go.Ab
