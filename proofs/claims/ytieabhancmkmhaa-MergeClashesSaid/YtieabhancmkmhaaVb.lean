/-
  What functions of the program answer: each by its contract. No condition but those of each theorem.
-/
import Derived.WalkKit
import Derived.Below
import Derived.Scope
import Derived.Test.YtieabhancmkmhaaProg
import Derived.Orders
import Derived.Still
import Derived.Maps.RangeRun
import Derived.Test.YtieabhancmkmhaaFa
import Derived.Test.YtieabhancmkmhaaFb
import Derived.Test.YtieabhancmkmhaaFc
import Derived.Test.YtieabhancmkmhaaFd
import Derived.Test.YtieabhancmkmhaaFe
import Derived.Test.YtieabhancmkmhaaFf
import Derived.Test.YtieabhancmkmhaaDa
import Derived.Test.YtieabhancmkmhaaDb
import Derived.Test.YtieabhancmkmhaaVa
set_option linter.unusedVariables false
set_option linter.unusedSimpArgs false
namespace Go.Ab
open Go Go.Proofs.Try
set_option maxRecDepth 100000
set_option maxHeartbeats 3200000
set_option linter.unusedSimpArgs false
set_option linter.unusedVariables false
theorem merge_side_none (up : Bool) (g : Graph) (id : Int) (f1 : fnd (fun o => decide (o.Id = id)) g.O = -1) (f2 : objAt g id = none) : PCall prog up 70 [.agg (eGraph g), .int .i64 id] (· = .tup [.agg (eObj (objD g id)), .bool (hasId g id)]) := by
  refine PCall.intro htt func70 (by kernel_rfl) rfl (Nat.le_of_ble_eq_true rfl) fun hl => ?_

  simp only [tmps0, Nat.reduceAdd]
  refine CW.seq ?_
  refine CW.rg ?_
  refine CWops.run htt 3 (by simp only [go_sem, simprocAttr, eGraph]; exact rfl) (by simp [go_sem, simprocAttr, eGraph]) ?_
  refine CWops.done ?_
  refine CW.seq ?_
  refine CW.rg ?_
  refine CWops.run htt 2 (by simp only [go_sem, simprocAttr, eGraph]; exact rfl) (by simp [go_sem, simprocAttr, eGraph]) ?_
  refine CWops.call ((by have := graph_Find up g id; rw [f1] at this; exact this)) (by simp only [go_sem, simprocAttr, eGraph]) (by simp only [go_sem, simprocAttr, eGraph]; first | done | exact rfl) (by simp only [go_sem, simprocAttr, eGraph]) (fun rt9 hrt9 => ?_)
  subst hrt9; refine ⟨rfl, ?_⟩
  refine CWops.run htt 1 (by simp only [go_sem, simprocAttr, eGraph]; exact rfl) (by simp [go_sem, simprocAttr, eGraph]) ?_
  refine CWops.done ?_
  refine CW.seq ?_
  refine CW.seq ?_
  refine CW.rg ?_
  refine CWops.rn htt 2 ?_
  refine CWops.done ?_
  refine CW.cond (by simp only [go_sem, simprocAttr]; first | done | exact rfl) (fun ct11 => ?_) (fun ct11 => ?_)
  · refine CW.seq ?_
    refine CW.rg ?_
    refine CWops.rn htt 3 ?_
    refine CWops.done ?_
    refine CW.ret ?_
    refine retQ.ret (by simp only [f70, go_sem, simprocAttr]; exact rfl) (by simp only [go_sem, simprocAttr]; exact rfl) ?_ -- ret1
    refine ⟨_, ?_, rfl⟩
    simp [leP, leL, hasId, objD, f2, eObj]
  · simp at ct11
theorem merge_side_some (up : Bool) (g : Graph) (id : Int) (i : Nat) (x : GObj) (f1 : fnd (fun o => decide (o.Id = id)) g.O = i) (f2 : g.O[i]? = some x) (f3 : objAt g id = some x) : PCall prog up 70 [.agg (eGraph g), .int .i64 id] (· = .tup [.agg (eObj (objD g id)), .bool (hasId g id)]) := by
  refine PCall.intro htt func70 (by kernel_rfl) rfl (Nat.le_of_ble_eq_true rfl) fun hl => ?_

  simp only [tmps0, Nat.reduceAdd]
  refine CW.seq ?_
  refine CW.rg ?_
  refine CWops.run htt 3 (by simp only [go_sem, simprocAttr, eGraph]; exact rfl) (by simp [go_sem, simprocAttr, eGraph]) ?_
  refine CWops.done ?_
  refine CW.seq ?_
  refine CW.rg ?_
  refine CWops.run htt 2 (by simp only [go_sem, simprocAttr, eGraph]; exact rfl) (by simp [go_sem, simprocAttr, eGraph]) ?_
  refine CWops.call ((by have := graph_Find up g id; rw [f1] at this; exact this)) (by simp only [go_sem, simprocAttr, eGraph]) (by simp only [go_sem, simprocAttr, eGraph]; first | done | exact rfl) (by simp only [go_sem, simprocAttr, eGraph]) (fun rt9 hrt9 => ?_)
  subst hrt9; refine ⟨rfl, ?_⟩
  refine CWops.run htt 1 (by simp only [go_sem, simprocAttr, eGraph]; exact rfl) (by simp [go_sem, simprocAttr, eGraph]) ?_
  refine CWops.done ?_
  refine CW.seq ?_
  refine CW.seq ?_
  refine CW.rg ?_
  refine CWops.rn htt 2 ?_
  refine CWops.done ?_
  refine CW.cond (by simp only [go_sem, simprocAttr]; first | done | exact rfl) (fun ct11 => ?_) (fun ct11 => ?_)
  · exfalso; revert ct11; simp <;> omega 
  · refine CW.skip ?_
    refine CW.seq ?_
    refine CW.rg ?_
    refine CWops.run htt 7 (by simp only [go_sem, simprocAttr, eGraph, f2, eObj, (List.getElem?_eq_some_iff.1 f2).1]; exact rfl) (by simp [go_sem, simprocAttr, eGraph, f2, eObj, (List.getElem?_eq_some_iff.1 f2).1]) ?_
    refine CWops.done ?_
    refine CW.ret ?_
    refine retQ.ret (by simp only [f70, go_sem, simprocAttr]; exact rfl) (by simp only [go_sem, simprocAttr]; exact rfl) ?_ -- ret1
    refine ⟨_, ?_, rfl⟩
    simp [leP, leL, hasId, objD, f3, eObj]
theorem merge_side (up : Bool) (g : Graph) (id : Int) : PCall prog up 70 [.agg (eGraph g), .int .i64 id] (· = .tup [.agg (eObj (objD g id)), .bool (hasId g id)]) := by
  rcases find_cases (fun o => decide (o.Id = id)) g.O with ⟨f1, f2, _⟩ | ⟨i, x, f1, f2, f3, _, _⟩
  · exact merge_side_none up g id f1 f2
  · exact merge_side_some up g id i x f1 f2 f3
theorem merge_root (up : Bool) (g : Graph) (i : Nat) : PCall prog up 56 [.agg (eGraph g), .int .i64 i] (· = .int .i64 (rootAt g i)) := by
  refine PCall.intro htt func56 (by kernel_rfl) rfl (Nat.le_of_ble_eq_true rfl) fun hl => ?_

  simp only [tmps0, Nat.reduceAdd]
  refine CW.seq ?_
  refine CW.rg ?_
  refine CWops.run htt 2 (by simp only [go_sem, simprocAttr, eGraph]; exact rfl) (by simp [go_sem, simprocAttr, eGraph]) ?_
  refine CWops.done ?_
  refine CW.seq ?_
  refine CW.seq ?_
  refine CW.rg ?_
  refine CWops.run htt 5 (by simp only [go_sem, simprocAttr, eGraph]; exact rfl) (by simp [go_sem, simprocAttr, eGraph]) ?_
  refine CWops.done ?_
  refine CW.cond (by simp only [go_sem, simprocAttr]; first | done | exact rfl) (fun ct9 => ?_) (fun ct9 => ?_)
  · have hi : i < g.Roots.length := by simpa using ct9
    obtain ⟨x, hx⟩ : ∃ x, g.Roots[i]? = some x := ⟨g.Roots[i], List.getElem?_eq_getElem hi⟩
    refine CW.seq ?_
    refine CW.rg ?_
    refine CWops.run htt 6 (by simp only [go_sem, simprocAttr, eGraph, hi, hx, eI]; exact rfl) (by simp [go_sem, simprocAttr, eGraph, hi, hx, eI]) ?_
    refine CWops.done ?_
    refine CW.ret ?_
    refine retQ.ret (by simp only [f56, go_sem, simprocAttr]; exact rfl) (by simp only [go_sem, simprocAttr]; exact rfl) ?_ -- ret1
    refine ⟨_, ?_, rfl⟩
    simp [leP, rootAt, hx]
  · have hi : g.Roots.length ≤ i := by simpa using ct9
    refine CW.skip ?_
    refine CW.seq ?_
    refine CW.rg ?_
    refine CWops.rn htt 1 ?_
    refine CWops.done ?_
    refine CW.ret ?_
    refine retQ.ret (by simp only [f56, go_sem, simprocAttr]; exact rfl) (by simp only [go_sem, simprocAttr]; exact rfl) ?_ -- ret2
    refine ⟨_, ?_, rfl⟩
    simp [leP, rootAt, List.getElem?_eq_none hi]
theorem merge_standsI (up : Bool) (o a b : Int) : PCall prog up 55 [.int .i64 o, .int .i64 a, .int .i64 b] (· = .tup [.int .i64 (stand o a b).1, .bool (stand o a b).2]) := by
  refine PCall.intro htt func55 (by kernel_rfl) rfl (Nat.le_of_ble_eq_true rfl) fun hl => ?_

  simp only [tmps0, Nat.reduceAdd]
  refine CW.seq ?_
  refine CW.rg ?_
  refine CWops.rn htt 2 ?_
  refine CWops.done ?_
  refine CW.seq ?_
  refine CW.seq ?_
  refine CW.rg ?_
  refine CWops.rn htt 3 ?_
  refine CWops.done ?_
  refine CW.cond (by simp only [go_sem, simprocAttr]; first | done | exact rfl) (fun ct10 => ?_) (fun ct10 => ?_)
  · have h1 : a = o := by simpa using ct10
    refine CW.seq ?_
    refine CW.rg ?_
    refine CWops.rn htt 3 ?_
    refine CWops.done ?_
    refine CW.ret ?_
    refine retQ.ret (by simp only [f55, go_sem, simprocAttr]; exact rfl) (by simp only [go_sem, simprocAttr]; exact rfl) ?_ -- ret1
    refine ⟨_, ?_, rfl⟩
    simp [leP, leL, stand, h1]
  · have h1 : ¬ a = o := by simpa using ct10
    refine CW.skip ?_
    refine CW.seq ?_
    refine CW.rg ?_
    refine CWops.rn htt 5 ?_
    all_goals (first | refine CWops.guard 16 (by simp only [go_sem, simprocAttr]; exact rfl) (fun g16 => ?_) (fun g16 => ?_) | skip)
    all_goals (refine CWops.rn htt 6 ?_)
    all_goals (refine CWops.done ?_)
    all_goals (
      refine CW.ret ?_
      refine retQ.ret (by simp only [f55, go_sem, simprocAttr]; exact rfl) (by simp only [go_sem, simprocAttr]; exact rfl) ?_ -- ret2
      refine ⟨_, ?_, rfl⟩
      simp_all [leP, leL, stand])
end Go.Ab
namespace Go.Ab
open Go Go.Proofs.Try
set_option maxRecDepth 100000
set_option maxHeartbeats 6400000
set_option linter.unusedSimpArgs false
set_option linter.unusedVariables false
theorem val_eqB (a b : GVal) : (decide (a.N = b.N) && (decide (a.S = b.S) && decide (a.R = b.R))) = decide (a = b) := by
  rw [Bool.eq_iff_iff]
  simp only [Bool.and_eq_true, decide_eq_true_eq]
  constructor
  · rintro ⟨h1, h2, h3⟩; cases a; cases b; simp_all
  · rintro rfl; exact ⟨rfl, rfl, rfl⟩
theorem merge_standsV_true (up : Bool) (o a b : GVal) (hE : (decide (b.N = o.N) && (decide (b.S = o.S) && decide (b.R = o.R))) = true) : PCall prog up 71 [.agg (eVal o), .agg (eVal a), .agg (eVal b)] (· = .tup [.agg (eVal (stand o a b).1), .bool (stand o a b).2]) := by
  refine PCall.intro htt func71 (by kernel_rfl) rfl (Nat.le_of_ble_eq_true rfl) fun hl => ?_

  simp only [tmps0, Nat.reduceAdd]
  refine CW.seq ?_
  refine CW.rg ?_
  refine CWops.run htt 5 (by simp only [go_sem, simprocAttr, eVal]; exact rfl) (by simp [go_sem, simprocAttr, eVal]) ?_
  refine CWops.done ?_
  refine CW.seq ?_
  refine CW.seq ?_
  refine CW.rg ?_
  refine CWops.run htt 3 (by simp only [go_sem, simprocAttr, eVal]; exact rfl) (by simp [go_sem, simprocAttr, eVal]) ?_
  refine CWops.done ?_
  refine CW.cond (by simp only [go_sem, simprocAttr]; first | done | exact rfl) (fun ct10 => ?_) (fun ct10 => ?_)
  · rw [val_eqB] at ct10
    have h1 : a = o := by simpa using ct10
    refine CW.seq ?_
    refine CW.rg ?_
    refine CWops.run htt 3 (by simp only [go_sem, simprocAttr, eVal]; exact rfl) (by simp [go_sem, simprocAttr, eVal]) ?_
    refine CWops.done ?_
    refine CW.ret ?_
    refine retQ.ret (by simp only [f71, go_sem, simprocAttr]; exact rfl) (by simp only [go_sem, simprocAttr]; exact rfl) ?_ -- ret1
    refine ⟨_, ?_, rfl⟩
    simp [leP, leL, stand, h1, eVal]
  · rw [val_eqB] at ct10
    have h1 : ¬ a = o := by simpa using ct10
    refine CW.skip ?_
    refine CW.seq ?_
    refine CW.waves mixed (by kernel_rfl) (by kernel_rfl) (by kernel_rfl) [[[0, 1, 2, 3, 4, 5, 6, 7, 8, 9, 10], [0, 1, 2, 3, 4, 5, 6, 7, 9, 8, 10], [0, 1, 2, 3, 4, 5, 6, 9, 7, 8, 10], [0, 1, 2, 3, 4, 5, 9, 6, 7, 8, 10], [0, 1, 2, 3, 4, 6, 5, 7, 8, 9, 10], [0, 1, 2, 3, 4, 6, 5, 7, 9, 8, 10], [0, 1, 2, 3, 4, 6, 5, 9, 7, 8, 10], [0, 1, 2, 3, 4, 6, 9, 5, 7, 8, 10], [0, 1, 2, 3, 4, 9, 5, 6, 7, 8, 10], [0, 1, 2, 3, 4, 9, 6, 5, 7, 8, 10], [0, 2, 1, 3, 4, 5, 6, 7, 8, 9, 10], [0, 2, 1, 3, 4, 5, 6, 7, 9, 8, 10], [0, 2, 1, 3, 4, 5, 6, 9, 7, 8, 10], [0, 2, 1, 3, 4, 5, 9, 6, 7, 8, 10], [0, 2, 1, 3, 4, 6, 5, 7, 8, 9, 10], [0, 2, 1, 3, 4, 6, 5, 7, 9, 8, 10], [0, 2, 1, 3, 4, 6, 5, 9, 7, 8, 10], [0, 2, 1, 3, 4, 6, 9, 5, 7, 8, 10], [0, 2, 1, 3, 4, 9, 5, 6, 7, 8, 10], [0, 2, 1, 3, 4, 9, 6, 5, 7, 8, 10], [1, 0, 2, 3, 4, 5, 6, 7, 8, 9, 10], [1, 0, 2, 3, 4, 5, 6, 7, 9, 8, 10], [1, 0, 2, 3, 4, 5, 6, 9, 7, 8, 10], [1, 0, 2, 3, 4, 5, 9, 6, 7, 8, 10], [1, 0, 2, 3, 4, 6, 5, 7, 8, 9, 10], [1, 0, 2, 3, 4, 6, 5, 7, 9, 8, 10], [1, 0, 2, 3, 4, 6, 5, 9, 7, 8, 10], [1, 0, 2, 3, 4, 6, 9, 5, 7, 8, 10], [1, 0, 2, 3, 4, 9, 5, 6, 7, 8, 10], [1, 0, 2, 3, 4, 9, 6, 5, 7, 8, 10], [1, 2, 0, 3, 4, 5, 6, 7, 8, 9, 10], [1, 2, 0, 3, 4, 5, 6, 7, 9, 8, 10], [1, 2, 0, 3, 4, 5, 6, 9, 7, 8, 10], [1, 2, 0, 3, 4, 5, 9, 6, 7, 8, 10], [1, 2, 0, 3, 4, 6, 5, 7, 8, 9, 10], [1, 2, 0, 3, 4, 6, 5, 7, 9, 8, 10], [1, 2, 0, 3, 4, 6, 5, 9, 7, 8, 10], [1, 2, 0, 3, 4, 6, 9, 5, 7, 8, 10], [1, 2, 0, 3, 4, 9, 5, 6, 7, 8, 10], [1, 2, 0, 3, 4, 9, 6, 5, 7, 8, 10], [1, 2, 3, 0, 4, 5, 6, 7, 8, 9, 10], [1, 2, 3, 0, 4, 5, 6, 7, 9, 8, 10], [1, 2, 3, 0, 4, 5, 6, 9, 7, 8, 10], [1, 2, 3, 0, 4, 5, 9, 6, 7, 8, 10], [1, 2, 3, 0, 4, 6, 5, 7, 8, 9, 10], [1, 2, 3, 0, 4, 6, 5, 7, 9, 8, 10], [1, 2, 3, 0, 4, 6, 5, 9, 7, 8, 10], [1, 2, 3, 0, 4, 6, 9, 5, 7, 8, 10], [1, 2, 3, 0, 4, 9, 5, 6, 7, 8, 10], [1, 2, 3, 0, 4, 9, 6, 5, 7, 8, 10], [1, 2, 3, 4, 0, 5, 6, 7, 8, 9, 10], [1, 2, 3, 4, 0, 5, 6, 7, 9, 8, 10], [1, 2, 3, 4, 0, 5, 6, 9, 7, 8, 10], [1, 2, 3, 4, 0, 5, 9, 6, 7, 8, 10], [1, 2, 3, 4, 0, 6, 5, 7, 8, 9, 10], [1, 2, 3, 4, 0, 6, 5, 7, 9, 8, 10], [1, 2, 3, 4, 0, 6, 5, 9, 7, 8, 10], [1, 2, 3, 4, 0, 6, 9, 5, 7, 8, 10], [1, 2, 3, 4, 0, 9, 5, 6, 7, 8, 10], [1, 2, 3, 4, 0, 9, 6, 5, 7, 8, 10], [1, 2, 3, 4, 5, 0, 6, 7, 8, 9, 10], [1, 2, 3, 4, 5, 0, 6, 7, 9, 8, 10], [1, 2, 3, 4, 5, 0, 6, 9, 7, 8, 10], [1, 2, 3, 4, 5, 0, 9, 6, 7, 8, 10], [1, 2, 3, 4, 5, 6, 0, 7, 8, 9, 10], [1, 2, 3, 4, 5, 6, 0, 7, 9, 8, 10], [1, 2, 3, 4, 5, 6, 0, 9, 7, 8, 10], [1, 2, 3, 4, 5, 6, 7, 0, 8, 9, 10], [1, 2, 3, 4, 5, 6, 7, 0, 9, 8, 10], [1, 2, 3, 4, 5, 6, 7, 8, 0, 9, 10], [1, 2, 3, 4, 6, 0, 5, 7, 8, 9, 10], [1, 2, 3, 4, 6, 0, 5, 7, 9, 8, 10], [1, 2, 3, 4, 6, 0, 5, 9, 7, 8, 10], [1, 2, 3, 4, 6, 0, 9, 5, 7, 8, 10], [1, 2, 3, 4, 6, 5, 0, 7, 8, 9, 10], [1, 2, 3, 4, 6, 5, 0, 7, 9, 8, 10], [1, 2, 3, 4, 6, 5, 0, 9, 7, 8, 10], [1, 2, 3, 4, 6, 5, 7, 0, 8, 9, 10], [1, 2, 3, 4, 6, 5, 7, 0, 9, 8, 10], [1, 2, 3, 4, 6, 5, 7, 8, 0, 9, 10], [2, 0, 1, 3, 4, 5, 6, 7, 8, 9, 10], [2, 0, 1, 3, 4, 5, 6, 7, 9, 8, 10], [2, 0, 1, 3, 4, 5, 6, 9, 7, 8, 10], [2, 0, 1, 3, 4, 5, 9, 6, 7, 8, 10], [2, 0, 1, 3, 4, 6, 5, 7, 8, 9, 10], [2, 0, 1, 3, 4, 6, 5, 7, 9, 8, 10], [2, 0, 1, 3, 4, 6, 5, 9, 7, 8, 10], [2, 0, 1, 3, 4, 6, 9, 5, 7, 8, 10], [2, 0, 1, 3, 4, 9, 5, 6, 7, 8, 10], [2, 0, 1, 3, 4, 9, 6, 5, 7, 8, 10], [2, 1, 0, 3, 4, 5, 6, 7, 8, 9, 10], [2, 1, 0, 3, 4, 5, 6, 7, 9, 8, 10], [2, 1, 0, 3, 4, 5, 6, 9, 7, 8, 10], [2, 1, 0, 3, 4, 5, 9, 6, 7, 8, 10], [2, 1, 0, 3, 4, 6, 5, 7, 8, 9, 10], [2, 1, 0, 3, 4, 6, 5, 7, 9, 8, 10], [2, 1, 0, 3, 4, 6, 5, 9, 7, 8, 10], [2, 1, 0, 3, 4, 6, 9, 5, 7, 8, 10], [2, 1, 0, 3, 4, 9, 5, 6, 7, 8, 10], [2, 1, 0, 3, 4, 9, 6, 5, 7, 8, 10], [2, 1, 3, 0, 4, 5, 6, 7, 8, 9, 10], [2, 1, 3, 0, 4, 5, 6, 7, 9, 8, 10], [2, 1, 3, 0, 4, 5, 6, 9, 7, 8, 10], [2, 1, 3, 0, 4, 5, 9, 6, 7, 8, 10], [2, 1, 3, 0, 4, 6, 5, 7, 8, 9, 10], [2, 1, 3, 0, 4, 6, 5, 7, 9, 8, 10], [2, 1, 3, 0, 4, 6, 5, 9, 7, 8, 10], [2, 1, 3, 0, 4, 6, 9, 5, 7, 8, 10], [2, 1, 3, 0, 4, 9, 5, 6, 7, 8, 10], [2, 1, 3, 0, 4, 9, 6, 5, 7, 8, 10], [2, 1, 3, 4, 0, 5, 6, 7, 8, 9, 10], [2, 1, 3, 4, 0, 5, 6, 7, 9, 8, 10], [2, 1, 3, 4, 0, 5, 6, 9, 7, 8, 10], [2, 1, 3, 4, 0, 5, 9, 6, 7, 8, 10], [2, 1, 3, 4, 0, 6, 5, 7, 8, 9, 10], [2, 1, 3, 4, 0, 6, 5, 7, 9, 8, 10], [2, 1, 3, 4, 0, 6, 5, 9, 7, 8, 10], [2, 1, 3, 4, 0, 6, 9, 5, 7, 8, 10], [2, 1, 3, 4, 0, 9, 5, 6, 7, 8, 10], [2, 1, 3, 4, 0, 9, 6, 5, 7, 8, 10], [2, 1, 3, 4, 5, 0, 6, 7, 8, 9, 10], [2, 1, 3, 4, 5, 0, 6, 7, 9, 8, 10], [2, 1, 3, 4, 5, 0, 6, 9, 7, 8, 10], [2, 1, 3, 4, 5, 0, 9, 6, 7, 8, 10], [2, 1, 3, 4, 5, 6, 0, 7, 8, 9, 10], [2, 1, 3, 4, 5, 6, 0, 7, 9, 8, 10], [2, 1, 3, 4, 5, 6, 0, 9, 7, 8, 10], [2, 1, 3, 4, 5, 6, 7, 0, 8, 9, 10], [2, 1, 3, 4, 5, 6, 7, 0, 9, 8, 10], [2, 1, 3, 4, 5, 6, 7, 8, 0, 9, 10], [2, 1, 3, 4, 6, 0, 5, 7, 8, 9, 10], [2, 1, 3, 4, 6, 0, 5, 7, 9, 8, 10], [2, 1, 3, 4, 6, 0, 5, 9, 7, 8, 10], [2, 1, 3, 4, 6, 0, 9, 5, 7, 8, 10], [2, 1, 3, 4, 6, 5, 0, 7, 8, 9, 10], [2, 1, 3, 4, 6, 5, 0, 7, 9, 8, 10], [2, 1, 3, 4, 6, 5, 0, 9, 7, 8, 10], [2, 1, 3, 4, 6, 5, 7, 0, 8, 9, 10], [2, 1, 3, 4, 6, 5, 7, 0, 9, 8, 10], [2, 1, 3, 4, 6, 5, 7, 8, 0, 9, 10]]] (by kernel_rfl) ?_
    refine Wave.cons ⟨4, [(6, .lv 3 [] 0), (7, .bool (true || (decide (a.N = b.N) && (decide (a.S = b.S) && decide (a.R = b.R)))))], [(3, ⟨true, eVal a⟩)]⟩ (fun is his => ?_) ?_
    · simp only [List.mem_cons, List.not_mem_nil, or_false] at his
      rcases his with rfl | rfl | rfl | rfl | rfl | rfl | rfl | rfl | rfl | rfl | rfl | rfl | rfl | rfl | rfl | rfl | rfl | rfl | rfl | rfl | rfl | rfl | rfl | rfl | rfl | rfl | rfl | rfl | rfl | rfl | rfl | rfl | rfl | rfl | rfl | rfl | rfl | rfl | rfl | rfl | rfl | rfl | rfl | rfl | rfl | rfl | rfl | rfl | rfl | rfl | rfl | rfl | rfl | rfl | rfl | rfl | rfl | rfl | rfl | rfl | rfl | rfl | rfl | rfl | rfl | rfl | rfl | rfl | rfl | rfl | rfl | rfl | rfl | rfl | rfl | rfl | rfl | rfl | rfl | rfl | rfl | rfl | rfl | rfl | rfl | rfl | rfl | rfl | rfl | rfl | rfl | rfl | rfl | rfl | rfl | rfl | rfl | rfl | rfl | rfl | rfl | rfl | rfl | rfl | rfl | rfl | rfl | rfl | rfl | rfl | rfl | rfl | rfl | rfl | rfl | rfl | rfl | rfl | rfl | rfl | rfl | rfl | rfl | rfl | rfl | rfl | rfl | rfl | rfl | rfl | rfl | rfl | rfl | rfl | rfl | rfl | rfl | rfl | rfl | rfl
      all_goals (first | (refine CWops.run htt 11 (by simp only [List.map_cons, List.map_nil, nthO_zero, nthO_succ, go_sem, simprocAttr, eVal, hE]; exact rfl) (by simp) ?_; refine CWops.done ?_))
      all_goals (refine Sh.wk0 ?_; simp [Wk, go_sem, simprocAttr, eVal, hE])
    refine Wave.done ?_
    refine CW.ret ?_
    refine retQ.ret (by simp only [f71, go_sem, simprocAttr]; exact rfl) (by simp only [go_sem, simprocAttr]; exact rfl) ?_ -- ret2
    refine ⟨_, ?_, rfl⟩
    rw [val_eqB] at hE
    simp [go_sem, simprocAttr, leP, leL, stand, h1, eVal, val_eqB, hE, ldc, view]
theorem merge_standsV_false (up : Bool) (o a b : GVal) (hE : (decide (b.N = o.N) && (decide (b.S = o.S) && decide (b.R = o.R))) = false) : PCall prog up 71 [.agg (eVal o), .agg (eVal a), .agg (eVal b)] (· = .tup [.agg (eVal (stand o a b).1), .bool (stand o a b).2]) := by
  refine PCall.intro htt func71 (by kernel_rfl) rfl (Nat.le_of_ble_eq_true rfl) fun hl => ?_

  simp only [tmps0, Nat.reduceAdd]
  refine CW.seq ?_
  refine CW.rg ?_
  refine CWops.run htt 5 (by simp only [go_sem, simprocAttr, eVal]; exact rfl) (by simp [go_sem, simprocAttr, eVal]) ?_
  refine CWops.done ?_
  refine CW.seq ?_
  refine CW.seq ?_
  refine CW.rg ?_
  refine CWops.run htt 3 (by simp only [go_sem, simprocAttr, eVal]; exact rfl) (by simp [go_sem, simprocAttr, eVal]) ?_
  refine CWops.done ?_
  refine CW.cond (by simp only [go_sem, simprocAttr]; first | done | exact rfl) (fun ct10 => ?_) (fun ct10 => ?_)
  · rw [val_eqB] at ct10
    have h1 : a = o := by simpa using ct10
    refine CW.seq ?_
    refine CW.rg ?_
    refine CWops.run htt 3 (by simp only [go_sem, simprocAttr, eVal]; exact rfl) (by simp [go_sem, simprocAttr, eVal]) ?_
    refine CWops.done ?_
    refine CW.ret ?_
    refine retQ.ret (by simp only [f71, go_sem, simprocAttr]; exact rfl) (by simp only [go_sem, simprocAttr]; exact rfl) ?_ -- ret1
    refine ⟨_, ?_, rfl⟩
    simp [leP, leL, stand, h1, eVal]
  · rw [val_eqB] at ct10
    have h1 : ¬ a = o := by simpa using ct10
    refine CW.skip ?_
    refine CW.seq ?_
    refine CW.waves mixed (by kernel_rfl) (by kernel_rfl) (by kernel_rfl) [[[0, 1, 2, 3, 4, 5, 6, 7, 8, 9, 10], [0, 1, 2, 3, 4, 5, 6, 7, 9, 8, 10], [0, 1, 2, 3, 4, 5, 6, 9, 7, 8, 10], [0, 1, 2, 3, 4, 5, 9, 6, 7, 8, 10], [0, 1, 2, 3, 4, 6, 5, 7, 8, 9, 10], [0, 1, 2, 3, 4, 6, 5, 7, 9, 8, 10], [0, 1, 2, 3, 4, 6, 5, 9, 7, 8, 10], [0, 1, 2, 3, 4, 6, 9, 5, 7, 8, 10], [0, 1, 2, 3, 4, 9, 5, 6, 7, 8, 10], [0, 1, 2, 3, 4, 9, 6, 5, 7, 8, 10], [0, 2, 1, 3, 4, 5, 6, 7, 8, 9, 10], [0, 2, 1, 3, 4, 5, 6, 7, 9, 8, 10], [0, 2, 1, 3, 4, 5, 6, 9, 7, 8, 10], [0, 2, 1, 3, 4, 5, 9, 6, 7, 8, 10], [0, 2, 1, 3, 4, 6, 5, 7, 8, 9, 10], [0, 2, 1, 3, 4, 6, 5, 7, 9, 8, 10], [0, 2, 1, 3, 4, 6, 5, 9, 7, 8, 10], [0, 2, 1, 3, 4, 6, 9, 5, 7, 8, 10], [0, 2, 1, 3, 4, 9, 5, 6, 7, 8, 10], [0, 2, 1, 3, 4, 9, 6, 5, 7, 8, 10], [1, 0, 2, 3, 4, 5, 6, 7, 8, 9, 10], [1, 0, 2, 3, 4, 5, 6, 7, 9, 8, 10], [1, 0, 2, 3, 4, 5, 6, 9, 7, 8, 10], [1, 0, 2, 3, 4, 5, 9, 6, 7, 8, 10], [1, 0, 2, 3, 4, 6, 5, 7, 8, 9, 10], [1, 0, 2, 3, 4, 6, 5, 7, 9, 8, 10], [1, 0, 2, 3, 4, 6, 5, 9, 7, 8, 10], [1, 0, 2, 3, 4, 6, 9, 5, 7, 8, 10], [1, 0, 2, 3, 4, 9, 5, 6, 7, 8, 10], [1, 0, 2, 3, 4, 9, 6, 5, 7, 8, 10], [1, 2, 0, 3, 4, 5, 6, 7, 8, 9, 10], [1, 2, 0, 3, 4, 5, 6, 7, 9, 8, 10], [1, 2, 0, 3, 4, 5, 6, 9, 7, 8, 10], [1, 2, 0, 3, 4, 5, 9, 6, 7, 8, 10], [1, 2, 0, 3, 4, 6, 5, 7, 8, 9, 10], [1, 2, 0, 3, 4, 6, 5, 7, 9, 8, 10], [1, 2, 0, 3, 4, 6, 5, 9, 7, 8, 10], [1, 2, 0, 3, 4, 6, 9, 5, 7, 8, 10], [1, 2, 0, 3, 4, 9, 5, 6, 7, 8, 10], [1, 2, 0, 3, 4, 9, 6, 5, 7, 8, 10], [1, 2, 3, 0, 4, 5, 6, 7, 8, 9, 10], [1, 2, 3, 0, 4, 5, 6, 7, 9, 8, 10], [1, 2, 3, 0, 4, 5, 6, 9, 7, 8, 10], [1, 2, 3, 0, 4, 5, 9, 6, 7, 8, 10], [1, 2, 3, 0, 4, 6, 5, 7, 8, 9, 10], [1, 2, 3, 0, 4, 6, 5, 7, 9, 8, 10], [1, 2, 3, 0, 4, 6, 5, 9, 7, 8, 10], [1, 2, 3, 0, 4, 6, 9, 5, 7, 8, 10], [1, 2, 3, 0, 4, 9, 5, 6, 7, 8, 10], [1, 2, 3, 0, 4, 9, 6, 5, 7, 8, 10], [1, 2, 3, 4, 0, 5, 6, 7, 8, 9, 10], [1, 2, 3, 4, 0, 5, 6, 7, 9, 8, 10], [1, 2, 3, 4, 0, 5, 6, 9, 7, 8, 10], [1, 2, 3, 4, 0, 5, 9, 6, 7, 8, 10], [1, 2, 3, 4, 0, 6, 5, 7, 8, 9, 10], [1, 2, 3, 4, 0, 6, 5, 7, 9, 8, 10], [1, 2, 3, 4, 0, 6, 5, 9, 7, 8, 10], [1, 2, 3, 4, 0, 6, 9, 5, 7, 8, 10], [1, 2, 3, 4, 0, 9, 5, 6, 7, 8, 10], [1, 2, 3, 4, 0, 9, 6, 5, 7, 8, 10], [1, 2, 3, 4, 5, 0, 6, 7, 8, 9, 10], [1, 2, 3, 4, 5, 0, 6, 7, 9, 8, 10], [1, 2, 3, 4, 5, 0, 6, 9, 7, 8, 10], [1, 2, 3, 4, 5, 0, 9, 6, 7, 8, 10], [1, 2, 3, 4, 5, 6, 0, 7, 8, 9, 10], [1, 2, 3, 4, 5, 6, 0, 7, 9, 8, 10], [1, 2, 3, 4, 5, 6, 0, 9, 7, 8, 10], [1, 2, 3, 4, 5, 6, 7, 0, 8, 9, 10], [1, 2, 3, 4, 5, 6, 7, 0, 9, 8, 10], [1, 2, 3, 4, 5, 6, 7, 8, 0, 9, 10], [1, 2, 3, 4, 6, 0, 5, 7, 8, 9, 10], [1, 2, 3, 4, 6, 0, 5, 7, 9, 8, 10], [1, 2, 3, 4, 6, 0, 5, 9, 7, 8, 10], [1, 2, 3, 4, 6, 0, 9, 5, 7, 8, 10], [1, 2, 3, 4, 6, 5, 0, 7, 8, 9, 10], [1, 2, 3, 4, 6, 5, 0, 7, 9, 8, 10], [1, 2, 3, 4, 6, 5, 0, 9, 7, 8, 10], [1, 2, 3, 4, 6, 5, 7, 0, 8, 9, 10], [1, 2, 3, 4, 6, 5, 7, 0, 9, 8, 10], [1, 2, 3, 4, 6, 5, 7, 8, 0, 9, 10], [2, 0, 1, 3, 4, 5, 6, 7, 8, 9, 10], [2, 0, 1, 3, 4, 5, 6, 7, 9, 8, 10], [2, 0, 1, 3, 4, 5, 6, 9, 7, 8, 10], [2, 0, 1, 3, 4, 5, 9, 6, 7, 8, 10], [2, 0, 1, 3, 4, 6, 5, 7, 8, 9, 10], [2, 0, 1, 3, 4, 6, 5, 7, 9, 8, 10], [2, 0, 1, 3, 4, 6, 5, 9, 7, 8, 10], [2, 0, 1, 3, 4, 6, 9, 5, 7, 8, 10], [2, 0, 1, 3, 4, 9, 5, 6, 7, 8, 10], [2, 0, 1, 3, 4, 9, 6, 5, 7, 8, 10], [2, 1, 0, 3, 4, 5, 6, 7, 8, 9, 10], [2, 1, 0, 3, 4, 5, 6, 7, 9, 8, 10], [2, 1, 0, 3, 4, 5, 6, 9, 7, 8, 10], [2, 1, 0, 3, 4, 5, 9, 6, 7, 8, 10], [2, 1, 0, 3, 4, 6, 5, 7, 8, 9, 10], [2, 1, 0, 3, 4, 6, 5, 7, 9, 8, 10], [2, 1, 0, 3, 4, 6, 5, 9, 7, 8, 10], [2, 1, 0, 3, 4, 6, 9, 5, 7, 8, 10], [2, 1, 0, 3, 4, 9, 5, 6, 7, 8, 10], [2, 1, 0, 3, 4, 9, 6, 5, 7, 8, 10], [2, 1, 3, 0, 4, 5, 6, 7, 8, 9, 10], [2, 1, 3, 0, 4, 5, 6, 7, 9, 8, 10], [2, 1, 3, 0, 4, 5, 6, 9, 7, 8, 10], [2, 1, 3, 0, 4, 5, 9, 6, 7, 8, 10], [2, 1, 3, 0, 4, 6, 5, 7, 8, 9, 10], [2, 1, 3, 0, 4, 6, 5, 7, 9, 8, 10], [2, 1, 3, 0, 4, 6, 5, 9, 7, 8, 10], [2, 1, 3, 0, 4, 6, 9, 5, 7, 8, 10], [2, 1, 3, 0, 4, 9, 5, 6, 7, 8, 10], [2, 1, 3, 0, 4, 9, 6, 5, 7, 8, 10], [2, 1, 3, 4, 0, 5, 6, 7, 8, 9, 10], [2, 1, 3, 4, 0, 5, 6, 7, 9, 8, 10], [2, 1, 3, 4, 0, 5, 6, 9, 7, 8, 10], [2, 1, 3, 4, 0, 5, 9, 6, 7, 8, 10], [2, 1, 3, 4, 0, 6, 5, 7, 8, 9, 10], [2, 1, 3, 4, 0, 6, 5, 7, 9, 8, 10], [2, 1, 3, 4, 0, 6, 5, 9, 7, 8, 10], [2, 1, 3, 4, 0, 6, 9, 5, 7, 8, 10], [2, 1, 3, 4, 0, 9, 5, 6, 7, 8, 10], [2, 1, 3, 4, 0, 9, 6, 5, 7, 8, 10], [2, 1, 3, 4, 5, 0, 6, 7, 8, 9, 10], [2, 1, 3, 4, 5, 0, 6, 7, 9, 8, 10], [2, 1, 3, 4, 5, 0, 6, 9, 7, 8, 10], [2, 1, 3, 4, 5, 0, 9, 6, 7, 8, 10], [2, 1, 3, 4, 5, 6, 0, 7, 8, 9, 10], [2, 1, 3, 4, 5, 6, 0, 7, 9, 8, 10], [2, 1, 3, 4, 5, 6, 0, 9, 7, 8, 10], [2, 1, 3, 4, 5, 6, 7, 0, 8, 9, 10], [2, 1, 3, 4, 5, 6, 7, 0, 9, 8, 10], [2, 1, 3, 4, 5, 6, 7, 8, 0, 9, 10], [2, 1, 3, 4, 6, 0, 5, 7, 8, 9, 10], [2, 1, 3, 4, 6, 0, 5, 7, 9, 8, 10], [2, 1, 3, 4, 6, 0, 5, 9, 7, 8, 10], [2, 1, 3, 4, 6, 0, 9, 5, 7, 8, 10], [2, 1, 3, 4, 6, 5, 0, 7, 8, 9, 10], [2, 1, 3, 4, 6, 5, 0, 7, 9, 8, 10], [2, 1, 3, 4, 6, 5, 0, 9, 7, 8, 10], [2, 1, 3, 4, 6, 5, 7, 0, 8, 9, 10], [2, 1, 3, 4, 6, 5, 7, 0, 9, 8, 10], [2, 1, 3, 4, 6, 5, 7, 8, 0, 9, 10]]] (by kernel_rfl) ?_
    refine Wave.cons ⟨4, [(6, .lv 3 [] 0), (7, .bool (false || (decide (a.N = b.N) && (decide (a.S = b.S) && decide (a.R = b.R)))))], [(3, ⟨true, eVal a⟩)]⟩ (fun is his => ?_) ?_
    · simp only [List.mem_cons, List.not_mem_nil, or_false] at his
      rcases his with rfl | rfl | rfl | rfl | rfl | rfl | rfl | rfl | rfl | rfl | rfl | rfl | rfl | rfl | rfl | rfl | rfl | rfl | rfl | rfl | rfl | rfl | rfl | rfl | rfl | rfl | rfl | rfl | rfl | rfl | rfl | rfl | rfl | rfl | rfl | rfl | rfl | rfl | rfl | rfl | rfl | rfl | rfl | rfl | rfl | rfl | rfl | rfl | rfl | rfl | rfl | rfl | rfl | rfl | rfl | rfl | rfl | rfl | rfl | rfl | rfl | rfl | rfl | rfl | rfl | rfl | rfl | rfl | rfl | rfl | rfl | rfl | rfl | rfl | rfl | rfl | rfl | rfl | rfl | rfl | rfl | rfl | rfl | rfl | rfl | rfl | rfl | rfl | rfl | rfl | rfl | rfl | rfl | rfl | rfl | rfl | rfl | rfl | rfl | rfl | rfl | rfl | rfl | rfl | rfl | rfl | rfl | rfl | rfl | rfl | rfl | rfl | rfl | rfl | rfl | rfl | rfl | rfl | rfl | rfl | rfl | rfl | rfl | rfl | rfl | rfl | rfl | rfl | rfl | rfl | rfl | rfl | rfl | rfl | rfl | rfl | rfl | rfl | rfl | rfl
      all_goals (first | (refine CWops.run htt 11 (by simp only [List.map_cons, List.map_nil, nthO_zero, nthO_succ, go_sem, simprocAttr, eVal, hE]; exact rfl) (by simp) ?_; refine CWops.done ?_))
      all_goals (refine Sh.wk0 ?_; simp [Wk, go_sem, simprocAttr, eVal, hE])
    refine Wave.done ?_
    refine CW.ret ?_
    refine retQ.ret (by simp only [f71, go_sem, simprocAttr]; exact rfl) (by simp only [go_sem, simprocAttr]; exact rfl) ?_ -- ret2
    refine ⟨_, ?_, rfl⟩
    rw [val_eqB] at hE
    simp [go_sem, simprocAttr, leP, leL, stand, h1, eVal, val_eqB, hE, ldc, view]
theorem merge_standsV (up : Bool) (o a b : GVal) : PCall prog up 71 [.agg (eVal o), .agg (eVal a), .agg (eVal b)] (· = .tup [.agg (eVal (stand o a b).1), .bool (stand o a b).2]) := by
  cases h : (decide (b.N = o.N) && (decide (b.S = o.S) && decide (b.R = o.R))) with
  | true => exact merge_standsV_true up o a b h
  | false => exact merge_standsV_false up o a b h
end Go.Ab
namespace Go.Ab
open Go Go.Proofs.Try
set_option maxRecDepth 100000
set_option maxHeartbeats 3200000
set_option linter.unusedSimpArgs false
set_option linter.unusedVariables false
theorem merge_Merge_1 (up : Bool) (x y : GObj) : PCall prog up 31 [.agg (eObj x), .agg (eObj y)] (· = .int .i64 (IntKind.i64.wrap (x.Id - y.Id))) := by
  refine PCall.intro htt func31 (by kernel_rfl) rfl (Nat.le_of_ble_eq_true rfl) fun hl => ?_

  simp only [tmps0, Nat.reduceAdd]
  refine CW.seq ?_
  refine CW.rg ?_
  refine CWops.run htt 3 (by simp only [go_sem, simprocAttr, eObj]; exact rfl) (by simp [go_sem, simprocAttr, eObj]) ?_
  refine CWops.done ?_
  refine CW.seq ?_
  refine CW.rg ?_
  refine CWops.run htt 6 (by simp only [go_sem, simprocAttr, eObj]; exact rfl) (by simp [go_sem, simprocAttr, eObj]) ?_
  refine CWops.done ?_
  refine CW.ret ?_
  refine retQ.ret (by simp only [f31, go_sem, simprocAttr]; exact rfl) (by simp only [go_sem, simprocAttr]; exact rfl) ?_ -- ret1
  refine ⟨_, ?_, rfl⟩
  simp [leP]
theorem merge_schema (up : Bool) (s : List GType) (h1 : s.length * 40 ≤ MX) (h2 : ∀ x ∈ s, x.F.length * 40 ≤ MX) : PCall prog up 29 [.agg (eSchema s)] (· = .agg (eSchema s)) := by
  refine PCall.intro htt func29 (by kernel_rfl) rfl (Nat.le_of_ble_eq_true rfl) fun hl => ?_
  have hb : s.length ≤ MX := by omega
  simp only [tmps0, Nat.reduceAdd]
  refine CW.seq ?_
  refine CW.rg ?_
  refine CWops.run htt 2 (by simp only [go_sem, simprocAttr, eSchema]; exact rfl) (by simp [go_sem, simprocAttr, eSchema]) ?_
  refine CWops.done ?_
  refine CW.seq ?_
  refine CW.rg ?_
  refine CWops.run htt 2 (by simp only [go_sem, simprocAttr, eSchema]; exact rfl) (by simp [go_sem, simprocAttr, eSchema]) ?_
  refine CWops.callG [] rfl (clone_TypeG up s h1) (by simp only [go_sem, simprocAttr]) (by simp only [go_sem, simprocAttr]; first | done | exact rfl) (by decide) (by simp [go_sem, simprocAttr, mName, memB]) (by simp [go_sem, simprocAttr, mName]) (by simp [go_sem, simprocAttr]) (by simp [go_sem, simprocAttr]) (by simp [go_sem, simprocAttr, mName]) (fun r σ' hσ => ?_)
  obtain ⟨σn, σt, σs⟩ := σ'
  simp only at hσ
  obtain ⟨rfl, rfl, rfl⟩ := hσ
  simp only [aftS, renS, delAll, memB, mName, List.getD_nil, killH, kref, ren, Nat.beq_eq, go_sem, simprocAttr]
  refine CWops.run htt 2 (by simp only [go_sem, simprocAttr, eSchema]; exact rfl) (by simp [go_sem, simprocAttr, eSchema]) ?_
  refine CWops.done ?_
  refine CW.seq ?_
  refine CW.seq ?_
  refine CW.rg ?_
  refine CWops.rn htt 4 ?_
  refine CWops.done ?_
  refine CW.block ?_
  refine CW.loop (S := Nat) (fun i => ⟨2, [(1, .lv 0 [] 0), (2, .lv 1 [] 0), (10, .ref 0 [] 0), (11, .int .i64 s.length), (12, .int .i64 i)], [(0, ⟨true, [.own 2 (s.map eType)]⟩), (1, ⟨true, [.nilsl]⟩)]⟩) (fun i => i ≤ s.length) (fun i => s.length - i) (0) ?_ (Nat.zero_le _) (fun i h3 => ?_)
  · refine Sh.wk0 ?_; simp [Wk, go_sem, simprocAttr]
  refine CW.seq ?_
  refine CW.rg ?_
  refine CWops.rn htt 1 ?_
  refine CWops.done ?_
  refine CW.seq ?_
  refine CW.cond (by simp only [go_sem, simprocAttr]; first | done | exact rfl) (fun ct13 => ?_) (fun ct13 => ?_)
  · have hi : i < s.length := by simpa using ct13
    obtain ⟨x, hx⟩ : ∃ x, s[i]? = some x := ⟨s[i], List.getElem?_eq_getElem hi⟩
    refine CW.skip ?_
    refine CW.seq ?_
    refine CW.block ?_
    refine CW.seq ?_
    refine CW.rg ?_
    refine CWops.run htt 6 (by simp only [go_sem, simprocAttr, hi, hx, eType]; exact rfl) (by simp [go_sem, simprocAttr, hi, hx, eType]) ?_
    refine CWops.done ?_
    refine CW.drawn mixed 6 (by decide) (by kernel_rfl) (by kernel_rfl) (by kernel_rfl) ?_
    refine Seg.run htt 5 (by simp only [go_sem, simprocAttr, hi, hx, eType]; exact rfl) ?_
    refine Seg.callA (clone_Field up x.F (h2 x (List.mem_of_getElem? hx))) (by simp only [go_sem, simprocAttr, hi, hx, eType]) (by simp only [go_sem, simprocAttr, hi, hx, eType]; first | done | exact rfl) (by simp only [go_sem, simprocAttr, hi, hx, eType]) (by simp only [go_sem, simprocAttr, hi, hx, eType]) ?_
    refine Seg.done ?_
    refine CWops.run htt 3 (by simp only [go_sem, simprocAttr, hi, hx, eType]; exact rfl) (by simp [go_sem, simprocAttr, hi, hx, eType]) ?_
    refine CWops.done ?_
    refine CW.rg ?_
    refine CWops.run htt 2 (by simp only [go_sem, simprocAttr, wrap_succ (Nat.lt_of_lt_of_le hi hb)]; exact rfl) (by simp [go_sem, simprocAttr, wrap_succ (Nat.lt_of_lt_of_le hi hb)]) ?_
    refine CWops.done ?_
    refine ⟨i + 1, ?_, ?_, ?_⟩
    · refine Sh.wk0 ?_
      have hss : (s.map eType).set i [.str x.Name, .sl 3 (x.F.map eField)] = s.map eType := set_same (by rw [List.getElem?_map, hx]; rfl)
      simp [Wk, go_sem, simprocAttr, hss]
    · exact hi
    · simp only; omega
  · have hi : i = s.length := by simp at ct13; omega
    refine CW.exit ?_
    refine CW.seq ?_
    refine CW.rg ?_
    refine CWops.rn htt 2 ?_
    refine CWops.done ?_
    refine CW.ret ?_
    refine retQ.ret (by simp only [f29, go_sem, simprocAttr]; exact rfl) (by simp only [go_sem, simprocAttr]; exact rfl) ?_ -- ret1
    refine ⟨_, ?_, rfl⟩
    simp [leP, leL, eSchema, frz_Type]
end Go.Ab
namespace Go.Ab
open Go Go.Proofs.Try
set_option maxRecDepth 100000
set_option maxHeartbeats 3200000
set_option linter.unusedSimpArgs false
set_option linter.unusedVariables false
@[go_sem] theorem tt_102 : tiOf prog 102 = some ⟨.array 2 28, 6, 144, [.nilsl, .nilsl, .nilsl, .nilsl, .nilsl, .nilsl], false⟩ := by kernel_rfl
@[go_sem] theorem tt_103 : tiOf prog 103 = some ⟨.array 3 102, 18, 432, [.nilsl, .nilsl, .nilsl, .nilsl, .nilsl, .nilsl, .nilsl, .nilsl, .nilsl, .nilsl, .nilsl, .nilsl, .nilsl, .nilsl, .nilsl, .nilsl, .nilsl, .nilsl], false⟩ := by kernel_rfl
@[go_sem] theorem tt_69 : tiOf prog 69 = some ⟨.struct [(28, 0), (28, 3), (28, 6)], 9, 216, [.nilsl, .nilsl, .nilsl, .nilsl, .nilsl, .nilsl, .nilsl, .nilsl, .nilsl], true⟩ := by kernel_rfl
def eT (o a b : Graph) : List AV := [.sl 2 (o.S.map eType), .sl 3 (o.O.map eObj), .sl 1 (o.Roots.map eI), .sl 2 (a.S.map eType), .sl 3 (a.O.map eObj), .sl 1 (a.Roots.map eI), .sl 2 (b.S.map eType), .sl 3 (b.O.map eObj), .sl 1 (b.Roots.map eI)]
def eQ (o a b : Graph) : List AV := [.sl 2 (o.S.map eType), .sl 3 (o.O.map eObj), .sl 1 (o.Roots.map eI), .sl 2 (a.S.map eType), .sl 3 (a.O.map eObj), .sl 1 (a.Roots.map eI), .sl 2 (a.S.map eType), .sl 3 (a.O.map eObj), .sl 1 (a.Roots.map eI), .sl 2 (b.S.map eType), .sl 3 (b.O.map eObj), .sl 1 (b.Roots.map eI), .sl 2 (o.S.map eType), .sl 3 (o.O.map eObj), .sl 1 (o.Roots.map eI), .sl 2 (b.S.map eType), .sl 3 (b.O.map eObj), .sl 1 (b.Roots.map eI)]
def ePair (p q : Graph) : List AV := [.sl 2 (p.S.map eType), .sl 3 (p.O.map eObj), .sl 1 (p.Roots.map eI), .sl 2 (q.S.map eType), .sl 3 (q.O.map eObj), .sl 1 (q.Roots.map eI)]
theorem idx3 (o a b : Graph) {i : Nat} (h : i < 3) : ∃ p q : Graph, (i : Int) < 3 ∧ i * 6 + 6 ≤ (eQ o a b).length ∧ List.take 6 (List.drop (i * 6) (eQ o a b)) = ePair p q ∧ ((i = 0 ∧ p = o ∧ q = a) ∨ (i = 1 ∧ p = a ∧ q = b) ∨ (i = 2 ∧ p = o ∧ q = b)) := by
  rcases (show i = 0 ∨ i = 1 ∨ i = 2 by omega) with rfl | rfl | rfl
  · exact ⟨o, a, by omega, by simp [eQ], by simp [eQ, ePair], by simp⟩
  · exact ⟨a, b, by omega, by simp [eQ], by simp [eQ, ePair], by simp⟩
  · exact ⟨o, b, by omega, by simp [eQ], by simp [eQ, ePair], by simp⟩
theorem merge_check (up : Bool) (o a b : Graph) : PCall prog up 26 [.agg (eT o a b)] (· = .int .i64 (gCheck o a b)) := by
  refine PCall.intro htt func26 (by kernel_rfl) rfl (Nat.le_of_ble_eq_true rfl) fun hl => ?_

  simp only [tmps0, Nat.reduceAdd]
  refine CW.seq ?_
  refine CW.rg ?_
  refine CWops.run htt 2 (by simp only [go_sem, simprocAttr, eT]; exact rfl) (by simp [go_sem, simprocAttr, eT]) ?_
  refine CWops.done ?_
  refine CW.seq ?_
  refine CW.seq ?_
  refine CW.rg ?_
  refine CWops.run htt 17 (by simp only [go_sem, simprocAttr, eT]; exact rfl) (by simp [go_sem, simprocAttr, eT]) ?_
  refine CWops.done ?_
  refine CW.block ?_
  refine CW.loop (S := Nat) (fun i => ⟨1, [(0, .agg (eT o a b)), (1, .lv 0 [] 0), (2, .int .i64 0), (24, .agg (eQ o a b)), (25, .int .i64 i)], [(0, ⟨true, eT o a b⟩)]⟩) (fun i => i ≤ 3 ∧ (0 < i → gMay o = true ∧ gMay a = true) ∧ (1 < i → gMay b = true)) (fun i => 3 - i) (0) ?_ ⟨by omega, by omega, by omega⟩ (fun i ⟨h1, h2, h3⟩ => ?_)
  · refine Sh.wk0 ?_; simp [Wk, go_sem, simprocAttr, eT, eQ]
  refine CW.seq ?_
  refine CW.rg ?_
  refine CWops.rn htt 1 ?_
  refine CWops.done ?_
  refine CW.seq ?_
  refine CW.cond (by simp only [go_sem, simprocAttr]; first | done | exact rfl) (fun ct26 => ?_) (fun ct26 => ?_)
  · have hi : i < 3 := by simp at ct26; omega
    obtain ⟨p, q, hi3, hle, hdt, hpq⟩ := idx3 o a b hi
    refine CW.skip ?_
    refine CW.seq ?_
    refine CW.block ?_
    refine CW.seq ?_
    refine CW.rg ?_
    refine CWops.run htt 3 (by simp only [go_sem, simprocAttr, hi3, hle, hdt, ePair]; exact rfl) (by simp [go_sem, simprocAttr, hi3, hle, hdt, ePair]) ?_
    refine CWops.done ?_
    refine CW.seq ?_
    refine CW.rg ?_
    refine CWops.run htt 2 (by simp only [go_sem, simprocAttr, ePair, eGraph]; exact rfl) (by simp [go_sem, simprocAttr, ePair, eGraph]) ?_
    refine CWops.call (graph_May up p) (by simp only [go_sem, simprocAttr, ePair, eGraph]) (by simp only [go_sem, simprocAttr, ePair, eGraph]; first | done | exact rfl) (by simp only [go_sem, simprocAttr, ePair, eGraph]) (fun rt30 hrt30 => ?_)
    subst hrt30; refine ⟨rfl, ?_⟩
    refine CWops.run htt 2 (by simp only [go_sem, simprocAttr, ePair, eGraph]; exact rfl) (by simp [go_sem, simprocAttr, ePair, eGraph]) ?_
    all_goals (first | refine CWops.guard 32 (by simp only [go_sem, simprocAttr, ePair, eGraph]; exact rfl) (fun g32 => ?_) (fun g32 => ?_) | skip)
    all_goals (refine CWops.run htt 2 (by simp only [go_sem, simprocAttr, ePair, eGraph]; exact rfl) (by simp [go_sem, simprocAttr, ePair, eGraph]) ?_)
    all_goals (first | (refine CWops.skip ?_ ?_; next => (simp only [go_sem, simprocAttr]; done)) | (refine CWops.call (graph_May up q) (by simp only [go_sem, simprocAttr, ePair, eGraph]) (by simp only [go_sem, simprocAttr, ePair, eGraph]; first | done | exact rfl) (by simp only [go_sem, simprocAttr, ePair, eGraph]) (fun rt35 hrt35 => ?_); subst hrt35; refine ⟨rfl, ?_⟩))
    all_goals (refine CWops.run htt 2 (by simp only [go_sem, simprocAttr, ePair, eGraph]; exact rfl) (by simp [go_sem, simprocAttr, ePair, eGraph]) ?_)
    all_goals (refine CWops.done ?_)
    all_goals (
      refine CW.cond (by simp only [go_sem, simprocAttr]; first | done | exact rfl) (fun ct37 => ?_) (fun ct37 => ?_)
      · refine CW.seq ?_
        refine CW.rg ?_
        refine CWops.rn htt 1 ?_
        refine CWops.done ?_
        refine CW.ret ?_
        refine retQ.ret (by simp only [f26, go_sem, simprocAttr]; exact rfl) (by simp only [go_sem, simprocAttr]; exact rfl) ?_ -- ret1
        refine ⟨_, ?_, rfl⟩
        rcases hpq with ⟨rfl, rfl, rfl⟩ | ⟨rfl, rfl, rfl⟩ | ⟨rfl, rfl, rfl⟩ <;> simp_all [leP, gCheck]
      · refine CW.skip ?_
        refine CW.rg ?_
        refine CWops.run htt 2 (by simp only [go_sem, simprocAttr, wrap_succ (show i < MX by unfold MX; omega)]; exact rfl) (by simp [go_sem, simprocAttr, wrap_succ (show i < MX by unfold MX; omega)]) ?_
        refine CWops.done ?_
        refine ⟨i + 1, ?_, ?_, ?_⟩
        · refine Sh.wk0 ?_; simp [Wk, go_sem, simprocAttr, eT, eQ]
        · refine ⟨by omega, fun _ => ?_, fun _ => ?_⟩
          all_goals rcases hpq with ⟨rfl, rfl, rfl⟩ | ⟨rfl, rfl, rfl⟩ | ⟨rfl, rfl, rfl⟩ <;> simp_all
        · simp only; omega)
  · have hi : i = 3 := by simp at ct26; omega
    obtain ⟨m1, m2⟩ := h2 (by omega)
    have m3 := h3 (by omega)
    refine CW.exit ?_
    refine CW.seq ?_
    refine CW.seq ?_
    refine CW.rg ?_
    refine CWops.run htt 17 (by simp only [go_sem, simprocAttr, eT]; exact rfl) (by simp [go_sem, simprocAttr, eT]) ?_
    refine CWops.done ?_
    refine CW.block ?_
    refine CW.loop (S := Nat) (fun i => ⟨1, [(0, .agg (eT o a b)), (1, .lv 0 [] 0), (2, .int .i64 0), (54, .agg (eQ o a b)), (55, .int .i64 i)], [(0, ⟨true, eT o a b⟩)]⟩) (fun i => i ≤ 3 ∧ (0 < i → (gDiff o a).2 = 0) ∧ (1 < i → (gDiff a b).2 = 0) ∧ (2 < i → (gDiff o b).2 = 0)) (fun i => 3 - i) (0) ?_ ⟨by omega, by omega, by omega, by omega⟩ (fun i ⟨h1, h2, h3, h4⟩ => ?_)
    · refine Sh.wk0 ?_; simp [Wk, go_sem, simprocAttr, eT, eQ]
    refine CW.seq ?_
    refine CW.rg ?_
    refine CWops.rn htt 1 ?_
    refine CWops.done ?_
    refine CW.seq ?_
    refine CW.cond (by simp only [go_sem, simprocAttr]; first | done | exact rfl) (fun ct56 => ?_) (fun ct56 => ?_)
    · have hi : i < 3 := by simp at ct56; omega
      obtain ⟨p, q, hi3, hle, hdt, hpq⟩ := idx3 o a b hi
      refine CW.skip ?_
      refine CW.seq ?_
      refine CW.block ?_
      refine CW.seq ?_
      refine CW.rg ?_
      refine CWops.run htt 3 (by simp only [go_sem, simprocAttr, hi3, hle, hdt, ePair]; exact rfl) (by simp [go_sem, simprocAttr, hi3, hle, hdt, ePair]) ?_
      refine CWops.done ?_
      refine CW.seq ?_
      refine CW.rg ?_
      refine CWops.run htt 4 (by simp only [go_sem, simprocAttr, ePair, eGraph]; exact rfl) (by simp [go_sem, simprocAttr, ePair, eGraph]) ?_
      refine CWops.callA (diff_Of up p q) (by simp only [go_sem, simprocAttr, ePair, eGraph]) (by simp only [go_sem, simprocAttr, ePair, eGraph]; first | done | exact rfl) (by simp only [go_sem, simprocAttr, ePair, eGraph]) (by simp only [go_sem, simprocAttr, ePair, eGraph]) (fun rt63 hrt63 => ?_)
      subst hrt63
      refine CWops.run htt 6 (by simp only [go_sem, simprocAttr, ePair, eGraph]; exact rfl) (by simp [go_sem, simprocAttr, ePair, eGraph]) ?_
      refine CWops.done ?_
      refine CW.seq ?_
      refine CW.rg ?_
      refine CWops.rn htt 2 ?_
      refine CWops.done ?_
      refine CW.cond (by simp only [go_sem, simprocAttr]; first | done | exact rfl) (fun ct67 => ?_) (fun ct67 => ?_)
      · refine CW.seq ?_
        refine CW.rg ?_
        refine CWops.rn htt 2 ?_
        refine CWops.done ?_
        refine CW.ret ?_
        refine retQ.ret (by simp only [f26, go_sem, simprocAttr]; exact rfl) (by simp only [go_sem, simprocAttr]; exact rfl) ?_ -- ret2
        refine ⟨_, ?_, rfl⟩
        have e1 : ¬ (gDiff p q).2 = 0 := by simpa using ct67
        rcases hpq with ⟨rfl, rfl, rfl⟩ | ⟨rfl, rfl, rfl⟩ | ⟨rfl, rfl, rfl⟩ <;> simp_all [leP, gCheck]
      · refine CW.skip ?_
        refine CW.rg ?_
        refine CWops.run htt 2 (by simp only [go_sem, simprocAttr, wrap_succ (show i < MX by unfold MX; omega)]; exact rfl) (by simp [go_sem, simprocAttr, wrap_succ (show i < MX by unfold MX; omega)]) ?_
        refine CWops.done ?_
        refine ⟨i + 1, ?_, ?_, ?_⟩
        · refine Sh.wk0 ?_; simp [Wk, go_sem, simprocAttr, eT, eQ]
        · refine ⟨by omega, fun _ => ?_, fun _ => ?_, fun _ => ?_⟩
          all_goals rcases hpq with ⟨rfl, rfl, rfl⟩ | ⟨rfl, rfl, rfl⟩ | ⟨rfl, rfl, rfl⟩ <;> simp_all
        · simp only; omega
    · have hi : i = 3 := by simp at ct56; omega
      have d1 := h2 (by omega)
      have d2 := h3 (by omega)
      have d3 := h4 (by omega)
      refine CW.exit ?_
      refine CW.seq ?_
      refine CW.seq ?_
      refine CW.rg ?_
      refine CWops.run htt 12 (by simp only [go_sem, simprocAttr, eT]; exact rfl) (by simp [go_sem, simprocAttr, eT]) ?_
      refine CWops.min2 (k := .i64) (m := a.Roots.length) (n := b.Roots.length) (by simp only [go_sem, simprocAttr]) (by simp only [go_sem, simprocAttr]) (by simp only [go_sem, simprocAttr]) ?_
      refine CWops.run htt 1 (by simp only [go_sem, simprocAttr, eT]; exact rfl) (by simp [go_sem, simprocAttr, eT]) ?_
      refine CWops.done ?_
      refine CW.cond (by simp only [go_sem, simprocAttr]; first | done | exact rfl) (fun ct83 => ?_) (fun ct83 => ?_)
      · refine CW.seq ?_
        refine CW.rg ?_
        refine CWops.rn htt 1 ?_
        refine CWops.done ?_
        refine CW.ret ?_
        refine retQ.ret (by simp only [f26, go_sem, simprocAttr]; exact rfl) (by simp only [go_sem, simprocAttr]; exact rfl) ?_ -- ret3
        refine ⟨_, ?_, rfl⟩
        have e1 : min a.Roots.length b.Roots.length < o.Roots.length := by simp at ct83; omega
        simp [leP, gCheck, m1, m2, m3, d1, d2, d3, e1]
      · refine CW.skip ?_
        refine CW.seq ?_
        refine CW.rg ?_
        refine CWops.rn htt 1 ?_
        refine CWops.done ?_
        refine CW.ret ?_
        refine retQ.ret (by simp only [f26, go_sem, simprocAttr]; exact rfl) (by simp only [go_sem, simprocAttr]; exact rfl) ?_ -- ret4
        refine ⟨_, ?_, rfl⟩
        have e1 : ¬ min a.Roots.length b.Roots.length < o.Roots.length := by simp at ct83; omega
        simp [leP, gCheck, m1, m2, m3, d1, d2, d3, e1]
end Go.Ab
namespace Go.Ab
open Go Go.Proofs.Try
set_option maxRecDepth 100000
set_option maxHeartbeats 6400000
set_option linter.unusedSimpArgs false
set_option linter.unusedVariables false
theorem merge_object (up : Bool) (o a b : Graph) (id : Int) (hz : MSz o a b id) : PCall prog up 54 [.agg (eT o a b), .int .i64 id] (· = .tup [.agg (eObj (mObj o a b id).1), .sl 1 ((mObj o a b id).2.map eI)]) := by
  refine PCall.intro htt func54 (by kernel_rfl) rfl (Nat.le_of_ble_eq_true rfl) fun hl => ?_

  simp only [tmps0, Nat.reduceAdd]
  refine CW.seq ?_
  refine CW.rg ?_
  refine CWops.run htt 3 (by simp only [go_sem, simprocAttr, eT]; exact rfl) (by simp [go_sem, simprocAttr, eT]) ?_
  refine CWops.done ?_
  refine CW.seq ?_
  refine CW.rg ?_
  refine CWops.run htt 3 (by simp only [go_sem, simprocAttr, eT, eGraph]; exact rfl) (by simp [go_sem, simprocAttr, eT, eGraph]) ?_
  refine CWops.callA (merge_side up a id) (by simp only [go_sem, simprocAttr, eT, eGraph]) (by simp only [go_sem, simprocAttr, eT, eGraph]; first | done | exact rfl) (by simp only [go_sem, simprocAttr, eT, eGraph]) (by simp only [go_sem, simprocAttr, eT, eGraph]) (fun rt20 hrt20 => ?_)
  subst hrt20
  refine CWops.run htt 6 (by simp only [go_sem, simprocAttr, eT, eGraph]; exact rfl) (by simp [go_sem, simprocAttr, eT, eGraph]) ?_
  refine CWops.done ?_
  refine CW.seq ?_
  refine CW.rg ?_
  refine CWops.run htt 3 (by simp only [go_sem, simprocAttr, eT, eGraph]; exact rfl) (by simp [go_sem, simprocAttr, eT, eGraph]) ?_
  refine CWops.callA (merge_side up b id) (by simp only [go_sem, simprocAttr, eT, eGraph]) (by simp only [go_sem, simprocAttr, eT, eGraph]; first | done | exact rfl) (by simp only [go_sem, simprocAttr, eT, eGraph]) (by simp only [go_sem, simprocAttr, eT, eGraph]) (fun rt27 hrt27 => ?_)
  subst hrt27
  refine CWops.run htt 6 (by simp only [go_sem, simprocAttr, eT, eGraph]; exact rfl) (by simp [go_sem, simprocAttr, eT, eGraph]) ?_
  refine CWops.done ?_
  refine CW.seq ?_
  refine CW.block ?_
  refine CW.seq ?_
  refine CW.rg ?_
  refine CWops.rn htt 3 ?_
  refine CWops.done ?_
  refine CW.cond (by simp only [go_sem, simprocAttr]; first | done | exact rfl) (fun ct30 => ?_) (fun ct30 => ?_)
  · have h1 : hasId a id = false := by simpa using ct30
    refine CW.seq ?_
    refine CW.rg ?_
    refine CWops.run htt 2 (by simp only [go_sem, simprocAttr, eObj]; exact rfl) (by simp [go_sem, simprocAttr, eObj]) ?_
    refine CWops.callA (clone_Val up (objD b id).F (by have := hz.lb; unfold MX; omega)) (by simp only [go_sem, simprocAttr, eObj]) (by simp only [go_sem, simprocAttr, eObj]; first | done | exact rfl) (by simp only [go_sem, simprocAttr, eObj]) (by simp only [go_sem, simprocAttr, eObj]) (fun rt35 hrt35 => ?_)
    subst hrt35
    refine CWops.run htt 2 (by simp only [go_sem, simprocAttr, eObj]; exact rfl) (by simp [go_sem, simprocAttr, eObj]) ?_
    refine CWops.done ?_
    refine CW.seq ?_
    refine CW.rg ?_
    refine CWops.run htt 3 (by simp only [go_sem, simprocAttr, eObj]; exact rfl) (by simp [go_sem, simprocAttr, eObj]) ?_
    refine CWops.done ?_
    refine CW.ret ?_
    refine retQ.ret (by simp only [f54, go_sem, simprocAttr]; exact rfl) (by simp only [go_sem, simprocAttr]; exact rfl) ?_ -- ret1
    refine ⟨_, ?_, rfl⟩
    simp [leP, leL, mObj, h1, eObj]
  · have h1 : hasId a id = true := by simpa using ct30
    refine CW.seq ?_
    refine CW.rg ?_
    refine CWops.rn htt 3 ?_
    refine CWops.done ?_
    refine CW.cond (by simp only [go_sem, simprocAttr]; first | done | exact rfl) (fun ct38 => ?_) (fun ct38 => ?_)
    · have h2 : hasId b id = false := by simpa using ct38
      refine CW.seq ?_
      refine CW.rg ?_
      refine CWops.run htt 2 (by simp only [go_sem, simprocAttr, eObj]; exact rfl) (by simp [go_sem, simprocAttr, eObj]) ?_
      refine CWops.callA (clone_Val up (objD a id).F (by have := hz.la; unfold MX; omega)) (by simp only [go_sem, simprocAttr, eObj]) (by simp only [go_sem, simprocAttr, eObj]; first | done | exact rfl) (by simp only [go_sem, simprocAttr, eObj]) (by simp only [go_sem, simprocAttr, eObj]) (fun rt43 hrt43 => ?_)
      subst hrt43
      refine CWops.run htt 2 (by simp only [go_sem, simprocAttr, eObj]; exact rfl) (by simp [go_sem, simprocAttr, eObj]) ?_
      refine CWops.done ?_
      refine CW.seq ?_
      refine CW.rg ?_
      refine CWops.run htt 3 (by simp only [go_sem, simprocAttr, eObj]; exact rfl) (by simp [go_sem, simprocAttr, eObj]) ?_
      refine CWops.done ?_
      refine CW.ret ?_
      refine retQ.ret (by simp only [f54, go_sem, simprocAttr]; exact rfl) (by simp only [go_sem, simprocAttr]; exact rfl) ?_ -- ret2
      refine ⟨_, ?_, rfl⟩
      simp [leP, leL, mObj, h1, h2, eObj]
    · have h2 : hasId b id = true := by simpa using ct38
      refine CW.skip ?_
      refine CW.seq ?_
      refine CW.rg ?_
      refine CWops.run htt 3 (by simp only [go_sem, simprocAttr, eT, eGraph]; exact rfl) (by simp [go_sem, simprocAttr, eT, eGraph]) ?_
      refine CWops.callA (merge_side up o id) (by simp only [go_sem, simprocAttr, eT, eGraph]) (by simp only [go_sem, simprocAttr, eT, eGraph]; first | done | exact rfl) (by simp only [go_sem, simprocAttr, eT, eGraph]) (by simp only [go_sem, simprocAttr, eT, eGraph]) (fun rt50 hrt50 => ?_)
      subst hrt50
      refine CWops.run htt 6 (by simp only [go_sem, simprocAttr, eT, eGraph]; exact rfl) (by simp [go_sem, simprocAttr, eT, eGraph]) ?_
      refine CWops.done ?_
      refine CW.seq ?_
      refine CW.rg ?_
      refine CWops.rn htt 2 ?_
      refine CWops.callG [] rfl (clone_ValG up (objD a id).F (by have := hz.la; unfold MX; omega)) (by simp only [go_sem, simprocAttr]) (by simp only [go_sem, simprocAttr]; first | done | exact rfl) (by decide) (by simp [go_sem, simprocAttr, mName, memB]) (by simp [go_sem, simprocAttr, mName]) (by simp [go_sem, simprocAttr]) (by simp [go_sem, simprocAttr]) (by simp [go_sem, simprocAttr, mName]) (fun r σ' hσ => ?_)
      obtain ⟨σn, σt, σs⟩ := σ'
      simp only at hσ
      obtain ⟨rfl, rfl, rfl⟩ := hσ
      simp only [aftS, renS, delAll, memB, mName, List.getD_nil, killH, kref, ren, Nat.beq_eq, go_sem, simprocAttr]
      refine CWops.rn htt 2 ?_
      refine CWops.done ?_
      refine CW.seq ?_
      refine CW.rg ?_
      refine CWops.rn htt 1 ?_
      refine CWops.done ?_
      have ea := hz.la
      have eb := hz.ab h1 h2
      have eo := hz.ao h1
      refine CW.seq ?_
      refine CW.seq ?_
      refine CW.rg ?_
      refine CWops.rn htt 4 ?_
      refine CWops.done ?_
      refine CW.block ?_
      refine CW.loop (S := Nat) (fun i => ⟨7, [(2, .lv 0 [] 0), (4, .lv 1 [] 0), (5, .nilsl), (6, .lv 2 [] 0), (8, .lv 3 [] 0), (10, .lv 4 [] 0), (11, .bool (hasId o id)), (12, .ref 6 [] 0), (58, .ref 2 [] 2), (59, .int .i64 (objD a id).F.length), (60, .int .i64 i)], [(0, ⟨true, eT o a b⟩), (1, ⟨true, [.int .i64 0, .int .i64 0, .nilsl]⟩), (2, ⟨true, [.int .i64 (objD a id).Id, .int .i64 (objD a id).T, .own 3 ((mixM (hasId o id) (objD o id).F (objD a id).F (objD b id).F i).map eVal)]⟩), (3, ⟨true, [.int .i64 (objD b id).Id, .int .i64 (objD b id).T, .sl 3 ((objD b id).F.map eVal)]⟩), (4, ⟨true, [.int .i64 (objD o id).Id, .int .i64 (objD o id).T, .sl 3 ((objD o id).F.map eVal)]⟩), (6, ⟨false, [.own 1 ((mClash (hasId o id) (objD o id).F (objD a id).F (objD b id).F i).map eI)]⟩)]⟩) (fun i => i ≤ (objD a id).F.length) (fun i => (objD a id).F.length - i) (0) ?_ (Nat.zero_le _) (fun i h3 => ?_)
      · refine Sh.trans (Sh.nilRoot 12 1 (by simp only [go_sem, simprocAttr]) rfl) (Sh.wk0 ?_); simp [Wk, go_sem, simprocAttr, mixM_zero, mClash, eObj, eT]
      refine CW.seq ?_
      refine CW.rg ?_
      refine CWops.rn htt 1 ?_
      refine CWops.done ?_
      refine CW.seq ?_
      refine CW.cond (by simp only [go_sem, simprocAttr]; first | done | exact rfl) (fun ct61 => ?_) (fun ct61 => ?_)
      · have hi : i < (objD a id).F.length := by simp at ct61; omega
        obtain ⟨v, hv⟩ : ∃ v, (objD a id).F[i]? = some v := ⟨_, List.getElem?_eq_getElem hi⟩
        obtain ⟨y, hy'⟩ : ∃ y, (objD b id).F[i]? = some y := ⟨_, List.getElem?_eq_getElem (by omega)⟩
        have hy : (objD b id).F.getD i v = y := by simp [hy']
        have hiy : i < (objD b id).F.length := by omega
        have hcl := mClash_len (hasId o id) (objD o id).F (objD a id).F (objD b id).F i
        refine CW.skip ?_
        refine CW.seq ?_
        refine CW.block ?_
        refine CW.seq ?_
        refine CW.rg ?_
        refine CWops.run htt 6 (by simp only [go_sem, simprocAttr, hi, hv, mixM_get hv, mixM_len, eVal]; exact rfl) (by simp [go_sem, simprocAttr, hi, hv, mixM_get hv, mixM_len, eVal]) ?_
        refine CWops.done ?_
        refine CW.seq ?_
        refine CW.drawn mixed 6 (by decide) (by kernel_rfl) (by kernel_rfl) (by kernel_rfl) ?_
        refine Seg.run htt 6 (by simp only [go_sem, simprocAttr, hi, hv, hy', hiy, eVal]; exact rfl) ?_
        refine Seg.done ?_
        refine CWops.run htt 2 (by simp only [go_sem, simprocAttr, hi, hv, hy', hiy, eVal]; exact rfl) (by simp [go_sem, simprocAttr, hi, hv, hy', hiy, eVal]) ?_
        refine CWops.done ?_
        refine CW.seq ?_
        refine CW.seq ?_
        refine CW.rg ?_
        refine CWops.rn htt 1 ?_
        refine CWops.done ?_
        refine CW.cond (by simp only [go_sem, simprocAttr]; first | done | exact rfl) (fun ct72 => ?_) (fun ct72 => ?_)
        · have h4 : hasId o id = true := by simpa using ct72
          have eo := eo h4
          obtain ⟨w, hw'⟩ : ∃ w, (objD o id).F[i]? = some w := ⟨_, List.getElem?_eq_getElem (by omega)⟩
          have hw : (objD o id).F.getD i v = w := by simp [hw']
          have hiw : i < (objD o id).F.length := by omega
          refine CW.drawnF mixed 19 20 [17] (D := [90]) (by decide) (by decide) (by kernel_rfl) (by kernel_rfl) rfl (by kernel_rfl) (by kernel_rfl) ?_
          refine Seg.run htt 14 (by simp only [go_sem, simprocAttr, hi, hv, hy', hw', hiy, hiw, mixM_get hv, mixM_len, eVal, List.getElem?_set_self, List.length_map, List.set_set, List.set_cons_succ, List.set_cons_zero]; exact rfl) ?_
          refine Seg.callA (merge_standsV up w v y) (by simp only [go_sem, simprocAttr, hi, hv, hy', hw', hiy, hiw, mixM_get hv, mixM_len, eVal, List.getElem?_set_self, List.length_map, List.set_set, List.set_cons_succ, List.set_cons_zero]) (by simp only [go_sem, simprocAttr, hi, hv, hy', hw', hiy, hiw, mixM_get hv, mixM_len, eVal, List.getElem?_set_self, List.length_map, List.set_set, List.set_cons_succ, List.set_cons_zero]; first | done | exact rfl) (by simp only [go_sem, simprocAttr, hi, hv, hy', hw', hiy, hiw, mixM_get hv, mixM_len, eVal, List.getElem?_set_self, List.length_map, List.set_set, List.set_cons_succ, List.set_cons_zero]) (by simp only [go_sem, simprocAttr, hi, hv, hy', hw', hiy, hiw, mixM_get hv, mixM_len, eVal, List.getElem?_set_self, List.length_map, List.set_set, List.set_cons_succ, List.set_cons_zero]) ?_
          refine Seg.run htt 4 (by simp only [go_sem, simprocAttr, hi, hv, hy', hw', hiy, hiw, mixM_get hv, mixM_len, eVal, List.getElem?_set_self, List.length_map, List.set_set, List.set_cons_succ, List.set_cons_zero]; exact rfl) ?_
          refine Seg.done ?_
          refine Mid.sto htt (Flo.cons htt rfl rfl (by simp only [go_sem, simprocAttr, hi, hv, hy', hw', hiy, hiw, mixM_get hv, mixM_len, eVal, List.getElem?_set_self, List.length_map, List.set_set, List.set_cons_succ, List.set_cons_zero]; first | done | exact rfl) (Flo.nil)) (fun u => by simp only [go_sem, simprocAttr, hi, hv, hy', hw', hiy, hiw, mixM_get hv, mixM_len, eVal, List.getElem?_set_self, List.length_map, List.set_set, List.set_cons_succ, List.set_cons_zero]; exact rfl) ?_
          refine Mid.done (Flo.cons htt rfl rfl (by simp only [go_sem, simprocAttr, hi, hv, hy', hw', hiy, hiw, mixM_get hv, mixM_len, eVal, List.getElem?_set_self, List.length_map, List.set_set, List.set_cons_succ, List.set_cons_zero]; first | done | exact rfl) (Flo.nil)) ?_
          refine CWops.run htt 1 (by simp only [go_sem, simprocAttr, hi, hv, hy', hw', hiy, hiw, mixM_get hv, mixM_len, eVal, List.getElem?_set_self, List.length_map, List.set_set, List.set_cons_succ, List.set_cons_zero]; exact rfl) (by simp [go_sem, simprocAttr, hi, hv, hy', hw', hiy, hiw, mixM_get hv, mixM_len, eVal, List.getElem?_set_self, List.length_map, List.set_set, List.set_cons_succ, List.set_cons_zero]) ?_
          refine CWops.done ?_
          refine CW.seq ?_
          refine CW.rg ?_
          refine CWops.rn htt 2 ?_
          refine CWops.done ?_
          refine CW.cond (by simp only [go_sem, simprocAttr]; first | done | exact rfl) (fun ct93 => ?_) (fun ct93 => ?_)
          · have hf : mFine (hasId o id) w v y = false := by simpa [mFine, h4] using ct93
            refine CW.rg ?_
            refine CWops.run htt 5 (by simp only [go_sem, simprocAttr, eI]; exact rfl) (by simp [go_sem, simprocAttr, eI, MX] <;> omega) ?_
            refine CWops.done ?_
            refine CW.rg ?_
            refine CWops.run htt 2 (by simp only [go_sem, simprocAttr, wrap_succ (show i < MX by unfold MX; omega)]; exact rfl) (by simp [go_sem, simprocAttr, wrap_succ (show i < MX by unfold MX; omega)]) ?_
            refine CWops.done ?_
            refine ⟨i + 1, ?_, ?_, ?_⟩
            · dsimp only
              first | (rw [mClash_no hv hw hy hf]; refine Sh.wk0 ?_) | (rw [mClash_yes hv hw hy hf]; refine Sh.wk (fun x => if x = 6 then 9 else x) ?_)
              first | (rw [mixM_stay h4]; simp [Wk, go_sem, simprocAttr, eT, eI, h4]; done) | (rw [← mixM_set hv hw hy, List.map_set]; simp [Wk, go_sem, simprocAttr, eT, eVal, eI, mVal, h4])
            · exact hi
            · simp only; omega
          · have hf : mFine (hasId o id) w v y = true := by simpa [mFine, h4] using ct93
            refine CW.skip ?_
            refine CW.rg ?_
            refine CWops.run htt 2 (by simp only [go_sem, simprocAttr, wrap_succ (show i < MX by unfold MX; omega)]; exact rfl) (by simp [go_sem, simprocAttr, wrap_succ (show i < MX by unfold MX; omega)]) ?_
            refine CWops.done ?_
            refine ⟨i + 1, ?_, ?_, ?_⟩
            · dsimp only
              first | (rw [mClash_no hv hw hy hf]; refine Sh.wk0 ?_) | (rw [mClash_yes hv hw hy hf]; refine Sh.wk (fun x => if x = 6 then 9 else x) ?_)
              first | (rw [mixM_stay h4]; simp [Wk, go_sem, simprocAttr, eT, eI, h4]; done) | (rw [← mixM_set hv hw hy, List.map_set]; simp [Wk, go_sem, simprocAttr, eT, eVal, eI, mVal, h4])
            · exact hi
            · simp only; omega
        · have h4 : hasId o id = false := by simpa using ct72
          obtain ⟨w, hw⟩ : ∃ w, (objD o id).F.getD i v = w := ⟨_, rfl⟩
          refine CW.skip ?_
          refine CW.seq ?_
          refine CW.rg ?_
          refine CWops.rn htt 2 ?_
          refine CWops.done ?_
          refine CW.cond (by simp only [go_sem, simprocAttr]; first | done | exact rfl) (fun ct93 => ?_) (fun ct93 => ?_)
          · rw [val_eqB] at ct93
            have hf : mFine (hasId o id) w v y = false := by simpa [mFine, h4] using ct93
            refine CW.rg ?_
            refine CWops.run htt 5 (by simp only [go_sem, simprocAttr, eI]; exact rfl) (by simp [go_sem, simprocAttr, eI, MX] <;> omega) ?_
            refine CWops.done ?_
            refine CW.rg ?_
            refine CWops.run htt 2 (by simp only [go_sem, simprocAttr, wrap_succ (show i < MX by unfold MX; omega)]; exact rfl) (by simp [go_sem, simprocAttr, wrap_succ (show i < MX by unfold MX; omega)]) ?_
            refine CWops.done ?_
            refine ⟨i + 1, ?_, ?_, ?_⟩
            · dsimp only
              first | (rw [mClash_no hv hw hy hf]; refine Sh.wk0 ?_) | (rw [mClash_yes hv hw hy hf]; refine Sh.wk (fun x => if x = 6 then 9 else x) ?_)
              first | (rw [mixM_stay h4]; simp [Wk, go_sem, simprocAttr, eT, eI, h4]; done) | (rw [← mixM_set hv hw hy, List.map_set]; simp [Wk, go_sem, simprocAttr, eT, eVal, eI, mVal, h4])
            · exact hi
            · simp only; omega
          · rw [val_eqB] at ct93
            have hf : mFine (hasId o id) w v y = true := by simpa [mFine, h4] using ct93
            refine CW.skip ?_
            refine CW.rg ?_
            refine CWops.run htt 2 (by simp only [go_sem, simprocAttr, wrap_succ (show i < MX by unfold MX; omega)]; exact rfl) (by simp [go_sem, simprocAttr, wrap_succ (show i < MX by unfold MX; omega)]) ?_
            refine CWops.done ?_
            refine ⟨i + 1, ?_, ?_, ?_⟩
            · dsimp only
              first | (rw [mClash_no hv hw hy hf]; refine Sh.wk0 ?_) | (rw [mClash_yes hv hw hy hf]; refine Sh.wk (fun x => if x = 6 then 9 else x) ?_)
              first | (rw [mixM_stay h4]; simp [Wk, go_sem, simprocAttr, eT, eI, h4]; done) | (rw [← mixM_set hv hw hy, List.map_set]; simp [Wk, go_sem, simprocAttr, eT, eVal, eI, mVal, h4])
            · exact hi
            · simp only; omega
      · have hi : i = (objD a id).F.length := by simp at ct61; omega
        refine CW.exit ?_
        refine CW.seq ?_
        refine CW.rg ?_
        refine CWops.rn htt 4 ?_
        refine CWops.done ?_
        refine CW.ret ?_
        refine retQ.ret (by simp only [f54, go_sem, simprocAttr]; exact rfl) (by simp only [go_sem, simprocAttr]; exact rfl) ?_ -- ret3
        refine ⟨_, ?_, rfl⟩
        subst hi
        simp [leP, leL, mObj, h1, h2, eObj]
end Go.Ab
namespace Go.Ab
open Go Go.Proofs.Try
set_option maxRecDepth 100000
set_option maxHeartbeats 6400000
set_option linter.unusedSimpArgs false
set_option linter.unusedVariables false
theorem idx2 (a b : Graph) {i : Nat} (h : i < 2) : ∃ g : Graph, (i : Int) < 2 ∧ i * 3 + 3 ≤ (ePair a b).length ∧ List.take 3 (List.drop (i * 3) (ePair a b)) = eGraph g ∧ mG a b i = g := by
  rcases (show i = 0 ∨ i = 1 by omega) with rfl | rfl
  · exact ⟨a, by omega, by simp [ePair], by simp [ePair, eGraph], rfl⟩
  · exact ⟨b, by omega, by simp [ePair], by simp [ePair, eGraph], rfl⟩
theorem merge_all (up : Bool) (o a b : Graph) (hz : ∀ id, MSz o a b id) (hao : a.O.length ≤ 8) (hbo : b.O.length ≤ 8) (har : a.Roots.length ≤ 3) (hbr : b.Roots.length ≤ 3) : GCall prog up 27 [.agg (eT o a b)] 0 [] (fun r σ' => r = .tup [.ref 0 [] 0, .sl 1 ((mRoots o a b (mN a b)).map eI), .agg [.nilsl, .nilsl, .sl 2 ((mCh o a b).Set.map eP), .sl 1 ((mCh o a b).Roots.map eI)]] ∧ σ'.n = 2 ∧ σ'.s = [(0, ⟨false, [.omap (mEs o a b (mL a b 2))]⟩), (1, ⟨true, [.nilsl, .nilsl, .sl 2 ((mCh o a b).Set.map eP), .sl 1 ((mCh o a b).Roots.map eI)]⟩)]) := by
  refine GCall.intro htt 0 func27 (by kernel_rfl) rfl (Nat.le_of_ble_eq_true rfl) (CW.told ?_)

  simp only [tmps0, Nat.reduceAdd]
  refine CW.seq ?_
  refine CW.rg ?_
  refine CWops.run htt 4 (by simp only [go_sem, simprocAttr, eT]; exact rfl) (by simp [go_sem, simprocAttr, eT]) ?_
  refine CWops.done ?_
  refine CW.seq ?_
  refine CW.rg ?_
  refine CWops.rn htt 1 ?_
  refine CWops.done ?_
  refine CW.seq ?_
  refine CW.rg ?_
  refine CWops.rn htt 2 ?_
  refine CWops.done ?_
  refine CW.seq ?_
  refine CW.seq ?_
  refine CW.rg ?_
  refine CWops.run htt 6 (by simp only [go_sem, simprocAttr, eT]; exact rfl) (by simp [go_sem, simprocAttr, eT]) ?_
  refine CWops.done ?_
  refine CW.block ?_
  refine CW.loop (S := Nat) (fun i => ⟨4, [(1, .lv 0 [] 0), (4, .lv 1 [] 0), (5, .lv 2 [] 0), (6, .ref 3 [] 0), (26, .agg (ePair a b)), (27, .int .i64 i)], [(0, ⟨true, eT o a b⟩), (1, ⟨true, [.nilsl, .nilsl, .nilsl, .nilsl]⟩), (2, ⟨true, [.nilsl, .nilsl, .own 2 ((mSet o a b (mL a b i)).map eP), .nilsl]⟩), (3, ⟨false, [.omap (mEs o a b (mL a b i))]⟩)]⟩) (fun i => i ≤ 2 ∧ (mL a b i).length ≤ 8 * i) (fun i => 2 - i) (0) ?_ ⟨by omega, by simp [mL]⟩ (fun i ⟨h1, h2⟩ => ?_)
  · refine Sh.trans (Sh.nilCell 2 [] 2 2 (by simp [go_sem, simprocAttr]) rfl) (Sh.wk0 ?_); simp [Wk, go_sem, simprocAttr, eGraph, eT, ePair, mL, mSet, mEs]
  refine CW.seq ?_
  refine CW.rg ?_
  refine CWops.rn htt 1 ?_
  refine CWops.done ?_
  refine CW.seq ?_
  refine CW.cond (by simp only [go_sem, simprocAttr]; first | done | exact rfl) (fun ct28 => ?_) (fun ct28 => ?_)
  · have hi : i < 2 := by simp at ct28; omega
    obtain ⟨g, hi3, hle, hdt, hg⟩ := idx2 a b hi
    have hgo : g.O.length ≤ 8 := by rw [← hg]; unfold mG; split <;> assumption
    refine CW.skip ?_
    refine CW.seq ?_
    refine CW.block ?_
    refine CW.seq ?_
    refine CW.rg ?_
    refine CWops.run htt 3 (by simp only [go_sem, simprocAttr, hi3, hle, hdt, eGraph]; exact rfl) (by simp [go_sem, simprocAttr, hi3, hle, hdt, eGraph]) ?_
    refine CWops.done ?_
    refine CW.seq ?_
    refine CW.rg ?_
    refine CWops.run htt 4 (by simp only [go_sem, simprocAttr, eGraph]; exact rfl) (by simp [go_sem, simprocAttr, eGraph]) ?_
    refine CWops.done ?_
    refine CW.block ?_
    refine CW.loop (S := Nat) (fun j => ⟨5, [(1, .lv 0 [] 0), (4, .lv 1 [] 0), (5, .lv 2 [] 0), (6, .ref 3 [] 0), (26, .agg (ePair a b)), (27, .int .i64 i), (8, .lv 4 [] 0), (31, .sl 3 (g.O.map eObj)), (32, .int .i64 g.O.length), (33, .int .i64 j)], [(0, ⟨true, eT o a b⟩), (1, ⟨true, [.nilsl, .nilsl, .nilsl, .nilsl]⟩), (2, ⟨true, [.nilsl, .nilsl, .own 2 ((mSet o a b (adds (mL a b i) ((idsO g.O).take j))).map eP), .nilsl]⟩), (3, ⟨false, [.omap (mEs o a b (adds (mL a b i) ((idsO g.O).take j)))]⟩), (4, ⟨true, eGraph g⟩)]⟩) (fun j => j ≤ g.O.length) (fun j => g.O.length - j) (0) ?_ (Nat.zero_le _) (fun j hj1 => ?_)
    · refine Sh.wk0 ?_; simp [Wk, go_sem, simprocAttr, eGraph, eT, ePair, adds, hg]
    refine CW.seq ?_
    refine CW.rg ?_
    refine CWops.rn htt 1 ?_
    refine CWops.done ?_
    refine CW.seq ?_
    refine CW.cond (by simp only [go_sem, simprocAttr]; first | done | exact rfl) (fun ct34 => ?_) (fun ct34 => ?_)
    · have hj : j < g.O.length := by simp at ct34; omega
      obtain ⟨x, hx⟩ : ∃ x, g.O[j]? = some x := ⟨_, List.getElem?_eq_getElem hj⟩
      have hxi : (idsO g.O)[j]? = some x.Id := by simp [idsO, hx]
      obtain ⟨L2, hL2⟩ : ∃ L2, L2 = (adds (mL a b i) ((idsO g.O).take j)) := ⟨_, rfl⟩
      have hL2l : L2.length ≤ 16 := by
        have e1 := adds_len (mL a b i) ((idsO g.O).take j)
        rw [← hL2] at e1
        simp only [List.length_take, idsO, List.length_map] at e1
        omega
      have hSl := mSet_len hz L2
      have hadd := adds_take (mL a b i) hxi
      rw [← hL2] at hadd
      have hlk0 := maplk_mEs o a b x.Id L2
      refine CW.skip ?_
      refine CW.seq ?_
      refine CW.block ?_
      refine CW.seq ?_
      rw [← hL2]
      refine CW.rg ?_
      refine CWops.run htt 4 (by simp only [go_sem, simprocAttr, hj, hx, eObj]; exact rfl) (by simp [go_sem, simprocAttr, hj, hx, eObj]) ?_
      refine CWops.done ?_
      refine CW.seq ?_
      refine CW.cut ⟨7, [(1, .lv 0 [] 0), (4, .lv 1 [] 0), (5, .lv 2 [] 0), (6, .ref 3 [] 0), (26, .agg (ePair a b)), (27, .int .i64 i), (8, .lv 4 [] 0), (31, .sl 3 (g.O.map eObj)), (32, .int .i64 g.O.length), (33, .int .i64 j), (10, .lv 5 [] 0), (12, .bool (decide (x.Id ∈ L2)))], [(0, ⟨true, eT o a b⟩), (1, ⟨true, [.nilsl, .nilsl, .nilsl, .nilsl]⟩), (2, ⟨true, [.nilsl, .nilsl, .own 2 ((mSet o a b L2).map eP), .nilsl]⟩), (3, ⟨false, [.omap (mEs o a b L2)]⟩), (4, ⟨true, eGraph g⟩), (5, ⟨true, eObj x⟩)]⟩ ?_ ?_
      · obtain ⟨q, hlk, hq⟩ : ∃ q, maplk (mEs o a b L2) x.Id = q ∧ ((x.Id ∈ L2 ∧ q = some (AV.agg (eObj (mObj o a b x.Id).1))) ∨ (¬ x.Id ∈ L2 ∧ q = none)) := by
          refine ⟨_, rfl, ?_⟩
          rw [hlk0]
          by_cases e : x.Id ∈ L2
          · exact .inl ⟨e, by rw [if_pos e]⟩
          · exact .inr ⟨e, by rw [if_neg e]⟩
        rcases hq with ⟨hin0, rfl⟩ | ⟨hin0, rfl⟩
        all_goals (refine CW.rg ?_)
        all_goals (refine CWops.run htt 10 (by simp only [go_sem, simprocAttr, eObj, hlk]; exact rfl) (by simp [go_sem, simprocAttr, eObj, hlk]) ?_)
        all_goals (refine CWops.done ?_)
        all_goals (
          refine ⟨rfl, Sh.wk0 ?_⟩
          simp [Wk, go_sem, simprocAttr, eGraph, eT, ePair, eObj, hin0])
      refine CW.seq ?_
      refine CW.rg ?_
      refine CWops.rn htt 1 ?_
      refine CWops.done ?_
      refine CW.cond (by simp only [go_sem, simprocAttr]; first | done | exact rfl) (fun ct44 => ?_) (fun ct44 => ?_)
      · have hin : x.Id ∈ L2 := by simpa using ct44
        rw [if_pos hin] at hadd
        refine CW.exit ?_
        refine CW.rg ?_
        refine CWops.run htt 2 (by simp only [go_sem, simprocAttr, wrap_succ (show j < MX by unfold MX; omega)]; exact rfl) (by simp [go_sem, simprocAttr, wrap_succ (show j < MX by unfold MX; omega)]) ?_
        refine CWops.done ?_
        refine ⟨j + 1, ?_, ?_, ?_⟩
        · refine Sh.wk0 ?_
          simp [Wk, go_sem, simprocAttr, eGraph, eT, ePair, hadd, mSet_snoc, List.take_length]
        · exact hj
        · simp only; omega
      · have hin : ¬ x.Id ∈ L2 := by simpa using ct44
        rw [if_neg hin] at hadd
        have hmp : ∀ v, mapput (mEs o a b L2) x.Id v = mEs o a b L2 ++ [(x.Id, v)] := fun v => mapput_new (by rw [hlk0, if_neg hin])
        have hc5 := mObj_len (hz x.Id)
        refine CW.skip ?_
        refine CW.seq ?_
        refine CW.rg ?_
        refine CWops.run htt 3 (by simp only [go_sem, simprocAttr, eObj, eT]; exact rfl) (by simp [go_sem, simprocAttr, eObj, eT]) ?_
        refine CWops.callA (merge_object up o a b x.Id (hz x.Id)) (by simp only [go_sem, simprocAttr, eObj, eT]) (by simp only [go_sem, simprocAttr, eObj, eT]; first | done | exact rfl) (by simp only [go_sem, simprocAttr, eObj, eT]) (by simp only [go_sem, simprocAttr, eObj, eT]) (fun rt49 hrt49 => ?_)
        subst hrt49
        refine CWops.run htt 6 (by simp only [go_sem, simprocAttr, eObj, eT]; exact rfl) (by simp [go_sem, simprocAttr, eObj, eT]) ?_
        refine CWops.done ?_
        refine CW.seq ?_
        refine CW.rg ?_
        refine CWops.run htt 5 (by simp only [go_sem, simprocAttr, eObj]; exact rfl) (by simp [go_sem, simprocAttr, eObj, mEs, MX] <;> omega) ?_
        refine CWops.done ?_
        refine CW.seq ?_
        refine CW.rg ?_
        refine CWops.rn htt 3 ?_
        refine CWops.done ?_
        refine CW.block ?_
        refine CW.loop (S := Nat) (fun k => ⟨6, [(1, .lv 0 [] 0), (4, .lv 1 [] 0), (5, .lv 2 [] 0), (6, .ref 3 [] 0), (26, .agg (ePair a b)), (27, .int .i64 i), (8, .lv 4 [] 0), (31, .sl 3 (g.O.map eObj)), (32, .int .i64 g.O.length), (33, .int .i64 j), (10, .lv 5 [] 0), (56, .sl 1 ((mObj o a b x.Id).2.map eI)), (57, .int .i64 (mObj o a b x.Id).2.length), (58, .int .i64 k)], [(0, ⟨true, eT o a b⟩), (1, ⟨true, [.nilsl, .nilsl, .nilsl, .nilsl]⟩), (2, ⟨true, [.nilsl, .nilsl, .own 2 ((mSet o a b L2 ++ ((mObj o a b x.Id).2.take k).map fun k => (x.Id, k)).map eP), .nilsl]⟩), (3, ⟨false, [.omap (mEs o a b (L2 ++ [x.Id]))]⟩), (4, ⟨true, eGraph g⟩), (5, ⟨true, eObj x⟩)]⟩) (fun k => k ≤ (mObj o a b x.Id).2.length) (fun k => (mObj o a b x.Id).2.length - k) (0) ?_ (Nat.zero_le _) (fun k hk1 => ?_)
        · refine Sh.wk0 ?_; simp [Wk, go_sem, simprocAttr, eGraph, eT, ePair, mEs_snoc, eObj, hmp]
        refine CW.seq ?_
        refine CW.rg ?_
        refine CWops.rn htt 1 ?_
        refine CWops.done ?_
        refine CW.seq ?_
        refine CW.cond (by simp only [go_sem, simprocAttr]; first | done | exact rfl) (fun ct59 => ?_) (fun ct59 => ?_)
        · have hk : k < (mObj o a b x.Id).2.length := by simp at ct59; omega
          obtain ⟨c, hc⟩ : ∃ c, (mObj o a b x.Id).2[k]? = some c := ⟨_, List.getElem?_eq_getElem hk⟩
          refine CW.skip ?_
          refine CW.seq ?_
          refine CW.block ?_
          refine CW.seq ?_
          refine CW.rg ?_
          refine CWops.run htt 3 (by simp only [go_sem, simprocAttr, hk, hc, eI]; exact rfl) (by simp [go_sem, simprocAttr, hk, hc, eI]) ?_
          refine CWops.done ?_
          refine CW.rg ?_
          refine CWops.run htt 5 (by simp only [go_sem, simprocAttr, eObj, List.replicate, eP]; exact rfl) (by simp [AV.cell, AV.tree, eP, MX] <;> omega) ?_
          refine CWops.buildPair htt (k := .i64) (m := x.Id) (n := c) (by simp only [go_sem, simprocAttr]) tt_47 rfl rfl tt_3 rfl (by simp only [go_sem, simprocAttr, eObj]) (by simp only [go_sem, simprocAttr]) ?_
          refine CWops.run htt 4 (by simp only [go_sem, simprocAttr, eObj, List.replicate, eP]; exact rfl) (by simp [AV.cell, AV.tree, eP, MX] <;> omega) ?_
          refine CWops.done ?_
          refine CW.rg ?_
          refine CWops.run htt 2 (by simp only [go_sem, simprocAttr, wrap_succ (show k < MX by unfold MX; omega)]; exact rfl) (by simp [go_sem, simprocAttr, wrap_succ (show k < MX by unfold MX; omega)]) ?_
          refine CWops.done ?_
          refine ⟨k + 1, ?_, ?_, ?_⟩
          · refine Sh.wk0 ?_
            simp [Wk, go_sem, simprocAttr, eGraph, eT, ePair, eObj, eP, List.take_add_one, hc]
          · exact hk
          · simp only; omega
        · have hk : k = (mObj o a b x.Id).2.length := by simp at ct59; omega
          subst hk
          refine CW.exit ?_
          refine CW.rg ?_
          refine CWops.run htt 2 (by simp only [go_sem, simprocAttr, wrap_succ (show j < MX by unfold MX; omega)]; exact rfl) (by simp [go_sem, simprocAttr, wrap_succ (show j < MX by unfold MX; omega)]) ?_
          refine CWops.done ?_
          refine ⟨j + 1, ?_, ?_, ?_⟩
          · refine Sh.wk0 ?_
            simp [Wk, go_sem, simprocAttr, eGraph, eT, ePair, hadd, mSet_snoc, List.take_length]
          · exact hj
          · simp only; omega
    · have hj : j = g.O.length := by simp at ct34; omega
      have hjt : (idsO g.O).take j = idsO g.O := List.take_of_length_le (by simp [idsO]; omega)
      refine CW.exit ?_
      refine CW.rg ?_
      refine CWops.run htt 2 (by simp only [go_sem, simprocAttr, wrap_succ (show i < MX by unfold MX; omega)]; exact rfl) (by simp [go_sem, simprocAttr, wrap_succ (show i < MX by unfold MX; omega)]) ?_
      refine CWops.done ?_
      refine ⟨i + 1, ?_, ?_, ?_⟩
      · refine Sh.wk0 ?_
        simp [Wk, go_sem, simprocAttr, eGraph, eT, ePair, mL_succ a b hi, hg, hjt]
      · exact ⟨hi, by rw [mL_succ a b hi, hg]; have := adds_len (mL a b i) (idsO g.O); simp only [idsO, List.length_map] at this ⊢; omega⟩
      · simp only; omega
  · have hi : i = 2 := by simp at ct28; omega
    subst hi
    refine CW.exit ?_
    refine CW.seq ?_
    refine CW.rg ?_
    refine CWops.rn htt 1 ?_
    refine CWops.done ?_
    refine CW.seq ?_
    refine CW.seq ?_
    refine CW.rg ?_
    refine CWops.run htt 8 (by simp only [go_sem, simprocAttr, eT, eGraph]; exact rfl) (by simp [go_sem, simprocAttr, eT, eGraph]) ?_
    refine CWops.max2 (k := .i64) (m := (a.Roots.length : Int)) (n := (b.Roots.length : Int)) (by simp only [go_sem, simprocAttr]) (by simp only [go_sem, simprocAttr, List.length_map]) (by simp only [go_sem, simprocAttr, List.length_map]) ?_
    refine CWops.run htt 1 (by simp only [go_sem, simprocAttr, eT, eGraph]; exact rfl) (by simp [go_sem, simprocAttr, eT, eGraph]) ?_
    refine CWops.done ?_
    refine CW.block ?_
    refine CW.loop (S := Nat) (fun i => ⟨6, [(1, .lv 0 [] 0), (4, .lv 1 [] 0), (5, .lv 2 [] 0), (6, .ref 3 [] 0), (17, .ref 5 [] 0), (82, .int .i64 (max (a.Roots.length : Int) (b.Roots.length : Int))), (83, .int .i64 i)], [(0, ⟨true, eT o a b⟩), (1, ⟨true, [.nilsl, .nilsl, .nilsl, .nilsl]⟩), (2, ⟨true, [.nilsl, .nilsl, .own 2 ((mSet o a b (mL a b 2)).map eP), .own 1 ((mRC o a b i).map eI)]⟩), (3, ⟨false, [.omap (mEs o a b (mL a b 2))]⟩), (5, ⟨false, [.own 1 ((mRoots o a b i).map eI)]⟩)]⟩) (fun i => i ≤ mN a b) (fun i => mN a b - i) (0) ?_ (Nat.zero_le _) (fun i hi1 => ?_)
    · refine Sh.trans (Sh.nilCell 2 [] 3 1 (by simp [go_sem, simprocAttr]) rfl) (Sh.trans (Sh.nilRoot 17 1 (by simp only [go_sem, simprocAttr]) rfl) (Sh.wk0 ?_)); simp [Wk, go_sem, simprocAttr, eGraph, eT, ePair, mRoots, mRC]
    refine CW.seq ?_
    refine CW.rg ?_
    refine CWops.rn htt 1 ?_
    refine CWops.done ?_
    refine CW.seq ?_
    refine CW.cond (by simp only [go_sem, simprocAttr]; first | done | exact rfl) (fun ct84 => ?_) (fun ct84 => ?_)
    · have hi : i < mN a b := by unfold mN; simp at ct84; omega
      have hml : mN a b ≤ 3 := by unfold mN; omega
      have hcl := mRC_len o a b i
      have hrl := mRoots_len o a b i
      refine CW.skip ?_
      refine CW.seq ?_
      refine CW.block ?_
      refine CW.seq ?_
      refine CW.rg ?_
      refine CWops.rn htt 2 ?_
      refine CWops.done ?_
      refine CW.seq ?_
      refine CW.drawn mixed 17 (by decide) (by kernel_rfl) (by kernel_rfl) (by kernel_rfl) ?_
      refine Seg.run htt 3 (by simp only [go_sem, simprocAttr, eT, eGraph]; exact rfl) ?_
      refine Seg.call (merge_root up o i) (by simp only [go_sem, simprocAttr, eT, eGraph]) (by simp only [go_sem, simprocAttr, eT, eGraph]; first | done | exact rfl) (by simp only [go_sem, simprocAttr, eT, eGraph]) (by simp only [go_sem, simprocAttr, eT, eGraph]) rfl ?_
      refine Seg.run htt 3 (by simp only [go_sem, simprocAttr, eT, eGraph]; exact rfl) ?_
      refine Seg.call (merge_root up a i) (by simp only [go_sem, simprocAttr, eT, eGraph]) (by simp only [go_sem, simprocAttr, eT, eGraph]; first | done | exact rfl) (by simp only [go_sem, simprocAttr, eT, eGraph]) (by simp only [go_sem, simprocAttr, eT, eGraph]) rfl ?_
      refine Seg.run htt 3 (by simp only [go_sem, simprocAttr, eT, eGraph]; exact rfl) ?_
      refine Seg.call (merge_root up b i) (by simp only [go_sem, simprocAttr, eT, eGraph]) (by simp only [go_sem, simprocAttr, eT, eGraph]; first | done | exact rfl) (by simp only [go_sem, simprocAttr, eT, eGraph]) (by simp only [go_sem, simprocAttr, eT, eGraph]) rfl ?_
      refine Seg.call (merge_standsI up (rootAt o i) (rootAt a i) (rootAt b i)) (by simp only [go_sem, simprocAttr, eT, eGraph]) (by simp only [go_sem, simprocAttr, eT, eGraph]; first | done | exact rfl) (by simp only [go_sem, simprocAttr, eT, eGraph]) (by simp only [go_sem, simprocAttr, eT, eGraph]) rfl ?_
      refine Seg.run htt 4 (by simp only [go_sem, simprocAttr, eT, eGraph]; exact rfl) ?_
      refine Seg.done ?_
      refine CWops.run htt 1 (by simp only [go_sem, simprocAttr, eT, eGraph]; exact rfl) (by simp [go_sem, simprocAttr, eT, eGraph]) ?_
      refine CWops.done ?_
      refine CW.seq ?_
      refine CW.rg ?_
      refine CWops.run htt 5 (by simp only [go_sem, simprocAttr, eI]; exact rfl) (by simp [go_sem, simprocAttr, eI, MX] <;> omega) ?_
      refine CWops.done ?_
      refine CW.seq ?_
      refine CW.rg ?_
      refine CWops.rn htt 2 ?_
      refine CWops.done ?_
      refine CW.cond (by simp only [go_sem, simprocAttr]; first | done | exact rfl) (fun ct107 => ?_) (fun ct107 => ?_)
      · have hf : (stand (rootAt o i) (rootAt a i) (rootAt b i)).2 = false := by simpa using ct107
        refine CW.rg ?_
        refine CWops.run htt 7 (by simp only [go_sem, simprocAttr, List.replicate, eI]; exact rfl) (by simp [AV.cell, AV.tree, eI, MX] <;> omega) ?_
        refine CWops.done ?_
        refine CW.rg ?_
        refine CWops.run htt 2 (by simp only [go_sem, simprocAttr, wrap_succ (show i < MX by unfold MX; omega)]; exact rfl) (by simp [go_sem, simprocAttr, wrap_succ (show i < MX by unfold MX; omega)]) ?_
        refine CWops.done ?_
        refine ⟨i + 1, ?_, ?_, ?_⟩
        · dsimp only
          rw [mRoots_succ]
          first | rw [mRC_no hf] | rw [mRC_yes hf]
          refine Sh.wk (fun x => if x = 5 then 7 else x) ?_
          simp [Wk, go_sem, simprocAttr, eGraph, eT, ePair, eI, mRoot]
        · exact hi
        · simp only; omega
      · have hf : (stand (rootAt o i) (rootAt a i) (rootAt b i)).2 = true := by simpa using ct107
        refine CW.skip ?_
        refine CW.rg ?_
        refine CWops.run htt 2 (by simp only [go_sem, simprocAttr, wrap_succ (show i < MX by unfold MX; omega)]; exact rfl) (by simp [go_sem, simprocAttr, wrap_succ (show i < MX by unfold MX; omega)]) ?_
        refine CWops.done ?_
        refine ⟨i + 1, ?_, ?_, ?_⟩
        · dsimp only
          rw [mRoots_succ]
          first | rw [mRC_no hf] | rw [mRC_yes hf]
          refine Sh.wk (fun x => if x = 5 then 7 else x) ?_
          simp [Wk, go_sem, simprocAttr, eGraph, eT, ePair, eI, mRoot]
        · exact hi
        · simp only; omega
    · have hi : i = mN a b := by unfold mN at hi1 ⊢; simp at ct84; omega
      refine CW.exit ?_
      refine CW.seq ?_
      rw [hi]
      refine CW.sh (Sh.trans (Sh.frz 2 2 rfl rfl) (Sh.trans (Sh.frz 2 3 rfl rfl) (Sh.frzT 17 5 rfl rfl rfl))) ?_
      simp only [go_sem, simprocAttr]
      refine CW.drawn mixed 5 (by decide) (by kernel_rfl) (by kernel_rfl) (by kernel_rfl) ?_
      refine Seg.run htt 5 (by simp only [go_sem, simprocAttr]; exact rfl) ?_
      refine Seg.done ?_
      refine CWops.rn htt 1 ?_
      refine CWops.done ?_
      refine CW.ret ?_
      refine ⟨⟨2, [(2, .ref 0 [] 0), (3, .sl 1 ((mRoots o a b (mN a b)).map eI)), (4, .lv 1 [] 0)], [(0, ⟨false, [.omap (mEs o a b (mL a b 2))]⟩), (1, ⟨true, [.nilsl, .nilsl, .sl 2 ((mCh o a b).Set.map eP), .sl 1 ((mCh o a b).Roots.map eI)]⟩)]⟩, ?_, .inr rfl, by simp [ptrOK, go_sem, simprocAttr], _, by simp only [f27, go_sem, simprocAttr]; exact rfl, ?_⟩ -- ret1
      · refine Sh.wk (fun x => if x = 0 then 3 else x) ?_
        simp [Wk, go_sem, simprocAttr, mCh]
      · exact ⟨rfl, rfl, rfl⟩
end Go.Ab
namespace Go.Ab
open Go Go.Proofs.Try
set_option maxRecDepth 100000
set_option maxHeartbeats 6400000
set_option linter.unusedSimpArgs false
set_option linter.unusedVariables false
@[go_sem] theorem tt_74 : tiOf prog 74 = some ⟨.map 3 4, 1, 8, [.nilmap], false⟩ := by kernel_rfl
@[go_sem] theorem tt_71 : tiOf prog 71 = some ⟨.map 3 39, 1, 8, [.nilmap], false⟩ := by kernel_rfl
theorem merge_Clash (up : Bool) (o a b : Graph) (hz : gCheck o a b = 0 → MOK o a b) : PCall prog up 13 [.agg (eGraph o), .agg (eGraph a), .agg (eGraph b)] (· = .tup [.agg (eChange (if gCheck o a b = 0 then mCh o a b else noChange)), .int .i64 (gCheck o a b)]) := by
  refine PCall.intro htt func13 (by kernel_rfl) rfl (Nat.le_of_ble_eq_true rfl) fun hl => ?_

  simp only [tmps0, Nat.reduceAdd]
  refine CW.seq ?_
  refine CW.rg ?_
  refine CWops.run htt 5 (by simp only [go_sem, simprocAttr, eGraph]; exact rfl) (by simp [go_sem, simprocAttr, eGraph]) ?_
  refine CWops.done ?_
  refine CW.seq ?_
  refine CW.rg ?_
  refine CWops.run htt 6 (by simp only [go_sem, simprocAttr, eGraph]; exact rfl) (by simp [go_sem, simprocAttr, eGraph]) ?_
  refine CWops.done ?_
  refine CW.seq ?_
  refine CW.seq ?_
  refine CW.rg ?_
  refine CWops.run htt 1 (by simp only [go_sem, simprocAttr, eT]; exact rfl) (by simp [go_sem, simprocAttr, eT]) ?_
  refine CWops.callA (merge_check up o a b) (by simp only [go_sem, simprocAttr, eT]) (by simp only [go_sem, simprocAttr, eT]; first | done | exact rfl) (by simp only [go_sem, simprocAttr, eT]) (by simp only [go_sem, simprocAttr, eT]) (fun rt18 hrt18 => ?_)
  subst hrt18
  refine CWops.run htt 1 (by simp only [go_sem, simprocAttr, eT]; exact rfl) (by simp [go_sem, simprocAttr, eT]) ?_
  refine CWops.done ?_
  refine CW.seq ?_
  refine CW.rg ?_
  refine CWops.rn htt 2 ?_
  refine CWops.done ?_
  refine CW.cond (by simp only [go_sem, simprocAttr]; first | done | exact rfl) (fun ct20 => ?_) (fun ct20 => ?_)
  · have h0 : ¬ gCheck o a b = 0 := by simpa using ct20
    refine CW.seq ?_
    refine CW.rg ?_
    refine CWops.rn htt 4 ?_
    refine CWops.done ?_
    refine CW.ret ?_
    refine retQ.ret (by simp only [f13, go_sem, simprocAttr]; exact rfl) (by simp only [go_sem, simprocAttr]; exact rfl) ?_ -- ret1
    refine ⟨_, ?_, rfl⟩
    simp [leP, leL, eChange, h0, noChange]
  · have h0 : gCheck o a b = 0 := by simpa using ct20
    refine CW.skip ?_
    refine CW.seq ?_
    refine CW.rg ?_
    refine CWops.rn htt 1 ?_
    refine CWops.callG [] rfl (by have h := merge_all up o a b (hz h0).sz (hz h0).ao (hz h0).bo (hz h0).ar (hz h0).br; simp only [eT] at h; exact h) (by simp only [go_sem, simprocAttr]) (by simp only [go_sem, simprocAttr]; first | done | exact rfl) (by decide) (by simp [go_sem, simprocAttr, mName, memB]) (by simp [go_sem, simprocAttr, mName]) (by simp [go_sem, simprocAttr]) (by simp [go_sem, simprocAttr]) (by simp [go_sem, simprocAttr, mName]) (fun r σ' hσ => ?_)
    obtain ⟨σn, σt, σs⟩ := σ'
    simp only at hσ
    obtain ⟨rfl, rfl, rfl⟩ := hσ
    simp only [aftS, renS, delAll, memB, mName, List.getD_nil, killH, kref, ren, Nat.beq_eq, go_sem, simprocAttr]
    refine CWops.rn htt 8 ?_
    refine CWops.done ?_
    refine CW.seq ?_
    refine CW.rg ?_
    refine CWops.rn htt 3 ?_
    refine CWops.done ?_
    refine CW.ret ?_
    refine retQ.ret (by simp only [f13, go_sem, simprocAttr]; exact rfl) (by simp only [go_sem, simprocAttr]; exact rfl) ?_ -- ret2
    refine ⟨_, ?_, rfl⟩
    simp [leP, leL, eChange, h0, mCh]
end Go.Ab
namespace Go.Ab
open Go Go.Proofs.Try
set_option maxRecDepth 100000
set_option maxHeartbeats 6400000
set_option linter.unusedSimpArgs false
set_option linter.unusedVariables false
theorem merge_come (up : Bool) (S : List GType) (os : List (Int × GObj)) (roots : List Int) (hp : POK S os) (hr : roots.length ≤ 3) : GCallH prog up 28 [.agg (eSchema S), .ref 0 [] 0, .sl 1 (roots.map eI)] 1 [(0, ⟨false, [.omap (pEs os)]⟩)] [0] (fun r σ' => ∃ out, CInv S os roots out [] ∧ r = .ref 1 [] 0 ∧ σ'.n = 2 ∧ σ'.s = [(0, ⟨false, [.omap (pEs os)]⟩), (1, ⟨false, [.omap (oM out)]⟩)]) := by
  refine GCallH.intro htt 2 func28 (by kernel_rfl) rfl (Nat.le_of_ble_eq_true rfl) (CW.told ?_)

  simp only [tmps0, Nat.reduceAdd]
  refine CW.seq ?_
  refine CW.rg ?_
  refine CWops.run htt 2 (by simp only [go_sem, simprocAttr, eSchema]; exact rfl) (by simp [go_sem, simprocAttr, eSchema]) ?_
  refine CWops.done ?_
  refine CW.seq ?_
  refine CW.rg ?_
  refine CWops.rn htt 2 ?_
  refine CWops.done ?_
  refine CW.seq ?_
  refine CW.block ?_
  refine CW.loop (S := List Int × List Int) (fun p => ⟨4, [(0, .agg (eSchema S)), (1, .ref 0 [] 0), (3, .lv 1 [] 0), (2, .sl 1 ((p.2).map eI)), (7, .ref 3 [] 0)], [(0, ⟨false, [.omap (pEs os)]⟩), (1, ⟨true, eSchema S⟩), (3, ⟨false, [.omap (oM p.1)]⟩)]⟩) (fun p => CInv S os roots p.1 p.2 ∧ (os.length - p.1.length) * 6 + p.2.length ≤ 99) (fun p => (os.length - p.1.length) * 6 + p.2.length) (([], roots)) ?_ ⟨CInv.start S os roots, by have := hp.len; simp; omega⟩ (fun ⟨out, Q⟩ ⟨hI, hB⟩ => ?_)
  · refine Sh.wk (fun x => if x = 3 then 2 else x) ?_; simp [Wk, go_sem, simprocAttr, eSchema, oM]
  refine CW.seq ?_
  refine CW.seq ?_
  refine CW.rg ?_
  refine CWops.rn htt 3 ?_
  refine CWops.done ?_
  refine CW.cond (by simp only [go_sem, simprocAttr]; first | done | exact rfl) (fun ct16 => ?_) (fun ct16 => ?_)
  · obtain ⟨id, q, rfl⟩ : ∃ id q', Q = id :: q' := by
      cases Q with
      | nil => simp at ct16
      | cons id q => exact ⟨id, q, rfl⟩
    simp only at hI hB
    refine CW.skip ?_
    refine CW.block ?_
    refine CW.seq ?_
    refine CW.rg ?_
    refine CWops.run htt 4 (by simp only [go_sem, simprocAttr, eI]; exact rfl) (by simp [go_sem, simprocAttr, eI]) ?_
    refine CWops.done ?_
    refine CW.seq ?_
    refine CW.rg ?_
    refine CWops.rn htt 1 ?_
    refine CWops.slFrom htt (q := 1) (by simp only [go_sem, simprocAttr]) tt_26 rfl tt_3 (by simp only [go_sem, simprocAttr]; exact rfl) (by simp only [go_sem, simprocAttr]; exact rfl) (by simp) ?_
    refine CWops.rn htt 1 ?_
    refine CWops.done ?_
    refine CW.cut ⟨5, [(0, .agg (eSchema S)), (1, .ref 0 [] 0), (3, .lv 1 [] 0), (2, .sl 1 ((q).map eI)), (7, .ref 3 [] 0), (8, .int .i64 id), (9, .lv 4 [] 0), (10, .bool (plk os id).isSome)], [(0, ⟨false, [.omap (pEs os)]⟩), (1, ⟨true, eSchema S⟩), (3, ⟨false, [.omap (oM out)]⟩), (4, ⟨true, oCells (plk os id)⟩)]⟩ ?_ ?_
    · obtain ⟨qq, hlk, hq2⟩ : ∃ qq, maplk (pEs os) id = qq ∧ ((∃ ob, plk os id = some ob ∧ qq = some (AV.agg (eObj ob))) ∨ (plk os id = none ∧ qq = none)) := by
        refine ⟨_, maplk_pEs os id, ?_⟩
        cases plk os id with
        | none => exact .inr ⟨rfl, rfl⟩
        | some ob => exact .inl ⟨ob, rfl, rfl⟩
      rcases hq2 with ⟨ob, hob, rfl⟩ | ⟨hob, rfl⟩
      all_goals (refine CW.rg ?_)
      all_goals (refine CWops.run htt 9 (by simp only [go_sem, simprocAttr, hlk, eObj]; exact rfl) (by simp [go_sem, simprocAttr, hlk, eObj]) ?_)
      all_goals (refine CWops.done ?_)
      all_goals (
        refine ⟨rfl, Sh.wk0 ?_⟩
        simp [Wk, go_sem, simprocAttr, eSchema, eObj, hob, oCells])
    refine CW.seq ?_
    refine CW.cut ⟨5, [(0, .agg (eSchema S)), (1, .ref 0 [] 0), (3, .lv 1 [] 0), (2, .sl 1 ((q).map eI)), (7, .ref 3 [] 0), (8, .int .i64 id), (9, .lv 4 [] 0), (34, .bool (!(plk os id).isSome || decide (id ∈ out)))], [(0, ⟨false, [.omap (pEs os)]⟩), (1, ⟨true, eSchema S⟩), (3, ⟨false, [.omap (oM out)]⟩), (4, ⟨true, oCells (plk os id)⟩)]⟩ ?_ ?_
    · obtain ⟨qq, hlo, hq2⟩ : ∃ qq, maplk (oM out) id = qq ∧ ((id ∈ out ∧ qq = some (AV.bool true)) ∨ (¬ id ∈ out ∧ qq = none)) := by
        refine ⟨_, maplk_oM id out, ?_⟩
        by_cases e : id ∈ out
        · exact .inl ⟨e, by rw [if_pos e]⟩
        · exact .inr ⟨e, by rw [if_neg e]⟩
      rcases hq2 with ⟨hin, rfl⟩ | ⟨hin, rfl⟩
      all_goals (refine CW.rg ?_)
      all_goals (refine CWops.run htt 3 (by simp only [go_sem, simprocAttr, hlo]; exact rfl) (by simp [go_sem, simprocAttr, hlo]) ?_)
      all_goals (first | refine CWops.guard 30 (by simp only [go_sem, simprocAttr, hlo]; exact rfl) (fun g30 => ?_) (fun g30 => ?_) | skip)
      all_goals (refine CWops.run htt 4 (by simp only [go_sem, simprocAttr, hlo]; exact rfl) (by simp [go_sem, simprocAttr, hlo]) ?_)
      all_goals (refine CWops.done ?_)
      all_goals (
        refine ⟨rfl, Sh.wk0 ?_⟩
        simp_all [Wk, go_sem, simprocAttr, eSchema])
    refine CW.cond (by simp only [go_sem, simprocAttr]; first | done | exact rfl) (fun ct34 => ?_) (fun ct34 => ?_)
    · have hskip : plk os id = none ∨ id ∈ out := by simpa using ct34
      refine CW.exit ?_
      refine ⟨(if plk os id = none ∨ id ∈ out then (out, q) else (out ++ [id], q ++ refsP S ((plk os id).getD ⟨0, 0, []⟩))), ?_, ?_, ?_⟩
      · dsimp only
        first | (rw [if_pos hskip]; refine Sh.wk0 ?_; simp [Wk, go_sem, simprocAttr, eSchema, ]; done) | (rw [if_neg (by simp [hob, hni])]; refine Sh.wk0 ?_; simp [Wk, go_sem, simprocAttr, eSchema, hob, hrf, hkt, oM_snoc])
      · dsimp only
        first | (rw [if_pos hskip]; refine ⟨hI.skip hskip, ?_⟩; simp only [List.length_cons] at hB ⊢; omega) | (rw [if_neg (by simp [hob, hni])]; simp only [hob, Option.getD_some]; have h9 := hI.step hob hni; refine ⟨h9, ?_⟩; have h8 := h9.len; simp only [List.length_append, List.length_singleton, List.length_cons] at h8 hB ⊢; omega)
      · dsimp only
        first | (rw [if_pos hskip]; simp only [List.length_cons]; omega) | (rw [if_neg (by simp [hob, hni])]; simp only [hob, Option.getD_some]; have h8 := (hI.step hob hni).len; simp only [List.length_append, List.length_singleton, List.length_cons] at h8 ⊢; omega)
    · have hsome : (plk os id).isSome = true ∧ ¬ id ∈ out := by simpa using ct34
      obtain ⟨hs1, hni⟩ := hsome
      obtain ⟨ob, hob⟩ := Option.isSome_iff_exists.1 hs1
      rw [hob]
      obtain ⟨t, n, hT, ht, hFl, hF5⟩ := hp.ty id ob (plk_mem hob)
      have htl : n < S.length := (List.getElem?_eq_some_iff.1 ht).1
      have hrf := refsP_of hT ht
      have hol := hI.len
      have hmp : ∀ v, mapput (oM out) id v = oM out ++ [(id, v)] := fun v => mapput_new (by rw [maplk_oM, if_neg hni])
      have hpl := hp.len
      have hzl := refsZ_len (t.F.zip ob.F)
      rw [List.length_zip] at hzl
      have hrl : (refsP S ob).length ≤ 5 := by rw [hrf]; omega
      simp only [List.length_cons] at hB
      refine CW.skip ?_
      refine CW.seq ?_
      refine CW.rg ?_
      refine CWops.run htt 3 (by simp only [go_sem, simprocAttr]; exact rfl) (by simp [go_sem, simprocAttr, oM, MX] <;> omega) ?_
      refine CWops.done ?_
      refine CW.seq ?_
      refine CW.rg ?_
      refine CWops.run htt 9 (by simp only [go_sem, simprocAttr, eSchema, oCells, eObj, hT, htl, ht, eType]; exact rfl) (by simp [go_sem, simprocAttr, eSchema, oCells, eObj, hT, htl, ht, eType]) ?_
      refine CWops.done ?_
      refine CW.block ?_
      refine CW.loop (S := Nat) (fun k => ⟨6, [(0, .agg (eSchema S)), (1, .ref 0 [] 0), (3, .lv 1 [] 0), (2, .sl 1 ((q ++ refsZ ((t.F.zip ob.F).take k)).map eI)), (7, .ref 3 [] 0), (9, .lv 4 [] 0), (43, .sl 3 (t.F.map eField)), (44, .int .i64 t.F.length), (45, .int .i64 k)], [(0, ⟨false, [.omap (pEs os)]⟩), (1, ⟨true, eSchema S⟩), (3, ⟨false, [.omap (oM (out ++ [id]))]⟩), (4, ⟨true, eObj ob⟩)]⟩) (fun k => k ≤ t.F.length) (fun k => t.F.length - k) (0) ?_ (Nat.zero_le _) (fun k hk1 => ?_)
      · refine Sh.wk0 ?_; simp [Wk, go_sem, simprocAttr, eSchema, oM_snoc, eObj, refsZ, hmp, hT]
      refine CW.seq ?_
      refine CW.rg ?_
      refine CWops.rn htt 1 ?_
      refine CWops.done ?_
      refine CW.seq ?_
      refine CW.cond (by simp only [go_sem, simprocAttr]; first | done | exact rfl) (fun ct46 => ?_) (fun ct46 => ?_)
      · have hk : k < t.F.length := by simp at ct46; omega
        obtain ⟨f, hf⟩ : ∃ f, t.F[k]? = some f := ⟨_, List.getElem?_eq_getElem hk⟩
        have hkv : k < ob.F.length := by omega
        obtain ⟨v, hv⟩ : ∃ v, ob.F[k]? = some v := ⟨_, List.getElem?_eq_getElem hkv⟩
        have hz : (t.F.zip ob.F)[k]? = some (f, v) := by simp [List.getElem?_zip_eq_some, hf, hv]
        have hzk := refsZ_len ((t.F.zip ob.F).take k)
        rw [List.length_take] at hzk
        refine CW.skip ?_
        refine CW.seq ?_
        refine CW.block ?_
        refine CW.seq ?_
        refine CW.rg ?_
        refine CWops.run htt 6 (by simp only [go_sem, simprocAttr, hk, hf, eField]; exact rfl) (by simp [go_sem, simprocAttr, hk, hf, eField]) ?_
        refine CWops.done ?_
        refine CW.seq ?_
        refine CW.rg ?_
        refine CWops.run htt 3 (by simp only [go_sem, simprocAttr, eField]; exact rfl) (by simp [go_sem, simprocAttr, eField]) ?_
        refine CWops.done ?_
        refine CW.cond (by simp only [go_sem, simprocAttr]; first | done | exact rfl) (fun ct52 => ?_) (fun ct52 => ?_)
        · have h5 : f.Kind = 5 := by simpa using ct52
          refine CW.drawn mixed 13 (by decide) (by kernel_rfl) (by kernel_rfl) (by kernel_rfl) ?_
          refine Seg.run htt 5 (by simp only [go_sem, simprocAttr, eObj, hkv, hv, eVal, eI, List.length_map]; exact rfl) ?_
          refine Seg.tight (k := .i64) (k' := .i64) (l := (q ++ refsZ ((t.F.zip ob.F).take k)).map eI) htt tt_26 rfl tt_3 (by simp only [go_sem, simprocAttr]) (by simp only [go_sem, simprocAttr, List.length_map]) (by simp only [go_sem, simprocAttr, List.length_map]) ?_
          refine Seg.run htt 7 (by simp only [go_sem, simprocAttr, eObj, hkv, hv, eVal, eI, List.length_map]; exact rfl) ?_
          refine Seg.done ?_
          refine CWops.appTight (l := (q ++ refsZ ((t.F.zip ob.F).take k)).map eI) (rows := [eI v.R]) htt (by simp only [go_sem, simprocAttr]) tt_26 rfl tt_3 (by decide) rfl (by simp only [go_sem, simprocAttr]) (by simp only [go_sem, simprocAttr, eI]; first | done | exact rfl) (by simp) (cellsI _) (by simp [go_sem, simprocAttr, isRef, eI, AV.tree]) (by simp [MX] <;> omega) (by simp [MX] <;> omega) ?_
          refine CWops.run htt 1 (by simp only [go_sem, simprocAttr, eObj, hkv, hv, eVal, eI, List.length_map]; exact rfl) (by simp [go_sem, simprocAttr, eObj, hkv, hv, eVal, eI, List.length_map]) ?_
          refine CWops.done ?_
          rw [show ((q ++ refsZ ((t.F.zip ob.F).take k)).map eI ++ [[AV.int .i64 v.R]]) = (q ++ (refsZ ((t.F.zip ob.F).take k) ++ [v.R])).map eI by simp [eI]]
          refine CW.rg ?_
          refine CWops.run htt 2 (by simp only [go_sem, simprocAttr, wrap_succ (show k < MX by unfold MX; omega)]; exact rfl) (by simp [go_sem, simprocAttr, wrap_succ (show k < MX by unfold MX; omega)]) ?_
          refine CWops.done ?_
          refine ⟨k + 1, ?_, ?_, ?_⟩
          · dsimp only
            first | (rw [refsZ_no hz h5]; refine Sh.wk0 ?_; simp [Wk, go_sem, simprocAttr, eSchema, eObj, hT]; done) | (rw [refsZ_yes hz h5]; refine Sh.trans (Sh.frzT 2 8 rfl rfl rfl) ?_; rw [frz_I]; refine Sh.wk0 ?_; simp [Wk, go_sem, simprocAttr, eSchema, eObj, hT])
          · exact hk
          · simp only; omega
        · have h5 : f.Kind ≠ 5 := by simpa using ct52
          refine CW.skip ?_
          refine CW.rg ?_
          refine CWops.run htt 2 (by simp only [go_sem, simprocAttr, wrap_succ (show k < MX by unfold MX; omega)]; exact rfl) (by simp [go_sem, simprocAttr, wrap_succ (show k < MX by unfold MX; omega)]) ?_
          refine CWops.done ?_
          refine ⟨k + 1, ?_, ?_, ?_⟩
          · dsimp only
            first | (rw [refsZ_no hz h5]; refine Sh.wk0 ?_; simp [Wk, go_sem, simprocAttr, eSchema, eObj, hT]; done) | (rw [refsZ_yes hz h5]; refine Sh.trans (Sh.frzT 2 8 rfl rfl rfl) ?_; rw [frz_I]; refine Sh.wk0 ?_; simp [Wk, go_sem, simprocAttr, eSchema, eObj, hT])
          · exact hk
          · simp only; omega
      · have hk : k = t.F.length := by simp at ct46; omega
        have hkt : (t.F.zip ob.F).take k = t.F.zip ob.F := List.take_of_length_le (by rw [List.length_zip]; omega)
        refine CW.exit ?_
        refine ⟨(if plk os id = none ∨ id ∈ out then (out, q) else (out ++ [id], q ++ refsP S ((plk os id).getD ⟨0, 0, []⟩))), ?_, ?_, ?_⟩
        · dsimp only
          first | (rw [if_pos hskip]; refine Sh.wk0 ?_; simp [Wk, go_sem, simprocAttr, eSchema, ]; done) | (rw [if_neg (by simp [hob, hni])]; refine Sh.wk0 ?_; simp [Wk, go_sem, simprocAttr, eSchema, hob, hrf, hkt, oM_snoc])
        · dsimp only
          first | (rw [if_pos hskip]; refine ⟨hI.skip hskip, ?_⟩; simp only [List.length_cons] at hB ⊢; omega) | (rw [if_neg (by simp [hob, hni])]; simp only [hob, Option.getD_some]; have h9 := hI.step hob hni; refine ⟨h9, ?_⟩; have h8 := h9.len; simp only [List.length_append, List.length_singleton, List.length_cons] at h8 hB ⊢; omega)
        · dsimp only
          first | (rw [if_pos hskip]; simp only [List.length_cons]; omega) | (rw [if_neg (by simp [hob, hni])]; simp only [hob, Option.getD_some]; have h8 := (hI.step hob hni).len; simp only [List.length_append, List.length_singleton, List.length_cons] at h8 ⊢; omega)
  · have hq0 : Q = [] := by
      cases Q with
      | nil => rfl
      | cons id q => simp at ct16 <;> omega
    subst hq0
    refine CW.exit ?_
    refine CW.seq ?_
    refine CW.rg ?_
    refine CWops.rn htt 2 ?_
    refine CWops.done ?_
    refine CW.ret ?_
    refine ⟨⟨2, [(1, .ref 0 [] 0), (6, .ref 1 [] 0)], [(0, ⟨false, [.omap (pEs os)]⟩), (1, ⟨false, [.omap (oM out)]⟩)]⟩, ?_, .inr rfl, ⟨by simp [ptrOK, go_sem, simprocAttr], (by refine ⟨⟨1, by decide, rfl, by simp only [go_sem, simprocAttr], rfl⟩, trivial⟩)⟩, _, by simp only [f28, go_sem, simprocAttr]; exact rfl, ?_⟩ -- ret1
    · refine Sh.wk (fun x => if x = 1 then 3 else x) ?_
      simp [Wk, go_sem, simprocAttr]
    · exact ⟨out, hI, rfl, rfl, rfl⟩
end Go.Ab
namespace Go.Ab
open Go Go.Proofs.Try
set_option maxRecDepth 100000
set_option maxHeartbeats 6400000
set_option linter.unusedSimpArgs false
set_option linter.unusedVariables false
@[go_sem] theorem tt_109 : tiOf prog 109 = some ⟨.int IntKind.u64, 1, 8, [.int .u64 0], false⟩ := by kernel_rfl
@[go_sem] theorem tt_133 : tiOf prog 133 = some ⟨.int IntKind.u64, 1, 8, [.int .u64 0], false⟩ := by kernel_rfl
@[go_sem] theorem tt_131 : tiOf prog 131 = some ⟨.int IntKind.u32, 1, 4, [.int .u32 0], false⟩ := by kernel_rfl
theorem insertionSortO (up : Bool) (l : List GObj) (hl : l.length < 1000) (hI : ∀ x ∈ l, 0 ≤ x.Id ∧ x.Id ≤ 1073741824) : GCallH prog up 72 [.ref 0 [] 0, .int .i64 0, .int .i64 l.length, .func (.func 31) [] []] 1 [(0, ⟨false, [.own 3 (l.map eObj)]⟩)] [0] (fun _ σ' => ∃ m, σ'.n = 1 ∧ σ'.s = [(0, ⟨false, [.own 3 (m.map eObj)]⟩)] ∧ SortedO l m) := by
  refine GCallH.intro htt 1 func72 (by kernel_rfl) rfl (Nat.le_of_ble_eq_true rfl) (CW.told ?_)
  have w1 : IntKind.i64.wrap ((0 : Int) + 1) = ((1 : Nat) : Int) := by decide
  simp only [tmps0, Nat.reduceAdd]
  refine CW.seq ?_
  refine CW.rg ?_
  refine CWops.run htt 3 (by simp only [go_sem, simprocAttr, w1]; exact rfl) (by simp [go_sem, simprocAttr, w1]) ?_
  refine CWops.done ?_
  refine CW.block ?_
  refine CW.loop (S := Nat × List GObj) (fun p => ⟨1, [(0, .ref 0 [] 0), (1, .int .i64 0), (2, .int .i64 l.length), (3, .func (.func 31) [] []), (8, .int .i64 p.1)], [(0, ⟨false, [.own 3 (p.2.map eObj)]⟩)]⟩) (fun p => UpToO p.2 p.1 ∧ p.2.Perm l ∧ 1 ≤ p.1) (fun p => l.length - p.1) ((1, l)) ?_ ⟨fun p q x y h1 h2 => by omega, List.Perm.refl l, Nat.le_refl 1⟩ (fun ⟨i, m⟩ ⟨h1, h2, h3⟩ => ?_)
  · refine Sh.wk0 ?_; simp [Wk, go_sem, simprocAttr, show IntKind.i64.wrap 1 = 1 by decide]
  refine CW.seq ?_
  refine CW.seq ?_
  refine CW.rg ?_
  refine CWops.rn htt 3 ?_
  refine CWops.done ?_
  refine CW.cond (by simp only [go_sem, simprocAttr]; first | done | exact rfl) (fun ct14 => ?_) (fun ct14 => ?_)
  · have hi : i < l.length := by simp at ct14; omega
    refine CW.skip ?_
    refine CW.seq ?_
    refine CW.block ?_
    refine CW.seq ?_
    refine CW.rg ?_
    refine CWops.rn htt 2 ?_
    refine CWops.done ?_
    refine CW.block ?_
    refine CW.loop (S := Nat × List GObj) (fun p => ⟨1, [(0, .ref 0 [] 0), (1, .int .i64 0), (2, .int .i64 l.length), (3, .func (.func 31) [] []), (8, .int .i64 i), (9, .int .i64 p.1)], [(0, ⟨false, [.own 3 (p.2.map eObj)]⟩)]⟩) (fun p => InsO p.2 i p.1 ∧ p.2.Perm l ∧ p.1 ≤ i) (fun p => p.1) ((i, m)) ?_ ⟨InsO.start h1, h2, Nat.le_refl i⟩ (fun ⟨j, mm⟩ ⟨k1, k2, k3⟩ => ?_)
    · refine Sh.wk0 ?_; simp [Wk, go_sem, simprocAttr]
    refine CW.seq ?_
    refine CW.cut ⟨1, [(0, .ref 0 [] 0), (1, .int .i64 0), (2, .int .i64 l.length), (3, .func (.func 31) [] []), (8, .int .i64 i), (9, .int .i64 j), (34, .bool (lessAtO mm j))], [(0, ⟨false, [.own 3 (mm.map eObj)]⟩)]⟩ ?_ ?_
    · have hml : mm.length = l.length := k2.length_eq
      simp only at k3
      obtain ⟨k, a, b, hjab⟩ : ∃ (k : Nat) (a b : GObj), (j = 0 ∧ True ∧ True ∧ True ∧ True ∧ True ∧ True ∧ True) ∨ (j = k + 1 ∧ mm[k]? = some a ∧ mm[k + 1]? = some b ∧ IntKind.i64.wrap (((k + 1 : Nat) : Int) - 1) = (k : Int) ∧ k < mm.length ∧ k + 1 < mm.length ∧ IntKind.i64.wrap (b.Id - a.Id) = b.Id - a.Id ∧ (b.Id - a.Id < 0) = (b.Id < a.Id)) := by
        rcases j with _ | k
        · exact ⟨0, ⟨0, 0, []⟩, ⟨0, 0, []⟩, .inl ⟨rfl, trivial, trivial, trivial, trivial, trivial, trivial, trivial⟩⟩
        · have e1 := hI _ (k2.subset (List.getElem_mem (show k < mm.length by omega)))
          have e2 := hI _ (k2.subset (List.getElem_mem (show k + 1 < mm.length by omega)))
          exact ⟨k, mm[k], mm[k + 1], .inr ⟨rfl, List.getElem?_eq_getElem (by omega), List.getElem?_eq_getElem (by omega), by rw [wrap_id (by omega) (by omega)]; omega, by omega, by omega, by rw [wrap_id (by omega) (by omega)], by apply propext; omega⟩⟩
      rcases hjab with ⟨rfl, ha, hb, hw, hja, hjb, hwr, hdl⟩ | ⟨rfl, ha, hb, hw, hja, hjb, hwr, hdl⟩
      all_goals (refine CW.drawn mixed 14 (by decide) (by kernel_rfl) (by kernel_rfl) (by kernel_rfl) ?_)
      all_goals (refine Seg.run htt 4 (by simp only [go_sem, simprocAttr, ha, hb, hw, hja, hjb, List.length_map, eObj, hwr, hdl]; exact rfl) ?_)
      all_goals (first | refine Seg.guard 21 (by simp only [go_sem, simprocAttr, ha, hb, hw, hja, hjb, List.length_map, eObj, hwr, hdl]; exact rfl) (fun g21 => ?_) (fun g21 => ?_) | skip)
      all_goals (first | (simp at g21; done) | (exfalso; simp at g21 <;> omega) | skip)
      all_goals (refine Seg.run htt 10 (by simp only [go_sem, simprocAttr, ha, hb, hw, hja, hjb, List.length_map, eObj, hwr, hdl]; exact rfl) ?_)
      all_goals (refine Seg.done ?_)
      all_goals (first | (refine CWops.skip ?_ ?_; next => (simp only [go_sem, simprocAttr]; done)) | (refine CWops.callA (merge_Merge_1 up b a) (by simp only [go_sem, simprocAttr, ha, hb, hw, hja, hjb, List.length_map, eObj, hwr, hdl]) (by simp only [go_sem, simprocAttr, ha, hb, hw, hja, hjb, List.length_map, eObj, hwr, hdl]; first | done | exact rfl) (by simp only [go_sem, simprocAttr, ha, hb, hw, hja, hjb, List.length_map, eObj, hwr, hdl]) (by simp only [go_sem, simprocAttr, ha, hb, hw, hja, hjb, List.length_map, eObj, hwr, hdl]) (fun rt32 hrt32 => ?_); subst hrt32))
      all_goals (refine CWops.run htt 2 (by simp only [go_sem, simprocAttr, ha, hb, hw, hja, hjb, List.length_map, eObj, hwr, hdl]; exact rfl) (by simp [go_sem, simprocAttr, ha, hb, hw, hja, hjb, List.length_map, eObj, hwr, hdl]) ?_)
      all_goals (refine CWops.done ?_)
      all_goals (
        first | refine ⟨rfl, Sh.wk0 ?_⟩ | refine Sh.wk0 ?_
        first | (simp [Wk, go_sem, simprocAttr, lessAtO]; done) | (simp [Wk, go_sem, simprocAttr, lessAtO, ha, hb]; done) | skip)
    refine CW.cond (by simp only [go_sem, simprocAttr]; first | done | exact rfl) (fun ct34 => ?_) (fun ct34 => ?_)
    · obtain ⟨j, a, b, rfl, ha, hb, hab⟩ := lessAt_trueO ct34
      have hw : IntKind.i64.wrap (((j + 1 : Nat) : Int) - 1) = (j : Int) := by rw [wrap_id (by omega) (by omega)]; omega
      have hja := (List.getElem?_eq_some_iff.1 ha).1
      have hjb := (List.getElem?_eq_some_iff.1 hb).1
      have hr2 : ((List.map eObj mm).set (j + 1) [AV.int .i64 a.Id, .int .i64 a.T, .sl 3 (a.F.map eVal)])[j]? = some [AV.int .i64 a.Id, .int .i64 a.T, .sl 3 (a.F.map eVal)] := by rw [List.getElem?_set_ne (by omega), List.getElem?_map, ha]; rfl
      refine CW.skip ?_
      refine CW.seq ?_
      refine CW.block ?_
      refine CW.drawnF mixed 15 16 [2, 3, 4] (D := [39, 40, 41]) (by decide) (by decide) (by kernel_rfl) (by kernel_rfl) rfl (by kernel_rfl) (by kernel_rfl) ?_
      refine Seg.run htt 15 (by simp only [go_sem, simprocAttr, ha, hb, hw, hja, hjb, List.length_map, eObj, hr2, List.length_set, List.getElem?_set_self, List.set_set, List.set_cons_succ, List.set_cons_zero]; exact rfl) ?_
      refine Seg.done ?_
      refine Mid.sto htt (Flo.cons htt rfl rfl (by simp only [go_sem, simprocAttr, ha, hb, hw, hja, hjb, List.length_map, eObj, hr2, List.length_set, List.getElem?_set_self, List.set_set, List.set_cons_succ, List.set_cons_zero]; first | done | exact rfl) (Flo.cons htt rfl rfl (by simp only [go_sem, simprocAttr, ha, hb, hw, hja, hjb, List.length_map, eObj, hr2, List.length_set, List.getElem?_set_self, List.set_set, List.set_cons_succ, List.set_cons_zero]; first | done | exact rfl) (Flo.cons htt rfl rfl (by simp only [go_sem, simprocAttr, ha, hb, hw, hja, hjb, List.length_map, eObj, hr2, List.length_set, List.getElem?_set_self, List.set_set, List.set_cons_succ, List.set_cons_zero]; first | done | exact rfl) (Flo.nil)))) (fun u => by simp only [go_sem, simprocAttr, ha, hb, hw, hja, hjb, List.length_map, eObj, hr2, List.length_set, List.getElem?_set_self, List.set_set, List.set_cons_succ, List.set_cons_zero]; exact rfl) ?_
      refine Mid.done (Flo.cons htt rfl rfl (by simp only [go_sem, simprocAttr, ha, hb, hw, hja, hjb, List.length_map, eObj, hr2, List.length_set, List.getElem?_set_self, List.set_set, List.set_cons_succ, List.set_cons_zero]; first | done | exact rfl) (Flo.cons htt rfl rfl (by simp only [go_sem, simprocAttr, ha, hb, hw, hja, hjb, List.length_map, eObj, hr2, List.length_set, List.getElem?_set_self, List.set_set, List.set_cons_succ, List.set_cons_zero]; first | done | exact rfl) (Flo.cons htt rfl rfl (by simp only [go_sem, simprocAttr, ha, hb, hw, hja, hjb, List.length_map, eObj, hr2, List.length_set, List.getElem?_set_self, List.set_set, List.set_cons_succ, List.set_cons_zero]; first | done | exact rfl) (Flo.nil)))) ?_
      refine CWops.run htt 2 (by simp only [go_sem, simprocAttr, ha, hb, hw, hja, hjb, List.length_map, eObj, hr2, List.length_set, List.getElem?_set_self, List.set_set, List.set_cons_succ, List.set_cons_zero]; exact rfl) (by simp [go_sem, simprocAttr, ha, hb, hw, hja, hjb, List.length_map, eObj, hr2, List.length_set, List.getElem?_set_self, List.set_set, List.set_cons_succ, List.set_cons_zero]) ?_
      refine CWops.done ?_
      refine CW.rg ?_
      refine CWops.run htt 3 (by simp only [go_sem, simprocAttr, hw]; exact rfl) (by simp [go_sem, simprocAttr, hw]) ?_
      refine CWops.done ?_
      refine ⟨(j, swpO mm j a b), ?_, ?_, ?_⟩
      · refine Sh.wk0 ?_; simp [Wk, go_sem, simprocAttr, swpO, set_O]; first | done | rfl
      · exact ⟨k1.step k3 ha hb hab, (swp_permO ha hb).trans k2, by simp only at k3 ⊢; omega⟩
      · simp only; omega
    · refine CW.exit ?_
      refine CW.rg ?_
      refine CWops.run htt 3 (by simp only [go_sem, simprocAttr, wrap_succ (show i < MX by unfold MX; omega)]; exact rfl) (by simp [go_sem, simprocAttr, wrap_succ (show i < MX by unfold MX; omega)]) ?_
      refine CWops.done ?_
      refine ⟨(i + 1, mm), ?_, ?_, ?_⟩
      · refine Sh.wk0 ?_; simp [Wk, go_sem, simprocAttr]
      · exact ⟨lessAt_falseO ct34 k1 k3 (by rw [k2.length_eq]; exact hi), k2, by simp only; omega⟩
      · simp only; omega
  · have hi : l.length ≤ i := by simp at ct14; omega
    refine CW.exit ?_
    refine ⟨⟨1, [(0, .ref 0 [] 0)], [(0, ⟨false, [.own 3 (m.map eObj)]⟩)]⟩, ?_, .inl rfl, ⟨by simp [ptrOK, go_sem, simprocAttr], (by refine ⟨⟨0, by decide, rfl, by simp only [go_sem, simprocAttr], rfl⟩, trivial⟩)⟩, _, by simp only [f72, go_sem, simprocAttr]; exact rfl, ?_⟩ -- end
    · refine Sh.wk0 ?_
      simp [Wk, go_sem, simprocAttr]
    · exact ⟨m, rfl, rfl, upTo_pairwiseO (fun p q x y a b => h1 p q x y a (by rw [h2.length_eq] at b; omega)), h2⟩
theorem bits_Len64 (up : Bool) (n : Nat) (hn : n < 256) : PCall prog up 81 [.int .u64 n] (fun r => ∃ m : Int, r = .int .i64 m) := by
  refine PCall.intro htt func81 (by kernel_rfl) rfl (Nat.le_of_ble_eq_true rfl) fun hl => ?_
  have hwu : IntKind.u8.wrap (n : Int) = (n : Int) := by
    simp only [IntKind.wrap, IntKind.bits, IntKind.signed]
    simp
    omega
  have hMX : (256 ≤ MX) = True := eq_true (by decide)
  simp only [tmps0, Nat.reduceAdd]
  refine CW.seq ?_
  refine CW.rg ?_
  refine CWops.rn htt 1 ?_
  refine CWops.done ?_
  refine CW.seq ?_
  refine CW.seq ?_
  refine CW.rg ?_
  refine CWops.rn htt 2 ?_
  refine CWops.done ?_
  refine CW.cond (by simp only [go_sem, simprocAttr]; first | done | exact rfl) (fun ct4 => ?_) (fun ct4 => ?_)
  · exfalso; simp at ct4; omega 
  · refine CW.skip ?_
    refine CW.seq ?_
    refine CW.seq ?_
    refine CW.rg ?_
    refine CWops.rn htt 2 ?_
    refine CWops.done ?_
    refine CW.cond (by simp only [go_sem, simprocAttr]; first | done | exact rfl) (fun ct8 => ?_) (fun ct8 => ?_)
    · exfalso; simp at ct8; omega 
    · refine CW.skip ?_
      refine CW.seq ?_
      refine CW.seq ?_
      refine CW.rg ?_
      refine CWops.rn htt 2 ?_
      refine CWops.done ?_
      refine CW.cond (by simp only [go_sem, simprocAttr]; first | done | exact rfl) (fun ct14 => ?_) (fun ct14 => ?_)
      · exfalso; simp at ct14; omega 
      · refine CW.skip ?_
        refine CW.seq ?_
        refine CW.rg ?_
        refine CWops.rn htt 2 ?_
        refine CWops.conv (n := (n : Int)) (k := .u64) (k' := .u8) htt (by simp only [go_sem, simprocAttr]) tt_133 rfl tt_5 rfl (by simp only [go_sem, simprocAttr]) ?_
        rw [hwu]
        refine CWops.strAt (q := n) (k := .u8) htt (by simp only [go_sem, simprocAttr]) tt_9 rfl (by simp only [go_sem, simprocAttr, hMX]; first | done | exact rfl) (by simp only [go_sem, simprocAttr]) (by exact hn) (fun c => ?_)
        refine CWops.conv (n := (c.toNat : Int)) (k := .u8) (k' := .i64) htt (by simp only [go_sem, simprocAttr]) tt_5 rfl tt_3 rfl (by simp only [go_sem, simprocAttr]) ?_
        refine CWops.rn htt 2 ?_
        refine CWops.done ?_
        refine CW.ret ?_
        refine retQ.ret (by simp only [f81, go_sem, simprocAttr]; exact rfl) (by simp only [go_sem, simprocAttr]; exact rfl) ?_ -- ret1
        exact ⟨_, leP_refl _, _, rfl⟩
theorem bits_Len (up : Bool) (n : Nat) (hn : n < 256) : PCall prog up 58 [.int .u64 n] (fun r => ∃ m : Int, r = .int .i64 m) := by
  refine PCall.intro htt func58 (by kernel_rfl) rfl (Nat.le_of_ble_eq_true rfl) fun hl => ?_

  simp only [tmps0, Nat.reduceAdd]
  refine CW.seq ?_
  refine CW.rg ?_
  refine CWops.rn htt 1 ?_
  refine CWops.done ?_
  refine CW.seq ?_
  refine CW.cond (by simp only [go_sem, simprocAttr]; first | done | exact rfl) (fun cK => ?_) (fun cK => ?_)
  · cases cK 
  · refine CW.skip ?_
    refine CW.seq ?_
    refine CW.rg ?_
    refine CWops.rn htt 1 ?_
    refine CWops.callA (bits_Len64 up n hn) (by simp only [go_sem, simprocAttr]) (by simp only [go_sem, simprocAttr]; first | done | exact rfl) (by simp only [go_sem, simprocAttr]) (by simp only [go_sem, simprocAttr]) (fun rt7 hrt7 => ?_)
    obtain ⟨m7, rfl⟩ := hrt7
    refine CWops.rn htt 1 ?_
    refine CWops.done ?_
    refine CW.ret ?_
    refine retQ.ret (by simp only [f58, go_sem, simprocAttr]; exact rfl) (by simp only [go_sem, simprocAttr]; exact rfl) ?_ -- ret1
    exact ⟨_, leP_refl _, _, rfl⟩
theorem pdqsortO (up : Bool) (l : List GObj) (lim : Int) (hl : l.length < 13) (hI : ∀ x ∈ l, 0 ≤ x.Id ∧ x.Id ≤ 1073741824) : GCallH prog up 57 [.ref 0 [] 0, .int .i64 0, .int .i64 l.length, .int .i64 lim, .func (.func 31) [] []] 1 [(0, ⟨false, [.own 3 (l.map eObj)]⟩)] [0] (fun _ σ' => ∃ m, σ'.n = 1 ∧ σ'.s = [(0, ⟨false, [.own 3 (m.map eObj)]⟩)] ∧ SortedO l m) := by
  refine GCallH.intro htt 1 func57 (by kernel_rfl) rfl (Nat.le_of_ble_eq_true rfl) (CW.told ?_)
  have hw : IntKind.i64.wrap ((l.length : Int) - 0) = (l.length : Int) := by rw [wrap_id (by omega) (by omega)]; omega
  simp only [tmps0, Nat.reduceAdd]
  refine CW.seq ?_
  refine CW.rg ?_
  refine CWops.rn htt 1 ?_
  refine CWops.done ?_
  refine CW.seq ?_
  refine CW.rg ?_
  refine CWops.rn htt 1 ?_
  refine CWops.done ?_
  refine CW.block ?_
  refine CW.loop (S := Unit) (fun u => ⟨1, [(0, .ref 0 [] 0), (1, .int .i64 0), (2, .int .i64 l.length), (4, .func (.func 31) [] [])], [(0, ⟨false, [.own 3 (l.map eObj)]⟩)]⟩) (fun u => True) (fun u => 0) (()) ?_ trivial (fun _ _ => ?_)
  · refine Sh.wk0 ?_; simp [Wk, go_sem, simprocAttr]
  refine CW.block ?_
  refine CW.seq ?_
  refine CW.rg ?_
  refine CWops.run htt 4 (by simp only [go_sem, simprocAttr, hw]; exact rfl) (by simp [go_sem, simprocAttr, hw]) ?_
  refine CWops.done ?_
  refine CW.seq ?_
  refine CW.seq ?_
  refine CW.rg ?_
  refine CWops.rn htt 2 ?_
  refine CWops.done ?_
  refine CW.cond (by simp only [go_sem, simprocAttr]; first | done | exact rfl) (fun ct25 => ?_) (fun ct25 => ?_)
  · refine CW.seq ?_
    refine CW.rg ?_
    refine CWops.rn htt 4 ?_
    refine CWops.callGH [0] rfl (insertionSortO up l (by omega) hI) (by decide) (by simp only [go_sem, simprocAttr]) (by simp only [go_sem, simprocAttr]; first | done | exact rfl) (by decide) (by simp [go_sem, simprocAttr, mName, memB]) (by simp [go_sem, simprocAttr, mName]) (by simp [go_sem, simprocAttr]) (by simp [go_sem, simprocAttr]) (by simp [go_sem, simprocAttr, mName]) (fun r σ' hσ => ?_)
    obtain ⟨σn, σt, σs⟩ := σ'
    simp only at hσ
    obtain ⟨m, rfl, rfl, hm2⟩ := hσ
    simp only [aftH, renS, List.map_cons, List.map_nil, delAll, memB, mName, List.getD_nil, killH, kref, ren, Nat.beq_eq, go_sem, simprocAttr]
    refine CWops.done ?_
    refine CW.ret ?_
    refine ⟨⟨1, [(0, .ref 0 [] 0)], [(0, ⟨false, [.own 3 (m.map eObj)]⟩)]⟩, ?_, .inr rfl, ⟨by simp [ptrOK, go_sem, simprocAttr], (by refine ⟨⟨0, by decide, rfl, by simp only [go_sem, simprocAttr], rfl⟩, trivial⟩)⟩, _, by simp only [f57, go_sem, simprocAttr]; exact rfl, ?_⟩ -- ret1
    · refine Sh.wk0 ?_
      simp [Wk, go_sem, simprocAttr]
    · exact ⟨m, rfl, rfl, hm2⟩
  · exfalso; simp at ct25; omega
theorem sortFuncO (up : Bool) (l : List GObj) (hl : l.length < 13) (hI : ∀ x ∈ l, 0 ≤ x.Id ∧ x.Id ≤ 1073741824) : GCallH prog up 30 [.ref 0 [] 0, .func (.func 31) [] []] 1 [(0, ⟨false, [.own 3 (l.map eObj)]⟩)] [0] (fun _ σ' => ∃ m, σ'.n = 1 ∧ σ'.s = [(0, ⟨false, [.own 3 (m.map eObj)]⟩)] ∧ SortedO l m) := by
  refine GCallH.intro htt 1 func30 (by kernel_rfl) rfl (Nat.le_of_ble_eq_true rfl) (CW.told ?_)
  have hw : IntKind.u64.wrap (l.length : Int) = (l.length : Int) := by
    simp only [IntKind.wrap, IntKind.bits, IntKind.signed]
    simp
    omega
  simp only [tmps0, Nat.reduceAdd]
  refine CW.seq ?_
  refine CW.rg ?_
  refine CWops.rn htt 3 ?_
  refine CWops.done ?_
  refine CW.rg ?_
  refine CWops.rn htt 3 ?_
  refine CWops.conv (n := (l.length : Int)) (k := .i64) (k' := .u64) htt (by simp only [go_sem, simprocAttr]) tt_3 rfl tt_109 rfl (by simp only [go_sem, simprocAttr, List.length_map]; first | done | exact rfl) ?_
  rw [hw]
  refine CWops.callA (bits_Len up l.length (by omega)) (by simp only [go_sem, simprocAttr]) (by simp only [go_sem, simprocAttr]; first | done | exact rfl) (by simp only [go_sem, simprocAttr]) (by simp only [go_sem, simprocAttr]) (fun rt11 hrt11 => ?_)
  obtain ⟨lim, rfl⟩ := hrt11
  refine CWops.rn htt 1 ?_
  refine CWops.callGH [0] rfl (pdqsortO up l lim hl hI) (by decide) (by simp only [go_sem, simprocAttr]) (by simp only [go_sem, simprocAttr]; first | done | exact rfl) (by decide) (by simp [go_sem, simprocAttr, mName, memB]) (by simp [go_sem, simprocAttr, mName]) (by simp [go_sem, simprocAttr]) (by simp [go_sem, simprocAttr]) (by simp [go_sem, simprocAttr, mName]) (fun r σ' hσ => ?_)
  obtain ⟨σn, σt, σs⟩ := σ'
  simp only at hσ
  obtain ⟨m, rfl, rfl, hm2⟩ := hσ
  simp only [aftH, renS, List.map_cons, List.map_nil, delAll, memB, mName, List.getD_nil, killH, kref, ren, Nat.beq_eq, go_sem, simprocAttr]
  refine CWops.done ?_
  refine ⟨⟨1, [(0, .ref 0 [] 0)], [(0, ⟨false, [.own 3 (m.map eObj)]⟩)]⟩, ?_, .inl rfl, ⟨by simp [ptrOK, go_sem, simprocAttr], (by refine ⟨⟨0, by decide, rfl, by simp only [go_sem, simprocAttr], rfl⟩, trivial⟩)⟩, _, by simp only [f30, go_sem, simprocAttr]; exact rfl, ?_⟩ -- end
  · refine Sh.wk0 ?_
    simp [Wk, go_sem, simprocAttr]
  · exact ⟨m, rfl, rfl, hm2⟩
end Go.Ab
namespace Go.Ab
open Go Go.Proofs.Try
set_option maxRecDepth 100000
set_option maxHeartbeats 12800000
set_option linter.unusedSimpArgs false
set_option linter.unusedVariables false
theorem merge_Merge (up : Bool) (o a b : Graph) (hz : gCheck o a b = 0 → MOK o a b) : PCall prog up 10 [.agg (eGraph o), .agg (eGraph a), .agg (eGraph b)] (· = .tup [.agg (eGraph (gMerge o a b).1), .agg (eChange (gMerge o a b).2.1), .int .i64 (gMerge o a b).2.2]) := by
  refine PCall.intro htt func10 (by kernel_rfl) rfl (Nat.le_of_ble_eq_true rfl) fun hl => ?_

  simp only [tmps0, Nat.reduceAdd]
  refine CW.seq ?_
  refine CW.rg ?_
  refine CWops.run htt 6 (by simp only [go_sem, simprocAttr, eGraph]; exact rfl) (by simp [go_sem, simprocAttr, eGraph]) ?_
  refine CWops.done ?_
  refine CW.seq ?_
  refine CW.rg ?_
  refine CWops.run htt 6 (by simp only [go_sem, simprocAttr, eGraph]; exact rfl) (by simp [go_sem, simprocAttr, eGraph]) ?_
  refine CWops.done ?_
  refine CW.seq ?_
  refine CW.seq ?_
  refine CW.rg ?_
  refine CWops.run htt 1 (by simp only [go_sem, simprocAttr, eT]; exact rfl) (by simp [go_sem, simprocAttr, eT]) ?_
  refine CWops.callA (merge_check up o a b) (by simp only [go_sem, simprocAttr, eT]) (by simp only [go_sem, simprocAttr, eT]; first | done | exact rfl) (by simp only [go_sem, simprocAttr, eT]) (by simp only [go_sem, simprocAttr, eT]) (fun rt24 hrt24 => ?_)
  subst hrt24
  refine CWops.run htt 1 (by simp only [go_sem, simprocAttr, eT]; exact rfl) (by simp [go_sem, simprocAttr, eT]) ?_
  refine CWops.done ?_
  refine CW.seq ?_
  refine CW.rg ?_
  refine CWops.rn htt 2 ?_
  refine CWops.done ?_
  refine CW.cond (by simp only [go_sem, simprocAttr]; first | done | exact rfl) (fun ct26 => ?_) (fun ct26 => ?_)
  · have h0 : ¬ gCheck o a b = 0 := by simpa using ct26
    refine CW.seq ?_
    refine CW.rg ?_
    refine CWops.rn htt 6 ?_
    refine CWops.done ?_
    refine CW.ret ?_
    refine retQ.ret (by simp only [f10, go_sem, simprocAttr]; exact rfl) (by simp only [go_sem, simprocAttr]; exact rfl) ?_ -- ret1
    refine ⟨_, ?_, rfl⟩
    simp [leP, leL, gMerge, h0, eGraph, eChange, noChange]
  · have h0 : gCheck o a b = 0 := by simpa using ct26
    have hk := hz h0
    have hcb : (mCh o a b).New.length + (mCh o a b).Gone.length + (mCh o a b).Set.length + (mCh o a b).Roots.length ≤ MX := by
      have e1 := mSet_len hk.sz (mL a b 2)
      have e2 := mRC_len o a b (mN a b)
      have e3 := hk.pok.len
      have e4 : (mOs o a b (mL a b 2)).length = (mL a b 2).length := by simp [mOs]
      have e5 := hk.ar
      have e6 := hk.br
      have e7 : mN a b ≤ 3 := by unfold mN; omega
      simp only [mCh, List.length_nil, MX]
      omega
    have hRl0 : (mRoots o a b (mN a b)).length ≤ 3 := by
      rw [mRoots_len]
      have e5 := hk.ar
      have e6 := hk.br
      unfold mN; omega
    have hs1 : a.S.length * 40 ≤ MX := by have := hk.sc.1; unfold MX; omega
    have hs2 : ∀ x ∈ a.S, x.F.length * 40 ≤ MX := fun x hx => by have := hk.sc.2 x hx; unfold MX; omega
    refine CW.skip ?_
    refine CW.seq ?_
    refine CW.rg ?_
    refine CWops.rn htt 1 ?_
    refine CWops.callG [] rfl (by have h := merge_all up o a b hk.sz hk.ao hk.bo hk.ar hk.br; simp only [eT] at h; exact h) (by simp only [go_sem, simprocAttr]) (by simp only [go_sem, simprocAttr]; first | done | exact rfl) (by decide) (by simp [go_sem, simprocAttr, mName, memB]) (by simp [go_sem, simprocAttr, mName]) (by simp [go_sem, simprocAttr]) (by simp [go_sem, simprocAttr]) (by simp [go_sem, simprocAttr, mName]) (fun r σ' hσ => ?_)
    obtain ⟨σn, σt, σs⟩ := σ'
    simp only at hσ
    obtain ⟨rfl, rfl, rfl⟩ := hσ
    simp only [aftS, renS, delAll, memB, mName, List.getD_nil, killH, kref, ren, Nat.beq_eq, go_sem, simprocAttr]
    obtain ⟨RS, hRS⟩ : ∃ l, l = mRoots o a b (mN a b) := ⟨_, rfl⟩
    simp only [← hRS]
    refine CWops.rn htt 8 ?_
    refine CWops.done ?_
    refine CW.seq ?_
    refine CW.seq ?_
    refine CW.rg ?_
    refine CWops.run htt 1 (by simp only [go_sem, simprocAttr, eChange, mCh]; exact rfl) (by simp [go_sem, simprocAttr, eChange, mCh]) ?_
    refine CWops.call (diff_None up (mCh o a b) hcb) (by simp only [go_sem, simprocAttr, eChange, mCh]) (by simp only [go_sem, simprocAttr, eChange, mCh]; first | done | exact rfl) (by simp only [go_sem, simprocAttr, eChange, mCh]) (fun rt37 hrt37 => ?_)
    subst hrt37; refine ⟨rfl, ?_⟩
    refine CWops.run htt 1 (by simp only [go_sem, simprocAttr, eChange, mCh]; exact rfl) (by simp [go_sem, simprocAttr, eChange, mCh]) ?_
    refine CWops.done ?_
    refine CW.cond (by simp only [go_sem, simprocAttr]; first | done | exact rfl) (fun ct38 => ?_) (fun ct38 => ?_)
    · have h1 : gNone (mCh o a b) = false := by simpa [mCh] using ct38
      refine CW.seq ?_
      refine CW.drawnF mixed 2 3 [1] (D := [40]) (by decide) (by decide) (by kernel_rfl) (by kernel_rfl) rfl (by kernel_rfl) (by kernel_rfl) ?_
      refine Seg.run htt 2 (by simp only [go_sem, simprocAttr]; exact rfl) ?_
      refine Seg.done ?_
      refine Mid.sto htt (Flo.cons htt rfl rfl (by simp only [go_sem, simprocAttr]; first | done | exact rfl) (Flo.nil)) (fun u => by simp only [go_sem, simprocAttr]; exact rfl) ?_
      refine Mid.done (Flo.cons htt rfl rfl (by simp only [go_sem, simprocAttr]; first | done | exact rfl) (Flo.nil)) ?_
      refine CWops.rn htt 2 ?_
      refine CWops.done ?_
      refine CW.ret ?_
      refine retQ.ret (by simp only [f10, go_sem, simprocAttr]; exact rfl) (by simp only [go_sem, simprocAttr]; exact rfl) ?_ -- ret2
      refine ⟨_, ?_, rfl⟩
      have h1' := h1
      simp only [mCh] at h1'
      simp [leP, leL, gMerge, h0, h1', eGraph, eChange, mCh]
    · have h1 : gNone (mCh o a b) = true := by simpa [mCh] using ct38
      have hRl : RS.length ≤ 3 := by rw [hRS]; exact hRl0
      refine CW.skip ?_
      refine CW.seq ?_
      refine CW.rg ?_
      refine CWops.run htt 4 (by simp only [go_sem, simprocAttr, eGraph]; exact rfl) (by simp [go_sem, simprocAttr, eGraph]) ?_
      refine CWops.callGH [6] rfl (by have h := merge_come up a.S (mOs o a b (mL a b 2)) RS hk.pok hRl; rw [← mEs_eq] at h; simp only [eSchema] at h; exact h) (by decide) (by simp only [go_sem, simprocAttr]) (by simp only [go_sem, simprocAttr]; first | done | exact rfl) (by decide) (by simp [go_sem, simprocAttr, mName, memB]) (by simp [go_sem, simprocAttr, mName]) (by simp [go_sem, simprocAttr]) (by simp [go_sem, simprocAttr]) (by simp [go_sem, simprocAttr, mName]) (fun r σ' hσ => ?_)
      obtain ⟨σn, σt, σs⟩ := σ'
      simp only at hσ
      obtain ⟨out, hout, rfl, rfl, rfl⟩ := hσ
      simp only [aftH, renS, List.map_cons, List.map_nil, delAll, memB, mName, List.getD_nil, killH, kref, ren, Nat.beq_eq, go_sem, simprocAttr]
      refine CWops.run htt 1 (by simp only [go_sem, simprocAttr, eGraph]; exact rfl) (by simp [go_sem, simprocAttr, eGraph]) ?_
      refine CWops.done ?_
      refine CW.seq ?_
      have hnd : ((mOs o a b (mL a b 2)).map (·.1)).Nodup := by rw [mOs_keys]; exact mL_nodup a b
      rw [mEs_eq]
      refine CW.mapFilter (y := 6) htt 51542753280 (fun _ : List (Int × GObj) × (Int → Bool) => ⟨11, [(3, .lv 0 [] 0), (4, .lv 1 [] 0), (5, .lv 2 [] 0), (6, .lv 3 [] 0), (7, .lv 4 [] 0), (8, .int .i64 0), (12, .sl 1 (RS.map eI)), (14, .ref 10 [] 0)], [(0, ⟨true, eGraph o⟩), (1, ⟨true, eGraph a⟩), (2, ⟨true, eGraph b⟩), (3, ⟨true, [.nilsl, .nilsl, .nilsl]⟩), (4, ⟨true, [.nilsl, .nilsl, .nilsl, .nilsl]⟩), (10, ⟨false, [.omap (oM out)]⟩)]⟩) (fun x => pEs x.1) (fun x => x.2) (FInv (mOs o a b (mL a b 2)) out) ((mOs o a b (mL a b 2), fun _ => false)) (⟨11, [(3, .lv 0 [] 0), (4, .lv 1 [] 0), (5, .lv 2 [] 0), (6, .lv 3 [] 0), (7, .lv 4 [] 0), (8, .int .i64 0), (12, .sl 1 (RS.map eI)), (14, .ref 10 [] 0)], [(0, ⟨true, eGraph o⟩), (1, ⟨true, eGraph a⟩), (2, ⟨true, eGraph b⟩), (3, ⟨true, [.nilsl, .nilsl, .nilsl]⟩), (4, ⟨true, [.nilsl, .nilsl, .nilsl, .nilsl]⟩), (10, ⟨false, [.omap (oM out)]⟩)]⟩) tt_71 rfl tt_3 rfl (by simp only [go_sem, simprocAttr]) (by simp only [go_sem, simprocAttr]) ?_ (by simp only [go_sem, simprocAttr]) ?_ (by decide) (by decide) (by decide) (by decide) (by decide) (by decide) (by decide) (by decide) (fun i h => by simp [kp] at h) (by kernel_rfl) (by kernel_rfl) ?_ ?_ (fun _ => rfl) (fun x i k v hI hi hd => ?_) ?_
      · simp [Wk, go_sem, simprocAttr, eGraph, ]
      · exact pEs_nd hnd
      · refine Sh.wk0 ?_; simp [Wk, go_sem, simprocAttr, eGraph, ]
      · exact FInv.start _ _
      · obtain ⟨ob, hob, rfl⟩ := pEs_get hi
        refine CWops.rn htt 2 ?_
        refine CWops.done ?_
        obtain ⟨qq, hlo, hq2⟩ : ∃ qq, maplk (oM out) k = qq ∧ ((k ∈ out ∧ qq = some (AV.bool true)) ∨ (¬ k ∈ out ∧ qq = none)) := by
          refine ⟨_, maplk_oM k out, ?_⟩
          by_cases e : k ∈ out
          · exact .inl ⟨e, by rw [if_pos e]⟩
          · exact .inr ⟨e, by rw [if_neg e]⟩
        rcases hq2 with ⟨hin, rfl⟩ | ⟨hin, rfl⟩
        all_goals (refine CW.rg ?_)
        all_goals (refine CWops.run htt 4 (by simp only [go_sem, simprocAttr, hlo]; exact rfl) (by simp [go_sem, simprocAttr, hlo]) ?_)
        all_goals (refine CWops.done ?_)
        all_goals (
          first | exact ⟨rfl, by simp only [go_sem, simprocAttr], false, (x.1, fun q => x.2 q || decide (q = k)), by simp only [go_sem, simprocAttr]; first | done | exact rfl, by (refine Sh.wk0 ?_; simp [Wk, go_sem, simprocAttr, eGraph, ]), hI.keep hin, fun q => rfl, rfl⟩ | exact ⟨rfl, by simp only [go_sem, simprocAttr], true, (pdel x.1 k, fun q => x.2 q || decide (q = k)), by simp only [go_sem, simprocAttr]; first | done | exact rfl, by (refine Sh.wk0 ?_; simp [Wk, go_sem, simprocAttr, eGraph, ]), hI.del hnd hin, fun q => rfl, pEs_pdel k x.1⟩)
      intro x hI hall
      obtain ⟨L, D⟩ := x
      obtain rfl : L = mLive o a b := by
        rw [← mLive_of (out := out) (by rw [← hRS]; exact hout)]
        refine hI.done hnd fun p hp => ?_
        obtain ⟨j, hj⟩ := List.getElem?_of_mem hp
        exact hall j (p.1, AV.agg (eObj p.2)) (by simp [pEs, hj])
      clear hI hall
      refine CW.seq ?_
      refine CW.seq ?_
      refine CW.rg ?_
      refine CWops.run htt 3 (by simp only [go_sem, simprocAttr, pEs_len]; exact rfl) (by simp [go_sem, simprocAttr, pEs_len]) ?_
      refine CWops.done ?_
      refine CW.cond (by simp only [go_sem, simprocAttr]; first | done | exact rfl) (fun ct60 => ?_) (fun ct60 => ?_)
      · have h2 : 8 < (mLive o a b).length := by simp at ct60; omega
        refine CW.seq ?_
        refine CW.rg ?_
        refine CWops.rn htt 5 ?_
        refine CWops.done ?_
        refine CW.ret ?_
        refine retQ.ret (by simp only [f10, go_sem, simprocAttr]; exact rfl) (by simp only [go_sem, simprocAttr]; exact rfl) ?_ -- ret3
        refine ⟨_, ?_, rfl⟩
        simp [leP, leL, gMerge, h0, h1, h2, eGraph, eChange, noChange]
      · have h2 : ¬ 8 < (mLive o a b).length := by simp at ct60; omega
        refine CW.skip ?_
        refine CW.seq ?_
        refine CW.rg ?_
        refine CWops.run htt 2 (by simp only [go_sem, simprocAttr, eGraph, eSchema]; exact rfl) (by simp [go_sem, simprocAttr, eGraph, eSchema]) ?_
        refine CWops.callA (merge_schema up a.S hs1 hs2) (by simp only [go_sem, simprocAttr, eGraph, eSchema]) (by simp only [go_sem, simprocAttr, eGraph, eSchema]; first | done | exact rfl) (by simp only [go_sem, simprocAttr, eGraph, eSchema]) (by simp only [go_sem, simprocAttr, eGraph, eSchema]) (fun rt65 hrt65 => ?_)
        subst hrt65
        refine CWops.run htt 4 (by simp only [go_sem, simprocAttr, eGraph, eSchema]; exact rfl) (by simp [go_sem, simprocAttr, eGraph, eSchema]) ?_
        refine CWops.done ?_
        refine CW.seq ?_
        refine CW.mapRange (y := 11) htt 51544195072 (fun x : (Int → Bool) × List GObj => ⟨14, [(3, .lv 0 [] 0), (4, .lv 1 [] 0), (5, .lv 2 [] 0), (6, .lv 3 [] 0), (7, .lv 4 [] 0), (8, .int .i64 0), (12, .sl 1 (RS.map eI)), (16, .lv 12 [] 0)], [(0, ⟨true, eGraph o⟩), (1, ⟨true, eGraph a⟩), (2, ⟨true, eGraph b⟩), (3, ⟨true, [.nilsl, .nilsl, .nilsl]⟩), (4, ⟨true, [.nilsl, .nilsl, .nilsl, .nilsl]⟩), (12, ⟨true, [.sl 2 (a.S.map eType), .own 3 (x.2.map eObj), .sl 1 (RS.map eI)]⟩)]⟩) (pEs (mLive o a b)) (fun x => x.1) (fun x => x.2.Perm (took (mLive o a b) x.1)) ((fun _ => false, [])) (⟨14, [(3, .lv 0 [] 0), (4, .lv 1 [] 0), (5, .lv 2 [] 0), (6, .lv 3 [] 0), (7, .lv 4 [] 0), (8, .int .i64 0), (12, .sl 1 (RS.map eI)), (16, .lv 12 [] 0)], [(0, ⟨true, eGraph o⟩), (1, ⟨true, eGraph a⟩), (2, ⟨true, eGraph b⟩), (3, ⟨true, [.nilsl, .nilsl, .nilsl]⟩), (4, ⟨true, [.nilsl, .nilsl, .nilsl, .nilsl]⟩), (12, ⟨true, [.sl 2 (a.S.map eType), .nilsl, .sl 1 (RS.map eI)]⟩)]⟩) tt_71 rfl (by simp only [go_sem, simprocAttr]) (by simp only [go_sem, simprocAttr]) ?_ (by simp only [go_sem, simprocAttr]) ?_ (by decide) (by decide) (by decide) (by decide) (by decide) (fun i h => by simp [kp] at h) (by kernel_rfl) (by kernel_rfl) ?_ ?_ (fun _ => rfl) (fun x i k v hI hi hd => ?_) ?_
        · simp [Wk, go_sem, simprocAttr, eGraph, ]
        · exact pEs_nd (mLive_keys o a b)
        · refine Sh.trans (Sh.nilCell 12 [] 1 3 (by simp [go_sem, simprocAttr]) rfl) (Sh.wk0 ?_); simp [Wk, go_sem, simprocAttr, eGraph, ]
        · simp only [took_none]; exact List.Perm.refl _
        · obtain ⟨D, X⟩ := x
          simp only at hI hd
          obtain ⟨ob, hob, rfl⟩ := pEs_get hi
          have hXl : X.length ≤ 8 := by rw [hI.length_eq]; have := took_len (mLive o a b) D; omega
          refine CWops.rn htt 3 ?_
          refine CWops.done ?_
          refine CW.rg ?_
          refine CWops.run htt 7 (by simp only [go_sem, simprocAttr, List.replicate, eObj]; exact rfl) (by simp [AV.cell, AV.tree, eObj, MX] <;> omega) ?_
          refine CWops.done ?_
          refine ⟨.inl rfl, (fun q => D q || decide (q = k), X ++ [ob]), ?_, (hI.append_right [ob]).trans (took_step (mLive_keys o a b) hob hd).symm, fun q => rfl⟩
          refine Sh.wk0 ?_
          simp [Wk, go_sem, simprocAttr, eGraph, eObj]
        intro x hI hall
        obtain ⟨D, X⟩ := x
        simp only at hI hall
        have hX : X.Perm ((mLive o a b).map (·.2)) := by
          rw [took_all (d := D)] at hI
          · exact hI
          · intro p hp
            obtain ⟨j, hj⟩ := List.getElem?_of_mem hp
            exact hall j (p.1, AV.agg (eObj p.2)) (by simp [pEs, hj])
        have hids : ∀ x ∈ X, 0 ≤ x.Id ∧ x.Id ≤ 1073741824 := fun x hx => hk.live (hX.subset hx)
        refine CW.seq ?_
        refine CW.sh (Sh.out 12 1 rfl rfl rfl) ?_
        simp only [go_sem, simprocAttr, outF]
        refine CW.rg ?_
        refine CWops.rn htt 2 ?_
        refine CWops.callGH [15] rfl (sortFuncO up X (by rw [hI.length_eq]; have := took_len (mLive o a b) D; omega) hids) (by decide) (by simp only [go_sem, simprocAttr]) (by simp only [go_sem, simprocAttr]; first | done | exact rfl) (by decide) (by simp [go_sem, simprocAttr, mName, memB]) (by simp [go_sem, simprocAttr, mName]) (by simp [go_sem, simprocAttr]) (by simp [go_sem, simprocAttr]) (by simp [go_sem, simprocAttr, mName]) (fun r σ' hσ => ?_)
        obtain ⟨σn, σt, σs⟩ := σ'
        simp only at hσ
        obtain ⟨m, rfl, rfl, hm2⟩ := hσ
        simp only [aftH, renS, List.map_cons, List.map_nil, delAll, memB, mName, List.getD_nil, killH, kref, ren, Nat.beq_eq, go_sem, simprocAttr]
        refine CWops.done ?_
        refine CW.seq ?_
        refine CW.rg ?_
        refine CWops.rn htt 5 ?_
        refine CWops.done ?_
        refine CW.ret ?_
        refine retQ.ret (by simp only [f10, go_sem, simprocAttr]; exact rfl) (by simp only [go_sem, simprocAttr]; exact rfl) ?_ -- ret4
        refine ⟨_, ?_, rfl⟩
        simp [leP, leL, gMerge, h0, h1, h2, eGraph, eChange, noChange, hRS, hk.sorted hX hm2]
end Go.Ab
namespace Go.Ab
open Go Go.Proofs.Try
set_option maxRecDepth 100000
set_option maxHeartbeats 6400000
set_option linter.unusedSimpArgs false
set_option linter.unusedVariables false
theorem mz (o a b : Graph) : gCheck o a b = 0 → MOK o a b := fun h => (M3.of h).mok
theorem merge_MergeG (up : Bool) (o a b : Graph) : PCall prog up 10 [.agg (eGraph o), .agg (eGraph a), .agg (eGraph b)] (· = .tup [.agg (eGraph (gMerge o a b).1), .agg (eChange (gMerge o a b).2.1), .int .i64 (gMerge o a b).2.2]) := merge_Merge up o a b (mz o a b)
theorem merge_ClashG (up : Bool) (o a b : Graph) : PCall prog up 13 [.agg (eGraph o), .agg (eGraph a), .agg (eGraph b)] (· = .tup [.agg (eChange (gClash o a b).1), .int .i64 (gClash o a b).2]) := merge_Clash up o a b (mz o a b)
theorem aw15Merge (up : Bool) : PCall prog up 10 [.agg (eGraph twG), .agg (eGraph twA), .agg (eGraph twB)] (· = .tup [.agg (eGraph twR), .agg (eChange noChange), .int .i64 0]) := by
  have h := merge_MergeG up twG twA twB
  rw [tw_merge] at h; exact h
theorem aw15Clash (up : Bool) : PCall prog up 13 [.agg (eGraph twG), .agg (eGraph twA), .agg (eGraph twD)] (· = .tup [.agg (eChange ⟨[], [], [(0, 0)], []⟩), .int .i64 0]) := by
  have h := merge_ClashG up twG twA twD
  have e : gClash twG twA twD = (⟨[], [], [(0, 0)], []⟩, 0) := by unfold gClash; rw [if_pos tw_clash.1, tw_clash.1, tw_clash.2]
  rw [e] at h; exact h
theorem law15_awake (up : Bool) : PCall prog up 6 [] (· = .bool true) := by
  refine PCall.intro htt func6 (by kernel_rfl) rfl (Nat.le_of_ble_eq_true rfl) fun hl => ?_

  simp only [tmps0, Nat.reduceAdd]
  refine CW.seq ?_
  refine CW.rg ?_
  refine CWops.rn htt 1 ?_
  refine CWops.done ?_
  refine CW.seq ?_
  refine CW.rg ?_
  refine CWops.callA (law08_Two up) (by simp only [go_sem, simprocAttr, eGraph]) (by simp only [go_sem, simprocAttr, eGraph]; first | done | exact rfl) (by simp only [go_sem, simprocAttr, eGraph]) (by simp only [go_sem, simprocAttr, eGraph]) (fun rt13 hrt13 => ?_)
  subst hrt13
  refine CWops.run htt 2 (by simp only [go_sem, simprocAttr, eGraph]; exact rfl) (by simp [go_sem, simprocAttr, eGraph]) ?_
  refine CWops.done ?_
  refine CW.seq ?_
  refine CW.rg ?_
  refine CWops.run htt 2 (by simp only [go_sem, simprocAttr, eGraph, eVal]; exact rfl) (by simp [go_sem, simprocAttr, eGraph, eVal]) ?_
  refine CWops.callA ((by have h := graph_Set up twG 0 0 ⟨9, ⟨#[]⟩, 0⟩ twG_sz; rw [twA_set] at h; exact h)) (by simp only [go_sem, simprocAttr, eGraph, eVal]) (by simp only [go_sem, simprocAttr, eGraph, eVal]; first | done | exact rfl) (by simp only [go_sem, simprocAttr, eGraph, eVal]) (by simp only [go_sem, simprocAttr, eGraph, eVal]) (fun rt17 hrt17 => ?_)
  subst hrt17
  refine CWops.run htt 6 (by simp only [go_sem, simprocAttr, eGraph, eVal]; exact rfl) (by simp [go_sem, simprocAttr, eGraph, eVal]) ?_
  refine CWops.done ?_
  refine CW.seq ?_
  refine CW.rg ?_
  refine CWops.run htt 2 (by simp only [go_sem, simprocAttr, eGraph, eVal]; exact rfl) (by simp [go_sem, simprocAttr, eGraph, eVal]) ?_
  refine CWops.callA ((by have h := graph_Set up twG 0 1 ⟨0, ⟨#[]⟩, 5⟩ twG_sz; rw [twB_set] at h; exact h)) (by simp only [go_sem, simprocAttr, eGraph, eVal]) (by simp only [go_sem, simprocAttr, eGraph, eVal]; first | done | exact rfl) (by simp only [go_sem, simprocAttr, eGraph, eVal]) (by simp only [go_sem, simprocAttr, eGraph, eVal]) (fun rt23 hrt23 => ?_)
  subst hrt23
  refine CWops.run htt 6 (by simp only [go_sem, simprocAttr, eGraph, eVal]; exact rfl) (by simp [go_sem, simprocAttr, eGraph, eVal]) ?_
  refine CWops.done ?_
  refine CW.seq ?_
  refine CW.rg ?_
  refine CWops.run htt 3 (by simp only [go_sem, simprocAttr, eGraph, eChange]; exact rfl) (by simp [go_sem, simprocAttr, eGraph, eChange]) ?_
  refine CWops.callA (aw15Merge up) (by simp only [go_sem, simprocAttr, eGraph, eChange]) (by simp only [go_sem, simprocAttr, eGraph, eChange]; first | done | exact rfl) (by simp only [go_sem, simprocAttr, eGraph, eChange]) (by simp only [go_sem, simprocAttr, eGraph, eChange]) (fun rt30 hrt30 => ?_)
  subst hrt30
  refine CWops.run htt 9 (by simp only [go_sem, simprocAttr, eGraph, eChange]; exact rfl) (by simp [go_sem, simprocAttr, eGraph, eChange]) ?_
  refine CWops.done ?_
  refine CW.seq ?_
  refine CW.rg ?_
  refine CWops.run htt 2 (by simp only [go_sem, simprocAttr, eGraph, eVal]; exact rfl) (by simp [go_sem, simprocAttr, eGraph, eVal]) ?_
  refine CWops.callA ((by have h := graph_Set up twG 0 0 ⟨8, ⟨#[]⟩, 0⟩ twG_sz; rw [twD_set] at h; exact h)) (by simp only [go_sem, simprocAttr, eGraph, eVal]) (by simp only [go_sem, simprocAttr, eGraph, eVal]; first | done | exact rfl) (by simp only [go_sem, simprocAttr, eGraph, eVal]) (by simp only [go_sem, simprocAttr, eGraph, eVal]) (fun rt37 hrt37 => ?_)
  subst hrt37
  refine CWops.run htt 6 (by simp only [go_sem, simprocAttr, eGraph, eVal]; exact rfl) (by simp [go_sem, simprocAttr, eGraph, eVal]) ?_
  refine CWops.done ?_
  refine CW.seq ?_
  refine CW.rg ?_
  refine CWops.run htt 3 (by simp only [go_sem, simprocAttr, eGraph, eChange]; exact rfl) (by simp [go_sem, simprocAttr, eGraph, eChange]) ?_
  refine CWops.callA (aw15Clash up) (by simp only [go_sem, simprocAttr, eGraph, eChange]) (by simp only [go_sem, simprocAttr, eGraph, eChange]; first | done | exact rfl) (by simp only [go_sem, simprocAttr, eGraph, eChange]) (by simp only [go_sem, simprocAttr, eGraph, eChange]) (fun rt44 hrt44 => ?_)
  subst hrt44
  refine CWops.run htt 6 (by simp only [go_sem, simprocAttr, eGraph, eChange]; exact rfl) (by simp [go_sem, simprocAttr, eGraph, eChange]) ?_
  refine CWops.done ?_
  refine CW.seq ?_
  refine CW.rg ?_
  refine CWops.run htt 3 (by simp only [go_sem, simprocAttr, eGraph, eChange, noChange, twR, eObj, eVal, eP, eI, List.map, List.length_cons, List.length_nil, List.getElem?_cons_zero, List.getElem?_cons_succ, Int.toNat_one, Int.toNat_zero]; exact rfl) (by simp [go_sem, simprocAttr, eGraph, eChange, noChange, twR, eObj, eVal, eP, eI, List.map, List.length_cons, List.length_nil, List.getElem?_cons_zero, List.getElem?_cons_succ, Int.toNat_one, Int.toNat_zero]) ?_
  all_goals (first | refine CWops.guard 49 (by simp only [go_sem, simprocAttr, eGraph, eChange, noChange, twR, eObj, eVal, eP, eI, List.map, List.length_cons, List.length_nil, List.getElem?_cons_zero, List.getElem?_cons_succ, Int.toNat_one, Int.toNat_zero]; exact rfl) (fun g49 => ?_) (fun g49 => ?_) | skip)
  all_goals (first | (simp at g49; done) | (cases g49; done) | skip)
  all_goals (refine CWops.run htt 4 (by simp only [go_sem, simprocAttr, eGraph, eChange, noChange, twR, eObj, eVal, eP, eI, List.map, List.length_cons, List.length_nil, List.getElem?_cons_zero, List.getElem?_cons_succ, Int.toNat_one, Int.toNat_zero]; exact rfl) (by simp [go_sem, simprocAttr, eGraph, eChange, noChange, twR, eObj, eVal, eP, eI, List.map, List.length_cons, List.length_nil, List.getElem?_cons_zero, List.getElem?_cons_succ, Int.toNat_one, Int.toNat_zero]) ?_)
  all_goals (first | refine CWops.guard 53 (by simp only [go_sem, simprocAttr, eGraph, eChange, noChange, twR, eObj, eVal, eP, eI, List.map, List.length_cons, List.length_nil, List.getElem?_cons_zero, List.getElem?_cons_succ, Int.toNat_one, Int.toNat_zero]; exact rfl) (fun g53 => ?_) (fun g53 => ?_) | skip)
  all_goals (first | (simp at g53; done) | (cases g53; done) | skip)
  all_goals (refine CWops.run htt 4 (by simp only [go_sem, simprocAttr, eGraph, eChange, noChange, twR, eObj, eVal, eP, eI, List.map, List.length_cons, List.length_nil, List.getElem?_cons_zero, List.getElem?_cons_succ, Int.toNat_one, Int.toNat_zero]; exact rfl) (by simp [go_sem, simprocAttr, eGraph, eChange, noChange, twR, eObj, eVal, eP, eI, List.map, List.length_cons, List.length_nil, List.getElem?_cons_zero, List.getElem?_cons_succ, Int.toNat_one, Int.toNat_zero]) ?_)
  all_goals (first | refine CWops.guard 57 (by simp only [go_sem, simprocAttr, eGraph, eChange, noChange, twR, eObj, eVal, eP, eI, List.map, List.length_cons, List.length_nil, List.getElem?_cons_zero, List.getElem?_cons_succ, Int.toNat_one, Int.toNat_zero]; exact rfl) (fun g57 => ?_) (fun g57 => ?_) | skip)
  all_goals (first | (simp at g57; done) | (cases g57; done) | skip)
  all_goals (refine CWops.run htt 1 (by simp only [go_sem, simprocAttr, eGraph, eChange, noChange, twR, eObj, eVal, eP, eI, List.map, List.length_cons, List.length_nil, List.getElem?_cons_zero, List.getElem?_cons_succ, Int.toNat_one, Int.toNat_zero]; exact rfl) (by simp [go_sem, simprocAttr, eGraph, eChange, noChange, twR, eObj, eVal, eP, eI, List.map, List.length_cons, List.length_nil, List.getElem?_cons_zero, List.getElem?_cons_succ, Int.toNat_one, Int.toNat_zero]) ?_)
  all_goals (first | (refine CWops.skip ?_ ?_; next => (simp only [go_sem, simprocAttr]; done)) | (refine CWops.call (diff_None up noChange (by decide)) (by simp only [go_sem, simprocAttr, eGraph, eChange, noChange, twR, eObj, eVal, eP, eI, List.map, List.length_cons, List.length_nil, List.getElem?_cons_zero, List.getElem?_cons_succ, Int.toNat_one, Int.toNat_zero]) (by simp only [go_sem, simprocAttr, eGraph, eChange, noChange, twR, eObj, eVal, eP, eI, List.map, List.length_cons, List.length_nil, List.getElem?_cons_zero, List.getElem?_cons_succ, Int.toNat_one, Int.toNat_zero]; first | done | exact rfl) (by simp only [go_sem, simprocAttr, eGraph, eChange, noChange, twR, eObj, eVal, eP, eI, List.map, List.length_cons, List.length_nil, List.getElem?_cons_zero, List.getElem?_cons_succ, Int.toNat_one, Int.toNat_zero]) (fun rt59 hrt59 => ?_); subst hrt59; refine ⟨rfl, ?_⟩))
  all_goals (refine CWops.run htt 2 (by simp only [go_sem, simprocAttr, eGraph, eChange, noChange, twR, eObj, eVal, eP, eI, List.map, List.length_cons, List.length_nil, List.getElem?_cons_zero, List.getElem?_cons_succ, Int.toNat_one, Int.toNat_zero]; exact rfl) (by simp [go_sem, simprocAttr, eGraph, eChange, noChange, twR, eObj, eVal, eP, eI, List.map, List.length_cons, List.length_nil, List.getElem?_cons_zero, List.getElem?_cons_succ, Int.toNat_one, Int.toNat_zero]) ?_)
  all_goals (first | refine CWops.guard 61 (by simp only [go_sem, simprocAttr, eGraph, eChange, noChange, twR, eObj, eVal, eP, eI, List.map, List.length_cons, List.length_nil, List.getElem?_cons_zero, List.getElem?_cons_succ, Int.toNat_one, Int.toNat_zero]; exact rfl) (fun g61 => ?_) (fun g61 => ?_) | skip)
  all_goals (first | (simp at g61; done) | (cases g61; done) | skip)
  all_goals (refine CWops.run htt 6 (by simp only [go_sem, simprocAttr, eGraph, eChange, noChange, twR, eObj, eVal, eP, eI, List.map, List.length_cons, List.length_nil, List.getElem?_cons_zero, List.getElem?_cons_succ, Int.toNat_one, Int.toNat_zero]; exact rfl) (by simp [go_sem, simprocAttr, eGraph, eChange, noChange, twR, eObj, eVal, eP, eI, List.map, List.length_cons, List.length_nil, List.getElem?_cons_zero, List.getElem?_cons_succ, Int.toNat_one, Int.toNat_zero]) ?_)
  all_goals (first | refine CWops.guard 67 (by simp only [go_sem, simprocAttr, eGraph, eChange, noChange, twR, eObj, eVal, eP, eI, List.map, List.length_cons, List.length_nil, List.getElem?_cons_zero, List.getElem?_cons_succ, Int.toNat_one, Int.toNat_zero]; exact rfl) (fun g67 => ?_) (fun g67 => ?_) | skip)
  all_goals (first | (simp at g67; done) | (cases g67; done) | skip)
  all_goals (refine CWops.run htt 11 (by simp only [go_sem, simprocAttr, eGraph, eChange, noChange, twR, eObj, eVal, eP, eI, List.map, List.length_cons, List.length_nil, List.getElem?_cons_zero, List.getElem?_cons_succ, Int.toNat_one, Int.toNat_zero]; exact rfl) (by simp [go_sem, simprocAttr, eGraph, eChange, noChange, twR, eObj, eVal, eP, eI, List.map, List.length_cons, List.length_nil, List.getElem?_cons_zero, List.getElem?_cons_succ, Int.toNat_one, Int.toNat_zero]) ?_)
  all_goals (first | refine CWops.guard 78 (by simp only [go_sem, simprocAttr, eGraph, eChange, noChange, twR, eObj, eVal, eP, eI, List.map, List.length_cons, List.length_nil, List.getElem?_cons_zero, List.getElem?_cons_succ, Int.toNat_one, Int.toNat_zero]; exact rfl) (fun g78 => ?_) (fun g78 => ?_) | skip)
  all_goals (first | (simp at g78; done) | (cases g78; done) | skip)
  all_goals (refine CWops.run htt 11 (by simp only [go_sem, simprocAttr, eGraph, eChange, noChange, twR, eObj, eVal, eP, eI, List.map, List.length_cons, List.length_nil, List.getElem?_cons_zero, List.getElem?_cons_succ, Int.toNat_one, Int.toNat_zero]; exact rfl) (by simp [go_sem, simprocAttr, eGraph, eChange, noChange, twR, eObj, eVal, eP, eI, List.map, List.length_cons, List.length_nil, List.getElem?_cons_zero, List.getElem?_cons_succ, Int.toNat_one, Int.toNat_zero]) ?_)
  all_goals (first | refine CWops.guard 89 (by simp only [go_sem, simprocAttr, eGraph, eChange, noChange, twR, eObj, eVal, eP, eI, List.map, List.length_cons, List.length_nil, List.getElem?_cons_zero, List.getElem?_cons_succ, Int.toNat_one, Int.toNat_zero]; exact rfl) (fun g89 => ?_) (fun g89 => ?_) | skip)
  all_goals (first | (simp at g89; done) | (cases g89; done) | skip)
  all_goals (refine CWops.run htt 4 (by simp only [go_sem, simprocAttr, eGraph, eChange, noChange, twR, eObj, eVal, eP, eI, List.map, List.length_cons, List.length_nil, List.getElem?_cons_zero, List.getElem?_cons_succ, Int.toNat_one, Int.toNat_zero]; exact rfl) (by simp [go_sem, simprocAttr, eGraph, eChange, noChange, twR, eObj, eVal, eP, eI, List.map, List.length_cons, List.length_nil, List.getElem?_cons_zero, List.getElem?_cons_succ, Int.toNat_one, Int.toNat_zero]) ?_)
  all_goals (first | refine CWops.guard 93 (by simp only [go_sem, simprocAttr, eGraph, eChange, noChange, twR, eObj, eVal, eP, eI, List.map, List.length_cons, List.length_nil, List.getElem?_cons_zero, List.getElem?_cons_succ, Int.toNat_one, Int.toNat_zero]; exact rfl) (fun g93 => ?_) (fun g93 => ?_) | skip)
  all_goals (first | (simp at g93; done) | (cases g93; done) | skip)
  all_goals (refine CWops.run htt 4 (by simp only [go_sem, simprocAttr, eGraph, eChange, noChange, twR, eObj, eVal, eP, eI, List.map, List.length_cons, List.length_nil, List.getElem?_cons_zero, List.getElem?_cons_succ, Int.toNat_one, Int.toNat_zero]; exact rfl) (by simp [go_sem, simprocAttr, eGraph, eChange, noChange, twR, eObj, eVal, eP, eI, List.map, List.length_cons, List.length_nil, List.getElem?_cons_zero, List.getElem?_cons_succ, Int.toNat_one, Int.toNat_zero]) ?_)
  all_goals (first | refine CWops.guard 97 (by simp only [go_sem, simprocAttr, eGraph, eChange, noChange, twR, eObj, eVal, eP, eI, List.map, List.length_cons, List.length_nil, List.getElem?_cons_zero, List.getElem?_cons_succ, Int.toNat_one, Int.toNat_zero]; exact rfl) (fun g97 => ?_) (fun g97 => ?_) | skip)
  all_goals (first | (simp at g97; done) | (cases g97; done) | skip)
  all_goals (refine CWops.run htt 6 (by simp only [go_sem, simprocAttr, eGraph, eChange, noChange, twR, eObj, eVal, eP, eI, List.map, List.length_cons, List.length_nil, List.getElem?_cons_zero, List.getElem?_cons_succ, Int.toNat_one, Int.toNat_zero]; exact rfl) (by simp [go_sem, simprocAttr, eGraph, eChange, noChange, twR, eObj, eVal, eP, eI, List.map, List.length_cons, List.length_nil, List.getElem?_cons_zero, List.getElem?_cons_succ, Int.toNat_one, Int.toNat_zero]) ?_)
  all_goals (refine CWops.done ?_)
  all_goals (
    refine CW.ret ?_
    refine retQ.ret (by simp only [f6, go_sem, simprocAttr]; exact rfl) (by simp only [go_sem, simprocAttr]; exact rfl) ?_ -- ret1
    refine ⟨_, ?_, rfl⟩
    first | (simp [leP]; done) | (simp [leP, gNone, noChange]; done) | contradiction)
theorem law15_few (up : Bool) (o a b : Graph) : PCall prog up 7 [.agg (eGraph o), .agg (eGraph a), .agg (eGraph b)] (· = .bool ((fewG o && fewG a) && fewG b)) := by
  refine PCall.intro htt func7 (by kernel_rfl) rfl (Nat.le_of_ble_eq_true rfl) fun hl => ?_

  simp only [tmps0, Nat.reduceAdd]
  refine CW.seq ?_
  refine CW.rg ?_
  refine CWops.run htt 4 (by simp only [go_sem, simprocAttr, eGraph]; exact rfl) (by simp [go_sem, simprocAttr, eGraph]) ?_
  refine CWops.done ?_
  refine CW.seq ?_
  refine CW.rg ?_
  refine CWops.run htt 1 (by simp only [go_sem, simprocAttr, eGraph]; exact rfl) (by simp [go_sem, simprocAttr, eGraph]) ?_
  refine CWops.call (law08_Few up o) (by simp only [go_sem, simprocAttr, eGraph]) (by simp only [go_sem, simprocAttr, eGraph]; first | done | exact rfl) (by simp only [go_sem, simprocAttr, eGraph]) (fun rt11 hrt11 => ?_)
  subst hrt11; refine ⟨rfl, ?_⟩
  refine CWops.run htt 1 (by simp only [go_sem, simprocAttr, eGraph]; exact rfl) (by simp [go_sem, simprocAttr, eGraph]) ?_
  refine CWops.done ?_
  refine CW.seq ?_
  refine CW.rg ?_
  refine CWops.run htt 1 (by simp only [go_sem, simprocAttr, eGraph]; exact rfl) (by simp [go_sem, simprocAttr, eGraph]) ?_
  refine CWops.call (law08_Few up a) (by simp only [go_sem, simprocAttr, eGraph]) (by simp only [go_sem, simprocAttr, eGraph]; first | done | exact rfl) (by simp only [go_sem, simprocAttr, eGraph]) (fun rt13 hrt13 => ?_)
  subst hrt13; refine ⟨rfl, ?_⟩
  refine CWops.run htt 1 (by simp only [go_sem, simprocAttr, eGraph]; exact rfl) (by simp [go_sem, simprocAttr, eGraph]) ?_
  refine CWops.done ?_
  refine CW.seq ?_
  refine CW.rg ?_
  refine CWops.run htt 1 (by simp only [go_sem, simprocAttr, eGraph]; exact rfl) (by simp [go_sem, simprocAttr, eGraph]) ?_
  refine CWops.call (law08_Few up b) (by simp only [go_sem, simprocAttr, eGraph]) (by simp only [go_sem, simprocAttr, eGraph]; first | done | exact rfl) (by simp only [go_sem, simprocAttr, eGraph]) (fun rt15 hrt15 => ?_)
  subst hrt15; refine ⟨rfl, ?_⟩
  refine CWops.run htt 1 (by simp only [go_sem, simprocAttr, eGraph]; exact rfl) (by simp [go_sem, simprocAttr, eGraph]) ?_
  refine CWops.done ?_
  refine CW.seq ?_
  refine CW.rg ?_
  refine CWops.rn htt 2 ?_
  all_goals (first | refine CWops.guard 17 (by simp only [go_sem, simprocAttr]; exact rfl) (fun g17 => ?_) (fun g17 => ?_) | skip)
  all_goals (refine CWops.rn htt 3 ?_)
  all_goals (first | refine CWops.guard 20 (by simp only [go_sem, simprocAttr]; exact rfl) (fun g20 => ?_) (fun g20 => ?_) | skip)
  all_goals (refine CWops.rn htt 3 ?_)
  all_goals (refine CWops.done ?_)
  all_goals (
    refine CW.ret ?_
    refine retQ.ret (by simp only [f7, go_sem, simprocAttr]; exact rfl) (by simp only [go_sem, simprocAttr]; exact rfl) ?_ -- ret1
    refine ⟨_, ?_, rfl⟩
    first | (simp [leP]; done) | (simp_all [leP]; done))
end Go.Ab
namespace Go.Ab
open Go Go.Proofs.Try
set_option maxRecDepth 100000
set_option maxHeartbeats 6400000
set_option linter.unusedSimpArgs false
set_option linter.unusedVariables false
theorem sets_cases {g a b : Graph} {id k e f : Int} {v w : GVal} (ha : gSet g id k v = (a, e)) (hb : gSet g id k w = (b, f)) :
    ∃ (p q : Nat) (x : GObj) (u : GVal), (¬ (e = 0 ∧ f = 0) ∧ True ∧ True ∧ True ∧ True ∧ True ∧ True) ∨ ((e = 0 ∧ f = 0) ∧ fnd (fun o => decide (o.Id = id)) g.O = p ∧ g.O[p]? = some x ∧ k = q ∧ x.F[q]? = some u ∧ p < g.O.length ∧ q < x.F.length) := by
  by_cases h : e = 0 ∧ f = 0
  · obtain ⟨rfl, rfl⟩ := h
    obtain ⟨p, q, x, u, h1, h2, h3, h4, _⟩ := clash_sets ha hb
    exact ⟨p, q, x, u, .inr ⟨⟨rfl, rfl⟩, h1, h2, h3, h4, (List.getElem?_eq_some_iff.1 h2).1, (List.getElem?_eq_some_iff.1 h4).1⟩⟩
  · exact ⟨0, 0, ⟨0, 0, []⟩, ⟨0, ⟨#[]⟩, 0⟩, .inl ⟨h, trivial, trivial, trivial, trivial, trivial, trivial⟩⟩
theorem law15_MergeClashes (up : Bool) (g : Graph) (id k : Int) (v w : GVal) (hz : GSz g) : PCall prog up 3 [.agg (eGraph g), .int .i64 id, .int .i64 k, .agg (eVal v), .agg (eVal w)] (· = .bool true) := by
  refine PCall.intro htt func3 (by kernel_rfl) rfl (Nat.le_of_ble_eq_true rfl) fun hl => ?_

  simp only [tmps0, Nat.reduceAdd]
  refine CW.seq ?_
  refine CW.rg ?_
  refine CWops.run htt 4 (by simp only [go_sem, simprocAttr, eGraph, eVal]; exact rfl) (by simp [go_sem, simprocAttr, eGraph, eVal]) ?_
  refine CWops.done ?_
  refine CW.seq ?_
  refine CW.rg ?_
  refine CWops.callA (law15_awake up) (by simp only [go_sem, simprocAttr]) (by simp only [go_sem, simprocAttr]; first | done | exact rfl) (by simp only [go_sem, simprocAttr]) (by simp only [go_sem, simprocAttr]) (fun rt22 hrt22 => ?_)
  subst hrt22
  refine CWops.rn htt 1 ?_
  refine CWops.done ?_
  refine CW.seq ?_
  refine CW.rg ?_
  refine CWops.run htt 3 (by simp only [go_sem, simprocAttr, eGraph]; exact rfl) (by simp [go_sem, simprocAttr, eGraph]) ?_
  refine CWops.call (law15_few up g g g) (by simp only [go_sem, simprocAttr, eGraph]) (by simp only [go_sem, simprocAttr, eGraph]; first | done | exact rfl) (by simp only [go_sem, simprocAttr, eGraph]) (fun rt26 hrt26 => ?_)
  subst hrt26; refine ⟨rfl, ?_⟩
  refine CWops.run htt 1 (by simp only [go_sem, simprocAttr, eGraph]; exact rfl) (by simp [go_sem, simprocAttr, eGraph]) ?_
  refine CWops.done ?_
  refine CW.seq ?_
  refine CW.cut ⟨3, [(1, .int .i64 id), (2, .int .i64 k), (5, .lv 0 [] 0), (8, .lv 1 [] 0), (9, .lv 2 [] 0), (11, .bool true), (32, .bool (!((fewG g && fewG g) && fewG g)))], [(0, ⟨true, eGraph g⟩), (1, ⟨true, eVal v⟩), (2, ⟨true, eVal w⟩)]⟩ ?_ ?_
  · refine CW.rg ?_
    refine CWops.rn htt 3 ?_
    all_goals (first | refine CWops.guard 29 (by simp only [go_sem, simprocAttr]; exact rfl) (fun g29 => ?_) (fun g29 => ?_) | skip)
    all_goals (first | (simp at g29; done) | (exfalso; simp_all; done) | skip)
    all_goals (refine CWops.rn htt 3 ?_)
    all_goals (refine CWops.done ?_)
    all_goals (
      first | refine ⟨rfl, Sh.wk0 ?_⟩ | refine Sh.wk0 ?_
      simp_all [Wk, go_sem, simprocAttr, eGraph, eVal] <;> first | done | rfl | omega | (rw [Bool.eq_iff_iff]; simp; done))
  refine CW.cond (by simp only [go_sem, simprocAttr]; first | done | exact rfl) (fun ct32 => ?_) (fun ct32 => ?_)
  · refine CW.seq ?_
    refine CW.rg ?_
    refine CWops.rn htt 2 ?_
    refine CWops.done ?_
    refine CW.ret ?_
    refine retQ.ret (by simp only [f3, go_sem, simprocAttr]; exact rfl) (by simp only [go_sem, simprocAttr]; exact rfl) ?_ -- ret1
    refine ⟨_, ?_, rfl⟩
    first | (simp [leP]; done) | (simp [leP, gNone, noChange]; done) | (simp_all [leP, gNone, noChange]; done)
  · obtain ⟨⟨a, e⟩, ha⟩ : ∃ p, gSet g id k v = p := ⟨_, rfl⟩
    obtain ⟨⟨b, f⟩, hb⟩ : ∃ p, gSet g id k w = p := ⟨_, rfl⟩
    have hs := sets_cases ha hb
    obtain ⟨p, q, x, u, hs⟩ := hs
    refine CW.skip ?_
    refine CW.seq ?_
    refine CW.rg ?_
    refine CWops.run htt 4 (by simp only [go_sem, simprocAttr, eGraph, eVal]; exact rfl) (by simp [go_sem, simprocAttr, eGraph, eVal]) ?_
    refine CWops.callA ((by have h := graph_Set up g id k v hz; rw [ha] at h; exact h)) (by simp only [go_sem, simprocAttr, eGraph, eVal]) (by simp only [go_sem, simprocAttr, eGraph, eVal]; first | done | exact rfl) (by simp only [go_sem, simprocAttr, eGraph, eVal]) (by simp only [go_sem, simprocAttr, eGraph, eVal]) (fun rt39 hrt39 => ?_)
    subst hrt39
    refine CWops.run htt 6 (by simp only [go_sem, simprocAttr, eGraph, eVal]; exact rfl) (by simp [go_sem, simprocAttr, eGraph, eVal]) ?_
    refine CWops.done ?_
    refine CW.seq ?_
    refine CW.rg ?_
    refine CWops.run htt 4 (by simp only [go_sem, simprocAttr, eGraph, eVal]; exact rfl) (by simp [go_sem, simprocAttr, eGraph, eVal]) ?_
    refine CWops.callA ((by have h := graph_Set up g id k w hz; rw [hb] at h; exact h)) (by simp only [go_sem, simprocAttr, eGraph, eVal]) (by simp only [go_sem, simprocAttr, eGraph, eVal]; first | done | exact rfl) (by simp only [go_sem, simprocAttr, eGraph, eVal]) (by simp only [go_sem, simprocAttr, eGraph, eVal]) (fun rt47 hrt47 => ?_)
    subst hrt47
    refine CWops.run htt 6 (by simp only [go_sem, simprocAttr, eGraph, eVal]; exact rfl) (by simp [go_sem, simprocAttr, eGraph, eVal]) ?_
    refine CWops.done ?_
    refine CW.seq ?_
    refine CW.rg ?_
    refine CWops.run htt 2 (by simp only [go_sem, simprocAttr, eGraph]; exact rfl) (by simp [go_sem, simprocAttr, eGraph]) ?_
    refine CWops.call (graph_Find up g id) (by simp only [go_sem, simprocAttr, eGraph]) (by simp only [go_sem, simprocAttr, eGraph]; first | done | exact rfl) (by simp only [go_sem, simprocAttr, eGraph]) (fun rt52 hrt52 => ?_)
    subst hrt52; refine ⟨rfl, ?_⟩
    refine CWops.run htt 1 (by simp only [go_sem, simprocAttr, eGraph]; exact rfl) (by simp [go_sem, simprocAttr, eGraph]) ?_
    refine CWops.done ?_
    refine CW.seq ?_
    refine CW.cut ⟨5, [(1, .int .i64 id), (2, .int .i64 k), (5, .lv 0 [] 0), (8, .lv 1 [] 0), (9, .lv 2 [] 0), (13, .lv 3 [] 0), (15, .lv 4 [] 0), (17, .int .i64 (fnd (fun o => decide (o.Id = id)) g.O)), (84, .bool (!decide (e = 0 ∧ f = 0)))], [(0, ⟨true, eGraph g⟩), (1, ⟨true, eVal v⟩), (2, ⟨true, eVal w⟩), (3, ⟨true, eGraph a⟩), (4, ⟨true, eGraph b⟩)]⟩ ?_ ?_
    · rcases hs with ⟨hef, hp, hO, hq, hu, hpl, hql⟩ | ⟨hef, hp, hO, hq, hu, hpl, hql⟩
      all_goals (refine CW.rg ?_)
      all_goals (refine CWops.run htt 3 (by simp only [go_sem, simprocAttr, eGraph, hp, hO, hq, hpl, hql, eObj]; exact rfl) (by simp [go_sem, simprocAttr, eGraph, hp, hO, hq, hpl, hql, eObj]) ?_)
      all_goals (first | refine CWops.guard 55 (by simp only [go_sem, simprocAttr, eGraph, hp, hO, hq, hpl, hql, eObj]; exact rfl) (fun g55 => ?_) (fun g55 => ?_) | skip)
      all_goals (first | (simp at g55; done) | (exfalso; simp_all; done) | skip)
      all_goals (refine CWops.run htt 4 (by simp only [go_sem, simprocAttr, eGraph, hp, hO, hq, hpl, hql, eObj]; exact rfl) (by simp [go_sem, simprocAttr, eGraph, hp, hO, hq, hpl, hql, eObj]) ?_)
      all_goals (first | refine CWops.guard 59 (by simp only [go_sem, simprocAttr, eGraph, hp, hO, hq, hpl, hql, eObj]; exact rfl) (fun g59 => ?_) (fun g59 => ?_) | skip)
      all_goals (first | (simp at g59; done) | (exfalso; simp_all; done) | skip)
      all_goals (refine CWops.run htt 4 (by simp only [go_sem, simprocAttr, eGraph, hp, hO, hq, hpl, hql, eObj]; exact rfl) (by simp [go_sem, simprocAttr, eGraph, hp, hO, hq, hpl, hql, eObj]) ?_)
      all_goals (first | refine CWops.guard 63 (by simp only [go_sem, simprocAttr, eGraph, hp, hO, hq, hpl, hql, eObj]; exact rfl) (fun g63 => ?_) (fun g63 => ?_) | skip)
      all_goals (first | (simp at g63; done) | (exfalso; simp_all; done) | skip)
      all_goals (refine CWops.run htt 7 (by simp only [go_sem, simprocAttr, eGraph, hp, hO, hq, hpl, hql, eObj]; exact rfl) (by simp [go_sem, simprocAttr, eGraph, hp, hO, hq, hpl, hql, eObj]) ?_)
      all_goals (first | refine CWops.guard 70 (by simp only [go_sem, simprocAttr, eGraph, hp, hO, hq, hpl, hql, eObj]; exact rfl) (fun g70 => ?_) (fun g70 => ?_) | skip)
      all_goals (first | (simp at g70; done) | (exfalso; simp_all; done) | skip)
      all_goals (refine CWops.run htt 4 (by simp only [go_sem, simprocAttr, eGraph, hp, hO, hq, hpl, hql, eObj]; exact rfl) (by simp [go_sem, simprocAttr, eGraph, hp, hO, hq, hpl, hql, eObj]) ?_)
      all_goals (first | refine CWops.guard 74 (by simp only [go_sem, simprocAttr, eGraph, hp, hO, hq, hpl, hql, eObj]; exact rfl) (fun g74 => ?_) (fun g74 => ?_) | skip)
      all_goals (first | (simp at g74; done) | (exfalso; simp_all; done) | skip)
      all_goals (refine CWops.run htt 10 (by simp only [go_sem, simprocAttr, eGraph, hp, hO, hq, hpl, hql, eObj]; exact rfl) (by simp [go_sem, simprocAttr, eGraph, hp, hO, hq, hpl, hql, eObj]) ?_)
      all_goals (refine CWops.done ?_)
      all_goals (
        first | refine ⟨rfl, Sh.wk0 ?_⟩ | refine Sh.wk0 ?_
        simp_all [Wk, go_sem, simprocAttr, eGraph, eVal] <;> first | done | rfl | omega | (rw [Bool.eq_iff_iff]; simp; done))
    refine CW.cond (by simp only [go_sem, simprocAttr]; first | done | exact rfl) (fun ct84 => ?_) (fun ct84 => ?_)
    · refine CW.seq ?_
      refine CW.rg ?_
      refine CWops.rn htt 1 ?_
      refine CWops.done ?_
      refine CW.ret ?_
      refine retQ.ret (by simp only [f3, go_sem, simprocAttr]; exact rfl) (by simp only [go_sem, simprocAttr]; exact rfl) ?_ -- ret2
      refine ⟨_, ?_, rfl⟩
      first | (simp [leP]; done) | (simp [leP, gNone, noChange]; done) | (simp_all [leP, gNone, noChange]; done)
    · have hef : e = 0 ∧ f = 0 := by simpa using ct84
      obtain ⟨_, hp, hO, hq, hu, hpl, hql⟩ := hs.resolve_left fun h => h.1 hef
      obtain ⟨rfl, rfl⟩ := hef
      obtain ⟨⟨G, C, E⟩, hM⟩ : ∃ p, gMerge g a b = p := ⟨_, rfl⟩
      have hcs := clash_sets ha hb
      rw [hM] at hcs
      obtain ⟨p', q', x', u', c1, c2, c3, c4, hcs⟩ := hcs
      obtain rfl : p = p' := by omega
      obtain rfl : x = x' := by rw [hO] at c2; cases c2; rfl
      obtain rfl : q = q' := by omega
      obtain rfl : u = u' := by rw [hu] at c4; cases c4; rfl
      simp only [Prod.mk.injEq] at hcs
      refine CW.skip ?_
      refine CW.seq ?_
      refine CW.rg ?_
      refine CWops.run htt 3 (by simp only [go_sem, simprocAttr, eGraph]; exact rfl) (by simp [go_sem, simprocAttr, eGraph]) ?_
      refine CWops.callA ((by have h := merge_MergeG up g a b; rw [hM] at h; exact h)) (by simp only [go_sem, simprocAttr, eGraph]) (by simp only [go_sem, simprocAttr, eGraph]; first | done | exact rfl) (by simp only [go_sem, simprocAttr, eGraph]) (by simp only [go_sem, simprocAttr, eGraph]) (fun rt89 hrt89 => ?_)
      subst hrt89
      refine CWops.run htt 9 (by simp only [go_sem, simprocAttr, eGraph]; exact rfl) (by simp [go_sem, simprocAttr, eGraph]) ?_
      refine CWops.done ?_
      refine CW.seq ?_
      refine CW.rg ?_
      refine CWops.run htt 11 (by simp only [go_sem, simprocAttr, eGraph, hp, hq, hO, hpl, eObj, hu, hql, eVal]; exact rfl) (by simp [go_sem, simprocAttr, eGraph, hp, hq, hO, hpl, eObj, hu, hql, eVal]) ?_
      refine CWops.done ?_
      refine CW.seq ?_
      refine CW.cut ⟨8, [(1, .int .i64 id), (2, .int .i64 k), (5, .lv 0 [] 0), (8, .lv 1 [] 0), (9, .lv 2 [] 0), (18, .lv 5 [] 0), (19, .lv 6 [] 0), (20, .int .i64 E), (114, .bool (decide (v = w ∨ v = u ∨ w = u)))], [(0, ⟨true, eGraph g⟩), (1, ⟨true, eVal v⟩), (2, ⟨true, eVal w⟩), (5, ⟨true, eGraph G⟩), (6, ⟨true, eChange C⟩)]⟩ ?_ ?_
      · refine CW.rg ?_
        refine CWops.run htt 4 (by simp only [go_sem, simprocAttr, eVal]; exact rfl) (by simp [go_sem, simprocAttr, eVal]) ?_
        all_goals (first | refine CWops.guard 105 (by simp only [go_sem, simprocAttr, eVal]; exact rfl) (fun g105 => ?_) (fun g105 => ?_) | skip)
        all_goals (first | (simp at g105; done) | (exfalso; simp_all; done) | skip)
        all_goals (refine CWops.run htt 5 (by simp only [go_sem, simprocAttr, eVal]; exact rfl) (by simp [go_sem, simprocAttr, eVal]) ?_)
        all_goals (first | refine CWops.guard 110 (by simp only [go_sem, simprocAttr, eVal]; exact rfl) (fun g110 => ?_) (fun g110 => ?_) | skip)
        all_goals (first | (simp at g110; done) | (exfalso; simp_all; done) | skip)
        all_goals (refine CWops.run htt 4 (by simp only [go_sem, simprocAttr, eVal]; exact rfl) (by simp [go_sem, simprocAttr, eVal]) ?_)
        all_goals (refine CWops.done ?_)
        all_goals (
          refine ⟨rfl, Sh.wk0 ?_⟩
          rw [val_eqB] at *
          simp_all [Wk, go_sem, simprocAttr, eGraph, eVal, eChange] <;> first | done | (simp [val_eqB] at *; simp_all; done))
      refine CW.cond (by simp only [go_sem, simprocAttr]; first | done | exact rfl) (fun ct114 => ?_) (fun ct114 => ?_)
      · have hcl : v = w ∨ v = u ∨ w = u := by simpa using ct114
        obtain ⟨_, ⟨rfl, rfl⟩, hG⟩ := hcs.resolve_right fun h => h.1 hcl
        refine CW.seq ?_
        refine CW.rg ?_
        refine CWops.run htt 3 (by simp only [go_sem, simprocAttr, eGraph, eChange, noChange]; exact rfl) (by simp [go_sem, simprocAttr, eGraph, eChange, noChange]) ?_
        all_goals (first | refine CWops.guard 117 (by simp only [go_sem, simprocAttr, eGraph, eChange, noChange]; exact rfl) (fun g117 => ?_) (fun g117 => ?_) | skip)
        all_goals (first | (simp at g117; done) | (exfalso; simp_all; done) | skip)
        all_goals (refine CWops.run htt 1 (by simp only [go_sem, simprocAttr, eGraph, eChange, noChange]; exact rfl) (by simp [go_sem, simprocAttr, eGraph, eChange, noChange]) ?_)
        all_goals (first | (refine CWops.skip ?_ ?_; next => (simp only [go_sem, simprocAttr]; done)) | (refine CWops.call (diff_None up noChange (by decide)) (by simp only [go_sem, simprocAttr, eGraph, eChange, noChange]) (by simp only [go_sem, simprocAttr, eGraph, eChange, noChange]; first | done | exact rfl) (by simp only [go_sem, simprocAttr, eGraph, eChange, noChange]) (fun rt119 hrt119 => ?_); subst hrt119; refine ⟨rfl, ?_⟩))
        all_goals (refine CWops.run htt 2 (by simp only [go_sem, simprocAttr, eGraph, eChange, noChange]; exact rfl) (by simp [go_sem, simprocAttr, eGraph, eChange, noChange]) ?_)
        all_goals (first | refine CWops.guard 121 (by simp only [go_sem, simprocAttr, eGraph, eChange, noChange]; exact rfl) (fun g121 => ?_) (fun g121 => ?_) | skip)
        all_goals (first | (simp at g121; done) | (exfalso; simp_all; done) | skip)
        all_goals (refine CWops.run htt 1 (by simp only [go_sem, simprocAttr, eGraph, eChange, noChange]; exact rfl) (by simp [go_sem, simprocAttr, eGraph, eChange, noChange]) ?_)
        all_goals (first | (refine CWops.skip ?_ ?_; next => (simp only [go_sem, simprocAttr]; done)) | (refine CWops.call ((by have h := graph_May up G; rw [hG] at h; exact h)) (by simp only [go_sem, simprocAttr, eGraph, eChange, noChange]) (by simp only [go_sem, simprocAttr, eGraph, eChange, noChange]; first | done | exact rfl) (by simp only [go_sem, simprocAttr, eGraph, eChange, noChange]) (fun rt123 hrt123 => ?_); subst hrt123; refine ⟨rfl, ?_⟩))
        all_goals (refine CWops.run htt 2 (by simp only [go_sem, simprocAttr, eGraph, eChange, noChange]; exact rfl) (by simp [go_sem, simprocAttr, eGraph, eChange, noChange]) ?_)
        all_goals (refine CWops.done ?_)
        all_goals (
          refine CW.ret ?_
          refine retQ.ret (by simp only [f3, go_sem, simprocAttr]; exact rfl) (by simp only [go_sem, simprocAttr]; exact rfl) ?_ -- ret3
          refine ⟨_, ?_, rfl⟩
          first | (simp [leP]; done) | (simp [leP, gNone, noChange]; done) | (simp_all [leP, gNone, noChange]; done))
      · have hcl : ¬ (v = w ∨ v = u ∨ w = u) := by simpa using ct114
        obtain ⟨_, rfl, rfl, rfl⟩ := hcs.resolve_left fun h => hcl h.1
        refine CW.skip ?_
        refine CW.seq ?_
        refine CW.rg ?_
        refine CWops.run htt 3 (by simp only [go_sem, simprocAttr, eGraph, eChange, List.map, List.length_cons, List.length_nil, List.getElem?_cons_zero, eP]; exact rfl) (by simp [go_sem, simprocAttr, eGraph, eChange, List.map, List.length_cons, List.length_nil, List.getElem?_cons_zero, eP]) ?_
        all_goals (first | refine CWops.guard 127 (by simp only [go_sem, simprocAttr, eGraph, eChange, List.map, List.length_cons, List.length_nil, List.getElem?_cons_zero, eP]; exact rfl) (fun g127 => ?_) (fun g127 => ?_) | skip)
        all_goals (first | (simp at g127; done) | (exfalso; simp_all; done) | skip)
        all_goals (refine CWops.run htt 6 (by simp only [go_sem, simprocAttr, eGraph, eChange, List.map, List.length_cons, List.length_nil, List.getElem?_cons_zero, eP]; exact rfl) (by simp [go_sem, simprocAttr, eGraph, eChange, List.map, List.length_cons, List.length_nil, List.getElem?_cons_zero, eP]) ?_)
        all_goals (first | refine CWops.guard 133 (by simp only [go_sem, simprocAttr, eGraph, eChange, List.map, List.length_cons, List.length_nil, List.getElem?_cons_zero, eP]; exact rfl) (fun g133 => ?_) (fun g133 => ?_) | skip)
        all_goals (first | (simp at g133; done) | (exfalso; simp_all; done) | skip)
        all_goals (refine CWops.run htt 6 (by simp only [go_sem, simprocAttr, eGraph, eChange, List.map, List.length_cons, List.length_nil, List.getElem?_cons_zero, eP]; exact rfl) (by simp [go_sem, simprocAttr, eGraph, eChange, List.map, List.length_cons, List.length_nil, List.getElem?_cons_zero, eP]) ?_)
        all_goals (first | refine CWops.guard 139 (by simp only [go_sem, simprocAttr, eGraph, eChange, List.map, List.length_cons, List.length_nil, List.getElem?_cons_zero, eP]; exact rfl) (fun g139 => ?_) (fun g139 => ?_) | skip)
        all_goals (first | (simp at g139; done) | (exfalso; simp_all; done) | skip)
        all_goals (refine CWops.run htt 6 (by simp only [go_sem, simprocAttr, eGraph, eChange, List.map, List.length_cons, List.length_nil, List.getElem?_cons_zero, eP]; exact rfl) (by simp [go_sem, simprocAttr, eGraph, eChange, List.map, List.length_cons, List.length_nil, List.getElem?_cons_zero, eP]) ?_)
        all_goals (first | (refine CWops.skip ?_ ?_; next => (simp only [go_sem, simprocAttr]; done)) | (refine CWops.buildPair htt (k := .i64) (m := id) (n := k) (by simp only [go_sem, simprocAttr]) tt_47 rfl rfl tt_3 rfl (by simp only [go_sem, simprocAttr]) (by simp only [go_sem, simprocAttr]) ?_))
        all_goals (first | (refine CWops.skip ?_ ?_; next => (simp only [go_sem, simprocAttr]; done)) | (refine CWops.eqPair (k := .i64) (a := id) (b := k) (c := id) (d := k) htt (by simp only [go_sem, simprocAttr]) (by kernel_rfl) tt_47 rfl tt_3 rfl rfl (by simp only [go_sem, simprocAttr]) (by simp only [go_sem, simprocAttr]) rfl ?_))
        all_goals (refine CWops.run htt 2 (by simp only [go_sem, simprocAttr, eGraph, eChange, List.map, List.length_cons, List.length_nil, List.getElem?_cons_zero, eP]; exact rfl) (by simp [go_sem, simprocAttr, eGraph, eChange, List.map, List.length_cons, List.length_nil, List.getElem?_cons_zero, eP]) ?_)
        all_goals (first | refine CWops.guard 149 (by simp only [go_sem, simprocAttr, eGraph, eChange, List.map, List.length_cons, List.length_nil, List.getElem?_cons_zero, eP]; exact rfl) (fun g149 => ?_) (fun g149 => ?_) | skip)
        all_goals (first | (simp at g149; done) | (exfalso; simp_all; done) | skip)
        all_goals (refine CWops.run htt 6 (by simp only [go_sem, simprocAttr, eGraph, eChange, List.map, List.length_cons, List.length_nil, List.getElem?_cons_zero, eP]; exact rfl) (by simp [go_sem, simprocAttr, eGraph, eChange, List.map, List.length_cons, List.length_nil, List.getElem?_cons_zero, eP]) ?_)
        all_goals (refine CWops.done ?_)
        all_goals (
          refine CW.ret ?_
          refine retQ.ret (by simp only [f3, go_sem, simprocAttr]; exact rfl) (by simp only [go_sem, simprocAttr]; exact rfl) ?_ -- ret4
          refine ⟨_, ?_, rfl⟩
          first | (simp [leP]; done) | (simp [leP, gNone, noChange]; done) | (simp_all [leP, gNone, noChange]; done))
end Go.Ab
