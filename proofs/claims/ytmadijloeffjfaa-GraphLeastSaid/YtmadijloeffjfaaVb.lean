/-
  What functions of the program answer: each by its contract. No condition but those of each theorem.
-/
import Derived.Test.YtmadijloeffjfaaProg
import Derived.WalkKit
import Derived.Below
import Derived.Scope
import Derived.Orders
import Derived.Test.YtmadijloeffjfaaFa
import Derived.Test.YtmadijloeffjfaaFb
import Derived.Test.YtmadijloeffjfaaFc
import Derived.Test.YtmadijloeffjfaaFd
import Derived.Test.YtmadijloeffjfaaFe
import Derived.Test.YtmadijloeffjfaaDa
import Derived.Test.YtmadijloeffjfaaVa
set_option linter.unusedVariables false
set_option linter.unusedSimpArgs false
namespace Go.Ab
open Go Go.Proofs.Try
open Nat (reduceEqDiff reduceAdd reduceLT reduceLeDiff reduceBEq reduceSub reduceMul)
open Int (reduceToNat)
set_option maxRecDepth 100000
set_option linter.unusedSimpArgs false
set_option linter.unusedVariables false
theorem graph_types (up : Bool) (g : Graph) : PCall prog up 47 [.agg (eGraph g)] (· = .fmap (tmap g.O)) := by
  refine PCall.intro htt func47 (by kernel_rfl) rfl (Nat.le_of_ble_eq_true rfl) fun hl => ?_
  have hL := (hl (.agg (eGraph g)) (by simp)).agg
  have hb := (hL (.sl 3 (g.O.map eObj)) (by simp [eGraph])).sl.1
  simp only [List.length_map] at hb
  simp only [tmps0, Nat.reduceAdd]
  refine CW.seq ?_
  refine CW.region (by kernel_rfl) (by kernel_rfl) ?_ -- r0
  refine CWops.run htt 2 (by simp only [go_sem, reduceIte, reduceCtorEq, reduceEqDiff, reduceAdd, reduceLT, reduceLeDiff, reduceToNat, eGraph]; exact rfl) (by simp [go_sem, reduceIte, reduceCtorEq, reduceEqDiff, reduceAdd, reduceLT, reduceLeDiff, reduceToNat, eGraph]) ?_
  refine CWops.done ?_
  refine CW.seq ?_
  refine CW.region (by kernel_rfl) (by kernel_rfl) ?_ -- r1
  refine CWops.run htt 2 (by simp only [go_sem, reduceIte, reduceCtorEq, reduceEqDiff, reduceAdd, reduceLT, reduceLeDiff, reduceToNat]; exact rfl) (by simp [go_sem, reduceIte, reduceCtorEq, reduceEqDiff, reduceAdd, reduceLT, reduceLeDiff, reduceToNat]) ?_
  refine CWops.done ?_
  refine CW.seq ?_
  refine CW.seq ?_
  refine CW.region (by kernel_rfl) (by kernel_rfl) ?_ -- r2
  refine CWops.run htt 4 (by simp only [go_sem, reduceIte, reduceCtorEq, reduceEqDiff, reduceAdd, reduceLT, reduceLeDiff, reduceToNat, eGraph]; exact rfl) (by simp [go_sem, reduceIte, reduceCtorEq, reduceEqDiff, reduceAdd, reduceLT, reduceLeDiff, reduceToNat, eGraph]) ?_
  refine CWops.done ?_
  refine CW.block ?_
  refine CW.loop (S := Nat) (fun i => ⟨2, [(3, .ref 1 [] 0), (8, .sl 3 (g.O.map eObj)), (9, .int .i64 g.O.length), (10, .int .i64 i)], [(1, ⟨false, [.omap (tmap (g.O.take i))]⟩)]⟩) (fun i => i ≤ g.O.length) (fun i => g.O.length - i) (0) ?_ (Nat.zero_le _) (fun i h1 => ?_)
  · refine Sh.wk0 ?_; simp [Wk, go_sem, reduceIte, reduceCtorEq, reduceEqDiff, reduceAdd, reduceLT, reduceLeDiff, reduceToNat, tmap]
  refine CW.seq ?_
  refine CW.region (by kernel_rfl) (by kernel_rfl) ?_ -- r3
  refine CWops.run htt 1 (by simp only [go_sem, reduceIte, reduceCtorEq, reduceEqDiff, reduceAdd, reduceLT, reduceLeDiff, reduceToNat]; exact rfl) (by simp [go_sem, reduceIte, reduceCtorEq, reduceEqDiff, reduceAdd, reduceLT, reduceLeDiff, reduceToNat]) ?_
  refine CWops.done ?_
  refine CW.seq ?_
  refine CW.cond (by simp only [go_sem, reduceIte, reduceCtorEq, reduceEqDiff, reduceAdd, reduceLT, reduceLeDiff, reduceToNat]; first | done | exact rfl) (fun ct11 => ?_) (fun ct11 => ?_)
  · have hi : i < g.O.length := by simpa using ct11
    obtain ⟨x, hx⟩ : ∃ x, g.O[i]? = some x := ⟨g.O[i], List.getElem?_eq_getElem hi⟩
    refine CW.skip ?_
    refine CW.seq ?_
    refine CW.block ?_
    refine CW.seq ?_
    refine CW.region (by kernel_rfl) (by kernel_rfl) ?_ -- r4
    refine CWops.run htt 4 (by simp only [go_sem, reduceIte, reduceCtorEq, reduceEqDiff, reduceAdd, reduceLT, reduceLeDiff, reduceToNat, hx, eObj]; exact rfl) (by simp [go_sem, reduceIte, reduceCtorEq, reduceEqDiff, reduceAdd, reduceLT, reduceLeDiff, reduceToNat, hx, eObj]) ?_
    refine CWops.done ?_
    refine CW.region (by kernel_rfl) (by kernel_rfl) ?_ -- r5
    refine CWops.run htt 6 (by simp only [go_sem, reduceIte, reduceCtorEq, reduceEqDiff, reduceAdd, reduceLT, reduceLeDiff, reduceToNat, eObj]; exact rfl) (by have := tmap_len (g.O.take i); simp only [List.length_take] at this; simp; omega) ?_
    refine CWops.done ?_
    refine CW.region (by kernel_rfl) (by kernel_rfl) ?_ -- r6
    refine CWops.run htt 2 (by simp only [go_sem, reduceIte, reduceCtorEq, reduceEqDiff, reduceAdd, reduceLT, reduceLeDiff, reduceToNat, wrap_succ (Nat.lt_of_lt_of_le hi hb)]; exact rfl) (by simp [go_sem, reduceIte, reduceCtorEq, reduceEqDiff, reduceAdd, reduceLT, reduceLeDiff, reduceToNat, wrap_succ (Nat.lt_of_lt_of_le hi hb)]) ?_
    refine CWops.done ?_
    refine ⟨i + 1, ?_, ?_, ?_⟩
    · refine Sh.wk0 ?_; simp [Wk, go_sem, reduceIte, reduceCtorEq, reduceEqDiff, reduceAdd, reduceLT, reduceLeDiff, reduceToNat, tmap_succ _ hx]
    · exact hi
    · simp only; omega
  · have hi : i = g.O.length := by simp at ct11; omega
    refine CW.exit ?_
    refine CW.seq ?_
    refine CW.region (by kernel_rfl) (by kernel_rfl) ?_ -- r7
    refine CWops.run htt 2 (by simp only [go_sem, reduceIte, reduceCtorEq, reduceEqDiff, reduceAdd, reduceLT, reduceLeDiff, reduceToNat]; exact rfl) (by simp [go_sem, reduceIte, reduceCtorEq, reduceEqDiff, reduceAdd, reduceLT, reduceLeDiff, reduceToNat]) ?_
    refine CWops.done ?_
    refine CW.ret ?_
    refine retQ.ret (by simp only [f47, go_sem, reduceIte, reduceCtorEq, reduceEqDiff, reduceAdd, reduceLT, reduceLeDiff, reduceToNat]; exact rfl) (by simp only [go_sem, reduceIte, reduceCtorEq, reduceEqDiff, reduceAdd, reduceLT, reduceLeDiff, reduceToNat]; exact rfl) ?_ -- ret1
    refine ⟨_, ?_, rfl⟩
    simp only [leP, hi, List.take_length, AV.freeze]
theorem graph_leads_some (up : Bool) (g : Graph) (f : GField) (v : GVal) (t : Int) (ht : typ g.O v.R = some t) : PCall prog up 55 [.agg (eGraph g), .fmap (tmap g.O), .agg (eField f), .agg (eVal v)] (· = .bool (leadsB g f v)) := by
  refine PCall.intro htt func55 (by kernel_rfl) rfl (Nat.le_of_ble_eq_true rfl) fun hl => ?_

  simp only [tmps0, Nat.reduceAdd]
  refine CW.seq ?_
  refine CW.region (by kernel_rfl) (by kernel_rfl) ?_ -- r0
  refine CWops.run htt 4 (by simp only [go_sem, reduceIte, reduceCtorEq, reduceEqDiff, reduceAdd, reduceLT, reduceLeDiff, reduceToNat, eGraph, eField, eVal]; exact rfl) (by simp [go_sem, reduceIte, reduceCtorEq, reduceEqDiff, reduceAdd, reduceLT, reduceLeDiff, reduceToNat, eGraph, eField, eVal]) ?_
  refine CWops.done ?_
  refine CW.seq ?_
  refine CW.seq ?_
  refine CW.region (by kernel_rfl) (by kernel_rfl) ?_ -- r1
  refine CWops.run htt 2 (by simp only [go_sem, reduceIte, reduceCtorEq, reduceEqDiff, reduceAdd, reduceLT, reduceLeDiff, reduceToNat, eField, eVal]; exact rfl) (by simp [go_sem, reduceIte, reduceCtorEq, reduceEqDiff, reduceAdd, reduceLT, reduceLeDiff, reduceToNat, eField, eVal]) ?_
  refine CWops.call (value_Fits up f v) (by simp only [go_sem, reduceIte, reduceCtorEq, reduceEqDiff, reduceAdd, reduceLT, reduceLeDiff, reduceToNat, eField, eVal]) (by simp only [go_sem, reduceIte, reduceCtorEq, reduceEqDiff, reduceAdd, reduceLT, reduceLeDiff, reduceToNat, eField, eVal]; first | done | exact rfl) (by simp only [go_sem, reduceIte, reduceCtorEq, reduceEqDiff, reduceAdd, reduceLT, reduceLeDiff, reduceToNat, eField, eVal]) (fun rt13 hrt13 => ?_)
  subst hrt13; refine ⟨rfl, ?_⟩
  refine CWops.run htt 1 (by simp only [go_sem, reduceIte, reduceCtorEq, reduceEqDiff, reduceAdd, reduceLT, reduceLeDiff, reduceToNat, eField, eVal]; exact rfl) (by simp [go_sem, reduceIte, reduceCtorEq, reduceEqDiff, reduceAdd, reduceLT, reduceLeDiff, reduceToNat, eField, eVal]) ?_
  refine CWops.done ?_
  refine CW.cond (by simp only [go_sem, reduceIte, reduceCtorEq, reduceEqDiff, reduceAdd, reduceLT, reduceLeDiff, reduceToNat]; first | done | exact rfl) (fun ct14 => ?_) (fun ct14 => ?_)
  · simp only [Bool.not_eq_true'] at ct14
    refine CW.seq ?_
    refine CW.region (by kernel_rfl) (by kernel_rfl) ?_ -- r2
    refine CWops.run htt 1 (by simp only [go_sem, reduceIte, reduceCtorEq, reduceEqDiff, reduceAdd, reduceLT, reduceLeDiff, reduceToNat]; exact rfl) (by simp [go_sem, reduceIte, reduceCtorEq, reduceEqDiff, reduceAdd, reduceLT, reduceLeDiff, reduceToNat]) ?_
    refine CWops.done ?_
    refine CW.ret ?_
    refine retQ.ret (by simp only [f55, go_sem, reduceIte, reduceCtorEq, reduceEqDiff, reduceAdd, reduceLT, reduceLeDiff, reduceToNat]; exact rfl) (by simp only [go_sem, reduceIte, reduceCtorEq, reduceEqDiff, reduceAdd, reduceLT, reduceLeDiff, reduceToNat]; exact rfl) ?_ -- ret1
    refine ⟨_, ?_, rfl⟩
    unfold leadsB sFind
    rw [ht]
    clear ht hl
    simp only [leP, AV.bool.injEq]
    first | (cases g32; done) | (cases g30; done) | (simp only [ct14, Bool.false_and]; done) | (rw [ct14, Bool.true_and]; first | (simp only [g25, Bool.true_or]; done) | (simp only [g25, g30, Bool.true_or, Bool.false_or]; done) | (simp only [g25, g30, Bool.true_or, Bool.false_or]; rfl))
  · simp only [Bool.not_eq_false'] at ct14
    refine CW.skip ?_
    refine CW.seq ?_
    refine CW.region (by kernel_rfl) (by kernel_rfl) ?_ -- r3
    refine CWops.run htt 9 (by simp only [go_sem, reduceIte, reduceCtorEq, reduceEqDiff, reduceAdd, reduceLT, reduceLeDiff, reduceToNat, eVal, maplk_tmap, ht]; exact rfl) (by simp [go_sem, reduceIte, reduceCtorEq, reduceEqDiff, reduceAdd, reduceLT, reduceLeDiff, reduceToNat, eVal, maplk_tmap, ht]) ?_
    refine CWops.done ?_
    refine CW.seq ?_
    refine CW.region (by kernel_rfl) (by kernel_rfl) ?_ -- r4
    refine CWops.run htt 4 (by simp only [go_sem, reduceIte, reduceCtorEq, reduceEqDiff, reduceAdd, reduceLT, reduceLeDiff, reduceToNat, eGraph, eField, eVal, eSchema]; exact rfl) (by simp [go_sem, reduceIte, reduceCtorEq, reduceEqDiff, reduceAdd, reduceLT, reduceLeDiff, reduceToNat, eGraph, eField, eVal, eSchema]) ?_
    all_goals (first | refine CWops.guard 25 (by simp only [go_sem, reduceIte, reduceCtorEq, reduceEqDiff, reduceAdd, reduceLT, reduceLeDiff, reduceToNat, eGraph, eField, eVal, eSchema]; exact rfl) (fun g25 => ?_) (fun g25 => ?_) | skip)
    all_goals (refine CWops.run htt 5 (by simp only [go_sem, reduceIte, reduceCtorEq, reduceEqDiff, reduceAdd, reduceLT, reduceLeDiff, reduceToNat, eGraph, eField, eVal, eSchema]; exact rfl) (by simp [go_sem, reduceIte, reduceCtorEq, reduceEqDiff, reduceAdd, reduceLT, reduceLeDiff, reduceToNat, eGraph, eField, eVal, eSchema]) ?_)
    all_goals (first | refine CWops.guard 30 (by simp only [go_sem, reduceIte, reduceCtorEq, reduceEqDiff, reduceAdd, reduceLT, reduceLeDiff, reduceToNat, eGraph, eField, eVal, eSchema]; exact rfl) (fun g30 => ?_) (fun g30 => ?_) | skip)
    all_goals (refine CWops.run htt 2 (by simp only [go_sem, reduceIte, reduceCtorEq, reduceEqDiff, reduceAdd, reduceLT, reduceLeDiff, reduceToNat, eGraph, eField, eVal, eSchema]; exact rfl) (by simp [go_sem, reduceIte, reduceCtorEq, reduceEqDiff, reduceAdd, reduceLT, reduceLeDiff, reduceToNat, eGraph, eField, eVal, eSchema]) ?_)
    all_goals (first | refine CWops.guard 32 (by simp only [go_sem, reduceIte, reduceCtorEq, reduceEqDiff, reduceAdd, reduceLT, reduceLeDiff, reduceToNat, eGraph, eField, eVal, eSchema]; exact rfl) (fun g32 => ?_) (fun g32 => ?_) | skip)
    all_goals (refine CWops.run htt 5 (by simp only [go_sem, reduceIte, reduceCtorEq, reduceEqDiff, reduceAdd, reduceLT, reduceLeDiff, reduceToNat, eGraph, eField, eVal, eSchema]; exact rfl) (by simp [go_sem, reduceIte, reduceCtorEq, reduceEqDiff, reduceAdd, reduceLT, reduceLeDiff, reduceToNat, eGraph, eField, eVal, eSchema]) ?_)
    all_goals (first | (refine CWops.skip ?_ ?_; next => (simp only [go_sem, reduceIte, reduceCtorEq, reduceEqDiff, reduceAdd, reduceLT, reduceLeDiff, reduceToNat]; done)) | (refine CWops.call (schema_Find up g.S f.To) (by simp only [go_sem, reduceIte, reduceCtorEq, reduceEqDiff, reduceAdd, reduceLT, reduceLeDiff, reduceToNat, eGraph, eField, eVal, eSchema]) (by simp only [go_sem, reduceIte, reduceCtorEq, reduceEqDiff, reduceAdd, reduceLT, reduceLeDiff, reduceToNat, eGraph, eField, eVal, eSchema]; first | done | exact rfl) (by simp only [go_sem, reduceIte, reduceCtorEq, reduceEqDiff, reduceAdd, reduceLT, reduceLeDiff, reduceToNat, eGraph, eField, eVal, eSchema]) (fun rt38 hrt38 => ?_); subst hrt38; refine ⟨rfl, ?_⟩))
    all_goals (refine CWops.run htt 4 (by simp only [go_sem, reduceIte, reduceCtorEq, reduceEqDiff, reduceAdd, reduceLT, reduceLeDiff, reduceToNat, eGraph, eField, eVal, eSchema]; exact rfl) (by simp [go_sem, reduceIte, reduceCtorEq, reduceEqDiff, reduceAdd, reduceLT, reduceLeDiff, reduceToNat, eGraph, eField, eVal, eSchema]) ?_)
    all_goals (refine CWops.done ?_)
    all_goals (
      refine CW.ret ?_
      refine retQ.ret (by simp only [f55, go_sem, reduceIte, reduceCtorEq, reduceEqDiff, reduceAdd, reduceLT, reduceLeDiff, reduceToNat]; exact rfl) (by simp only [go_sem, reduceIte, reduceCtorEq, reduceEqDiff, reduceAdd, reduceLT, reduceLeDiff, reduceToNat]; exact rfl) ?_ -- ret2
      refine ⟨_, ?_, rfl⟩
      unfold leadsB sFind
      rw [ht]
      clear ht hl
      simp only [leP, AV.bool.injEq]
      first | (cases g32; done) | (cases g30; done) | (simp only [ct14, Bool.false_and]; done) | (rw [ct14, Bool.true_and]; first | (simp only [g25, Bool.true_or]; done) | (simp only [g25, g30, Bool.true_or, Bool.false_or]; done) | (simp only [g25, g30, Bool.true_or, Bool.false_or]; rfl)))
theorem graph_leads_none (up : Bool) (g : Graph) (f : GField) (v : GVal) (ht : typ g.O v.R = none) : PCall prog up 55 [.agg (eGraph g), .fmap (tmap g.O), .agg (eField f), .agg (eVal v)] (· = .bool (leadsB g f v)) := by
  refine PCall.intro htt func55 (by kernel_rfl) rfl (Nat.le_of_ble_eq_true rfl) fun hl => ?_

  simp only [tmps0, Nat.reduceAdd]
  refine CW.seq ?_
  refine CW.region (by kernel_rfl) (by kernel_rfl) ?_ -- r0
  refine CWops.run htt 4 (by simp only [go_sem, reduceIte, reduceCtorEq, reduceEqDiff, reduceAdd, reduceLT, reduceLeDiff, reduceToNat, eGraph, eField, eVal]; exact rfl) (by simp [go_sem, reduceIte, reduceCtorEq, reduceEqDiff, reduceAdd, reduceLT, reduceLeDiff, reduceToNat, eGraph, eField, eVal]) ?_
  refine CWops.done ?_
  refine CW.seq ?_
  refine CW.seq ?_
  refine CW.region (by kernel_rfl) (by kernel_rfl) ?_ -- r1
  refine CWops.run htt 2 (by simp only [go_sem, reduceIte, reduceCtorEq, reduceEqDiff, reduceAdd, reduceLT, reduceLeDiff, reduceToNat, eField, eVal]; exact rfl) (by simp [go_sem, reduceIte, reduceCtorEq, reduceEqDiff, reduceAdd, reduceLT, reduceLeDiff, reduceToNat, eField, eVal]) ?_
  refine CWops.call (value_Fits up f v) (by simp only [go_sem, reduceIte, reduceCtorEq, reduceEqDiff, reduceAdd, reduceLT, reduceLeDiff, reduceToNat, eField, eVal]) (by simp only [go_sem, reduceIte, reduceCtorEq, reduceEqDiff, reduceAdd, reduceLT, reduceLeDiff, reduceToNat, eField, eVal]; first | done | exact rfl) (by simp only [go_sem, reduceIte, reduceCtorEq, reduceEqDiff, reduceAdd, reduceLT, reduceLeDiff, reduceToNat, eField, eVal]) (fun rt13 hrt13 => ?_)
  subst hrt13; refine ⟨rfl, ?_⟩
  refine CWops.run htt 1 (by simp only [go_sem, reduceIte, reduceCtorEq, reduceEqDiff, reduceAdd, reduceLT, reduceLeDiff, reduceToNat, eField, eVal]; exact rfl) (by simp [go_sem, reduceIte, reduceCtorEq, reduceEqDiff, reduceAdd, reduceLT, reduceLeDiff, reduceToNat, eField, eVal]) ?_
  refine CWops.done ?_
  refine CW.cond (by simp only [go_sem, reduceIte, reduceCtorEq, reduceEqDiff, reduceAdd, reduceLT, reduceLeDiff, reduceToNat]; first | done | exact rfl) (fun ct14 => ?_) (fun ct14 => ?_)
  · simp only [Bool.not_eq_true'] at ct14
    refine CW.seq ?_
    refine CW.region (by kernel_rfl) (by kernel_rfl) ?_ -- r2
    refine CWops.run htt 1 (by simp only [go_sem, reduceIte, reduceCtorEq, reduceEqDiff, reduceAdd, reduceLT, reduceLeDiff, reduceToNat]; exact rfl) (by simp [go_sem, reduceIte, reduceCtorEq, reduceEqDiff, reduceAdd, reduceLT, reduceLeDiff, reduceToNat]) ?_
    refine CWops.done ?_
    refine CW.ret ?_
    refine retQ.ret (by simp only [f55, go_sem, reduceIte, reduceCtorEq, reduceEqDiff, reduceAdd, reduceLT, reduceLeDiff, reduceToNat]; exact rfl) (by simp only [go_sem, reduceIte, reduceCtorEq, reduceEqDiff, reduceAdd, reduceLT, reduceLeDiff, reduceToNat]; exact rfl) ?_ -- ret1
    refine ⟨_, ?_, rfl⟩
    unfold leadsB sFind
    rw [ht]
    clear ht hl
    simp only [leP, AV.bool.injEq]
    first | (cases g32; done) | (cases g30; done) | (simp only [ct14, Bool.false_and]; done) | (rw [ct14, Bool.true_and]; first | (simp only [g25, Bool.true_or]; done) | (simp only [g25, g30, Bool.true_or, Bool.false_or]; done) | (simp only [g25, g30, Bool.true_or, Bool.false_or]; rfl))
  · simp only [Bool.not_eq_false'] at ct14
    refine CW.skip ?_
    refine CW.seq ?_
    refine CW.region (by kernel_rfl) (by kernel_rfl) ?_ -- r3
    refine CWops.run htt 9 (by simp only [go_sem, reduceIte, reduceCtorEq, reduceEqDiff, reduceAdd, reduceLT, reduceLeDiff, reduceToNat, eVal, maplk_tmap, ht]; exact rfl) (by simp [go_sem, reduceIte, reduceCtorEq, reduceEqDiff, reduceAdd, reduceLT, reduceLeDiff, reduceToNat, eVal, maplk_tmap, ht]) ?_
    refine CWops.done ?_
    refine CW.seq ?_
    refine CW.region (by kernel_rfl) (by kernel_rfl) ?_ -- r4
    refine CWops.run htt 4 (by simp only [go_sem, reduceIte, reduceCtorEq, reduceEqDiff, reduceAdd, reduceLT, reduceLeDiff, reduceToNat, eGraph, eField, eVal, eSchema]; exact rfl) (by simp [go_sem, reduceIte, reduceCtorEq, reduceEqDiff, reduceAdd, reduceLT, reduceLeDiff, reduceToNat, eGraph, eField, eVal, eSchema]) ?_
    all_goals (first | refine CWops.guard 25 (by simp only [go_sem, reduceIte, reduceCtorEq, reduceEqDiff, reduceAdd, reduceLT, reduceLeDiff, reduceToNat, eGraph, eField, eVal, eSchema]; exact rfl) (fun g25 => ?_) (fun g25 => ?_) | skip)
    all_goals (refine CWops.run htt 5 (by simp only [go_sem, reduceIte, reduceCtorEq, reduceEqDiff, reduceAdd, reduceLT, reduceLeDiff, reduceToNat, eGraph, eField, eVal, eSchema]; exact rfl) (by simp [go_sem, reduceIte, reduceCtorEq, reduceEqDiff, reduceAdd, reduceLT, reduceLeDiff, reduceToNat, eGraph, eField, eVal, eSchema]) ?_)
    all_goals (first | refine CWops.guard 30 (by simp only [go_sem, reduceIte, reduceCtorEq, reduceEqDiff, reduceAdd, reduceLT, reduceLeDiff, reduceToNat, eGraph, eField, eVal, eSchema]; exact rfl) (fun g30 => ?_) (fun g30 => ?_) | skip)
    all_goals (refine CWops.run htt 2 (by simp only [go_sem, reduceIte, reduceCtorEq, reduceEqDiff, reduceAdd, reduceLT, reduceLeDiff, reduceToNat, eGraph, eField, eVal, eSchema]; exact rfl) (by simp [go_sem, reduceIte, reduceCtorEq, reduceEqDiff, reduceAdd, reduceLT, reduceLeDiff, reduceToNat, eGraph, eField, eVal, eSchema]) ?_)
    all_goals (first | refine CWops.guard 32 (by simp only [go_sem, reduceIte, reduceCtorEq, reduceEqDiff, reduceAdd, reduceLT, reduceLeDiff, reduceToNat, eGraph, eField, eVal, eSchema]; exact rfl) (fun g32 => ?_) (fun g32 => ?_) | skip)
    all_goals (refine CWops.run htt 5 (by simp only [go_sem, reduceIte, reduceCtorEq, reduceEqDiff, reduceAdd, reduceLT, reduceLeDiff, reduceToNat, eGraph, eField, eVal, eSchema]; exact rfl) (by simp [go_sem, reduceIte, reduceCtorEq, reduceEqDiff, reduceAdd, reduceLT, reduceLeDiff, reduceToNat, eGraph, eField, eVal, eSchema]) ?_)
    all_goals (first | (refine CWops.skip ?_ ?_; next => (simp only [go_sem, reduceIte, reduceCtorEq, reduceEqDiff, reduceAdd, reduceLT, reduceLeDiff, reduceToNat]; done)) | (refine CWops.call (schema_Find up g.S f.To) (by simp only [go_sem, reduceIte, reduceCtorEq, reduceEqDiff, reduceAdd, reduceLT, reduceLeDiff, reduceToNat, eGraph, eField, eVal, eSchema]) (by simp only [go_sem, reduceIte, reduceCtorEq, reduceEqDiff, reduceAdd, reduceLT, reduceLeDiff, reduceToNat, eGraph, eField, eVal, eSchema]; first | done | exact rfl) (by simp only [go_sem, reduceIte, reduceCtorEq, reduceEqDiff, reduceAdd, reduceLT, reduceLeDiff, reduceToNat, eGraph, eField, eVal, eSchema]) (fun rt38 hrt38 => ?_); subst hrt38; refine ⟨rfl, ?_⟩))
    all_goals (refine CWops.run htt 4 (by simp only [go_sem, reduceIte, reduceCtorEq, reduceEqDiff, reduceAdd, reduceLT, reduceLeDiff, reduceToNat, eGraph, eField, eVal, eSchema]; exact rfl) (by simp [go_sem, reduceIte, reduceCtorEq, reduceEqDiff, reduceAdd, reduceLT, reduceLeDiff, reduceToNat, eGraph, eField, eVal, eSchema]) ?_)
    all_goals (refine CWops.done ?_)
    all_goals (
      refine CW.ret ?_
      refine retQ.ret (by simp only [f55, go_sem, reduceIte, reduceCtorEq, reduceEqDiff, reduceAdd, reduceLT, reduceLeDiff, reduceToNat]; exact rfl) (by simp only [go_sem, reduceIte, reduceCtorEq, reduceEqDiff, reduceAdd, reduceLT, reduceLeDiff, reduceToNat]; exact rfl) ?_ -- ret2
      refine ⟨_, ?_, rfl⟩
      unfold leadsB sFind
      rw [ht]
      clear ht hl
      simp only [leP, AV.bool.injEq]
      first | (cases g32; done) | (cases g30; done) | (simp only [ct14, Bool.false_and]; done) | (rw [ct14, Bool.true_and]; first | (simp only [g25, Bool.true_or]; done) | (simp only [g25, g30, Bool.true_or, Bool.false_or]; done) | (simp only [g25, g30, Bool.true_or, Bool.false_or]; rfl)))
theorem graph_leads (up : Bool) (g : Graph) (f : GField) (v : GVal) : PCall prog up 55 [.agg (eGraph g), .fmap (tmap g.O), .agg (eField f), .agg (eVal v)] (· = .bool (leadsB g f v)) := by
  cases ht : typ g.O v.R with
  | none => exact graph_leads_none up g f v ht
  | some t => exact graph_leads_some up g f v t ht
theorem graph_object (up : Bool) (g : Graph) (o : GObj) (last : Int) : PCall prog up 48 [.agg (eGraph g), .fmap (tmap g.O), .agg (eObj o), .int .i64 last] (· = .bool (objectB g o last)) := by
  refine PCall.intro htt func48 (by kernel_rfl) rfl (Nat.le_of_ble_eq_true rfl) fun hl => ?_
  have hL := (hl (.agg (eObj o)) (by simp)).agg
  have hb := (hL (.sl 3 (o.F.map eVal)) (by simp [eObj])).sl.1
  simp only [List.length_map] at hb
  simp only [tmps0, Nat.reduceAdd]
  refine CW.seq ?_
  refine CW.region (by kernel_rfl) (by kernel_rfl) ?_ -- r0
  refine CWops.run htt 3 (by simp only [go_sem, reduceIte, reduceCtorEq, reduceEqDiff, reduceAdd, reduceLT, reduceLeDiff, reduceToNat, eGraph, eObj]; exact rfl) (by simp [go_sem, reduceIte, reduceCtorEq, reduceEqDiff, reduceAdd, reduceLT, reduceLeDiff, reduceToNat, eGraph, eObj]) ?_
  refine CWops.done ?_
  refine CW.seq ?_
  refine CW.cut ⟨2, [(1, .fmap (tmap g.O)), (4, .lv 0 [] 0), (6, .lv 1 [] 0), (34, .bool (!((decide (last < o.Id) && decide (o.Id ≤ 1073741824)) && (decide (0 ≤ o.T) && decide (o.T < g.S.length)))))], [(0, ⟨true, eGraph g⟩), (1, ⟨true, eObj o⟩)]⟩ ?_ ?_
  · refine CW.region (by kernel_rfl) (by kernel_rfl) ?_ -- r1
    refine CWops.run htt 5 (by simp only [go_sem, reduceIte, reduceCtorEq, reduceEqDiff, reduceAdd, reduceLT, reduceLeDiff, reduceToNat, eGraph, eSchema, eObj]; exact rfl) (by simp [go_sem, reduceIte, reduceCtorEq, reduceEqDiff, reduceAdd, reduceLT, reduceLeDiff, reduceToNat, eGraph, eSchema, eObj]) ?_
    all_goals (first | refine CWops.guard 16 (by simp only [go_sem, reduceIte, reduceCtorEq, reduceEqDiff, reduceAdd, reduceLT, reduceLeDiff, reduceToNat, eGraph, eSchema, eObj]; exact rfl) (fun g16 => ?_) (fun g16 => ?_) | skip)
    all_goals (refine CWops.run htt 5 (by simp only [go_sem, reduceIte, reduceCtorEq, reduceEqDiff, reduceAdd, reduceLT, reduceLeDiff, reduceToNat, eGraph, eSchema, eObj]; exact rfl) (by simp [go_sem, reduceIte, reduceCtorEq, reduceEqDiff, reduceAdd, reduceLT, reduceLeDiff, reduceToNat, eGraph, eSchema, eObj]) ?_)
    all_goals (first | refine CWops.guard 21 (by simp only [go_sem, reduceIte, reduceCtorEq, reduceEqDiff, reduceAdd, reduceLT, reduceLeDiff, reduceToNat, eGraph, eSchema, eObj]; exact rfl) (fun g21 => ?_) (fun g21 => ?_) | skip)
    all_goals (refine CWops.run htt 5 (by simp only [go_sem, reduceIte, reduceCtorEq, reduceEqDiff, reduceAdd, reduceLT, reduceLeDiff, reduceToNat, eGraph, eSchema, eObj]; exact rfl) (by simp [go_sem, reduceIte, reduceCtorEq, reduceEqDiff, reduceAdd, reduceLT, reduceLeDiff, reduceToNat, eGraph, eSchema, eObj]) ?_)
    all_goals (first | refine CWops.guard 26 (by simp only [go_sem, reduceIte, reduceCtorEq, reduceEqDiff, reduceAdd, reduceLT, reduceLeDiff, reduceToNat, eGraph, eSchema, eObj]; exact rfl) (fun g26 => ?_) (fun g26 => ?_) | skip)
    all_goals (refine CWops.run htt 8 (by simp only [go_sem, reduceIte, reduceCtorEq, reduceEqDiff, reduceAdd, reduceLT, reduceLeDiff, reduceToNat, eGraph, eSchema, eObj]; exact rfl) (by simp [go_sem, reduceIte, reduceCtorEq, reduceEqDiff, reduceAdd, reduceLT, reduceLeDiff, reduceToNat, eGraph, eSchema, eObj]) ?_)
    all_goals (refine CWops.done ?_)
    all_goals (
      refine ⟨rfl, Sh.wk0 ?_⟩
      simp_all [Wk, go_sem, reduceIte, reduceCtorEq, reduceEqDiff, reduceAdd, reduceLT, reduceLeDiff, reduceToNat, eGraph, eObj] <;> first | done | omega | rfl | (rw [Bool.eq_iff_iff]; done) | (rw [Bool.eq_iff_iff]; simp; done) | (rw [Bool.eq_iff_iff]; simp; omega))
  refine CW.cond (by simp only [go_sem, reduceIte, reduceCtorEq, reduceEqDiff, reduceAdd, reduceLT, reduceLeDiff, reduceToNat]; first | done | exact rfl) (fun ct34 => ?_) (fun ct34 => ?_)
  · simp only [Bool.not_eq_true'] at ct34
    refine CW.seq ?_
    refine CW.region (by kernel_rfl) (by kernel_rfl) ?_ -- r2
    refine CWops.run htt 1 (by simp only [go_sem, reduceIte, reduceCtorEq, reduceEqDiff, reduceAdd, reduceLT, reduceLeDiff, reduceToNat]; exact rfl) (by simp [go_sem, reduceIte, reduceCtorEq, reduceEqDiff, reduceAdd, reduceLT, reduceLeDiff, reduceToNat]) ?_
    refine CWops.done ?_
    refine CW.ret ?_
    refine retQ.ret (by simp only [f48, go_sem, reduceIte, reduceCtorEq, reduceEqDiff, reduceAdd, reduceLT, reduceLeDiff, reduceToNat]; exact rfl) (by simp only [go_sem, reduceIte, reduceCtorEq, reduceEqDiff, reduceAdd, reduceLT, reduceLeDiff, reduceToNat]; exact rfl) ?_ -- ret1
    refine ⟨_, ?_, rfl⟩
    have : objectB g o last = false := by
      unfold objectB
      cases e : typeAt g.S o.T with
      | none => simp
      | some t =>
        have : (decide (0 ≤ o.T) && decide (o.T < g.S.length)) = true := by
          unfold typeAt at e; split at e
          · have := (List.getElem?_eq_some_iff.1 e).1; simp; omega
          · cases e
        rw [this] at ct34; simp only [Bool.and_true] at ct34; rw [ct34]; rfl
    simp [leP, this]
  · simp only [Bool.not_eq_false', Bool.and_eq_true, decide_eq_true_eq] at ct34
    obtain ⟨⟨h1, h2⟩, h3, h4⟩ := ct34
    obtain ⟨oi, oT, oF⟩ := o
    simp only at h1 h2 h3 h4 hb
    obtain ⟨n, rfl⟩ := Int.eq_ofNat_of_zero_le h3
    obtain ⟨t, ht⟩ : ∃ t, g.S[n]? = some t := ⟨g.S[n], List.getElem?_eq_getElem (by omega)⟩
    have hA : typeAt g.S n = some t := by unfold typeAt; rw [if_pos h3]; simpa using ht
    refine CW.skip ?_
    refine CW.seq ?_
    refine CW.region (by kernel_rfl) (by kernel_rfl) ?_ -- r3
    refine CWops.run htt 9 (by simp only [go_sem, reduceIte, reduceCtorEq, reduceEqDiff, reduceAdd, reduceLT, reduceLeDiff, reduceToNat, eGraph, eObj, eType, ht]; exact rfl) (by simp [go_sem, reduceIte, reduceCtorEq, reduceEqDiff, reduceAdd, reduceLT, reduceLeDiff, reduceToNat, eGraph, eObj, eType, ht]) ?_
    refine CWops.done ?_
    refine CW.seq ?_
    refine CW.seq ?_
    refine CW.region (by kernel_rfl) (by kernel_rfl) ?_ -- r4
    refine CWops.run htt 6 (by simp only [go_sem, reduceIte, reduceCtorEq, reduceEqDiff, reduceAdd, reduceLT, reduceLeDiff, reduceToNat, eObj]; exact rfl) (by simp [go_sem, reduceIte, reduceCtorEq, reduceEqDiff, reduceAdd, reduceLT, reduceLeDiff, reduceToNat, eObj]) ?_
    refine CWops.done ?_
    refine CW.cond (by simp only [go_sem, reduceIte, reduceCtorEq, reduceEqDiff, reduceAdd, reduceLT, reduceLeDiff, reduceToNat]; first | done | exact rfl) (fun ct48 => ?_) (fun ct48 => ?_)
    · have hn : oF.length ≠ t.F.length := by simp at ct48; omega
      refine CW.seq ?_
      refine CW.region (by kernel_rfl) (by kernel_rfl) ?_ -- r5
      refine CWops.run htt 1 (by simp only [go_sem, reduceIte, reduceCtorEq, reduceEqDiff, reduceAdd, reduceLT, reduceLeDiff, reduceToNat]; exact rfl) (by simp [go_sem, reduceIte, reduceCtorEq, reduceEqDiff, reduceAdd, reduceLT, reduceLeDiff, reduceToNat]) ?_
      refine CWops.done ?_
      refine CW.ret ?_
      refine retQ.ret (by simp only [f48, go_sem, reduceIte, reduceCtorEq, reduceEqDiff, reduceAdd, reduceLT, reduceLeDiff, reduceToNat]; exact rfl) (by simp only [go_sem, reduceIte, reduceCtorEq, reduceEqDiff, reduceAdd, reduceLT, reduceLeDiff, reduceToNat]; exact rfl) ?_ -- ret2
      refine ⟨_, ?_, rfl⟩
      have : objectB g ⟨oi, n, oF⟩ last = false := by
        unfold objectB; rw [hA]; simp [hn]
      simp [leP, this]
    · have hn : oF.length = t.F.length := by simp at ct48; omega
      refine CW.skip ?_
      refine CW.seq ?_
      refine CW.seq ?_
      refine CW.region (by kernel_rfl) (by kernel_rfl) ?_ -- r6
      refine CWops.run htt 4 (by simp only [go_sem, reduceIte, reduceCtorEq, reduceEqDiff, reduceAdd, reduceLT, reduceLeDiff, reduceToNat, eObj]; exact rfl) (by simp [go_sem, reduceIte, reduceCtorEq, reduceEqDiff, reduceAdd, reduceLT, reduceLeDiff, reduceToNat, eObj]) ?_
      refine CWops.done ?_
      refine CW.block ?_
      refine CW.loop (S := Nat) (fun k => ⟨2, [(1, .fmap (tmap g.O)), (4, .lv 0 [] 0), (6, .lv 1 [] 0), (9, .sl 3 (t.F.map eField)), (50, .sl 3 (oF.map eVal)), (51, .int .i64 oF.length), (52, .int .i64 k)], [(0, ⟨true, eGraph g⟩), (1, ⟨true, eObj ⟨oi, n, oF⟩⟩)]⟩) (fun k => k ≤ oF.length ∧ ∀ (j : Nat) (y), j < k → oF[j]? = some y → leadsAt g t.F j y = true) (fun k => oF.length - k) (0) ?_ ⟨Nat.zero_le _, fun j y hj => by omega⟩ (fun k ⟨k1, k2⟩ => ?_)
      · refine Sh.wk0 ?_; simp [Wk, go_sem, reduceIte, reduceCtorEq, reduceEqDiff, reduceAdd, reduceLT, reduceLeDiff, reduceToNat, eGraph, eObj]
      refine CW.seq ?_
      refine CW.region (by kernel_rfl) (by kernel_rfl) ?_ -- r7
      refine CWops.run htt 1 (by simp only [go_sem, reduceIte, reduceCtorEq, reduceEqDiff, reduceAdd, reduceLT, reduceLeDiff, reduceToNat]; exact rfl) (by simp [go_sem, reduceIte, reduceCtorEq, reduceEqDiff, reduceAdd, reduceLT, reduceLeDiff, reduceToNat]) ?_
      refine CWops.done ?_
      refine CW.seq ?_
      refine CW.cond (by simp only [go_sem, reduceIte, reduceCtorEq, reduceEqDiff, reduceAdd, reduceLT, reduceLeDiff, reduceToNat]; first | done | exact rfl) (fun ct53 => ?_) (fun ct53 => ?_)
      · have hk : k < oF.length := by simpa using ct53
        obtain ⟨v, hv⟩ : ∃ v, oF[k]? = some v := ⟨oF[k], List.getElem?_eq_getElem hk⟩
        obtain ⟨f, hf⟩ : ∃ f, t.F[k]? = some f := ⟨t.F[k], List.getElem?_eq_getElem (by omega)⟩
        refine CW.skip ?_
        refine CW.seq ?_
        refine CW.block ?_
        refine CW.seq ?_
        refine CW.region (by kernel_rfl) (by kernel_rfl) ?_ -- r8
        refine CWops.run htt 6 (by simp only [go_sem, reduceIte, reduceCtorEq, reduceEqDiff, reduceAdd, reduceLT, reduceLeDiff, reduceToNat, hv, eVal]; exact rfl) (by simp [go_sem, reduceIte, reduceCtorEq, reduceEqDiff, reduceAdd, reduceLT, reduceLeDiff, reduceToNat, hv, eVal]) ?_
        refine CWops.done ?_
        refine CW.seq ?_
        refine CW.drawn mixed 7 (by decide) (by kernel_rfl) (by kernel_rfl) (by kernel_rfl) ?_ -- r9
        refine Seg.run htt 7 (by simp only [go_sem, reduceIte, reduceCtorEq, reduceEqDiff, reduceAdd, reduceLT, reduceLeDiff, reduceToNat, hf, eGraph, eField, eVal]; exact rfl) ?_
        refine Seg.done ?_
        refine CWops.call (graph_leads up g f v) (by simp only [go_sem, reduceIte, reduceCtorEq, reduceEqDiff, reduceAdd, reduceLT, reduceLeDiff, reduceToNat, hf, eGraph, eField, eVal]) (by simp only [go_sem, reduceIte, reduceCtorEq, reduceEqDiff, reduceAdd, reduceLT, reduceLeDiff, reduceToNat, hf, eGraph, eField, eVal]; first | done | exact rfl) (by simp only [go_sem, reduceIte, reduceCtorEq, reduceEqDiff, reduceAdd, reduceLT, reduceLeDiff, reduceToNat, hf, eGraph, eField, eVal]) (fun rt64 hrt64 => ?_)
        subst hrt64; refine ⟨rfl, ?_⟩
        refine CWops.run htt 1 (by simp only [go_sem, reduceIte, reduceCtorEq, reduceEqDiff, reduceAdd, reduceLT, reduceLeDiff, reduceToNat, hf, eGraph, eField, eVal]; exact rfl) (by simp [go_sem, reduceIte, reduceCtorEq, reduceEqDiff, reduceAdd, reduceLT, reduceLeDiff, reduceToNat, hf, eGraph, eField, eVal]) ?_
        refine CWops.done ?_
        refine CW.cond (by simp only [go_sem, reduceIte, reduceCtorEq, reduceEqDiff, reduceAdd, reduceLT, reduceLeDiff, reduceToNat]; first | done | exact rfl) (fun ct65 => ?_) (fun ct65 => ?_)
        · simp only [Bool.not_eq_true'] at ct65
          refine CW.seq ?_
          refine CW.region (by kernel_rfl) (by kernel_rfl) ?_ -- r10
          refine CWops.run htt 1 (by simp only [go_sem, reduceIte, reduceCtorEq, reduceEqDiff, reduceAdd, reduceLT, reduceLeDiff, reduceToNat]; exact rfl) (by simp [go_sem, reduceIte, reduceCtorEq, reduceEqDiff, reduceAdd, reduceLT, reduceLeDiff, reduceToNat]) ?_
          refine CWops.done ?_
          refine CW.ret ?_
          refine retQ.ret (by simp only [f48, go_sem, reduceIte, reduceCtorEq, reduceEqDiff, reduceAdd, reduceLT, reduceLeDiff, reduceToNat]; exact rfl) (by simp only [go_sem, reduceIte, reduceCtorEq, reduceEqDiff, reduceAdd, reduceLT, reduceLeDiff, reduceToNat]; exact rfl) ?_ -- ret3
          refine ⟨_, ?_, rfl⟩
          have : objectB g ⟨oi, n, oF⟩ last = false := by
            unfold objectB; rw [hA]; simp only; rw [allI_no hv (by rw [Nat.zero_add]; unfold leadsAt; rw [hf]; exact ct65)]; simp
          simp [leP, this]
        · simp only [Bool.not_eq_false'] at ct65
          refine CW.skip ?_
          refine CW.region (by kernel_rfl) (by kernel_rfl) ?_ -- r11
          refine CWops.run htt 2 (by simp only [go_sem, reduceIte, reduceCtorEq, reduceEqDiff, reduceAdd, reduceLT, reduceLeDiff, reduceToNat, wrap_succ (Nat.lt_of_lt_of_le hk hb)]; exact rfl) (by simp [go_sem, reduceIte, reduceCtorEq, reduceEqDiff, reduceAdd, reduceLT, reduceLeDiff, reduceToNat, wrap_succ (Nat.lt_of_lt_of_le hk hb)]) ?_
          refine CWops.done ?_
          refine ⟨k + 1, ?_, ?_, ?_⟩
          · refine Sh.wk0 ?_; simp [Wk, go_sem, reduceIte, reduceCtorEq, reduceEqDiff, reduceAdd, reduceLT, reduceLeDiff, reduceToNat, eGraph, eObj]
          · exact ⟨hk, belowI_succ k2 hv (by unfold leadsAt; rw [hf]; exact ct65)⟩
          · simp only; omega
      · have hk : k = oF.length := by simp at ct53; omega
        refine CW.exit ?_
        refine CW.seq ?_
        refine CW.region (by kernel_rfl) (by kernel_rfl) ?_ -- r12
        refine CWops.run htt 1 (by simp only [go_sem, reduceIte, reduceCtorEq, reduceEqDiff, reduceAdd, reduceLT, reduceLeDiff, reduceToNat]; exact rfl) (by simp [go_sem, reduceIte, reduceCtorEq, reduceEqDiff, reduceAdd, reduceLT, reduceLeDiff, reduceToNat]) ?_
        refine CWops.done ?_
        refine CW.ret ?_
        refine retQ.ret (by simp only [f48, go_sem, reduceIte, reduceCtorEq, reduceEqDiff, reduceAdd, reduceLT, reduceLeDiff, reduceToNat]; exact rfl) (by simp only [go_sem, reduceIte, reduceCtorEq, reduceEqDiff, reduceAdd, reduceLT, reduceLeDiff, reduceToNat]; exact rfl) ?_ -- ret4
        refine ⟨_, ?_, rfl⟩
        have : objectB g ⟨oi, n, oF⟩ last = true := by
          unfold objectB; rw [hA]; simp only; rw [belowI_all (by rw [← hk]; exact k2)]; simp [h1, h2, hn]
        simp [leP, this]
theorem graph_May_1s (up : Bool) (g : Graph) (r t : Int) (ht : typ g.O r = some t) : PCall prog up 49 [.int .i64 r, .fp [.fmap (tmap g.O)]] (· = .bool (!rootB g r)) := by
  refine PCall.intro htt func49 (by kernel_rfl) rfl (Nat.le_of_ble_eq_true rfl) fun hl => ?_

  simp only [tmps0, Nat.reduceAdd]
  refine CW.seq ?_
  refine CW.region (by kernel_rfl) (by kernel_rfl) ?_ -- r0
  refine CWops.run htt 1 (by simp only [go_sem, reduceIte, reduceCtorEq, reduceEqDiff, reduceAdd, reduceLT, reduceLeDiff, reduceToNat]; exact rfl) (by simp [go_sem, reduceIte, reduceCtorEq, reduceEqDiff, reduceAdd, reduceLT, reduceLeDiff, reduceToNat]) ?_
  refine CWops.done ?_
  refine CW.seq ?_
  refine CW.region (by kernel_rfl) (by kernel_rfl) ?_ -- r1
  refine CWops.run htt 8 (by simp only [go_sem, reduceIte, reduceCtorEq, reduceEqDiff, reduceAdd, reduceLT, reduceLeDiff, reduceToNat, maplk_tmap, ht]; exact rfl) (by simp [go_sem, reduceIte, reduceCtorEq, reduceEqDiff, reduceAdd, reduceLT, reduceLeDiff, reduceToNat, maplk_tmap, ht]) ?_
  refine CWops.done ?_
  refine CW.seq ?_
  refine CW.region (by kernel_rfl) (by kernel_rfl) ?_ -- r2
  refine CWops.run htt 3 (by simp only [go_sem, reduceIte, reduceCtorEq, reduceEqDiff, reduceAdd, reduceLT, reduceLeDiff, reduceToNat]; exact rfl) (by simp [go_sem, reduceIte, reduceCtorEq, reduceEqDiff, reduceAdd, reduceLT, reduceLeDiff, reduceToNat]) ?_
  all_goals (first | refine CWops.guard 14 (by simp only [go_sem, reduceIte, reduceCtorEq, reduceEqDiff, reduceAdd, reduceLT, reduceLeDiff, reduceToNat]; exact rfl) (fun g14 => ?_) (fun g14 => ?_) | skip)
  all_goals (refine CWops.run htt 4 (by simp only [go_sem, reduceIte, reduceCtorEq, reduceEqDiff, reduceAdd, reduceLT, reduceLeDiff, reduceToNat]; exact rfl) (by simp [go_sem, reduceIte, reduceCtorEq, reduceEqDiff, reduceAdd, reduceLT, reduceLeDiff, reduceToNat]) ?_)
  all_goals (refine CWops.done ?_)
  all_goals (
    refine CW.ret ?_
    refine retQ.ret (by simp only [f49, go_sem, reduceIte, reduceCtorEq, reduceEqDiff, reduceAdd, reduceLT, reduceLeDiff, reduceToNat]; exact rfl) (by simp only [go_sem, reduceIte, reduceCtorEq, reduceEqDiff, reduceAdd, reduceLT, reduceLeDiff, reduceToNat]; exact rfl) ?_ -- ret1
    refine ⟨_, ?_, rfl⟩
    simp_all [leP, rootB])
theorem graph_May_1n (up : Bool) (g : Graph) (r : Int) (ht : typ g.O r = none) : PCall prog up 49 [.int .i64 r, .fp [.fmap (tmap g.O)]] (· = .bool (!rootB g r)) := by
  refine PCall.intro htt func49 (by kernel_rfl) rfl (Nat.le_of_ble_eq_true rfl) fun hl => ?_

  simp only [tmps0, Nat.reduceAdd]
  refine CW.seq ?_
  refine CW.region (by kernel_rfl) (by kernel_rfl) ?_ -- r0
  refine CWops.run htt 1 (by simp only [go_sem, reduceIte, reduceCtorEq, reduceEqDiff, reduceAdd, reduceLT, reduceLeDiff, reduceToNat]; exact rfl) (by simp [go_sem, reduceIte, reduceCtorEq, reduceEqDiff, reduceAdd, reduceLT, reduceLeDiff, reduceToNat]) ?_
  refine CWops.done ?_
  refine CW.seq ?_
  refine CW.region (by kernel_rfl) (by kernel_rfl) ?_ -- r1
  refine CWops.run htt 8 (by simp only [go_sem, reduceIte, reduceCtorEq, reduceEqDiff, reduceAdd, reduceLT, reduceLeDiff, reduceToNat, maplk_tmap, ht]; exact rfl) (by simp [go_sem, reduceIte, reduceCtorEq, reduceEqDiff, reduceAdd, reduceLT, reduceLeDiff, reduceToNat, maplk_tmap, ht]) ?_
  refine CWops.done ?_
  refine CW.seq ?_
  refine CW.region (by kernel_rfl) (by kernel_rfl) ?_ -- r2
  refine CWops.run htt 3 (by simp only [go_sem, reduceIte, reduceCtorEq, reduceEqDiff, reduceAdd, reduceLT, reduceLeDiff, reduceToNat]; exact rfl) (by simp [go_sem, reduceIte, reduceCtorEq, reduceEqDiff, reduceAdd, reduceLT, reduceLeDiff, reduceToNat]) ?_
  all_goals (first | refine CWops.guard 14 (by simp only [go_sem, reduceIte, reduceCtorEq, reduceEqDiff, reduceAdd, reduceLT, reduceLeDiff, reduceToNat]; exact rfl) (fun g14 => ?_) (fun g14 => ?_) | skip)
  all_goals (refine CWops.run htt 4 (by simp only [go_sem, reduceIte, reduceCtorEq, reduceEqDiff, reduceAdd, reduceLT, reduceLeDiff, reduceToNat]; exact rfl) (by simp [go_sem, reduceIte, reduceCtorEq, reduceEqDiff, reduceAdd, reduceLT, reduceLeDiff, reduceToNat]) ?_)
  all_goals (refine CWops.done ?_)
  all_goals (
    refine CW.ret ?_
    refine retQ.ret (by simp only [f49, go_sem, reduceIte, reduceCtorEq, reduceEqDiff, reduceAdd, reduceLT, reduceLeDiff, reduceToNat]; exact rfl) (by simp only [go_sem, reduceIte, reduceCtorEq, reduceEqDiff, reduceAdd, reduceLT, reduceLeDiff, reduceToNat]; exact rfl) ?_ -- ret1
    refine ⟨_, ?_, rfl⟩
    simp_all [leP, rootB])
theorem graph_May_1 (up : Bool) (g : Graph) (r : Int) : PCall prog up 49 [.int .i64 r, .fp [.fmap (tmap g.O)]] (· = .bool (!rootB g r)) := by
  cases ht : typ g.O r with
  | none => exact graph_May_1n up g r ht
  | some t => exact graph_May_1s up g r t ht
theorem fnd_any {α : Type} (p : α → Bool) (l : List α) : decide (0 ≤ fnd p l) = l.any p := by
  cases h : l.any p with
  | true =>
    have : 0 ≤ fnd p l := by
      unfold fnd
      split
      · omega
      · rename_i e
        rw [List.findIdx?_eq_none_iff] at e
        obtain ⟨x, hx, hp⟩ := List.any_eq_true.1 h
        rw [e x hx] at hp; cases hp
    simp [this]
  | false =>
    have : fnd p l = -1 := fnd_no fun j y hy => by
      cases hp : p y with
      | false => rfl
      | true => rw [any_at hy hp] at h; cases h
    rw [this]; rfl
theorem contains_int (up : Bool) (xs : List Int) (p : Int → Bool) (fn : FuncId) (caps : List AV) (hc : pureL caps = true) (hp : ∀ x ∈ xs, PCall prog up fn (.int .i64 x :: caps) (· = .bool (p x))) : PCall prog up 50 [.sl 1 (xs.map eI), .func (.func fn) [] caps] (· = .bool (xs.any p)) := by
  refine PCall.intro htt func50 (by kernel_rfl) rfl (Nat.le_of_ble_eq_true rfl) fun hl => ?_

  simp only [tmps0, Nat.reduceAdd]
  refine CW.seq ?_
  refine CW.region (by kernel_rfl) (by kernel_rfl) ?_ -- r0
  refine CWops.run htt 1 (by simp only [go_sem, reduceIte, reduceCtorEq, reduceEqDiff, reduceAdd, reduceLT, reduceLeDiff, reduceToNat]; exact rfl) (by simp [go_sem, reduceIte, reduceCtorEq, reduceEqDiff, reduceAdd, reduceLT, reduceLeDiff, reduceToNat]) ?_
  refine CWops.done ?_
  refine CW.seq ?_
  refine CW.region (by kernel_rfl) (by kernel_rfl) ?_ -- r1
  refine CWops.run htt 2 (by simp only [go_sem, reduceIte, reduceCtorEq, reduceEqDiff, reduceAdd, reduceLT, reduceLeDiff, reduceToNat, hc]; exact rfl) (by simp [go_sem, reduceIte, reduceCtorEq, reduceEqDiff, reduceAdd, reduceLT, reduceLeDiff, reduceToNat, hc]) ?_
  refine CWops.callA (index_int up xs p fn caps hc hp) (by simp only [go_sem, reduceIte, reduceCtorEq, reduceEqDiff, reduceAdd, reduceLT, reduceLeDiff, reduceToNat, hc]) (by simp only [go_sem, reduceIte, reduceCtorEq, reduceEqDiff, reduceAdd, reduceLT, reduceLeDiff, reduceToNat, hc]; first | done | exact rfl) (by simp only [go_sem, reduceIte, reduceCtorEq, reduceEqDiff, reduceAdd, reduceLT, reduceLeDiff, reduceToNat, hc]) (by simp only [go_sem, reduceIte, reduceCtorEq, reduceEqDiff, reduceAdd, reduceLT, reduceLeDiff, reduceToNat, hc]) (fun rt7 hrt7 => ?_)
  subst hrt7
  refine CWops.run htt 2 (by simp only [go_sem, reduceIte, reduceCtorEq, reduceEqDiff, reduceAdd, reduceLT, reduceLeDiff, reduceToNat, hc]; exact rfl) (by simp [go_sem, reduceIte, reduceCtorEq, reduceEqDiff, reduceAdd, reduceLT, reduceLeDiff, reduceToNat, hc]) ?_
  refine CWops.done ?_
  refine CW.ret ?_
  refine retQ.ret (by simp only [f50, go_sem, reduceIte, reduceCtorEq, reduceEqDiff, reduceAdd, reduceLT, reduceLeDiff, reduceToNat]; exact rfl) (by simp only [go_sem, reduceIte, reduceCtorEq, reduceEqDiff, reduceAdd, reduceLT, reduceLeDiff, reduceToNat]; exact rfl) ?_ -- ret1
  refine ⟨_, ?_, rfl⟩
  simp only [leP, fnd_any]
theorem graph_May (up : Bool) (g : Graph) : PCall prog up 19 [.agg (eGraph g)] (· = .bool (gMay g)) := by
  refine PCall.intro htt func19 (by kernel_rfl) rfl (Nat.le_of_ble_eq_true rfl) fun hl => ?_
  have hL := (hl (.agg (eGraph g)) (by simp)).agg
  have hb := (hL (.sl 3 (g.O.map eObj)) (by simp [eGraph])).sl.1
  simp only [List.length_map] at hb
  simp only [tmps0, Nat.reduceAdd]
  refine CW.seq ?_
  refine CW.region (by kernel_rfl) (by kernel_rfl) ?_ -- r0
  refine CWops.run htt 2 (by simp only [go_sem, reduceIte, reduceCtorEq, reduceEqDiff, reduceAdd, reduceLT, reduceLeDiff, reduceToNat, eGraph]; exact rfl) (by simp [go_sem, reduceIte, reduceCtorEq, reduceEqDiff, reduceAdd, reduceLT, reduceLeDiff, reduceToNat, eGraph]) ?_
  refine CWops.done ?_
  refine CW.seq ?_
  refine CW.cut ⟨1, [(1, .lv 0 [] 0), (23, .bool (!((schemaMay g.S && decide (g.O.length ≤ 8)) && decide (g.Roots.length ≤ 3))))], [(0, ⟨true, eGraph g⟩)]⟩ ?_ ?_
  · refine CW.region (by kernel_rfl) (by kernel_rfl) ?_ -- r1
    refine CWops.run htt 2 (by simp only [go_sem, reduceIte, reduceCtorEq, reduceEqDiff, reduceAdd, reduceLT, reduceLeDiff, reduceToNat, eGraph, eSchema]; exact rfl) (by simp [go_sem, reduceIte, reduceCtorEq, reduceEqDiff, reduceAdd, reduceLT, reduceLeDiff, reduceToNat, eGraph, eSchema]) ?_
    refine CWops.call (schema_May up g.S) (by simp only [go_sem, reduceIte, reduceCtorEq, reduceEqDiff, reduceAdd, reduceLT, reduceLeDiff, reduceToNat, eGraph, eSchema]) (by simp only [go_sem, reduceIte, reduceCtorEq, reduceEqDiff, reduceAdd, reduceLT, reduceLeDiff, reduceToNat, eGraph, eSchema]; first | done | exact rfl) (by simp only [go_sem, reduceIte, reduceCtorEq, reduceEqDiff, reduceAdd, reduceLT, reduceLeDiff, reduceToNat, eGraph, eSchema]) (fun rt10 hrt10 => ?_)
    subst hrt10; refine ⟨rfl, ?_⟩
    refine CWops.run htt 2 (by simp only [go_sem, reduceIte, reduceCtorEq, reduceEqDiff, reduceAdd, reduceLT, reduceLeDiff, reduceToNat, eGraph, eSchema]; exact rfl) (by simp [go_sem, reduceIte, reduceCtorEq, reduceEqDiff, reduceAdd, reduceLT, reduceLeDiff, reduceToNat, eGraph, eSchema]) ?_
    all_goals (first | refine CWops.guard 12 (by simp only [go_sem, reduceIte, reduceCtorEq, reduceEqDiff, reduceAdd, reduceLT, reduceLeDiff, reduceToNat, eGraph, eSchema]; exact rfl) (fun g12 => ?_) (fun g12 => ?_) | skip)
    all_goals (refine CWops.run htt 6 (by simp only [go_sem, reduceIte, reduceCtorEq, reduceEqDiff, reduceAdd, reduceLT, reduceLeDiff, reduceToNat, eGraph, eSchema]; exact rfl) (by simp [go_sem, reduceIte, reduceCtorEq, reduceEqDiff, reduceAdd, reduceLT, reduceLeDiff, reduceToNat, eGraph, eSchema]) ?_)
    all_goals (first | refine CWops.guard 18 (by simp only [go_sem, reduceIte, reduceCtorEq, reduceEqDiff, reduceAdd, reduceLT, reduceLeDiff, reduceToNat, eGraph, eSchema]; exact rfl) (fun g18 => ?_) (fun g18 => ?_) | skip)
    all_goals (refine CWops.run htt 5 (by simp only [go_sem, reduceIte, reduceCtorEq, reduceEqDiff, reduceAdd, reduceLT, reduceLeDiff, reduceToNat, eGraph, eSchema]; exact rfl) (by simp [go_sem, reduceIte, reduceCtorEq, reduceEqDiff, reduceAdd, reduceLT, reduceLeDiff, reduceToNat, eGraph, eSchema]) ?_)
    all_goals (refine CWops.done ?_)
    all_goals (
      refine ⟨rfl, Sh.wk0 ?_⟩
      simp_all [Wk, go_sem, reduceIte, reduceCtorEq, reduceEqDiff, reduceAdd, reduceLT, reduceLeDiff, reduceToNat, eGraph] <;> first | done | omega | rfl | (rw [Bool.eq_iff_iff]; done) | (rw [Bool.eq_iff_iff]; simp; done) | (rw [Bool.eq_iff_iff]; simp; omega))
  refine CW.cond (by simp only [go_sem, reduceIte, reduceCtorEq, reduceEqDiff, reduceAdd, reduceLT, reduceLeDiff, reduceToNat]; first | done | exact rfl) (fun ct23 => ?_) (fun ct23 => ?_)
  · simp only [Bool.not_eq_true'] at ct23
    refine CW.seq ?_
    refine CW.region (by kernel_rfl) (by kernel_rfl) ?_ -- r2
    refine CWops.run htt 1 (by simp only [go_sem, reduceIte, reduceCtorEq, reduceEqDiff, reduceAdd, reduceLT, reduceLeDiff, reduceToNat]; exact rfl) (by simp [go_sem, reduceIte, reduceCtorEq, reduceEqDiff, reduceAdd, reduceLT, reduceLeDiff, reduceToNat]) ?_
    refine CWops.done ?_
    refine CW.ret ?_
    refine retQ.ret (by simp only [f19, go_sem, reduceIte, reduceCtorEq, reduceEqDiff, reduceAdd, reduceLT, reduceLeDiff, reduceToNat]; exact rfl) (by simp only [go_sem, reduceIte, reduceCtorEq, reduceEqDiff, reduceAdd, reduceLT, reduceLeDiff, reduceToNat]; exact rfl) ?_ -- ret1
    refine ⟨_, ?_, rfl⟩
    have : gMay g = false := by unfold gMay; rw [ct23]; rfl
    simp [leP, this]
  · simp only [Bool.not_eq_false'] at ct23
    refine CW.skip ?_
    refine CW.seq ?_
    refine CW.region (by kernel_rfl) (by kernel_rfl) ?_ -- r3
    refine CWops.run htt 1 (by simp only [go_sem, reduceIte, reduceCtorEq, reduceEqDiff, reduceAdd, reduceLT, reduceLeDiff, reduceToNat, eGraph]; exact rfl) (by simp [go_sem, reduceIte, reduceCtorEq, reduceEqDiff, reduceAdd, reduceLT, reduceLeDiff, reduceToNat, eGraph]) ?_
    refine CWops.callA (graph_types up g) (by simp only [go_sem, reduceIte, reduceCtorEq, reduceEqDiff, reduceAdd, reduceLT, reduceLeDiff, reduceToNat, eGraph]) (by simp only [go_sem, reduceIte, reduceCtorEq, reduceEqDiff, reduceAdd, reduceLT, reduceLeDiff, reduceToNat, eGraph]; first | done | exact rfl) (by simp only [go_sem, reduceIte, reduceCtorEq, reduceEqDiff, reduceAdd, reduceLT, reduceLeDiff, reduceToNat, eGraph]) (by simp only [go_sem, reduceIte, reduceCtorEq, reduceEqDiff, reduceAdd, reduceLT, reduceLeDiff, reduceToNat, eGraph]) (fun rt25 hrt25 => ?_)
    subst hrt25
    refine CWops.run htt 2 (by simp only [go_sem, reduceIte, reduceCtorEq, reduceEqDiff, reduceAdd, reduceLT, reduceLeDiff, reduceToNat, eGraph]; exact rfl) (by simp [go_sem, reduceIte, reduceCtorEq, reduceEqDiff, reduceAdd, reduceLT, reduceLeDiff, reduceToNat, eGraph]) ?_
    refine CWops.done ?_
    refine CW.seq ?_
    refine CW.region (by kernel_rfl) (by kernel_rfl) ?_ -- r4
    refine CWops.run htt 1 (by simp only [go_sem, reduceIte, reduceCtorEq, reduceEqDiff, reduceAdd, reduceLT, reduceLeDiff, reduceToNat]; exact rfl) (by simp [go_sem, reduceIte, reduceCtorEq, reduceEqDiff, reduceAdd, reduceLT, reduceLeDiff, reduceToNat]) ?_
    refine CWops.done ?_
    refine CW.seq ?_
    refine CW.seq ?_
    refine CW.region (by kernel_rfl) (by kernel_rfl) ?_ -- r5
    refine CWops.run htt 4 (by simp only [go_sem, reduceIte, reduceCtorEq, reduceEqDiff, reduceAdd, reduceLT, reduceLeDiff, reduceToNat, eGraph]; exact rfl) (by simp [go_sem, reduceIte, reduceCtorEq, reduceEqDiff, reduceAdd, reduceLT, reduceLeDiff, reduceToNat, eGraph]) ?_
    refine CWops.done ?_
    refine CW.block ?_
    refine CW.loop (S := Nat) (fun i => ⟨2, [(1, .lv 0 [] 0), (3, .lv 1 [] 0), (4, .int .i64 (prevId g.O i)), (27, .sl 3 (g.O.map eObj)), (28, .int .i64 g.O.length), (29, .int .i64 i)], [(0, ⟨true, eGraph g⟩), (1, ⟨true, [.fmap (tmap g.O)]⟩)]⟩) (fun i => i ≤ g.O.length ∧ ∀ (j : Nat) (y), j < i → g.O[j]? = some y → objectB g y (prevId g.O j) = true) (fun i => g.O.length - i) (0) ?_ ⟨Nat.zero_le _, fun j y hj => by omega⟩ (fun i ⟨h1, h2⟩ => ?_)
    · refine Sh.wk0 ?_; simp [Wk, go_sem, reduceIte, reduceCtorEq, reduceEqDiff, reduceAdd, reduceLT, reduceLeDiff, reduceToNat, eGraph, prevId]
    refine CW.seq ?_
    refine CW.region (by kernel_rfl) (by kernel_rfl) ?_ -- r6
    refine CWops.run htt 1 (by simp only [go_sem, reduceIte, reduceCtorEq, reduceEqDiff, reduceAdd, reduceLT, reduceLeDiff, reduceToNat]; exact rfl) (by simp [go_sem, reduceIte, reduceCtorEq, reduceEqDiff, reduceAdd, reduceLT, reduceLeDiff, reduceToNat]) ?_
    refine CWops.done ?_
    refine CW.seq ?_
    refine CW.cond (by simp only [go_sem, reduceIte, reduceCtorEq, reduceEqDiff, reduceAdd, reduceLT, reduceLeDiff, reduceToNat]; first | done | exact rfl) (fun ct30 => ?_) (fun ct30 => ?_)
    · have hi : i < g.O.length := by simpa using ct30
      obtain ⟨x, hx⟩ : ∃ x, g.O[i]? = some x := ⟨g.O[i], List.getElem?_eq_getElem hi⟩
      refine CW.skip ?_
      refine CW.seq ?_
      refine CW.block ?_
      refine CW.seq ?_
      refine CW.region (by kernel_rfl) (by kernel_rfl) ?_ -- r7
      refine CWops.run htt 4 (by simp only [go_sem, reduceIte, reduceCtorEq, reduceEqDiff, reduceAdd, reduceLT, reduceLeDiff, reduceToNat, hx, eObj]; exact rfl) (by simp [go_sem, reduceIte, reduceCtorEq, reduceEqDiff, reduceAdd, reduceLT, reduceLeDiff, reduceToNat, hx, eObj]) ?_
      refine CWops.done ?_
      refine CW.seq ?_
      refine CW.seq ?_
      refine CW.region (by kernel_rfl) (by kernel_rfl) ?_ -- r8
      refine CWops.run htt 4 (by simp only [go_sem, reduceIte, reduceCtorEq, reduceEqDiff, reduceAdd, reduceLT, reduceLeDiff, reduceToNat, eGraph, eObj]; exact rfl) (by simp [go_sem, reduceIte, reduceCtorEq, reduceEqDiff, reduceAdd, reduceLT, reduceLeDiff, reduceToNat, eGraph, eObj]) ?_
      refine CWops.call (graph_object up g x (prevId g.O i)) (by simp only [go_sem, reduceIte, reduceCtorEq, reduceEqDiff, reduceAdd, reduceLT, reduceLeDiff, reduceToNat, eGraph, eObj]) (by simp only [go_sem, reduceIte, reduceCtorEq, reduceEqDiff, reduceAdd, reduceLT, reduceLeDiff, reduceToNat, eGraph, eObj]; first | done | exact rfl) (by simp only [go_sem, reduceIte, reduceCtorEq, reduceEqDiff, reduceAdd, reduceLT, reduceLeDiff, reduceToNat, eGraph, eObj]) (fun rt37 hrt37 => ?_)
      subst hrt37; refine ⟨rfl, ?_⟩
      refine CWops.run htt 1 (by simp only [go_sem, reduceIte, reduceCtorEq, reduceEqDiff, reduceAdd, reduceLT, reduceLeDiff, reduceToNat, eGraph, eObj]; exact rfl) (by simp [go_sem, reduceIte, reduceCtorEq, reduceEqDiff, reduceAdd, reduceLT, reduceLeDiff, reduceToNat, eGraph, eObj]) ?_
      refine CWops.done ?_
      refine CW.cond (by simp only [go_sem, reduceIte, reduceCtorEq, reduceEqDiff, reduceAdd, reduceLT, reduceLeDiff, reduceToNat]; first | done | exact rfl) (fun ct38 => ?_) (fun ct38 => ?_)
      · simp only [Bool.not_eq_true'] at ct38
        refine CW.seq ?_
        refine CW.region (by kernel_rfl) (by kernel_rfl) ?_ -- r9
        refine CWops.run htt 1 (by simp only [go_sem, reduceIte, reduceCtorEq, reduceEqDiff, reduceAdd, reduceLT, reduceLeDiff, reduceToNat]; exact rfl) (by simp [go_sem, reduceIte, reduceCtorEq, reduceEqDiff, reduceAdd, reduceLT, reduceLeDiff, reduceToNat]) ?_
        refine CWops.done ?_
        refine CW.ret ?_
        refine retQ.ret (by simp only [f19, go_sem, reduceIte, reduceCtorEq, reduceEqDiff, reduceAdd, reduceLT, reduceLeDiff, reduceToNat]; exact rfl) (by simp only [go_sem, reduceIte, reduceCtorEq, reduceEqDiff, reduceAdd, reduceLT, reduceLeDiff, reduceToNat]; exact rfl) ?_ -- ret2
        refine ⟨_, ?_, rfl⟩
        have : gMay g = false := by unfold gMay; rw [allI_no hx (by rw [Nat.zero_add]; exact ct38)]; simp
        simp [leP, this]
      · simp only [Bool.not_eq_false'] at ct38
        refine CW.skip ?_
        refine CW.region (by kernel_rfl) (by kernel_rfl) ?_ -- r10
        refine CWops.run htt 3 (by simp only [go_sem, reduceIte, reduceCtorEq, reduceEqDiff, reduceAdd, reduceLT, reduceLeDiff, reduceToNat, eObj]; exact rfl) (by simp [go_sem, reduceIte, reduceCtorEq, reduceEqDiff, reduceAdd, reduceLT, reduceLeDiff, reduceToNat, eObj]) ?_
        refine CWops.done ?_
        refine CW.region (by kernel_rfl) (by kernel_rfl) ?_ -- r11
        refine CWops.run htt 2 (by simp only [go_sem, reduceIte, reduceCtorEq, reduceEqDiff, reduceAdd, reduceLT, reduceLeDiff, reduceToNat, wrap_succ (Nat.lt_of_lt_of_le hi hb)]; exact rfl) (by simp [go_sem, reduceIte, reduceCtorEq, reduceEqDiff, reduceAdd, reduceLT, reduceLeDiff, reduceToNat, wrap_succ (Nat.lt_of_lt_of_le hi hb)]) ?_
        refine CWops.done ?_
        refine ⟨i + 1, ?_, ?_, ?_⟩
        · refine Sh.wk0 ?_; simp [Wk, go_sem, reduceIte, reduceCtorEq, reduceEqDiff, reduceAdd, reduceLT, reduceLeDiff, reduceToNat, eGraph, prevId, hx]
        · exact ⟨hi, belowI_succ (p := fun j y => objectB g y (prevId g.O j)) h2 hx ct38⟩
        · simp only; omega
    · have hi : i = g.O.length := by simp at ct30; omega
      refine CW.exit ?_
      refine CW.seq ?_
      refine CW.region (by kernel_rfl) (by kernel_rfl) ?_ -- r12
      refine CWops.run htt 2 (by simp only [go_sem, reduceIte, reduceCtorEq, reduceEqDiff, reduceAdd, reduceLT, reduceLeDiff, reduceToNat]; exact rfl) (by simp [go_sem, reduceIte, reduceCtorEq, reduceEqDiff, reduceAdd, reduceLT, reduceLeDiff, reduceToNat]) ?_
      refine CWops.done ?_
      refine CW.seq ?_
      refine CW.region (by kernel_rfl) (by kernel_rfl) ?_ -- r13
      refine CWops.run htt 3 (by simp only [go_sem, reduceIte, reduceCtorEq, reduceEqDiff, reduceAdd, reduceLT, reduceLeDiff, reduceToNat, eGraph]; exact rfl) (by simp [go_sem, reduceIte, reduceCtorEq, reduceEqDiff, reduceAdd, reduceLT, reduceLeDiff, reduceToNat, eGraph]) ?_
      refine CWops.call (contains_int up g.Roots (fun r => !rootB g r) 49 [.fp [.fmap (tmap g.O)]] rfl (fun r _ => graph_May_1 up g r)) (by simp only [go_sem, reduceIte, reduceCtorEq, reduceEqDiff, reduceAdd, reduceLT, reduceLeDiff, reduceToNat, eGraph]) (by simp only [go_sem, reduceIte, reduceCtorEq, reduceEqDiff, reduceAdd, reduceLT, reduceLeDiff, reduceToNat, eGraph]; first | done | exact rfl) (by simp only [go_sem, reduceIte, reduceCtorEq, reduceEqDiff, reduceAdd, reduceLT, reduceLeDiff, reduceToNat, eGraph]) (fun rt46 hrt46 => ?_)
      subst hrt46; refine ⟨rfl, ?_⟩
      refine CWops.run htt 2 (by simp only [go_sem, reduceIte, reduceCtorEq, reduceEqDiff, reduceAdd, reduceLT, reduceLeDiff, reduceToNat, eGraph]; exact rfl) (by simp [go_sem, reduceIte, reduceCtorEq, reduceEqDiff, reduceAdd, reduceLT, reduceLeDiff, reduceToNat, eGraph]) ?_
      refine CWops.done ?_
      refine CW.ret ?_
      refine retQ.ret (by simp only [f19, go_sem, reduceIte, reduceCtorEq, reduceEqDiff, reduceAdd, reduceLT, reduceLeDiff, reduceToNat]; exact rfl) (by simp only [go_sem, reduceIte, reduceCtorEq, reduceEqDiff, reduceAdd, reduceLT, reduceLeDiff, reduceToNat]; exact rfl) ?_ -- ret3
      refine ⟨_, ?_, rfl⟩
      have : gMay g = !g.Roots.any (fun r => !rootB g r) := by unfold gMay; rw [ct23, belowI_all (p := fun i o => objectB g o (prevId g.O i)) (by rw [← hi]; exact h2)]; simp [List.any_eq_not_all_not]
      simp [leP, this]
end Go.Ab
namespace Go.Ab
open Go Go.Proofs.Try
open Nat (reduceEqDiff reduceAdd reduceLT reduceLeDiff reduceBEq reduceSub reduceMul)
open Int (reduceToNat)
set_option maxRecDepth 100000
set_option linter.unusedSimpArgs false
set_option linter.unusedVariables false
theorem clone_ValG (up : Bool) (xs : List GVal) (hx : xs.length * 32 ≤ MX) : GCall prog up 59 [.sl 3 (xs.map eVal)] 0 [] (fun r σ' => r = .ref 0 [] 0 ∧ σ'.n = 1 ∧ σ'.s = [(0, ⟨false, [.own 3 (xs.map eVal)]⟩)]) := by
  refine GCall.intro htt 0 func59 (by kernel_rfl) rfl (Nat.le_of_ble_eq_true rfl) (CW.told ?_)
  have hx1 : xs.length ≤ MX := by omega
  simp only [tmps0, Nat.reduceAdd]
  refine CW.seq ?_
  refine CW.region (by kernel_rfl) (by kernel_rfl) ?_ -- r0
  refine CWops.run htt 1 (by simp only [go_sem, reduceIte, reduceCtorEq, reduceEqDiff, reduceAdd, reduceLT, reduceLeDiff, reduceToNat, reduceMul]; exact rfl) (by simp [go_sem, reduceIte, reduceCtorEq, reduceEqDiff, reduceAdd, reduceLT, reduceLeDiff, reduceToNat, reduceMul]) ?_
  refine CWops.done ?_
  refine CW.seq ?_
  refine CW.seq ?_
  refine CW.region (by kernel_rfl) (by kernel_rfl) ?_ -- r1
  refine CWops.run htt 1 (by simp only [go_sem, reduceIte, reduceCtorEq, reduceEqDiff, reduceAdd, reduceLT, reduceLeDiff, reduceToNat, reduceMul]; exact rfl) (by simp [go_sem, reduceIte, reduceCtorEq, reduceEqDiff, reduceAdd, reduceLT, reduceLeDiff, reduceToNat, reduceMul]) ?_
  refine CWops.nilcmp (n := 3) (l := xs.map eVal) htt (by simp only [go_sem, reduceIte, reduceCtorEq, reduceEqDiff, reduceAdd, reduceLT, reduceLeDiff, reduceToNat, reduceMul]) (by simp only [go_sem, reduceIte, reduceCtorEq, reduceEqDiff, reduceAdd, reduceLT, reduceLeDiff, reduceToNat, reduceMul]) (by simp only [go_sem, reduceIte, reduceCtorEq, reduceEqDiff, reduceAdd, reduceLT, reduceLeDiff, reduceToNat, reduceMul]) tt_53 rfl (fun b hb => ⟨_, rfl, ?_⟩)
  refine CWops.done ?_
  refine CW.cond (by simp only [go_sem, reduceIte, reduceCtorEq, reduceEqDiff, reduceAdd, reduceLT, reduceLeDiff, reduceToNat, reduceMul]; first | done | exact rfl) (fun ct4 => ?_) (fun ct4 => ?_)
  · refine CW.seq ?_
    refine CW.region (by kernel_rfl) (by kernel_rfl) ?_ -- r2
    refine CWops.run htt 1 (by simp only [go_sem, reduceIte, reduceCtorEq, reduceEqDiff, reduceAdd, reduceLT, reduceLeDiff, reduceToNat, reduceMul]; exact rfl) (by simp [go_sem, reduceIte, reduceCtorEq, reduceEqDiff, reduceAdd, reduceLT, reduceLeDiff, reduceToNat, reduceMul]) ?_
    refine CWops.done ?_
    refine CW.ret ?_
    refine ⟨⟨1, [(2, .ref 0 [] 0)], [(0, ⟨false, [.own 3 (xs.map eVal)]⟩)]⟩, ?_, .inr rfl, by simp [ptrOK, go_sem, reduceIte, reduceCtorEq, reduceEqDiff, reduceAdd, reduceLT, reduceLeDiff, reduceToNat, reduceMul], _, by simp only [f59, go_sem, reduceIte, reduceCtorEq, reduceEqDiff, reduceAdd, reduceLT, reduceLeDiff, reduceToNat, reduceMul]; exact rfl, ?_⟩ -- ret1
    · have h0 := hb ct4
      refine Sh.trans (Sh.nilRoot 2 3 (by simp only [go_sem, reduceIte, reduceCtorEq, reduceEqDiff, reduceAdd, reduceLT, reduceLeDiff, reduceToNat, reduceMul]) rfl) (Sh.wk0 ?_)
      simp [Wk, go_sem, reduceIte, reduceCtorEq, reduceEqDiff, reduceAdd, reduceLT, reduceLeDiff, reduceToNat, reduceMul, h0]
    · exact ⟨rfl, rfl, rfl⟩
  · refine CW.skip ?_
    refine CW.seq ?_
    refine CW.region (by kernel_rfl) (by kernel_rfl) ?_ -- r3
    refine CWops.run htt 4 (by simp only [go_sem, reduceIte, reduceCtorEq, reduceEqDiff, reduceAdd, reduceLT, reduceLeDiff, reduceToNat, reduceMul]; exact rfl) (by refine ⟨?_, ?_, ?_⟩ <;> first | (simp [eVal, AV.cell]; done) | (simp; omega)) ?_
    refine CWops.done ?_
    refine CW.ret ?_
    refine ⟨⟨1, [(2, .ref 0 [] 0)], [(0, ⟨false, [.own 3 (xs.map eVal)]⟩)]⟩, ?_, .inr rfl, by simp [ptrOK, go_sem, reduceIte, reduceCtorEq, reduceEqDiff, reduceAdd, reduceLT, reduceLeDiff, reduceToNat, reduceMul], _, by simp only [f59, go_sem, reduceIte, reduceCtorEq, reduceEqDiff, reduceAdd, reduceLT, reduceLeDiff, reduceToNat, reduceMul]; exact rfl, ?_⟩ -- ret2
    · refine Sh.wk (fun x => x + 1) ?_
      simp [Wk, go_sem, reduceIte, reduceCtorEq, reduceEqDiff, reduceAdd, reduceLT, reduceLeDiff, reduceToNat, reduceMul]
    · exact ⟨rfl, rfl, rfl⟩
theorem clone_TypeG (up : Bool) (xs : List GType) (hx : xs.length * 40 ≤ MX) : GCall prog up 75 [.sl 2 (xs.map eType)] 0 [] (fun r σ' => r = .ref 0 [] 0 ∧ σ'.n = 1 ∧ σ'.s = [(0, ⟨false, [.own 2 (xs.map eType)]⟩)]) := by
  refine GCall.intro htt 0 func75 (by kernel_rfl) rfl (Nat.le_of_ble_eq_true rfl) (CW.told ?_)
  have hx1 : xs.length ≤ MX := by omega
  simp only [tmps0, Nat.reduceAdd]
  refine CW.seq ?_
  refine CW.region (by kernel_rfl) (by kernel_rfl) ?_ -- r0
  refine CWops.run htt 1 (by simp only [go_sem, reduceIte, reduceCtorEq, reduceEqDiff, reduceAdd, reduceLT, reduceLeDiff, reduceToNat, reduceMul]; exact rfl) (by simp [go_sem, reduceIte, reduceCtorEq, reduceEqDiff, reduceAdd, reduceLT, reduceLeDiff, reduceToNat, reduceMul]) ?_
  refine CWops.done ?_
  refine CW.seq ?_
  refine CW.seq ?_
  refine CW.region (by kernel_rfl) (by kernel_rfl) ?_ -- r1
  refine CWops.run htt 1 (by simp only [go_sem, reduceIte, reduceCtorEq, reduceEqDiff, reduceAdd, reduceLT, reduceLeDiff, reduceToNat, reduceMul]; exact rfl) (by simp [go_sem, reduceIte, reduceCtorEq, reduceEqDiff, reduceAdd, reduceLT, reduceLeDiff, reduceToNat, reduceMul]) ?_
  refine CWops.nilcmp (n := 2) (l := xs.map eType) htt (by simp only [go_sem, reduceIte, reduceCtorEq, reduceEqDiff, reduceAdd, reduceLT, reduceLeDiff, reduceToNat, reduceMul]) (by simp only [go_sem, reduceIte, reduceCtorEq, reduceEqDiff, reduceAdd, reduceLT, reduceLeDiff, reduceToNat, reduceMul]) (by simp only [go_sem, reduceIte, reduceCtorEq, reduceEqDiff, reduceAdd, reduceLT, reduceLeDiff, reduceToNat, reduceMul]) tt_22 rfl (fun b hb => ⟨_, rfl, ?_⟩)
  refine CWops.done ?_
  refine CW.cond (by simp only [go_sem, reduceIte, reduceCtorEq, reduceEqDiff, reduceAdd, reduceLT, reduceLeDiff, reduceToNat, reduceMul]; first | done | exact rfl) (fun ct4 => ?_) (fun ct4 => ?_)
  · refine CW.seq ?_
    refine CW.region (by kernel_rfl) (by kernel_rfl) ?_ -- r2
    refine CWops.run htt 1 (by simp only [go_sem, reduceIte, reduceCtorEq, reduceEqDiff, reduceAdd, reduceLT, reduceLeDiff, reduceToNat, reduceMul]; exact rfl) (by simp [go_sem, reduceIte, reduceCtorEq, reduceEqDiff, reduceAdd, reduceLT, reduceLeDiff, reduceToNat, reduceMul]) ?_
    refine CWops.done ?_
    refine CW.ret ?_
    refine ⟨⟨1, [(2, .ref 0 [] 0)], [(0, ⟨false, [.own 2 (xs.map eType)]⟩)]⟩, ?_, .inr rfl, by simp [ptrOK, go_sem, reduceIte, reduceCtorEq, reduceEqDiff, reduceAdd, reduceLT, reduceLeDiff, reduceToNat, reduceMul], _, by simp only [f75, go_sem, reduceIte, reduceCtorEq, reduceEqDiff, reduceAdd, reduceLT, reduceLeDiff, reduceToNat, reduceMul]; exact rfl, ?_⟩ -- ret1
    · have h0 := hb ct4
      refine Sh.trans (Sh.nilRoot 2 2 (by simp only [go_sem, reduceIte, reduceCtorEq, reduceEqDiff, reduceAdd, reduceLT, reduceLeDiff, reduceToNat, reduceMul]) rfl) (Sh.wk0 ?_)
      simp [Wk, go_sem, reduceIte, reduceCtorEq, reduceEqDiff, reduceAdd, reduceLT, reduceLeDiff, reduceToNat, reduceMul, h0]
    · exact ⟨rfl, rfl, rfl⟩
  · refine CW.skip ?_
    refine CW.seq ?_
    refine CW.region (by kernel_rfl) (by kernel_rfl) ?_ -- r3
    refine CWops.run htt 4 (by simp only [go_sem, reduceIte, reduceCtorEq, reduceEqDiff, reduceAdd, reduceLT, reduceLeDiff, reduceToNat, reduceMul]; exact rfl) (by refine ⟨?_, ?_, ?_⟩ <;> first | (simp [eType, AV.cell]; done) | (simp; omega)) ?_
    refine CWops.done ?_
    refine CW.ret ?_
    refine ⟨⟨1, [(2, .ref 0 [] 0)], [(0, ⟨false, [.own 2 (xs.map eType)]⟩)]⟩, ?_, .inr rfl, by simp [ptrOK, go_sem, reduceIte, reduceCtorEq, reduceEqDiff, reduceAdd, reduceLT, reduceLeDiff, reduceToNat, reduceMul], _, by simp only [f75, go_sem, reduceIte, reduceCtorEq, reduceEqDiff, reduceAdd, reduceLT, reduceLeDiff, reduceToNat, reduceMul]; exact rfl, ?_⟩ -- ret2
    · refine Sh.wk (fun x => x + 1) ?_
      simp [Wk, go_sem, reduceIte, reduceCtorEq, reduceEqDiff, reduceAdd, reduceLT, reduceLeDiff, reduceToNat, reduceMul]
    · exact ⟨rfl, rfl, rfl⟩
end Go.Ab
namespace Go.Ab
open Go Go.Proofs.Try
open Nat (reduceEqDiff reduceAdd reduceLT reduceLeDiff reduceBEq reduceSub reduceMul)
open Int (reduceToNat)
set_option maxRecDepth 100000
set_option linter.unusedSimpArgs false
set_option linter.unusedVariables false
theorem one_MX (b : UInt8) : (Array.size #[b] ≤ MX) = True := eq_true (by show 1 ≤ MX; unfold MX; decide)
theorem law06_One (up : Bool) : PCall prog up 56 [] (· = .agg (eSchema oneS)) := by
  refine PCall.intro htt func56 (by kernel_rfl) rfl (Nat.le_of_ble_eq_true rfl) fun hl => ?_

  simp only [tmps0, Nat.reduceAdd]
  refine CW.seq ?_
  refine CW.region (by kernel_rfl) (by kernel_rfl) ?_ -- r0
  refine CWops.run htt 1 (by simp only [go_sem, reduceIte, reduceCtorEq, reduceEqDiff, reduceAdd, reduceLT, reduceLeDiff, reduceToNat, reduceMul, reduceSub, Nat.reduceBEq, Int.reduceLE]; exact rfl) (by simp [go_sem, reduceIte, reduceCtorEq, reduceEqDiff, reduceAdd, reduceLT, reduceLeDiff, reduceToNat, reduceMul, reduceSub, Nat.reduceBEq, Int.reduceLE]) ?_
  refine CWops.done ?_
  refine CW.seq ?_
  refine CW.region (by kernel_rfl) (by kernel_rfl) ?_ -- r1
  refine CWops.run htt 2 (by simp only [go_sem, reduceIte, reduceCtorEq, reduceEqDiff, reduceAdd, reduceLT, reduceLeDiff, reduceToNat, reduceMul, reduceSub, Nat.reduceBEq, Int.reduceLE, one_MX]; exact rfl) (by simp [go_sem, reduceIte, reduceCtorEq, reduceEqDiff, reduceAdd, reduceLT, reduceLeDiff, reduceToNat, reduceMul, reduceSub, Nat.reduceBEq, Int.reduceLE, one_MX]) ?_
  refine CWops.run htt 1 (by simp only [go_sem, reduceIte, reduceCtorEq, reduceEqDiff, reduceAdd, reduceLT, reduceLeDiff, reduceToNat, reduceMul, reduceSub, Nat.reduceBEq, Int.reduceLE, List.replicate, one_MX]; exact rfl) (by simp [go_sem, reduceIte, reduceCtorEq, reduceEqDiff, reduceAdd, reduceLT, reduceLeDiff, reduceToNat, reduceMul, reduceSub, Nat.reduceBEq, Int.reduceLE]) ?_
  refine CWops.sh (Sh.frzT 3 1 (by simp only [go_sem, reduceIte, reduceCtorEq, reduceEqDiff, reduceAdd, reduceLT, reduceLeDiff, reduceToNat, reduceMul, reduceSub, Nat.reduceBEq, Int.reduceLE]) (by simp only [go_sem, reduceIte, reduceCtorEq, reduceEqDiff, reduceAdd, reduceLT, reduceLeDiff, reduceToNat, reduceMul, reduceSub, Nat.reduceBEq, Int.reduceLE]; first | done | exact rfl) rfl) ?_
  simp only [go_sem, reduceIte, reduceCtorEq, reduceEqDiff, reduceAdd, reduceLT, reduceLeDiff, reduceToNat, reduceMul, reduceSub, Nat.reduceBEq, Int.reduceLE, AV.freeze]
  refine CWops.run htt 1 (by simp only [go_sem, reduceIte, reduceCtorEq, reduceEqDiff, reduceAdd, reduceLT, reduceLeDiff, reduceToNat, reduceMul, reduceSub, Nat.reduceBEq, Int.reduceLE, one_MX]; exact rfl) (by simp [go_sem, reduceIte, reduceCtorEq, reduceEqDiff, reduceAdd, reduceLT, reduceLeDiff, reduceToNat, reduceMul, reduceSub, Nat.reduceBEq, Int.reduceLE, one_MX]) ?_
  refine CWops.run htt 1 (by simp only [go_sem, reduceIte, reduceCtorEq, reduceEqDiff, reduceAdd, reduceLT, reduceLeDiff, reduceToNat, reduceMul, reduceSub, Nat.reduceBEq, Int.reduceLE, List.replicate, one_MX]; exact rfl) (by simp [go_sem, reduceIte, reduceCtorEq, reduceEqDiff, reduceAdd, reduceLT, reduceLeDiff, reduceToNat, reduceMul, reduceSub, Nat.reduceBEq, Int.reduceLE]) ?_
  refine CWops.sh (Sh.frzT 5 2 (by simp only [go_sem, reduceIte, reduceCtorEq, reduceEqDiff, reduceAdd, reduceLT, reduceLeDiff, reduceToNat, reduceMul, reduceSub, Nat.reduceBEq, Int.reduceLE]) (by simp only [go_sem, reduceIte, reduceCtorEq, reduceEqDiff, reduceAdd, reduceLT, reduceLeDiff, reduceToNat, reduceMul, reduceSub, Nat.reduceBEq, Int.reduceLE]; first | done | exact rfl) rfl) ?_
  simp only [go_sem, reduceIte, reduceCtorEq, reduceEqDiff, reduceAdd, reduceLT, reduceLeDiff, reduceToNat, reduceMul, reduceSub, Nat.reduceBEq, Int.reduceLE, AV.freeze]
  refine CWops.run htt 2 (by simp only [go_sem, reduceIte, reduceCtorEq, reduceEqDiff, reduceAdd, reduceLT, reduceLeDiff, reduceToNat, reduceMul, reduceSub, Nat.reduceBEq, Int.reduceLE, one_MX]; exact rfl) (by simp [go_sem, reduceIte, reduceCtorEq, reduceEqDiff, reduceAdd, reduceLT, reduceLeDiff, reduceToNat, reduceMul, reduceSub, Nat.reduceBEq, Int.reduceLE, one_MX]) ?_
  refine CWops.done ?_
  refine CW.ret ?_
  refine retQ.ret (by simp only [f56, go_sem, reduceIte, reduceCtorEq, reduceEqDiff, reduceAdd, reduceLT, reduceLeDiff, reduceToNat, reduceMul, reduceSub, Nat.reduceBEq, Int.reduceLE]; exact rfl) (by simp only [go_sem, reduceIte, reduceCtorEq, reduceEqDiff, reduceAdd, reduceLT, reduceLeDiff, reduceToNat, reduceMul, reduceSub, Nat.reduceBEq, Int.reduceLE]; exact rfl) ?_ -- ret1
  refine ⟨_, ?_, rfl⟩
  simp [leP, leL, eSchema, eType, eField, oneS]
theorem law06_Few (up : Bool) (s : List GType) (k : Int) : PCall prog up 39 [.agg (eSchema s), .int .i64 k] (· = .bool (few06 s k)) := by
  refine PCall.intro htt func39 (by kernel_rfl) rfl (Nat.le_of_ble_eq_true rfl) fun hl => ?_
  have hL := (hl (.agg (eSchema s)) (by simp)).agg
  have hb := (hL (.sl 2 (s.map eType)) (by simp [eSchema])).sl.1
  simp only [List.length_map] at hb
  simp only [tmps0, Nat.reduceAdd]
  refine CW.seq ?_
  refine CW.region (by kernel_rfl) (by kernel_rfl) ?_ -- r0
  refine CWops.run htt 2 (by simp only [go_sem, reduceIte, reduceCtorEq, reduceEqDiff, reduceAdd, reduceLT, reduceLeDiff, reduceToNat, reduceMul, reduceSub, Nat.reduceBEq, Int.reduceLE, eSchema]; exact rfl) (by simp [go_sem, reduceIte, reduceCtorEq, reduceEqDiff, reduceAdd, reduceLT, reduceLeDiff, reduceToNat, reduceMul, reduceSub, Nat.reduceBEq, Int.reduceLE, eSchema]) ?_
  refine CWops.done ?_
  refine CW.seq ?_
  refine CW.seq ?_
  refine CW.region (by kernel_rfl) (by kernel_rfl) ?_ -- r1
  refine CWops.run htt 1 (by simp only [go_sem, reduceIte, reduceCtorEq, reduceEqDiff, reduceAdd, reduceLT, reduceLeDiff, reduceToNat, reduceMul, reduceSub, Nat.reduceBEq, Int.reduceLE]; exact rfl) (by simp [go_sem, reduceIte, reduceCtorEq, reduceEqDiff, reduceAdd, reduceLT, reduceLeDiff, reduceToNat, reduceMul, reduceSub, Nat.reduceBEq, Int.reduceLE]) ?_
  refine CWops.done ?_
  refine CW.block ?_
  refine CW.loop (S := Nat) (fun i => ⟨1, [(1, .int .i64 k), (2, .lv 0 [] 0), (5, .int .i64 i)], [(0, ⟨true, eSchema s⟩)]⟩) (fun i => i ≤ s.length ∧ ∀ (j : Nat) (y), j < i → s[j]? = some y → decide ((y.F.length : Int) ≤ k) = true) (fun i => s.length - i) (0) ?_ ⟨Nat.zero_le _, fun j y hj => by omega⟩ (fun i ⟨h1, h2⟩ => ?_)
  · refine Sh.wk0 ?_; simp [Wk, go_sem, reduceIte, reduceCtorEq, reduceEqDiff, reduceAdd, reduceLT, reduceLeDiff, reduceToNat, reduceMul, reduceSub, Nat.reduceBEq, Int.reduceLE, eSchema]
  refine CW.seq ?_
  refine CW.seq ?_
  refine CW.region (by kernel_rfl) (by kernel_rfl) ?_ -- r2
  refine CWops.run htt 5 (by simp only [go_sem, reduceIte, reduceCtorEq, reduceEqDiff, reduceAdd, reduceLT, reduceLeDiff, reduceToNat, reduceMul, reduceSub, Nat.reduceBEq, Int.reduceLE, eSchema]; exact rfl) (by simp [go_sem, reduceIte, reduceCtorEq, reduceEqDiff, reduceAdd, reduceLT, reduceLeDiff, reduceToNat, reduceMul, reduceSub, Nat.reduceBEq, Int.reduceLE, eSchema]) ?_
  refine CWops.done ?_
  refine CW.cond (by simp only [go_sem, reduceIte, reduceCtorEq, reduceEqDiff, reduceAdd, reduceLT, reduceLeDiff, reduceToNat, reduceMul, reduceSub, Nat.reduceBEq, Int.reduceLE]; first | done | exact rfl) (fun ct10 => ?_) (fun ct10 => ?_)
  · have hi : i < s.length := by simpa using ct10
    obtain ⟨x, hx⟩ : ∃ x, s[i]? = some x := ⟨s[i], List.getElem?_eq_getElem hi⟩
    refine CW.skip ?_
    refine CW.seq ?_
    refine CW.block ?_
    refine CW.seq ?_
    refine CW.region (by kernel_rfl) (by kernel_rfl) ?_ -- r4
    refine CWops.run htt 9 (by simp only [go_sem, reduceIte, reduceCtorEq, reduceEqDiff, reduceAdd, reduceLT, reduceLeDiff, reduceToNat, reduceMul, reduceSub, Nat.reduceBEq, Int.reduceLE, eSchema, hx, eType]; exact rfl) (by simp [go_sem, reduceIte, reduceCtorEq, reduceEqDiff, reduceAdd, reduceLT, reduceLeDiff, reduceToNat, reduceMul, reduceSub, Nat.reduceBEq, Int.reduceLE, eSchema, hx, eType]) ?_
    refine CWops.done ?_
    refine CW.cond (by simp only [go_sem, reduceIte, reduceCtorEq, reduceEqDiff, reduceAdd, reduceLT, reduceLeDiff, reduceToNat, reduceMul, reduceSub, Nat.reduceBEq, Int.reduceLE]; first | done | exact rfl) (fun ct21 => ?_) (fun ct21 => ?_)
    · have hp : decide ((x.F.length : Int) ≤ k) = false := by simp at ct21 ⊢; omega
      refine CW.seq ?_
      refine CW.region (by kernel_rfl) (by kernel_rfl) ?_ -- r5
      refine CWops.run htt 1 (by simp only [go_sem, reduceIte, reduceCtorEq, reduceEqDiff, reduceAdd, reduceLT, reduceLeDiff, reduceToNat, reduceMul, reduceSub, Nat.reduceBEq, Int.reduceLE]; exact rfl) (by simp [go_sem, reduceIte, reduceCtorEq, reduceEqDiff, reduceAdd, reduceLT, reduceLeDiff, reduceToNat, reduceMul, reduceSub, Nat.reduceBEq, Int.reduceLE]) ?_
      refine CWops.done ?_
      refine CW.ret ?_
      refine retQ.ret (by simp only [f39, go_sem, reduceIte, reduceCtorEq, reduceEqDiff, reduceAdd, reduceLT, reduceLeDiff, reduceToNat, reduceMul, reduceSub, Nat.reduceBEq, Int.reduceLE]; exact rfl) (by simp only [go_sem, reduceIte, reduceCtorEq, reduceEqDiff, reduceAdd, reduceLT, reduceLeDiff, reduceToNat, reduceMul, reduceSub, Nat.reduceBEq, Int.reduceLE]; exact rfl) ?_ -- ret1
      refine ⟨_, ?_, rfl⟩
      have : few06 s k = false := by unfold few06; rw [allI_no hx hp]; rfl
      simp [leP, this]
    · have hp : decide ((x.F.length : Int) ≤ k) = true := by simp at ct21 ⊢; omega
      refine CW.skip ?_
      refine CW.region (by kernel_rfl) (by kernel_rfl) ?_ -- r3
      refine CWops.run htt 3 (by simp only [go_sem, reduceIte, reduceCtorEq, reduceEqDiff, reduceAdd, reduceLT, reduceLeDiff, reduceToNat, reduceMul, reduceSub, Nat.reduceBEq, Int.reduceLE, wrap_succ (Nat.lt_of_lt_of_le hi hb)]; exact rfl) (by simp [go_sem, reduceIte, reduceCtorEq, reduceEqDiff, reduceAdd, reduceLT, reduceLeDiff, reduceToNat, reduceMul, reduceSub, Nat.reduceBEq, Int.reduceLE, wrap_succ (Nat.lt_of_lt_of_le hi hb)]) ?_
      refine CWops.done ?_
      refine ⟨i + 1, ?_, ?_, ?_⟩
      · refine Sh.wk0 ?_; simp [Wk, go_sem, reduceIte, reduceCtorEq, reduceEqDiff, reduceAdd, reduceLT, reduceLeDiff, reduceToNat, reduceMul, reduceSub, Nat.reduceBEq, Int.reduceLE, eSchema]
      · exact ⟨hi, belowI_succ (p := fun _ y => decide ((y.F.length : Int) ≤ k)) h2 hx hp⟩
      · simp only; omega
  · have hi : i = s.length := by simp at ct10; omega
    refine CW.exit ?_
    refine CW.seq ?_
    refine CW.region (by kernel_rfl) (by kernel_rfl) ?_ -- r6
    refine CWops.run htt 6 (by simp only [go_sem, reduceIte, reduceCtorEq, reduceEqDiff, reduceAdd, reduceLT, reduceLeDiff, reduceToNat, reduceMul, reduceSub, Nat.reduceBEq, Int.reduceLE, eSchema]; exact rfl) (by simp [go_sem, reduceIte, reduceCtorEq, reduceEqDiff, reduceAdd, reduceLT, reduceLeDiff, reduceToNat, reduceMul, reduceSub, Nat.reduceBEq, Int.reduceLE, eSchema]) ?_
    refine CWops.done ?_
    refine CW.ret ?_
    refine retQ.ret (by simp only [f39, go_sem, reduceIte, reduceCtorEq, reduceEqDiff, reduceAdd, reduceLT, reduceLeDiff, reduceToNat, reduceMul, reduceSub, Nat.reduceBEq, Int.reduceLE]; exact rfl) (by simp only [go_sem, reduceIte, reduceCtorEq, reduceEqDiff, reduceAdd, reduceLT, reduceLeDiff, reduceToNat, reduceMul, reduceSub, Nat.reduceBEq, Int.reduceLE]; exact rfl) ?_ -- ret2
    refine ⟨_, ?_, rfl⟩
    have : few06 s k = decide ((s.length : Int) ≤ k) := by unfold few06; rw [belowI_all (p := fun _ (y : GType) => decide ((y.F.length : Int) ≤ k)) (by rw [← hi]; exact h2)]; simp
    simp [leP, this]
theorem law08_Few (up : Bool) (g : Graph) : PCall prog up 16 [.agg (eGraph g)] (· = .bool (fewG g)) := by
  refine PCall.intro htt func16 (by kernel_rfl) rfl (Nat.le_of_ble_eq_true rfl) fun hl => ?_
  have hL := (hl (.agg (eGraph g)) (by simp)).agg
  have hb := (hL (.sl 3 (g.O.map eObj)) (by simp [eGraph])).sl.1
  simp only [List.length_map] at hb
  simp only [tmps0, Nat.reduceAdd]
  refine CW.seq ?_
  refine CW.region (by kernel_rfl) (by kernel_rfl) ?_ -- r0
  refine CWops.run htt 2 (by simp only [go_sem, reduceIte, reduceCtorEq, reduceEqDiff, reduceAdd, reduceLT, reduceLeDiff, reduceToNat, reduceMul, reduceSub, Nat.reduceBEq, Int.reduceLE, eGraph]; exact rfl) (by simp [go_sem, reduceIte, reduceCtorEq, reduceEqDiff, reduceAdd, reduceLT, reduceLeDiff, reduceToNat, reduceMul, reduceSub, Nat.reduceBEq, Int.reduceLE, eGraph]) ?_
  refine CWops.done ?_
  refine CW.seq ?_
  refine CW.region (by kernel_rfl) (by kernel_rfl) ?_ -- r1
  refine CWops.run htt 2 (by simp only [go_sem, reduceIte, reduceCtorEq, reduceEqDiff, reduceAdd, reduceLT, reduceLeDiff, reduceToNat, reduceMul, reduceSub, Nat.reduceBEq, Int.reduceLE, eGraph, eSchema]; exact rfl) (by simp [go_sem, reduceIte, reduceCtorEq, reduceEqDiff, reduceAdd, reduceLT, reduceLeDiff, reduceToNat, reduceMul, reduceSub, Nat.reduceBEq, Int.reduceLE, eGraph, eSchema]) ?_
  refine CWops.call (law06_Few up g.S 10) (by simp only [go_sem, reduceIte, reduceCtorEq, reduceEqDiff, reduceAdd, reduceLT, reduceLeDiff, reduceToNat, reduceMul, reduceSub, Nat.reduceBEq, Int.reduceLE, eGraph, eSchema]) (by simp only [go_sem, reduceIte, reduceCtorEq, reduceEqDiff, reduceAdd, reduceLT, reduceLeDiff, reduceToNat, reduceMul, reduceSub, Nat.reduceBEq, Int.reduceLE, eGraph, eSchema]; first | done | exact rfl) (by simp only [go_sem, reduceIte, reduceCtorEq, reduceEqDiff, reduceAdd, reduceLT, reduceLeDiff, reduceToNat, reduceMul, reduceSub, Nat.reduceBEq, Int.reduceLE, eGraph, eSchema]) (fun rt7 hrt7 => ?_)
  subst hrt7; refine ⟨rfl, ?_⟩
  refine CWops.run htt 1 (by simp only [go_sem, reduceIte, reduceCtorEq, reduceEqDiff, reduceAdd, reduceLT, reduceLeDiff, reduceToNat, reduceMul, reduceSub, Nat.reduceBEq, Int.reduceLE, eGraph, eSchema]; exact rfl) (by simp [go_sem, reduceIte, reduceCtorEq, reduceEqDiff, reduceAdd, reduceLT, reduceLeDiff, reduceToNat, reduceMul, reduceSub, Nat.reduceBEq, Int.reduceLE, eGraph, eSchema]) ?_
  refine CWops.done ?_
  refine CW.seq ?_
  refine CW.cut ⟨1, [(1, .lv 0 [] 0), (21, .bool (!((few06 g.S 10 && decide (g.O.length ≤ 12)) && decide (g.Roots.length ≤ 10))))], [(0, ⟨true, eGraph g⟩)]⟩ ?_ ?_
  · refine CW.region (by kernel_rfl) (by kernel_rfl) ?_ -- r2
    refine CWops.run htt 3 (by simp only [go_sem, reduceIte, reduceCtorEq, reduceEqDiff, reduceAdd, reduceLT, reduceLeDiff, reduceToNat, reduceMul, reduceSub, Nat.reduceBEq, Int.reduceLE, eGraph]; exact rfl) (by simp [go_sem, reduceIte, reduceCtorEq, reduceEqDiff, reduceAdd, reduceLT, reduceLeDiff, reduceToNat, reduceMul, reduceSub, Nat.reduceBEq, Int.reduceLE, eGraph]) ?_
    all_goals (first | refine CWops.guard 10 (by simp only [go_sem, reduceIte, reduceCtorEq, reduceEqDiff, reduceAdd, reduceLT, reduceLeDiff, reduceToNat, reduceMul, reduceSub, Nat.reduceBEq, Int.reduceLE, eGraph]; exact rfl) (fun g10 => ?_) (fun g10 => ?_) | skip)
    all_goals (refine CWops.run htt 6 (by simp only [go_sem, reduceIte, reduceCtorEq, reduceEqDiff, reduceAdd, reduceLT, reduceLeDiff, reduceToNat, reduceMul, reduceSub, Nat.reduceBEq, Int.reduceLE, eGraph]; exact rfl) (by simp [go_sem, reduceIte, reduceCtorEq, reduceEqDiff, reduceAdd, reduceLT, reduceLeDiff, reduceToNat, reduceMul, reduceSub, Nat.reduceBEq, Int.reduceLE, eGraph]) ?_)
    all_goals (first | refine CWops.guard 16 (by simp only [go_sem, reduceIte, reduceCtorEq, reduceEqDiff, reduceAdd, reduceLT, reduceLeDiff, reduceToNat, reduceMul, reduceSub, Nat.reduceBEq, Int.reduceLE, eGraph]; exact rfl) (fun g16 => ?_) (fun g16 => ?_) | skip)
    all_goals (refine CWops.run htt 5 (by simp only [go_sem, reduceIte, reduceCtorEq, reduceEqDiff, reduceAdd, reduceLT, reduceLeDiff, reduceToNat, reduceMul, reduceSub, Nat.reduceBEq, Int.reduceLE, eGraph]; exact rfl) (by simp [go_sem, reduceIte, reduceCtorEq, reduceEqDiff, reduceAdd, reduceLT, reduceLeDiff, reduceToNat, reduceMul, reduceSub, Nat.reduceBEq, Int.reduceLE, eGraph]) ?_)
    all_goals (refine CWops.done ?_)
    all_goals (
      refine ⟨rfl, Sh.wk0 ?_⟩
      simp_all [Wk, go_sem, reduceIte, reduceCtorEq, reduceEqDiff, reduceAdd, reduceLT, reduceLeDiff, reduceToNat, reduceMul, reduceSub, Nat.reduceBEq, Int.reduceLE, eGraph] <;> first | done | omega | rfl | (rw [Bool.eq_iff_iff]; done) | (rw [Bool.eq_iff_iff]; simp; done) | (rw [Bool.eq_iff_iff]; simp; omega))
  refine CW.cond (by simp only [go_sem, reduceIte, reduceCtorEq, reduceEqDiff, reduceAdd, reduceLT, reduceLeDiff, reduceToNat, reduceMul, reduceSub, Nat.reduceBEq, Int.reduceLE]; first | done | exact rfl) (fun ct21 => ?_) (fun ct21 => ?_)
  · simp only [Bool.not_eq_true'] at ct21
    refine CW.seq ?_
    refine CW.region (by kernel_rfl) (by kernel_rfl) ?_ -- r3
    refine CWops.run htt 1 (by simp only [go_sem, reduceIte, reduceCtorEq, reduceEqDiff, reduceAdd, reduceLT, reduceLeDiff, reduceToNat, reduceMul, reduceSub, Nat.reduceBEq, Int.reduceLE]; exact rfl) (by simp [go_sem, reduceIte, reduceCtorEq, reduceEqDiff, reduceAdd, reduceLT, reduceLeDiff, reduceToNat, reduceMul, reduceSub, Nat.reduceBEq, Int.reduceLE]) ?_
    refine CWops.done ?_
    refine CW.ret ?_
    refine retQ.ret (by simp only [f16, go_sem, reduceIte, reduceCtorEq, reduceEqDiff, reduceAdd, reduceLT, reduceLeDiff, reduceToNat, reduceMul, reduceSub, Nat.reduceBEq, Int.reduceLE]; exact rfl) (by simp only [go_sem, reduceIte, reduceCtorEq, reduceEqDiff, reduceAdd, reduceLT, reduceLeDiff, reduceToNat, reduceMul, reduceSub, Nat.reduceBEq, Int.reduceLE]; exact rfl) ?_ -- ret1
    refine ⟨_, ?_, rfl⟩
    have : fewG g = false := by unfold fewG; rw [ct21]; rfl
    simp [leP, this]
  · simp only [Bool.not_eq_false'] at ct21
    refine CW.skip ?_
    refine CW.seq ?_
    refine CW.seq ?_
    refine CW.region (by kernel_rfl) (by kernel_rfl) ?_ -- r4
    refine CWops.run htt 1 (by simp only [go_sem, reduceIte, reduceCtorEq, reduceEqDiff, reduceAdd, reduceLT, reduceLeDiff, reduceToNat, reduceMul, reduceSub, Nat.reduceBEq, Int.reduceLE]; exact rfl) (by simp [go_sem, reduceIte, reduceCtorEq, reduceEqDiff, reduceAdd, reduceLT, reduceLeDiff, reduceToNat, reduceMul, reduceSub, Nat.reduceBEq, Int.reduceLE]) ?_
    refine CWops.done ?_
    refine CW.block ?_
    refine CW.loop (S := Nat) (fun i => ⟨1, [(1, .lv 0 [] 0), (4, .int .i64 i)], [(0, ⟨true, eGraph g⟩)]⟩) (fun i => i ≤ g.O.length ∧ ∀ (j : Nat) (y), j < i → g.O[j]? = some y → decide (y.F.length ≤ 10) = true) (fun i => g.O.length - i) (0) ?_ ⟨Nat.zero_le _, fun j y hj => by omega⟩ (fun i ⟨h1, h2⟩ => ?_)
    · refine Sh.wk0 ?_; simp [Wk, go_sem, reduceIte, reduceCtorEq, reduceEqDiff, reduceAdd, reduceLT, reduceLeDiff, reduceToNat, reduceMul, reduceSub, Nat.reduceBEq, Int.reduceLE, eGraph]
    refine CW.seq ?_
    refine CW.seq ?_
    refine CW.region (by kernel_rfl) (by kernel_rfl) ?_ -- r5
    refine CWops.run htt 5 (by simp only [go_sem, reduceIte, reduceCtorEq, reduceEqDiff, reduceAdd, reduceLT, reduceLeDiff, reduceToNat, reduceMul, reduceSub, Nat.reduceBEq, Int.reduceLE, eGraph]; exact rfl) (by simp [go_sem, reduceIte, reduceCtorEq, reduceEqDiff, reduceAdd, reduceLT, reduceLeDiff, reduceToNat, reduceMul, reduceSub, Nat.reduceBEq, Int.reduceLE, eGraph]) ?_
    refine CWops.done ?_
    refine CW.cond (by simp only [go_sem, reduceIte, reduceCtorEq, reduceEqDiff, reduceAdd, reduceLT, reduceLeDiff, reduceToNat, reduceMul, reduceSub, Nat.reduceBEq, Int.reduceLE]; first | done | exact rfl) (fun ct26 => ?_) (fun ct26 => ?_)
    · have hi : i < g.O.length := by simpa using ct26
      obtain ⟨x, hx⟩ : ∃ x, g.O[i]? = some x := ⟨g.O[i], List.getElem?_eq_getElem hi⟩
      refine CW.skip ?_
      refine CW.seq ?_
      refine CW.block ?_
      refine CW.seq ?_
      refine CW.region (by kernel_rfl) (by kernel_rfl) ?_ -- r7
      refine CWops.run htt 8 (by simp only [go_sem, reduceIte, reduceCtorEq, reduceEqDiff, reduceAdd, reduceLT, reduceLeDiff, reduceToNat, reduceMul, reduceSub, Nat.reduceBEq, Int.reduceLE, eGraph, hx, eObj]; exact rfl) (by simp [go_sem, reduceIte, reduceCtorEq, reduceEqDiff, reduceAdd, reduceLT, reduceLeDiff, reduceToNat, reduceMul, reduceSub, Nat.reduceBEq, Int.reduceLE, eGraph, hx, eObj]) ?_
      refine CWops.done ?_
      refine CW.cond (by simp only [go_sem, reduceIte, reduceCtorEq, reduceEqDiff, reduceAdd, reduceLT, reduceLeDiff, reduceToNat, reduceMul, reduceSub, Nat.reduceBEq, Int.reduceLE]; first | done | exact rfl) (fun ct36 => ?_) (fun ct36 => ?_)
      · have hp : decide (x.F.length ≤ 10) = false := by simp at ct36 ⊢; omega
        refine CW.seq ?_
        refine CW.region (by kernel_rfl) (by kernel_rfl) ?_ -- r8
        refine CWops.run htt 1 (by simp only [go_sem, reduceIte, reduceCtorEq, reduceEqDiff, reduceAdd, reduceLT, reduceLeDiff, reduceToNat, reduceMul, reduceSub, Nat.reduceBEq, Int.reduceLE]; exact rfl) (by simp [go_sem, reduceIte, reduceCtorEq, reduceEqDiff, reduceAdd, reduceLT, reduceLeDiff, reduceToNat, reduceMul, reduceSub, Nat.reduceBEq, Int.reduceLE]) ?_
        refine CWops.done ?_
        refine CW.ret ?_
        refine retQ.ret (by simp only [f16, go_sem, reduceIte, reduceCtorEq, reduceEqDiff, reduceAdd, reduceLT, reduceLeDiff, reduceToNat, reduceMul, reduceSub, Nat.reduceBEq, Int.reduceLE]; exact rfl) (by simp only [go_sem, reduceIte, reduceCtorEq, reduceEqDiff, reduceAdd, reduceLT, reduceLeDiff, reduceToNat, reduceMul, reduceSub, Nat.reduceBEq, Int.reduceLE]; exact rfl) ?_ -- ret2
        refine ⟨_, ?_, rfl⟩
        have : fewG g = false := by unfold fewG; rw [allI_no hx hp]; simp
        simp [leP, this]
      · have hp : decide (x.F.length ≤ 10) = true := by simp at ct36 ⊢; omega
        refine CW.skip ?_
        refine CW.region (by kernel_rfl) (by kernel_rfl) ?_ -- r6
        refine CWops.run htt 3 (by simp only [go_sem, reduceIte, reduceCtorEq, reduceEqDiff, reduceAdd, reduceLT, reduceLeDiff, reduceToNat, reduceMul, reduceSub, Nat.reduceBEq, Int.reduceLE, wrap_succ (Nat.lt_of_lt_of_le hi hb)]; exact rfl) (by simp [go_sem, reduceIte, reduceCtorEq, reduceEqDiff, reduceAdd, reduceLT, reduceLeDiff, reduceToNat, reduceMul, reduceSub, Nat.reduceBEq, Int.reduceLE, wrap_succ (Nat.lt_of_lt_of_le hi hb)]) ?_
        refine CWops.done ?_
        refine ⟨i + 1, ?_, ?_, ?_⟩
        · refine Sh.wk0 ?_; simp [Wk, go_sem, reduceIte, reduceCtorEq, reduceEqDiff, reduceAdd, reduceLT, reduceLeDiff, reduceToNat, reduceMul, reduceSub, Nat.reduceBEq, Int.reduceLE, eGraph]
        · exact ⟨hi, belowI_succ (p := fun _ y => decide (y.F.length ≤ 10)) h2 hx hp⟩
        · simp only; omega
    · have hi : i = g.O.length := by simp at ct26; omega
      refine CW.exit ?_
      refine CW.seq ?_
      refine CW.region (by kernel_rfl) (by kernel_rfl) ?_ -- r9
      refine CWops.run htt 1 (by simp only [go_sem, reduceIte, reduceCtorEq, reduceEqDiff, reduceAdd, reduceLT, reduceLeDiff, reduceToNat, reduceMul, reduceSub, Nat.reduceBEq, Int.reduceLE]; exact rfl) (by simp [go_sem, reduceIte, reduceCtorEq, reduceEqDiff, reduceAdd, reduceLT, reduceLeDiff, reduceToNat, reduceMul, reduceSub, Nat.reduceBEq, Int.reduceLE]) ?_
      refine CWops.done ?_
      refine CW.ret ?_
      refine retQ.ret (by simp only [f16, go_sem, reduceIte, reduceCtorEq, reduceEqDiff, reduceAdd, reduceLT, reduceLeDiff, reduceToNat, reduceMul, reduceSub, Nat.reduceBEq, Int.reduceLE]; exact rfl) (by simp only [go_sem, reduceIte, reduceCtorEq, reduceEqDiff, reduceAdd, reduceLT, reduceLeDiff, reduceToNat, reduceMul, reduceSub, Nat.reduceBEq, Int.reduceLE]; exact rfl) ?_ -- ret3
      refine ⟨_, ?_, rfl⟩
      have : fewG g = true := by unfold fewG; rw [ct21, belowI_all (p := fun _ (y : GObj) => decide (y.F.length ≤ 10)) (by rw [← hi]; exact h2)]; rfl
      simp [leP, this]
end Go.Ab
namespace Go.Ab
open Go Go.Proofs.Try
open Nat (reduceEqDiff reduceAdd reduceLT reduceLeDiff reduceBEq reduceSub reduceMul)
open Int (reduceToNat)
set_option maxRecDepth 100000
set_option linter.unusedSimpArgs false
set_option linter.unusedVariables false
@[go_sem] theorem tt_31 : tiOf prog 31 = some ⟨.slice 48, 1, 24, [.nilsl], false⟩ := by kernel_rfl
@[go_sem] theorem tt_33 : tiOf prog 33 = some ⟨.struct [(26, 0), (26, 1), (31, 2), (26, 3)], 4, 96, [.nilsl, .nilsl, .nilsl, .nilsl], true⟩ := by kernel_rfl
@[go_sem] theorem tt_34 : tiOf prog 34 = some ⟨.int IntKind.i64, 1, 8, [.int .i64 0], false⟩ := by kernel_rfl
@[go_sem] theorem tt_48 : tiOf prog 48 = some ⟨.array 2 3, 2, 16, [.int .i64 0, .int .i64 0], false⟩ := by kernel_rfl
theorem clone_ObjG (up : Bool) (xs : List GObj) (hx : xs.length * 40 ≤ MX) : GCall prog up 77 [.sl 3 (xs.map eObj)] 0 [] (fun r σ' => r = .ref 0 [] 0 ∧ σ'.n = 1 ∧ σ'.s = [(0, ⟨false, [.own 3 (xs.map eObj)]⟩)]) := by
  refine GCall.intro htt 0 func77 (by kernel_rfl) rfl (Nat.le_of_ble_eq_true rfl) (CW.told ?_)
  have hx1 : xs.length ≤ MX := by omega
  simp only [tmps0, Nat.reduceAdd]
  refine CW.seq ?_
  refine CW.region (by kernel_rfl) (by kernel_rfl) ?_ -- r0
  refine CWops.run htt 1 (by simp only [go_sem, reduceIte, reduceCtorEq, reduceEqDiff, reduceAdd, reduceLT, reduceLeDiff, reduceToNat, reduceMul]; exact rfl) (by simp [go_sem, reduceIte, reduceCtorEq, reduceEqDiff, reduceAdd, reduceLT, reduceLeDiff, reduceToNat, reduceMul]) ?_
  refine CWops.done ?_
  refine CW.seq ?_
  refine CW.seq ?_
  refine CW.region (by kernel_rfl) (by kernel_rfl) ?_ -- r1
  refine CWops.run htt 1 (by simp only [go_sem, reduceIte, reduceCtorEq, reduceEqDiff, reduceAdd, reduceLT, reduceLeDiff, reduceToNat, reduceMul]; exact rfl) (by simp [go_sem, reduceIte, reduceCtorEq, reduceEqDiff, reduceAdd, reduceLT, reduceLeDiff, reduceToNat, reduceMul]) ?_
  refine CWops.nilcmp (n := 3) (l := xs.map eObj) htt (by simp only [go_sem, reduceIte, reduceCtorEq, reduceEqDiff, reduceAdd, reduceLT, reduceLeDiff, reduceToNat, reduceMul]) (by simp only [go_sem, reduceIte, reduceCtorEq, reduceEqDiff, reduceAdd, reduceLT, reduceLeDiff, reduceToNat, reduceMul]) (by simp only [go_sem, reduceIte, reduceCtorEq, reduceEqDiff, reduceAdd, reduceLT, reduceLeDiff, reduceToNat, reduceMul]) tt_25 rfl (fun b hb => ⟨_, rfl, ?_⟩)
  refine CWops.done ?_
  refine CW.cond (by simp only [go_sem, reduceIte, reduceCtorEq, reduceEqDiff, reduceAdd, reduceLT, reduceLeDiff, reduceToNat, reduceMul]; first | done | exact rfl) (fun ct4 => ?_) (fun ct4 => ?_)
  · refine CW.seq ?_
    refine CW.region (by kernel_rfl) (by kernel_rfl) ?_ -- r2
    refine CWops.run htt 1 (by simp only [go_sem, reduceIte, reduceCtorEq, reduceEqDiff, reduceAdd, reduceLT, reduceLeDiff, reduceToNat, reduceMul]; exact rfl) (by simp [go_sem, reduceIte, reduceCtorEq, reduceEqDiff, reduceAdd, reduceLT, reduceLeDiff, reduceToNat, reduceMul]) ?_
    refine CWops.done ?_
    refine CW.ret ?_
    refine ⟨⟨1, [(2, .ref 0 [] 0)], [(0, ⟨false, [.own 3 (xs.map eObj)]⟩)]⟩, ?_, .inr rfl, by simp [ptrOK, go_sem, reduceIte, reduceCtorEq, reduceEqDiff, reduceAdd, reduceLT, reduceLeDiff, reduceToNat, reduceMul], _, by simp only [f77, go_sem, reduceIte, reduceCtorEq, reduceEqDiff, reduceAdd, reduceLT, reduceLeDiff, reduceToNat, reduceMul]; exact rfl, ?_⟩ -- ret1
    · have h0 := hb ct4
      refine Sh.trans (Sh.nilRoot 2 3 (by simp only [go_sem, reduceIte, reduceCtorEq, reduceEqDiff, reduceAdd, reduceLT, reduceLeDiff, reduceToNat, reduceMul]) rfl) (Sh.wk0 ?_)
      simp [Wk, go_sem, reduceIte, reduceCtorEq, reduceEqDiff, reduceAdd, reduceLT, reduceLeDiff, reduceToNat, reduceMul, h0]
    · exact ⟨rfl, rfl, rfl⟩
  · refine CW.skip ?_
    refine CW.seq ?_
    refine CW.region (by kernel_rfl) (by kernel_rfl) ?_ -- r3
    refine CWops.run htt 4 (by simp only [go_sem, reduceIte, reduceCtorEq, reduceEqDiff, reduceAdd, reduceLT, reduceLeDiff, reduceToNat, reduceMul]; exact rfl) (by refine ⟨?_, ?_, ?_⟩ <;> first | (simp [eObj, AV.cell]; done) | (simp; omega)) ?_
    refine CWops.done ?_
    refine CW.ret ?_
    refine ⟨⟨1, [(2, .ref 0 [] 0)], [(0, ⟨false, [.own 3 (xs.map eObj)]⟩)]⟩, ?_, .inr rfl, by simp [ptrOK, go_sem, reduceIte, reduceCtorEq, reduceEqDiff, reduceAdd, reduceLT, reduceLeDiff, reduceToNat, reduceMul], _, by simp only [f77, go_sem, reduceIte, reduceCtorEq, reduceEqDiff, reduceAdd, reduceLT, reduceLeDiff, reduceToNat, reduceMul]; exact rfl, ?_⟩ -- ret2
    · refine Sh.wk (fun x => x + 1) ?_
      simp [Wk, go_sem, reduceIte, reduceCtorEq, reduceEqDiff, reduceAdd, reduceLT, reduceLeDiff, reduceToNat, reduceMul]
    · exact ⟨rfl, rfl, rfl⟩
theorem clone_IntG (up : Bool) (xs : List Int) (hx : xs.length * 8 ≤ MX) : GCall prog up 78 [.sl 1 (xs.map eI)] 0 [] (fun r σ' => r = .ref 0 [] 0 ∧ σ'.n = 1 ∧ σ'.s = [(0, ⟨false, [.own 1 (xs.map eI)]⟩)]) := by
  refine GCall.intro htt 0 func78 (by kernel_rfl) rfl (Nat.le_of_ble_eq_true rfl) (CW.told ?_)
  have hx1 : xs.length ≤ MX := by omega
  simp only [tmps0, Nat.reduceAdd]
  refine CW.seq ?_
  refine CW.region (by kernel_rfl) (by kernel_rfl) ?_ -- r0
  refine CWops.run htt 1 (by simp only [go_sem, reduceIte, reduceCtorEq, reduceEqDiff, reduceAdd, reduceLT, reduceLeDiff, reduceToNat, reduceMul]; exact rfl) (by simp [go_sem, reduceIte, reduceCtorEq, reduceEqDiff, reduceAdd, reduceLT, reduceLeDiff, reduceToNat, reduceMul]) ?_
  refine CWops.done ?_
  refine CW.seq ?_
  refine CW.seq ?_
  refine CW.region (by kernel_rfl) (by kernel_rfl) ?_ -- r1
  refine CWops.run htt 1 (by simp only [go_sem, reduceIte, reduceCtorEq, reduceEqDiff, reduceAdd, reduceLT, reduceLeDiff, reduceToNat, reduceMul]; exact rfl) (by simp [go_sem, reduceIte, reduceCtorEq, reduceEqDiff, reduceAdd, reduceLT, reduceLeDiff, reduceToNat, reduceMul]) ?_
  refine CWops.nilcmp (n := 1) (l := xs.map eI) htt (by simp only [go_sem, reduceIte, reduceCtorEq, reduceEqDiff, reduceAdd, reduceLT, reduceLeDiff, reduceToNat, reduceMul]) (by simp only [go_sem, reduceIte, reduceCtorEq, reduceEqDiff, reduceAdd, reduceLT, reduceLeDiff, reduceToNat, reduceMul]) (by simp only [go_sem, reduceIte, reduceCtorEq, reduceEqDiff, reduceAdd, reduceLT, reduceLeDiff, reduceToNat, reduceMul]) tt_26 rfl (fun b hb => ⟨_, rfl, ?_⟩)
  refine CWops.done ?_
  refine CW.cond (by simp only [go_sem, reduceIte, reduceCtorEq, reduceEqDiff, reduceAdd, reduceLT, reduceLeDiff, reduceToNat, reduceMul]; first | done | exact rfl) (fun ct4 => ?_) (fun ct4 => ?_)
  · refine CW.seq ?_
    refine CW.region (by kernel_rfl) (by kernel_rfl) ?_ -- r2
    refine CWops.run htt 1 (by simp only [go_sem, reduceIte, reduceCtorEq, reduceEqDiff, reduceAdd, reduceLT, reduceLeDiff, reduceToNat, reduceMul]; exact rfl) (by simp [go_sem, reduceIte, reduceCtorEq, reduceEqDiff, reduceAdd, reduceLT, reduceLeDiff, reduceToNat, reduceMul]) ?_
    refine CWops.done ?_
    refine CW.ret ?_
    refine ⟨⟨1, [(2, .ref 0 [] 0)], [(0, ⟨false, [.own 1 (xs.map eI)]⟩)]⟩, ?_, .inr rfl, by simp [ptrOK, go_sem, reduceIte, reduceCtorEq, reduceEqDiff, reduceAdd, reduceLT, reduceLeDiff, reduceToNat, reduceMul], _, by simp only [f78, go_sem, reduceIte, reduceCtorEq, reduceEqDiff, reduceAdd, reduceLT, reduceLeDiff, reduceToNat, reduceMul]; exact rfl, ?_⟩ -- ret1
    · have h0 := hb ct4
      refine Sh.trans (Sh.nilRoot 2 1 (by simp only [go_sem, reduceIte, reduceCtorEq, reduceEqDiff, reduceAdd, reduceLT, reduceLeDiff, reduceToNat, reduceMul]) rfl) (Sh.wk0 ?_)
      simp [Wk, go_sem, reduceIte, reduceCtorEq, reduceEqDiff, reduceAdd, reduceLT, reduceLeDiff, reduceToNat, reduceMul, h0]
    · exact ⟨rfl, rfl, rfl⟩
  · refine CW.skip ?_
    refine CW.seq ?_
    refine CW.region (by kernel_rfl) (by kernel_rfl) ?_ -- r3
    refine CWops.run htt 4 (by simp only [go_sem, reduceIte, reduceCtorEq, reduceEqDiff, reduceAdd, reduceLT, reduceLeDiff, reduceToNat, reduceMul]; exact rfl) (by refine ⟨?_, ?_, ?_⟩ <;> first | (simp [eI, AV.cell]; done) | (simp; omega)) ?_
    refine CWops.done ?_
    refine CW.ret ?_
    refine ⟨⟨1, [(2, .ref 0 [] 0)], [(0, ⟨false, [.own 1 (xs.map eI)]⟩)]⟩, ?_, .inr rfl, by simp [ptrOK, go_sem, reduceIte, reduceCtorEq, reduceEqDiff, reduceAdd, reduceLT, reduceLeDiff, reduceToNat, reduceMul], _, by simp only [f78, go_sem, reduceIte, reduceCtorEq, reduceEqDiff, reduceAdd, reduceLT, reduceLeDiff, reduceToNat, reduceMul]; exact rfl, ?_⟩ -- ret2
    · refine Sh.wk (fun x => x + 1) ?_
      simp [Wk, go_sem, reduceIte, reduceCtorEq, reduceEqDiff, reduceAdd, reduceLT, reduceLeDiff, reduceToNat, reduceMul]
    · exact ⟨rfl, rfl, rfl⟩
theorem graph_own (up : Bool) (g : Graph) (hz : GSz g) : GCall prog up 54 [.agg (eGraph g)] 0 [] (fun r σ' => r = .agg [.ref 0 [] 0, .ref 0 [] 1, .ref 0 [] 2] ∧ σ'.n = 2 ∧ σ'.s = [(0, ⟨true, OWN g⟩), (1, ⟨true, [.ref 0 [] 0, .ref 0 [] 1, .ref 0 [] 2]⟩)]) := by
  refine GCall.intro htt 0 func54 (by kernel_rfl) rfl (Nat.le_of_ble_eq_true rfl) (CW.told ?_)
  have hb1 : g.S.length ≤ MX := by have := hz.s; omega
  have hb2 : g.O.length ≤ MX := by have := hz.o; omega
  simp only [tmps0, Nat.reduceAdd]
  refine CW.seq ?_
  refine CW.region (by kernel_rfl) (by kernel_rfl) ?_ -- r0
  refine CWops.run htt 2 (by simp only [go_sem, reduceIte, reduceCtorEq, reduceEqDiff, reduceAdd, reduceLT, reduceLeDiff, reduceToNat, reduceMul, eGraph]; exact rfl) (by simp [go_sem, reduceIte, reduceCtorEq, reduceEqDiff, reduceAdd, reduceLT, reduceLeDiff, reduceToNat, reduceMul, eGraph]) ?_
  refine CWops.done ?_
  refine CW.seq ?_
  refine CW.region (by kernel_rfl) (by kernel_rfl) ?_ -- r1
  refine CWops.run htt 3 (by simp only [go_sem, reduceIte, reduceCtorEq, reduceEqDiff, reduceAdd, reduceLT, reduceLeDiff, reduceToNat, reduceMul, eGraph]; exact rfl) (by simp [go_sem, reduceIte, reduceCtorEq, reduceEqDiff, reduceAdd, reduceLT, reduceLeDiff, reduceToNat, reduceMul, eGraph]) ?_
  refine CWops.callG [] rfl (clone_TypeG up g.S hz.s) (by simp only [go_sem, reduceIte, reduceCtorEq, reduceEqDiff, reduceAdd, reduceLT, reduceLeDiff, reduceToNat, reduceMul]) (by simp only [go_sem, reduceIte, reduceCtorEq, reduceEqDiff, reduceAdd, reduceLT, reduceLeDiff, reduceToNat, reduceMul]; first | done | exact rfl) (by decide) (by simp [go_sem, reduceIte, reduceCtorEq, reduceEqDiff, reduceAdd, reduceLT, reduceLeDiff, reduceToNat, reduceMul, mName, memB]) (by simp [go_sem, reduceIte, reduceCtorEq, reduceEqDiff, reduceAdd, reduceLT, reduceLeDiff, reduceToNat, reduceMul, mName]) (by simp [go_sem, reduceIte, reduceCtorEq, reduceEqDiff, reduceAdd, reduceLT, reduceLeDiff, reduceToNat, reduceMul]) (by simp [go_sem, reduceIte, reduceCtorEq, reduceEqDiff, reduceAdd, reduceLT, reduceLeDiff, reduceToNat, reduceMul]) (by simp [go_sem, reduceIte, reduceCtorEq, reduceEqDiff, reduceAdd, reduceLT, reduceLeDiff, reduceToNat, reduceMul, mName]) (fun r σ' hσ => ?_)
  obtain ⟨σn, σt, σs⟩ := σ'
  simp only at hσ
  obtain ⟨rfl, rfl, rfl⟩ := hσ
  simp only [aftS, renS, delAll, memB, mName, List.getD_nil, killH, kref, ren, Nat.beq_eq, go_sem, reduceIte, reduceCtorEq, reduceEqDiff, reduceAdd, reduceLT, reduceLeDiff, reduceToNat, reduceMul]
  refine CWops.run htt 3 (by simp only [go_sem, reduceIte, reduceCtorEq, reduceEqDiff, reduceAdd, reduceLT, reduceLeDiff, reduceToNat, reduceMul, eGraph]; exact rfl) (by simp [go_sem, reduceIte, reduceCtorEq, reduceEqDiff, reduceAdd, reduceLT, reduceLeDiff, reduceToNat, reduceMul, eGraph]) ?_
  refine CWops.done ?_
  refine CW.seq ?_
  refine CW.seq ?_
  refine CW.region (by kernel_rfl) (by kernel_rfl) ?_ -- r2
  refine CWops.run htt 5 (by simp only [go_sem, reduceIte, reduceCtorEq, reduceEqDiff, reduceAdd, reduceLT, reduceLeDiff, reduceToNat, reduceMul]; exact rfl) (by simp [go_sem, reduceIte, reduceCtorEq, reduceEqDiff, reduceAdd, reduceLT, reduceLeDiff, reduceToNat, reduceMul]) ?_
  refine CWops.done ?_
  refine CW.block ?_
  refine CW.loop (S := Nat) (fun i => ⟨2, [(1, .lv 0 [] 0), (2, .lv 1 [] 0), (15, .ref 0 [] 0), (16, .int .i64 g.S.length), (17, .int .i64 i)], [(0, ⟨true, [.own 2 (g.S.map eType), .sl 3 (g.O.map eObj), .sl 1 (g.Roots.map eI)]⟩), (1, ⟨true, [.nilsl, .nilsl, .nilsl]⟩)]⟩) (fun i => i ≤ g.S.length) (fun i => g.S.length - i) (0) ?_ (Nat.zero_le _) (fun i h3 => ?_)
  · refine Sh.wk0 ?_; simp [Wk, go_sem, reduceIte, reduceCtorEq, reduceEqDiff, reduceAdd, reduceLT, reduceLeDiff, reduceToNat, reduceMul, eGraph]
  refine CW.seq ?_
  refine CW.region (by kernel_rfl) (by kernel_rfl) ?_ -- r3
  refine CWops.run htt 1 (by simp only [go_sem, reduceIte, reduceCtorEq, reduceEqDiff, reduceAdd, reduceLT, reduceLeDiff, reduceToNat, reduceMul]; exact rfl) (by simp [go_sem, reduceIte, reduceCtorEq, reduceEqDiff, reduceAdd, reduceLT, reduceLeDiff, reduceToNat, reduceMul]) ?_
  refine CWops.done ?_
  refine CW.seq ?_
  refine CW.cond (by simp only [go_sem, reduceIte, reduceCtorEq, reduceEqDiff, reduceAdd, reduceLT, reduceLeDiff, reduceToNat, reduceMul]; first | done | exact rfl) (fun ct18 => ?_) (fun ct18 => ?_)
  · have hi : i < g.S.length := by simpa using ct18
    obtain ⟨x, hx⟩ : ∃ x, g.S[i]? = some x := ⟨g.S[i], List.getElem?_eq_getElem hi⟩
    refine CW.skip ?_
    refine CW.seq ?_
    refine CW.block ?_
    refine CW.seq ?_
    refine CW.region (by kernel_rfl) (by kernel_rfl) ?_ -- r4
    refine CWops.run htt 6 (by simp only [go_sem, reduceIte, reduceCtorEq, reduceEqDiff, reduceAdd, reduceLT, reduceLeDiff, reduceToNat, reduceMul, hi, hx, eType]; exact rfl) (by simp [go_sem, reduceIte, reduceCtorEq, reduceEqDiff, reduceAdd, reduceLT, reduceLeDiff, reduceToNat, reduceMul, hi, hx, eType]) ?_
    refine CWops.done ?_
    refine CW.drawn mixed 7 (by decide) (by kernel_rfl) (by kernel_rfl) (by kernel_rfl) ?_ -- r5
    refine Seg.run htt 6 (by simp only [go_sem, reduceIte, reduceCtorEq, reduceEqDiff, reduceAdd, reduceLT, reduceLeDiff, reduceToNat, reduceMul, hi, hx, eType]; exact rfl) ?_
    refine Seg.callA (clone_Field up x.F (hz.sf x (List.mem_of_getElem? hx))) (by simp only [go_sem, reduceIte, reduceCtorEq, reduceEqDiff, reduceAdd, reduceLT, reduceLeDiff, reduceToNat, reduceMul, hi, hx, eType]) (by simp only [go_sem, reduceIte, reduceCtorEq, reduceEqDiff, reduceAdd, reduceLT, reduceLeDiff, reduceToNat, reduceMul, hi, hx, eType]; first | done | exact rfl) (by simp only [go_sem, reduceIte, reduceCtorEq, reduceEqDiff, reduceAdd, reduceLT, reduceLeDiff, reduceToNat, reduceMul, hi, hx, eType]) (by simp only [go_sem, reduceIte, reduceCtorEq, reduceEqDiff, reduceAdd, reduceLT, reduceLeDiff, reduceToNat, reduceMul, hi, hx, eType]) ?_
    refine Seg.done ?_
    refine CWops.run htt 3 (by simp only [go_sem, reduceIte, reduceCtorEq, reduceEqDiff, reduceAdd, reduceLT, reduceLeDiff, reduceToNat, reduceMul, hi, hx, eType]; exact rfl) (by simp [go_sem, reduceIte, reduceCtorEq, reduceEqDiff, reduceAdd, reduceLT, reduceLeDiff, reduceToNat, reduceMul, hi, hx, eType]) ?_
    refine CWops.done ?_
    refine CW.region (by kernel_rfl) (by kernel_rfl) ?_ -- r6
    refine CWops.run htt 2 (by simp only [go_sem, reduceIte, reduceCtorEq, reduceEqDiff, reduceAdd, reduceLT, reduceLeDiff, reduceToNat, reduceMul, wrap_succ (Nat.lt_of_lt_of_le hi hb1)]; exact rfl) (by simp [go_sem, reduceIte, reduceCtorEq, reduceEqDiff, reduceAdd, reduceLT, reduceLeDiff, reduceToNat, reduceMul, wrap_succ (Nat.lt_of_lt_of_le hi hb1)]) ?_
    refine CWops.done ?_
    refine ⟨i + 1, ?_, ?_, ?_⟩
    · refine Sh.wk0 ?_
      have hss : (g.S.map eType).set i [.str x.Name, .sl 3 (x.F.map eField)] = g.S.map eType := set_same (by rw [List.getElem?_map, hx]; rfl)
      simp [Wk, go_sem, reduceIte, reduceCtorEq, reduceEqDiff, reduceAdd, reduceLT, reduceLeDiff, reduceToNat, reduceMul, hss]
    · exact hi
    · simp only; omega
  · have hi : i = g.S.length := by simp at ct18; omega
    refine CW.exit ?_
    refine CW.seq ?_
    refine CW.region (by kernel_rfl) (by kernel_rfl) ?_ -- r7
    refine CWops.run htt 2 (by simp only [go_sem, reduceIte, reduceCtorEq, reduceEqDiff, reduceAdd, reduceLT, reduceLeDiff, reduceToNat, reduceMul]; exact rfl) (by simp [go_sem, reduceIte, reduceCtorEq, reduceEqDiff, reduceAdd, reduceLT, reduceLeDiff, reduceToNat, reduceMul]) ?_
    refine CWops.callG [] rfl (clone_ObjG up g.O hz.o) (by simp only [go_sem, reduceIte, reduceCtorEq, reduceEqDiff, reduceAdd, reduceLT, reduceLeDiff, reduceToNat, reduceMul]) (by simp only [go_sem, reduceIte, reduceCtorEq, reduceEqDiff, reduceAdd, reduceLT, reduceLeDiff, reduceToNat, reduceMul]; first | done | exact rfl) (by decide) (by simp [go_sem, reduceIte, reduceCtorEq, reduceEqDiff, reduceAdd, reduceLT, reduceLeDiff, reduceToNat, reduceMul, mName, memB]) (by simp [go_sem, reduceIte, reduceCtorEq, reduceEqDiff, reduceAdd, reduceLT, reduceLeDiff, reduceToNat, reduceMul, mName]) (by simp [go_sem, reduceIte, reduceCtorEq, reduceEqDiff, reduceAdd, reduceLT, reduceLeDiff, reduceToNat, reduceMul]) (by simp [go_sem, reduceIte, reduceCtorEq, reduceEqDiff, reduceAdd, reduceLT, reduceLeDiff, reduceToNat, reduceMul]) (by simp [go_sem, reduceIte, reduceCtorEq, reduceEqDiff, reduceAdd, reduceLT, reduceLeDiff, reduceToNat, reduceMul, mName]) (fun r σ' hσ => ?_)
    obtain ⟨σn, σt, σs⟩ := σ'
    simp only at hσ
    obtain ⟨rfl, rfl, rfl⟩ := hσ
    simp only [aftS, renS, delAll, memB, mName, List.getD_nil, killH, kref, ren, Nat.beq_eq, go_sem, reduceIte, reduceCtorEq, reduceEqDiff, reduceAdd, reduceLT, reduceLeDiff, reduceToNat, reduceMul]
    refine CWops.run htt 2 (by simp only [go_sem, reduceIte, reduceCtorEq, reduceEqDiff, reduceAdd, reduceLT, reduceLeDiff, reduceToNat, reduceMul]; exact rfl) (by simp [go_sem, reduceIte, reduceCtorEq, reduceEqDiff, reduceAdd, reduceLT, reduceLeDiff, reduceToNat, reduceMul]) ?_
    refine CWops.done ?_
    refine CW.seq ?_
    refine CW.seq ?_
    refine CW.region (by kernel_rfl) (by kernel_rfl) ?_ -- r8
    refine CWops.run htt 4 (by simp only [go_sem, reduceIte, reduceCtorEq, reduceEqDiff, reduceAdd, reduceLT, reduceLeDiff, reduceToNat, reduceMul]; exact rfl) (by simp [go_sem, reduceIte, reduceCtorEq, reduceEqDiff, reduceAdd, reduceLT, reduceLeDiff, reduceToNat, reduceMul]) ?_
    refine CWops.done ?_
    refine CW.block ?_
    refine CW.loop (S := Nat) (fun i => ⟨2, [(1, .lv 0 [] 0), (2, .lv 1 [] 0), (37, .ref 0 [] 1), (38, .int .i64 g.O.length), (39, .int .i64 i)], [(0, ⟨true, [.own 2 (g.S.map eType), .own 3 (mixO g.O i), .sl 1 (g.Roots.map eI)]⟩), (1, ⟨true, [.nilsl, .nilsl, .nilsl]⟩)]⟩) (fun i => i ≤ g.O.length) (fun i => g.O.length - i) (0) ?_ (Nat.zero_le _) (fun i h4 => ?_)
    · refine Sh.wk0 ?_; simp [Wk, go_sem, reduceIte, reduceCtorEq, reduceEqDiff, reduceAdd, reduceLT, reduceLeDiff, reduceToNat, reduceMul, mixO_zero]
    refine CW.seq ?_
    refine CW.region (by kernel_rfl) (by kernel_rfl) ?_ -- r9
    refine CWops.run htt 1 (by simp only [go_sem, reduceIte, reduceCtorEq, reduceEqDiff, reduceAdd, reduceLT, reduceLeDiff, reduceToNat, reduceMul]; exact rfl) (by simp [go_sem, reduceIte, reduceCtorEq, reduceEqDiff, reduceAdd, reduceLT, reduceLeDiff, reduceToNat, reduceMul]) ?_
    refine CWops.done ?_
    refine CW.seq ?_
    refine CW.cond (by simp only [go_sem, reduceIte, reduceCtorEq, reduceEqDiff, reduceAdd, reduceLT, reduceLeDiff, reduceToNat, reduceMul]; first | done | exact rfl) (fun ct40 => ?_) (fun ct40 => ?_)
    · have hi : i < g.O.length := by simpa using ct40
      obtain ⟨x, hx⟩ : ∃ x, g.O[i]? = some x := ⟨g.O[i], List.getElem?_eq_getElem hi⟩
      refine CW.skip ?_
      refine CW.seq ?_
      refine CW.block ?_
      refine CW.seq ?_
      refine CW.region (by kernel_rfl) (by kernel_rfl) ?_ -- r10
      refine CWops.run htt 6 (by simp only [go_sem, reduceIte, reduceCtorEq, reduceEqDiff, reduceAdd, reduceLT, reduceLeDiff, reduceToNat, reduceMul, hi, mixO_get hx, mixO_len, eObj]; exact rfl) (by simp [go_sem, reduceIte, reduceCtorEq, reduceEqDiff, reduceAdd, reduceLT, reduceLeDiff, reduceToNat, reduceMul, hi, mixO_get hx, mixO_len, eObj]) ?_
      refine CWops.done ?_
      refine CW.drawn mixed 6 (by decide) (by kernel_rfl) (by kernel_rfl) (by kernel_rfl) ?_ -- r11
      refine Seg.run htt 5 (by simp only [go_sem, reduceIte, reduceCtorEq, reduceEqDiff, reduceAdd, reduceLT, reduceLeDiff, reduceToNat, reduceMul, hi, mixO_get hx, mixO_len, eObj]; exact rfl) ?_
      refine Seg.callN (clone_ValG up x.F (hz.of_ x (List.mem_of_getElem? hx))) (by simp only [go_sem, reduceIte, reduceCtorEq, reduceEqDiff, reduceAdd, reduceLT, reduceLeDiff, reduceToNat, reduceMul]) (by simp only [go_sem, reduceIte, reduceCtorEq, reduceEqDiff, reduceAdd, reduceLT, reduceLeDiff, reduceToNat, reduceMul]; first | done | exact rfl) (by simp [go_sem, reduceIte, reduceCtorEq, reduceEqDiff, reduceAdd, reduceLT, reduceLeDiff, reduceToNat, reduceMul]) ?_
      refine Seg.done ?_
      refine CWops.run htt 3 (by simp only [go_sem, reduceIte, reduceCtorEq, reduceEqDiff, reduceAdd, reduceLT, reduceLeDiff, reduceToNat, reduceMul, hi, mixO_get hx, mixO_len, eObj]; exact rfl) (by simp [go_sem, reduceIte, reduceCtorEq, reduceEqDiff, reduceAdd, reduceLT, reduceLeDiff, reduceToNat, reduceMul, hi, mixO_get hx, mixO_len, eObj]) ?_
      refine CWops.done ?_
      refine CW.region (by kernel_rfl) (by kernel_rfl) ?_ -- r12
      refine CWops.run htt 2 (by simp only [go_sem, reduceIte, reduceCtorEq, reduceEqDiff, reduceAdd, reduceLT, reduceLeDiff, reduceToNat, reduceMul, wrap_succ (Nat.lt_of_lt_of_le hi hb2)]; exact rfl) (by simp [go_sem, reduceIte, reduceCtorEq, reduceEqDiff, reduceAdd, reduceLT, reduceLeDiff, reduceToNat, reduceMul, wrap_succ (Nat.lt_of_lt_of_le hi hb2)]) ?_
      refine CWops.done ?_
      refine ⟨i + 1, ?_, ?_, ?_⟩
      · refine Sh.wk0 ?_
        dsimp only
        rw [← mixO_set hx]
        simp [Wk, go_sem, reduceIte, reduceCtorEq, reduceEqDiff, reduceAdd, reduceLT, reduceLeDiff, reduceToNat, reduceMul, eObjO]
      · exact hi
      · simp only; omega
    · have hi : i = g.O.length := by simp at ct40; omega
      refine CW.exit ?_
      refine CW.seq ?_
      refine CW.region (by kernel_rfl) (by kernel_rfl) ?_ -- r13
      refine CWops.run htt 2 (by simp only [go_sem, reduceIte, reduceCtorEq, reduceEqDiff, reduceAdd, reduceLT, reduceLeDiff, reduceToNat, reduceMul]; exact rfl) (by simp [go_sem, reduceIte, reduceCtorEq, reduceEqDiff, reduceAdd, reduceLT, reduceLeDiff, reduceToNat, reduceMul]) ?_
      refine CWops.callG [] rfl (clone_IntG up g.Roots hz.r) (by simp only [go_sem, reduceIte, reduceCtorEq, reduceEqDiff, reduceAdd, reduceLT, reduceLeDiff, reduceToNat, reduceMul]) (by simp only [go_sem, reduceIte, reduceCtorEq, reduceEqDiff, reduceAdd, reduceLT, reduceLeDiff, reduceToNat, reduceMul]; first | done | exact rfl) (by decide) (by simp [go_sem, reduceIte, reduceCtorEq, reduceEqDiff, reduceAdd, reduceLT, reduceLeDiff, reduceToNat, reduceMul, mName, memB]) (by simp [go_sem, reduceIte, reduceCtorEq, reduceEqDiff, reduceAdd, reduceLT, reduceLeDiff, reduceToNat, reduceMul, mName]) (by simp [go_sem, reduceIte, reduceCtorEq, reduceEqDiff, reduceAdd, reduceLT, reduceLeDiff, reduceToNat, reduceMul]) (by simp [go_sem, reduceIte, reduceCtorEq, reduceEqDiff, reduceAdd, reduceLT, reduceLeDiff, reduceToNat, reduceMul]) (by simp [go_sem, reduceIte, reduceCtorEq, reduceEqDiff, reduceAdd, reduceLT, reduceLeDiff, reduceToNat, reduceMul, mName]) (fun r σ' hσ => ?_)
      obtain ⟨σn, σt, σs⟩ := σ'
      simp only at hσ
      obtain ⟨rfl, rfl, rfl⟩ := hσ
      simp only [aftS, renS, delAll, memB, mName, List.getD_nil, killH, kref, ren, Nat.beq_eq, go_sem, reduceIte, reduceCtorEq, reduceEqDiff, reduceAdd, reduceLT, reduceLeDiff, reduceToNat, reduceMul]
      refine CWops.run htt 2 (by simp only [go_sem, reduceIte, reduceCtorEq, reduceEqDiff, reduceAdd, reduceLT, reduceLeDiff, reduceToNat, reduceMul]; exact rfl) (by simp [go_sem, reduceIte, reduceCtorEq, reduceEqDiff, reduceAdd, reduceLT, reduceLeDiff, reduceToNat, reduceMul]) ?_
      refine CWops.done ?_
      refine CW.seq ?_
      refine CW.region (by kernel_rfl) (by kernel_rfl) ?_ -- r14
      refine CWops.run htt 2 (by simp only [go_sem, reduceIte, reduceCtorEq, reduceEqDiff, reduceAdd, reduceLT, reduceLeDiff, reduceToNat, reduceMul]; exact rfl) (by simp [go_sem, reduceIte, reduceCtorEq, reduceEqDiff, reduceAdd, reduceLT, reduceLeDiff, reduceToNat, reduceMul]) ?_
      refine CWops.done ?_
      refine CW.ret ?_
      refine ⟨⟨2, [(2, .lv 1 [] 0)], [(0, ⟨true, OWN g⟩), (1, ⟨true, [.ref 0 [] 0, .ref 0 [] 1, .ref 0 [] 2]⟩)]⟩, ?_, .inr rfl, by simp [ptrOK, go_sem, reduceIte, reduceCtorEq, reduceEqDiff, reduceAdd, reduceLT, reduceLeDiff, reduceToNat, reduceMul], _, by simp only [f54, go_sem, reduceIte, reduceCtorEq, reduceEqDiff, reduceAdd, reduceLT, reduceLeDiff, reduceToNat, reduceMul]; exact rfl, ?_⟩ -- ret1
      · refine Sh.wk0 ?_
        rw [hi, mixO_all]
        simp [Wk, go_sem, reduceIte, reduceCtorEq, reduceEqDiff, reduceAdd, reduceLT, reduceLeDiff, reduceToNat, reduceMul, OWN]
      · exact ⟨rfl, rfl, rfl⟩
end Go.Ab
namespace Go.Ab
open Go Go.Proofs.Try
open Nat (reduceEqDiff reduceAdd reduceLT reduceLeDiff reduceBEq reduceSub reduceMul)
open Int (reduceToNat)
set_option maxRecDepth 100000
set_option linter.unusedSimpArgs false
set_option linter.unusedVariables false
theorem law08_Two (up : Bool) : PCall prog up 38 [] (· = .agg (eGraph twG)) := by
  refine PCall.intro htt func38 (by kernel_rfl) rfl (Nat.le_of_ble_eq_true rfl) fun hl => ?_

  simp only [tmps0, Nat.reduceAdd]
  refine CW.seq ?_
  refine CW.region (by kernel_rfl) (by kernel_rfl) ?_ -- r0
  refine CWops.run htt 1 (by simp only [go_sem, reduceIte, reduceCtorEq, reduceEqDiff, reduceAdd, reduceLT, reduceLeDiff, reduceToNat, reduceMul]; exact rfl) (by simp [go_sem, reduceIte, reduceCtorEq, reduceEqDiff, reduceAdd, reduceLT, reduceLeDiff, reduceToNat, reduceMul]) ?_
  refine CWops.done ?_
  refine CW.seq ?_
  refine CW.region (by kernel_rfl) (by kernel_rfl) ?_ -- r1
  refine CWops.callA (law06_One up) (by simp only [go_sem, reduceIte, reduceCtorEq, reduceEqDiff, reduceAdd, reduceLT, reduceLeDiff, reduceToNat, reduceMul, oneS, eSchema, eType, eField]) (by simp only [go_sem, reduceIte, reduceCtorEq, reduceEqDiff, reduceAdd, reduceLT, reduceLeDiff, reduceToNat, reduceMul, oneS, eSchema, eType, eField]; first | done | exact rfl) (by simp only [go_sem, reduceIte, reduceCtorEq, reduceEqDiff, reduceAdd, reduceLT, reduceLeDiff, reduceToNat, reduceMul, oneS, eSchema, eType, eField]) (by simp only [go_sem, reduceIte, reduceCtorEq, reduceEqDiff, reduceAdd, reduceLT, reduceLeDiff, reduceToNat, reduceMul, oneS, eSchema, eType, eField]) (fun rt1 hrt1 => ?_)
  subst hrt1
  refine CWops.run htt 2 (by simp only [go_sem, reduceIte, reduceCtorEq, reduceEqDiff, reduceAdd, reduceLT, reduceLeDiff, reduceToNat, reduceMul, oneS, eSchema, eType, eField]; exact rfl) (by simp [go_sem, reduceIte, reduceCtorEq, reduceEqDiff, reduceAdd, reduceLT, reduceLeDiff, reduceToNat, reduceMul, oneS, eSchema, eType, eField]) ?_
  refine CWops.run htt 1 (by simp only [go_sem, reduceIte, reduceCtorEq, reduceEqDiff, reduceAdd, reduceLT, reduceLeDiff, reduceToNat, reduceMul, List.replicate]; exact rfl) (by simp [go_sem, reduceIte, reduceCtorEq, reduceEqDiff, reduceAdd, reduceLT, reduceLeDiff, reduceToNat, reduceMul]) ?_
  refine CWops.sh (Sh.frzT 4 1 (by simp only [go_sem, reduceIte, reduceCtorEq, reduceEqDiff, reduceAdd, reduceLT, reduceLeDiff, reduceToNat, reduceMul]) (by simp only [go_sem, reduceIte, reduceCtorEq, reduceEqDiff, reduceAdd, reduceLT, reduceLeDiff, reduceToNat, reduceMul]; first | done | exact rfl) rfl) ?_
  simp only [go_sem, reduceIte, reduceCtorEq, reduceEqDiff, reduceAdd, reduceLT, reduceLeDiff, reduceToNat, reduceMul, AV.freeze]
  refine CWops.run htt 3 (by simp only [go_sem, reduceIte, reduceCtorEq, reduceEqDiff, reduceAdd, reduceLT, reduceLeDiff, reduceToNat, reduceMul, oneS, eSchema, eType, eField]; exact rfl) (by simp [go_sem, reduceIte, reduceCtorEq, reduceEqDiff, reduceAdd, reduceLT, reduceLeDiff, reduceToNat, reduceMul, oneS, eSchema, eType, eField]) ?_
  refine CWops.run htt 1 (by simp only [go_sem, reduceIte, reduceCtorEq, reduceEqDiff, reduceAdd, reduceLT, reduceLeDiff, reduceToNat, reduceMul, List.replicate]; exact rfl) (by simp [go_sem, reduceIte, reduceCtorEq, reduceEqDiff, reduceAdd, reduceLT, reduceLeDiff, reduceToNat, reduceMul]) ?_
  refine CWops.sh (Sh.frzT 8 2 (by simp only [go_sem, reduceIte, reduceCtorEq, reduceEqDiff, reduceAdd, reduceLT, reduceLeDiff, reduceToNat, reduceMul]) (by simp only [go_sem, reduceIte, reduceCtorEq, reduceEqDiff, reduceAdd, reduceLT, reduceLeDiff, reduceToNat, reduceMul]; first | done | exact rfl) rfl) ?_
  simp only [go_sem, reduceIte, reduceCtorEq, reduceEqDiff, reduceAdd, reduceLT, reduceLeDiff, reduceToNat, reduceMul, AV.freeze]
  refine CWops.run htt 1 (by simp only [go_sem, reduceIte, reduceCtorEq, reduceEqDiff, reduceAdd, reduceLT, reduceLeDiff, reduceToNat, reduceMul, oneS, eSchema, eType, eField]; exact rfl) (by simp [go_sem, reduceIte, reduceCtorEq, reduceEqDiff, reduceAdd, reduceLT, reduceLeDiff, reduceToNat, reduceMul, oneS, eSchema, eType, eField]) ?_
  refine CWops.run htt 1 (by simp only [go_sem, reduceIte, reduceCtorEq, reduceEqDiff, reduceAdd, reduceLT, reduceLeDiff, reduceToNat, reduceMul, List.replicate]; exact rfl) (by simp [go_sem, reduceIte, reduceCtorEq, reduceEqDiff, reduceAdd, reduceLT, reduceLeDiff, reduceToNat, reduceMul]) ?_
  refine CWops.sh (Sh.frzT 10 3 (by simp only [go_sem, reduceIte, reduceCtorEq, reduceEqDiff, reduceAdd, reduceLT, reduceLeDiff, reduceToNat, reduceMul]) (by simp only [go_sem, reduceIte, reduceCtorEq, reduceEqDiff, reduceAdd, reduceLT, reduceLeDiff, reduceToNat, reduceMul]; first | done | exact rfl) rfl) ?_
  simp only [go_sem, reduceIte, reduceCtorEq, reduceEqDiff, reduceAdd, reduceLT, reduceLeDiff, reduceToNat, reduceMul, AV.freeze]
  refine CWops.run htt 1 (by simp only [go_sem, reduceIte, reduceCtorEq, reduceEqDiff, reduceAdd, reduceLT, reduceLeDiff, reduceToNat, reduceMul, List.replicate]; exact rfl) (by simp [go_sem, reduceIte, reduceCtorEq, reduceEqDiff, reduceAdd, reduceLT, reduceLeDiff, reduceToNat, reduceMul]) ?_
  refine CWops.sh (Sh.frzT 11 4 (by simp only [go_sem, reduceIte, reduceCtorEq, reduceEqDiff, reduceAdd, reduceLT, reduceLeDiff, reduceToNat, reduceMul]) (by simp only [go_sem, reduceIte, reduceCtorEq, reduceEqDiff, reduceAdd, reduceLT, reduceLeDiff, reduceToNat, reduceMul]; first | done | exact rfl) rfl) ?_
  simp only [go_sem, reduceIte, reduceCtorEq, reduceEqDiff, reduceAdd, reduceLT, reduceLeDiff, reduceToNat, reduceMul, AV.freeze]
  refine CWops.run htt 2 (by simp only [go_sem, reduceIte, reduceCtorEq, reduceEqDiff, reduceAdd, reduceLT, reduceLeDiff, reduceToNat, reduceMul, oneS, eSchema, eType, eField]; exact rfl) (by simp [go_sem, reduceIte, reduceCtorEq, reduceEqDiff, reduceAdd, reduceLT, reduceLeDiff, reduceToNat, reduceMul, oneS, eSchema, eType, eField]) ?_
  refine CWops.done ?_
  refine CW.ret ?_
  refine retQ.ret (by simp only [f38, go_sem, reduceIte, reduceCtorEq, reduceEqDiff, reduceAdd, reduceLT, reduceLeDiff, reduceToNat, reduceMul]; exact rfl) (by simp only [go_sem, reduceIte, reduceCtorEq, reduceEqDiff, reduceAdd, reduceLT, reduceLeDiff, reduceToNat, reduceMul]; exact rfl) ?_ -- ret1
  refine ⟨_, ?_, rfl⟩
  simp [leP, leL, eGraph, twG, eObj, eVal, oneS, eType, eField, eI]
end Go.Ab
namespace Go.Ab
open Go Go.Proofs.Try
open Nat (reduceEqDiff reduceAdd reduceLT reduceLeDiff reduceBEq reduceSub reduceMul)
open Int (reduceToNat)
set_option maxRecDepth 100000
set_option linter.unusedSimpArgs false
set_option linter.unusedVariables false
theorem value_Zero (up : Bool) (f : GField) : PCall prog up 36 [.agg (eField f)] (· = .agg (eVal (zeroV f))) := by
  refine PCall.intro htt func36 (by kernel_rfl) rfl (Nat.le_of_ble_eq_true rfl) fun hl => ?_

  simp only [tmps0, Nat.reduceAdd]
  refine CW.seq ?_
  refine CW.region (by kernel_rfl) (by kernel_rfl) ?_ -- r0
  refine CWops.run htt 2 (by simp only [go_sem, reduceIte, reduceCtorEq, reduceEqDiff, reduceAdd, reduceLT, reduceLeDiff, reduceToNat, reduceMul, eField]; exact rfl) (by simp [go_sem, reduceIte, reduceCtorEq, reduceEqDiff, reduceAdd, reduceLT, reduceLeDiff, reduceToNat, reduceMul, eField]) ?_
  refine CWops.done ?_
  refine CW.seq ?_
  refine CW.seq ?_
  refine CW.region (by kernel_rfl) (by kernel_rfl) ?_ -- r1
  refine CWops.run htt 3 (by simp only [go_sem, reduceIte, reduceCtorEq, reduceEqDiff, reduceAdd, reduceLT, reduceLeDiff, reduceToNat, reduceMul, eField]; exact rfl) (by simp [go_sem, reduceIte, reduceCtorEq, reduceEqDiff, reduceAdd, reduceLT, reduceLeDiff, reduceToNat, reduceMul, eField]) ?_
  refine CWops.done ?_
  refine CW.cond (by simp only [go_sem, reduceIte, reduceCtorEq, reduceEqDiff, reduceAdd, reduceLT, reduceLeDiff, reduceToNat, reduceMul]; first | done | exact rfl) (fun ct5 => ?_) (fun ct5 => ?_)
  · have hk : f.Kind = 5 := by simpa using ct5
    refine CW.seq ?_
    refine CW.region (by kernel_rfl) (by kernel_rfl) ?_ -- r2
    refine CWops.run htt 2 (by simp only [go_sem, reduceIte, reduceCtorEq, reduceEqDiff, reduceAdd, reduceLT, reduceLeDiff, reduceToNat, reduceMul]; exact rfl) (by simp [go_sem, reduceIte, reduceCtorEq, reduceEqDiff, reduceAdd, reduceLT, reduceLeDiff, reduceToNat, reduceMul]) ?_
    refine CWops.done ?_
    refine CW.ret ?_
    refine retQ.ret (by simp only [f36, go_sem, reduceIte, reduceCtorEq, reduceEqDiff, reduceAdd, reduceLT, reduceLeDiff, reduceToNat, reduceMul]; exact rfl) (by simp only [go_sem, reduceIte, reduceCtorEq, reduceEqDiff, reduceAdd, reduceLT, reduceLeDiff, reduceToNat, reduceMul]; exact rfl) ?_ -- ret1
    refine ⟨_, ?_, rfl⟩
    simp [leP, leL, zeroV, hk, eVal]
  · have hk : ¬ f.Kind = 5 := by simpa using ct5
    refine CW.skip ?_
    refine CW.seq ?_
    refine CW.region (by kernel_rfl) (by kernel_rfl) ?_ -- r3
    refine CWops.run htt 2 (by simp only [go_sem, reduceIte, reduceCtorEq, reduceEqDiff, reduceAdd, reduceLT, reduceLeDiff, reduceToNat, reduceMul]; exact rfl) (by simp [go_sem, reduceIte, reduceCtorEq, reduceEqDiff, reduceAdd, reduceLT, reduceLeDiff, reduceToNat, reduceMul]) ?_
    refine CWops.done ?_
    refine CW.ret ?_
    refine retQ.ret (by simp only [f36, go_sem, reduceIte, reduceCtorEq, reduceEqDiff, reduceAdd, reduceLT, reduceLeDiff, reduceToNat, reduceMul]; exact rfl) (by simp only [go_sem, reduceIte, reduceCtorEq, reduceEqDiff, reduceAdd, reduceLT, reduceLeDiff, reduceToNat, reduceMul]; exact rfl) ?_ -- ret2
    refine ⟨_, ?_, rfl⟩
    simp [leP, leL, zeroV, hk, eVal]
theorem graph_New (up : Bool) (g : Graph) (t : Int) (hz : GSz g) : PCall prog up 22 [.agg (eGraph g), .int .i64 t] (· = .tup [.agg (eGraph (gNew g t).1), .int .i64 (gNew g t).2.1, .int .i64 (gNew g t).2.2]) := by
  refine PCall.intro htt func22 (by kernel_rfl) rfl (Nat.le_of_ble_eq_true rfl) fun hl => ?_

  simp only [tmps0, Nat.reduceAdd]
  refine CW.seq ?_
  refine CW.region (by kernel_rfl) (by kernel_rfl) ?_ -- r0
  refine CWops.run htt 4 (by simp only [go_sem, reduceIte, reduceCtorEq, reduceEqDiff, reduceAdd, reduceLT, reduceLeDiff, reduceToNat, reduceMul, eGraph]; exact rfl) (by simp [go_sem, reduceIte, reduceCtorEq, reduceEqDiff, reduceAdd, reduceLT, reduceLeDiff, reduceToNat, reduceMul, eGraph]) ?_
  refine CWops.done ?_
  refine CW.cut ⟨5, [(0, .agg (eGraph g)), (1, .int .i64 t), (2, .lv 0 [] 0), (4, .lv 1 [] 0), (5, .int .i64 0), (6, .int .i64 0), (7, .lv 4 [] 0)], [(0, ⟨true, eGraph g⟩), (1, ⟨true, [.nilsl, .nilsl, .nilsl]⟩), (2, ⟨true, OWN g⟩), (4, ⟨true, [.ref 2 [] 0, .ref 2 [] 1, .ref 2 [] 2]⟩)]⟩ ?_ ?_
  · refine CW.region (by kernel_rfl) (by kernel_rfl) ?_ -- r1
    refine CWops.run htt 1 (by simp only [go_sem, reduceIte, reduceCtorEq, reduceEqDiff, reduceAdd, reduceLT, reduceLeDiff, reduceToNat, reduceMul, eGraph, OWN]; exact rfl) (by simp [go_sem, reduceIte, reduceCtorEq, reduceEqDiff, reduceAdd, reduceLT, reduceLeDiff, reduceToNat, reduceMul, eGraph, OWN]) ?_
    refine CWops.callG [] rfl (graph_own up g hz) (by simp only [go_sem, reduceIte, reduceCtorEq, reduceEqDiff, reduceAdd, reduceLT, reduceLeDiff, reduceToNat, reduceMul]) (by simp only [go_sem, reduceIte, reduceCtorEq, reduceEqDiff, reduceAdd, reduceLT, reduceLeDiff, reduceToNat, reduceMul]; first | done | exact rfl) (by decide) (by simp [go_sem, reduceIte, reduceCtorEq, reduceEqDiff, reduceAdd, reduceLT, reduceLeDiff, reduceToNat, reduceMul, mName, memB]) (by simp [go_sem, reduceIte, reduceCtorEq, reduceEqDiff, reduceAdd, reduceLT, reduceLeDiff, reduceToNat, reduceMul, mName]) (by simp [go_sem, reduceIte, reduceCtorEq, reduceEqDiff, reduceAdd, reduceLT, reduceLeDiff, reduceToNat, reduceMul]) (by simp [go_sem, reduceIte, reduceCtorEq, reduceEqDiff, reduceAdd, reduceLT, reduceLeDiff, reduceToNat, reduceMul]) (by simp [go_sem, reduceIte, reduceCtorEq, reduceEqDiff, reduceAdd, reduceLT, reduceLeDiff, reduceToNat, reduceMul, mName, eGraph]) (fun r σ' hσ => ?_)
    obtain ⟨σn, σt, σs⟩ := σ'
    simp only at hσ
    obtain ⟨rfl, rfl, rfl⟩ := hσ
    simp only [aftS, renS, delAll, memB, mName, List.getD_nil, killH, kref, ren, Nat.beq_eq, go_sem, reduceIte, reduceCtorEq, reduceEqDiff, reduceAdd, reduceLT, reduceLeDiff, reduceToNat, reduceMul]
    refine CWops.run htt 2 (by simp only [go_sem, reduceIte, reduceCtorEq, reduceEqDiff, reduceAdd, reduceLT, reduceLeDiff, reduceToNat, reduceMul, eGraph, OWN]; exact rfl) (by simp [go_sem, reduceIte, reduceCtorEq, reduceEqDiff, reduceAdd, reduceLT, reduceLeDiff, reduceToNat, reduceMul, eGraph, OWN]) ?_
    refine CWops.done ?_
    first | refine ⟨rfl, Sh.wk0 ?_⟩ | refine Sh.wk0 ?_
    simp [Wk, go_sem, reduceIte, reduceCtorEq, reduceEqDiff, reduceAdd, reduceLT, reduceLeDiff, reduceToNat, reduceMul, eGraph, OWN]
  refine CW.seq ?_
  refine CW.seq ?_
  refine CW.region (by kernel_rfl) (by kernel_rfl) ?_ -- r2
  refine CWops.run htt 1 (by simp only [go_sem, reduceIte, reduceCtorEq, reduceEqDiff, reduceAdd, reduceLT, reduceLeDiff, reduceToNat, reduceMul, eGraph]; exact rfl) (by simp [go_sem, reduceIte, reduceCtorEq, reduceEqDiff, reduceAdd, reduceLT, reduceLeDiff, reduceToNat, reduceMul, eGraph]) ?_
  refine CWops.call (graph_May up g) (by simp only [go_sem, reduceIte, reduceCtorEq, reduceEqDiff, reduceAdd, reduceLT, reduceLeDiff, reduceToNat, reduceMul, eGraph]) (by simp only [go_sem, reduceIte, reduceCtorEq, reduceEqDiff, reduceAdd, reduceLT, reduceLeDiff, reduceToNat, reduceMul, eGraph]; first | done | exact rfl) (by simp only [go_sem, reduceIte, reduceCtorEq, reduceEqDiff, reduceAdd, reduceLT, reduceLeDiff, reduceToNat, reduceMul, eGraph]) (fun rt15 hrt15 => ?_)
  subst hrt15; refine ⟨rfl, ?_⟩
  refine CWops.run htt 1 (by simp only [go_sem, reduceIte, reduceCtorEq, reduceEqDiff, reduceAdd, reduceLT, reduceLeDiff, reduceToNat, reduceMul, eGraph]; exact rfl) (by simp [go_sem, reduceIte, reduceCtorEq, reduceEqDiff, reduceAdd, reduceLT, reduceLeDiff, reduceToNat, reduceMul, eGraph]) ?_
  refine CWops.done ?_
  refine CW.cond (by simp only [go_sem, reduceIte, reduceCtorEq, reduceEqDiff, reduceAdd, reduceLT, reduceLeDiff, reduceToNat, reduceMul]; first | done | exact rfl) (fun ct16 => ?_) (fun ct16 => ?_)
  · simp only [Bool.not_eq_true'] at ct16
    refine CW.seq ?_
    try simp only [OWN]
    refine CW.sh (Sh.trans (Sh.frzC 2 0 4 0 (by decide) rfl rfl rfl) (Sh.trans (Sh.frzC 2 1 4 1 (by decide) rfl rfl rfl) (Sh.frzC 2 2 4 2 (by decide) rfl rfl rfl))) ?_
    simp only [go_sem, reduceIte, reduceCtorEq, reduceEqDiff, reduceAdd, reduceLT, reduceLeDiff, reduceToNat, reduceMul]
    refine CW.region (by kernel_rfl) (by kernel_rfl) ?_ -- r3
    refine CWops.run htt 4 (by simp only [go_sem, reduceIte, reduceCtorEq, reduceEqDiff, reduceAdd, reduceLT, reduceLeDiff, reduceToNat, reduceMul]; exact rfl) (by simp [go_sem, reduceIte, reduceCtorEq, reduceEqDiff, reduceAdd, reduceLT, reduceLeDiff, reduceToNat, reduceMul]) ?_
    refine CWops.done ?_
    refine CW.ret ?_
    refine retQ.ret (by simp only [f22, go_sem, reduceIte, reduceCtorEq, reduceEqDiff, reduceAdd, reduceLT, reduceLeDiff, reduceToNat, reduceMul]; exact rfl) (by simp only [go_sem, reduceIte, reduceCtorEq, reduceEqDiff, reduceAdd, reduceLT, reduceLeDiff, reduceToNat, reduceMul]; exact rfl) ?_ -- ret1
    refine ⟨_, ?_, rfl⟩
    simp [leP, leL, gNew, ct16, eGraph]
  · simp only [Bool.not_eq_false'] at ct16
    have hm := (may_iff g).1 ct16
    have ho8 := hm.o
    refine CW.skip ?_
    refine CW.seq ?_
    refine CW.cut ⟨5, [(0, .agg (eGraph g)), (1, .int .i64 t), (2, .lv 0 [] 0), (4, .lv 1 [] 0), (5, .int .i64 0), (6, .int .i64 0), (7, .lv 4 [] 0), (27, .bool (decide (t < 0) || decide ((g.S.length : Int) ≤ t)))], [(0, ⟨true, eGraph g⟩), (1, ⟨true, [.nilsl, .nilsl, .nilsl]⟩), (2, ⟨true, OWN g⟩), (4, ⟨true, [.ref 2 [] 0, .ref 2 [] 1, .ref 2 [] 2]⟩)]⟩ ?_ ?_
    · refine CW.region (by kernel_rfl) (by kernel_rfl) ?_ -- r4
      refine CWops.run htt 3 (by simp only [go_sem, reduceIte, reduceCtorEq, reduceEqDiff, reduceAdd, reduceLT, reduceLeDiff, reduceToNat, reduceMul, eGraph]; exact rfl) (by simp [go_sem, reduceIte, reduceCtorEq, reduceEqDiff, reduceAdd, reduceLT, reduceLeDiff, reduceToNat, reduceMul, eGraph]) ?_
      all_goals (first | refine CWops.guard 20 (by simp only [go_sem, reduceIte, reduceCtorEq, reduceEqDiff, reduceAdd, reduceLT, reduceLeDiff, reduceToNat, reduceMul, eGraph]; exact rfl) (fun g20 => ?_) (fun g20 => ?_) | skip)
      all_goals (refine CWops.run htt 7 (by simp only [go_sem, reduceIte, reduceCtorEq, reduceEqDiff, reduceAdd, reduceLT, reduceLeDiff, reduceToNat, reduceMul, eGraph]; exact rfl) (by simp [go_sem, reduceIte, reduceCtorEq, reduceEqDiff, reduceAdd, reduceLT, reduceLeDiff, reduceToNat, reduceMul, eGraph]) ?_)
      all_goals (refine CWops.done ?_)
      all_goals (
        first | refine ⟨rfl, Sh.wk0 ?_⟩ | refine Sh.wk0 ?_
        simp_all [Wk, go_sem, reduceIte, reduceCtorEq, reduceEqDiff, reduceAdd, reduceLT, reduceLeDiff, reduceToNat, reduceMul, eGraph, OWN]
        try (intro h; omega))
    refine CW.cond (by simp only [go_sem, reduceIte, reduceCtorEq, reduceEqDiff, reduceAdd, reduceLT, reduceLeDiff, reduceToNat, reduceMul]; first | done | exact rfl) (fun ct27 => ?_) (fun ct27 => ?_)
    · refine CW.seq ?_
      try simp only [OWN]
      refine CW.sh (Sh.trans (Sh.frzC 2 0 4 0 (by decide) rfl rfl rfl) (Sh.trans (Sh.frzC 2 1 4 1 (by decide) rfl rfl rfl) (Sh.frzC 2 2 4 2 (by decide) rfl rfl rfl))) ?_
      simp only [go_sem, reduceIte, reduceCtorEq, reduceEqDiff, reduceAdd, reduceLT, reduceLeDiff, reduceToNat, reduceMul]
      refine CW.region (by kernel_rfl) (by kernel_rfl) ?_ -- r5
      refine CWops.run htt 4 (by simp only [go_sem, reduceIte, reduceCtorEq, reduceEqDiff, reduceAdd, reduceLT, reduceLeDiff, reduceToNat, reduceMul]; exact rfl) (by simp [go_sem, reduceIte, reduceCtorEq, reduceEqDiff, reduceAdd, reduceLT, reduceLeDiff, reduceToNat, reduceMul]) ?_
      refine CWops.done ?_
      refine CW.ret ?_
      refine retQ.ret (by simp only [f22, go_sem, reduceIte, reduceCtorEq, reduceEqDiff, reduceAdd, reduceLT, reduceLeDiff, reduceToNat, reduceMul]; exact rfl) (by simp only [go_sem, reduceIte, reduceCtorEq, reduceEqDiff, reduceAdd, reduceLT, reduceLeDiff, reduceToNat, reduceMul]; exact rfl) ?_ -- ret2
      refine ⟨_, ?_, rfl⟩
      simp [leP, leL, gNew, ct16, ct27, eGraph]
    · have hno := ct27
      simp only [Bool.or_eq_false_iff, decide_eq_false_iff_not] at hno
      obtain ⟨q, rfl⟩ := Int.eq_ofNat_of_zero_le (show 0 ≤ t by omega)
      have hql : q < g.S.length := by omega
      obtain ⟨ty, ht⟩ : ∃ x, g.S[q]? = some x := ⟨g.S[q], List.getElem?_eq_getElem hql⟩
      have htF : tyF g q = ty.F := by unfold tyF typeAt; simp [ht]
      have hf5 := hm.small.2.1 ty (List.mem_of_getElem? ht)
      refine CW.skip ?_
      refine CW.seq ?_
      refine CW.region (by kernel_rfl) (by kernel_rfl) ?_ -- r6
      refine CWops.run htt 4 (by simp only [go_sem, reduceIte, reduceCtorEq, reduceEqDiff, reduceAdd, reduceLT, reduceLeDiff, reduceToNat, reduceMul]; exact rfl) (by simp [go_sem, reduceIte, reduceCtorEq, reduceEqDiff, reduceAdd, reduceLT, reduceLeDiff, reduceToNat, reduceMul]) ?_
      refine CWops.done ?_
      refine CW.cut ⟨6, [(0, .agg (eGraph g)), (1, .int .i64 (q : Int)), (2, .lv 0 [] 0), (4, .lv 1 [] 0), (5, .int .i64 0), (6, .int .i64 0), (7, .lv 4 [] 0), (8, .lv 5 [] 0)], [(0, ⟨true, eGraph g⟩), (1, ⟨true, [.nilsl, .nilsl, .nilsl]⟩), (2, ⟨true, OWN g⟩), (4, ⟨true, [.ref 2 [] 0, .ref 2 [] 1, .ref 2 [] 2]⟩), (5, ⟨true, [.int .i64 (newId g), .int .i64 (q : Int), .nilsl]⟩)]⟩ ?_ ?_
      · refine CW.seq ?_
        refine CW.region (by kernel_rfl) (by kernel_rfl) ?_ -- r7
        refine CWops.run htt 4 (by simp only [go_sem, reduceIte, reduceCtorEq, reduceEqDiff, reduceAdd, reduceLT, reduceLeDiff, reduceToNat, reduceMul, eGraph]; exact rfl) (by simp [go_sem, reduceIte, reduceCtorEq, reduceEqDiff, reduceAdd, reduceLT, reduceLeDiff, reduceToNat, reduceMul, eGraph]) ?_
        refine CWops.done ?_
        refine CW.seq ?_
        refine CW.region (by kernel_rfl) (by kernel_rfl) ?_ -- r8
        refine CWops.run htt 2 (by simp only [go_sem, reduceIte, reduceCtorEq, reduceEqDiff, reduceAdd, reduceLT, reduceLeDiff, reduceToNat, reduceMul]; exact rfl) (by simp [go_sem, reduceIte, reduceCtorEq, reduceEqDiff, reduceAdd, reduceLT, reduceLeDiff, reduceToNat, reduceMul]) ?_
        refine CWops.done ?_
        refine CW.cond (by simp only [go_sem, reduceIte, reduceCtorEq, reduceEqDiff, reduceAdd, reduceLT, reduceLeDiff, reduceToNat, reduceMul]; first | done | exact rfl) (fun ct35 => ?_) (fun ct35 => ?_)
        · obtain ⟨m, hml'⟩ : ∃ m, g.O.length = m + 1 := ⟨g.O.length - 1, by simp at ct35; omega⟩
          have hml : m < g.O.length := by omega
          obtain ⟨z, hx⟩ : ∃ x, g.O[m]? = some x := ⟨g.O[m], List.getElem?_eq_getElem hml⟩
          have hw1 : IntKind.i64.wrap ((g.O.length : Int) - 1) = (m : Int) := by rw [wrap_id (by omega) (by omega)]; omega
          obtain ⟨_, _, _, hzo⟩ := hm.objT hx
          have hz1 := hzo.id
          have hz2 := (hm.ids m z hx).1
          have hw2 : IntKind.i64.wrap (z.Id + 1) = z.Id + 1 := wrap_id (by omega) (by omega)
          have hnid : newId g = z.Id + 1 := by unfold newId; rw [hml']; simp [prevId, hx]
          refine CW.region (by kernel_rfl) (by kernel_rfl) ?_ -- r9
          refine CWops.run htt 10 (by simp only [go_sem, reduceIte, reduceCtorEq, reduceEqDiff, reduceAdd, reduceLT, reduceLeDiff, reduceToNat, reduceMul, eGraph, hx, eObj, hml, hw1, hw2]; exact rfl) (by simp [go_sem, reduceIte, reduceCtorEq, reduceEqDiff, reduceAdd, reduceLT, reduceLeDiff, reduceToNat, reduceMul, eGraph, hx, eObj, hml, hw1, hw2]) ?_
          refine CWops.done ?_
          first | refine ⟨rfl, Sh.wk0 ?_⟩ | refine Sh.wk0 ?_
          first | (simp [Wk, go_sem, reduceIte, reduceCtorEq, reduceEqDiff, reduceAdd, reduceLT, reduceLeDiff, reduceToNat, reduceMul, eGraph, OWN, hnid]; done) | (simp [Wk, go_sem, reduceIte, reduceCtorEq, reduceEqDiff, reduceAdd, reduceLT, reduceLeDiff, reduceToNat, reduceMul, eGraph, OWN, newId, hn0, prevId]; done) | skip
        · have hn0 : g.O = [] := by
            simpa using ct35
          refine CW.skip ?_
          first | refine ⟨rfl, Sh.wk0 ?_⟩ | refine Sh.wk0 ?_
          first | (simp [Wk, go_sem, reduceIte, reduceCtorEq, reduceEqDiff, reduceAdd, reduceLT, reduceLeDiff, reduceToNat, reduceMul, eGraph, OWN, hnid]; done) | (simp [Wk, go_sem, reduceIte, reduceCtorEq, reduceEqDiff, reduceAdd, reduceLT, reduceLeDiff, reduceToNat, reduceMul, eGraph, OWN, newId, hn0, prevId]; done) | skip
      refine CW.seq ?_
      refine CW.cut ⟨6, [(0, .agg (eGraph g)), (1, .int .i64 (q : Int)), (2, .lv 0 [] 0), (4, .lv 1 [] 0), (5, .int .i64 0), (6, .int .i64 0), (7, .lv 4 [] 0), (8, .lv 5 [] 0), (53, .bool (newBad g))], [(0, ⟨true, eGraph g⟩), (1, ⟨true, [.nilsl, .nilsl, .nilsl]⟩), (2, ⟨true, OWN g⟩), (4, ⟨true, [.ref 2 [] 0, .ref 2 [] 1, .ref 2 [] 2]⟩), (5, ⟨true, [.int .i64 (newId g), .int .i64 (q : Int), .nilsl]⟩)]⟩ ?_ ?_
      · refine CW.region (by kernel_rfl) (by kernel_rfl) ?_ -- r10
        refine CWops.run htt 5 (by simp only [go_sem, reduceIte, reduceCtorEq, reduceEqDiff, reduceAdd, reduceLT, reduceLeDiff, reduceToNat, reduceMul, eGraph]; exact rfl) (by simp [go_sem, reduceIte, reduceCtorEq, reduceEqDiff, reduceAdd, reduceLT, reduceLeDiff, reduceToNat, reduceMul, eGraph]) ?_
        all_goals (first | refine CWops.guard 49 (by simp only [go_sem, reduceIte, reduceCtorEq, reduceEqDiff, reduceAdd, reduceLT, reduceLeDiff, reduceToNat, reduceMul, eGraph]; exact rfl) (fun g49 => ?_) (fun g49 => ?_) | skip)
        all_goals (refine CWops.run htt 4 (by simp only [go_sem, reduceIte, reduceCtorEq, reduceEqDiff, reduceAdd, reduceLT, reduceLeDiff, reduceToNat, reduceMul, eGraph]; exact rfl) (by simp [go_sem, reduceIte, reduceCtorEq, reduceEqDiff, reduceAdd, reduceLT, reduceLeDiff, reduceToNat, reduceMul, eGraph]) ?_)
        all_goals (refine CWops.done ?_)
        all_goals (
          first | refine ⟨rfl, Sh.wk0 ?_⟩ | refine Sh.wk0 ?_
          unfold newBad
          by_cases h8 : g.O.length = 8 <;> by_cases hb : 1073741824 < newId g <;> simp_all [Wk, go_sem, reduceIte, reduceCtorEq, reduceEqDiff, reduceAdd, reduceLT, reduceLeDiff, reduceToNat, reduceMul, eGraph, OWN] <;> omega)
      refine CW.cond (by simp only [go_sem, reduceIte, reduceCtorEq, reduceEqDiff, reduceAdd, reduceLT, reduceLeDiff, reduceToNat, reduceMul]; first | done | exact rfl) (fun ct53 => ?_) (fun ct53 => ?_)
      · refine CW.seq ?_
        try simp only [OWN]
        refine CW.sh (Sh.trans (Sh.frzC 2 0 4 0 (by decide) rfl rfl rfl) (Sh.trans (Sh.frzC 2 1 4 1 (by decide) rfl rfl rfl) (Sh.frzC 2 2 4 2 (by decide) rfl rfl rfl))) ?_
        simp only [go_sem, reduceIte, reduceCtorEq, reduceEqDiff, reduceAdd, reduceLT, reduceLeDiff, reduceToNat, reduceMul]
        refine CW.region (by kernel_rfl) (by kernel_rfl) ?_ -- r11
        refine CWops.run htt 4 (by simp only [go_sem, reduceIte, reduceCtorEq, reduceEqDiff, reduceAdd, reduceLT, reduceLeDiff, reduceToNat, reduceMul]; exact rfl) (by simp [go_sem, reduceIte, reduceCtorEq, reduceEqDiff, reduceAdd, reduceLT, reduceLeDiff, reduceToNat, reduceMul]) ?_
        refine CWops.done ?_
        refine CW.ret ?_
        refine retQ.ret (by simp only [f22, go_sem, reduceIte, reduceCtorEq, reduceEqDiff, reduceAdd, reduceLT, reduceLeDiff, reduceToNat, reduceMul]; exact rfl) (by simp only [go_sem, reduceIte, reduceCtorEq, reduceEqDiff, reduceAdd, reduceLT, reduceLeDiff, reduceToNat, reduceMul]; exact rfl) ?_ -- ret3
        refine ⟨_, ?_, rfl⟩
        simp [leP, leL, gNew, ct16, show ¬ ((q : Int) < 0) by omega, Nat.not_le.2 hql, ct53, eGraph]
      · refine CW.skip ?_
        refine CW.seq ?_
        refine CW.seq ?_
        refine CW.region (by kernel_rfl) (by kernel_rfl) ?_ -- r12
        refine CWops.run htt 9 (by simp only [go_sem, reduceIte, reduceCtorEq, reduceEqDiff, reduceAdd, reduceLT, reduceLeDiff, reduceToNat, reduceMul, eGraph, ht, eType, hql]; exact rfl) (by simp [go_sem, reduceIte, reduceCtorEq, reduceEqDiff, reduceAdd, reduceLT, reduceLeDiff, reduceToNat, reduceMul, eGraph, ht, eType, hql]) ?_
        refine CWops.done ?_
        refine CW.block ?_
        refine CW.loop (S := Nat) (fun i => ⟨6, [(0, .agg (eGraph g)), (1, .int .i64 (q : Int)), (2, .lv 0 [] 0), (4, .lv 1 [] 0), (5, .int .i64 0), (6, .int .i64 0), (7, .lv 4 [] 0), (8, .lv 5 [] 0), (61, .sl 3 (ty.F.map eField)), (62, .int .i64 ty.F.length), (63, .int .i64 i)], [(0, ⟨true, eGraph g⟩), (1, ⟨true, [.nilsl, .nilsl, .nilsl]⟩), (2, ⟨true, OWN g⟩), (4, ⟨true, [.ref 2 [] 0, .ref 2 [] 1, .ref 2 [] 2]⟩), (5, ⟨true, [.int .i64 (newId g), .int .i64 (q : Int), .own 3 (((ty.F.take i).map zeroV).map eVal)]⟩)]⟩) (fun i => i ≤ ty.F.length) (fun i => ty.F.length - i) (0) ?_ (Nat.zero_le _) (fun i h1 => ?_)
        · refine Sh.trans (Sh.nilCell 5 [] 2 3 (by simp [go_sem, reduceIte, reduceCtorEq, reduceEqDiff, reduceAdd, reduceLT, reduceLeDiff, reduceToNat, reduceMul]) rfl) (Sh.wk0 ?_); simp [Wk, go_sem, reduceIte, reduceCtorEq, reduceEqDiff, reduceAdd, reduceLT, reduceLeDiff, reduceToNat, reduceMul, eGraph, OWN]
        refine CW.seq ?_
        refine CW.region (by kernel_rfl) (by kernel_rfl) ?_ -- r13
        refine CWops.run htt 1 (by simp only [go_sem, reduceIte, reduceCtorEq, reduceEqDiff, reduceAdd, reduceLT, reduceLeDiff, reduceToNat, reduceMul]; exact rfl) (by simp [go_sem, reduceIte, reduceCtorEq, reduceEqDiff, reduceAdd, reduceLT, reduceLeDiff, reduceToNat, reduceMul]) ?_
        refine CWops.done ?_
        refine CW.seq ?_
        refine CW.cond (by simp only [go_sem, reduceIte, reduceCtorEq, reduceEqDiff, reduceAdd, reduceLT, reduceLeDiff, reduceToNat, reduceMul]; first | done | exact rfl) (fun ct64 => ?_) (fun ct64 => ?_)
        · have hi : i < ty.F.length := by simpa using ct64
          obtain ⟨f, hf⟩ : ∃ x, ty.F[i]? = some x := ⟨ty.F[i], List.getElem?_eq_getElem hi⟩
          refine CW.skip ?_
          refine CW.seq ?_
          refine CW.block ?_
          refine CW.seq ?_
          refine CW.region (by kernel_rfl) (by kernel_rfl) ?_ -- r14
          refine CWops.run htt 4 (by simp only [go_sem, reduceIte, reduceCtorEq, reduceEqDiff, reduceAdd, reduceLT, reduceLeDiff, reduceToNat, reduceMul, hi, hf, eField]; exact rfl) (by simp [go_sem, reduceIte, reduceCtorEq, reduceEqDiff, reduceAdd, reduceLT, reduceLeDiff, reduceToNat, reduceMul, hi, hf, eField]) ?_
          refine CWops.done ?_
          refine CW.drawn mixed 5 (by decide) (by kernel_rfl) (by kernel_rfl) (by kernel_rfl) ?_ -- r15
          refine Seg.run htt 3 (by simp only [go_sem, reduceIte, reduceCtorEq, reduceEqDiff, reduceAdd, reduceLT, reduceLeDiff, reduceToNat, reduceMul, eField, eVal, List.replicate]; exact rfl) ?_
          refine Seg.callA (value_Zero up f) (by simp only [go_sem, reduceIte, reduceCtorEq, reduceEqDiff, reduceAdd, reduceLT, reduceLeDiff, reduceToNat, reduceMul, eField, eVal, List.replicate]) (by simp only [go_sem, reduceIte, reduceCtorEq, reduceEqDiff, reduceAdd, reduceLT, reduceLeDiff, reduceToNat, reduceMul, eField, eVal, List.replicate]; first | done | exact rfl) (by simp only [go_sem, reduceIte, reduceCtorEq, reduceEqDiff, reduceAdd, reduceLT, reduceLeDiff, reduceToNat, reduceMul, eField, eVal, List.replicate]) (by simp only [go_sem, reduceIte, reduceCtorEq, reduceEqDiff, reduceAdd, reduceLT, reduceLeDiff, reduceToNat, reduceMul, eField, eVal, List.replicate]) ?_
          refine Seg.run htt 1 (by simp only [go_sem, reduceIte, reduceCtorEq, reduceEqDiff, reduceAdd, reduceLT, reduceLeDiff, reduceToNat, reduceMul, eField, eVal, List.replicate]; exact rfl) ?_
          refine Seg.done ?_
          refine CWops.run htt 3 (by simp only [go_sem, reduceIte, reduceCtorEq, reduceEqDiff, reduceAdd, reduceLT, reduceLeDiff, reduceToNat, reduceMul, eField, eVal, List.replicate]; exact rfl) (by unfold zeroV; split <;> simp [AV.cell, AV.tree, eVal, MX] <;> omega) ?_
          refine CWops.done ?_
          refine CW.region (by kernel_rfl) (by kernel_rfl) ?_ -- r16
          refine CWops.run htt 2 (by simp only [go_sem, reduceIte, reduceCtorEq, reduceEqDiff, reduceAdd, reduceLT, reduceLeDiff, reduceToNat, reduceMul, wrap_succ (show i < MX by unfold MX; omega)]; exact rfl) (by simp [go_sem, reduceIte, reduceCtorEq, reduceEqDiff, reduceAdd, reduceLT, reduceLeDiff, reduceToNat, reduceMul, wrap_succ (show i < MX by unfold MX; omega)]) ?_
          refine CWops.done ?_
          refine ⟨i + 1, ?_, ?_, ?_⟩
          · refine Sh.wk0 ?_
            dsimp only
            simp [Wk, go_sem, reduceIte, reduceCtorEq, reduceEqDiff, reduceAdd, reduceLT, reduceLeDiff, reduceToNat, reduceMul, eGraph, OWN, List.take_add_one, hf, eVal]
          · exact hi
          · simp only; omega
        · have hi : i = ty.F.length := by simp at ct64; omega
          rw [hi, List.take_length]
          refine CW.exit ?_
          refine CW.seq ?_
          refine CW.sh (Sh.frz 5 2 rfl rfl) ?_
          simp only [go_sem, reduceIte, reduceCtorEq, reduceEqDiff, reduceAdd, reduceLT, reduceLeDiff, reduceToNat, reduceMul, OWN]
          refine CW.region (by kernel_rfl) (by kernel_rfl) ?_ -- r17
          refine CWops.run htt 7 (by simp only [go_sem, reduceIte, reduceCtorEq, reduceEqDiff, reduceAdd, reduceLT, reduceLeDiff, reduceToNat, reduceMul, OWN, List.replicate]; exact rfl) (by simp [AV.cell, AV.tree, MX] <;> omega) ?_
          refine CWops.done ?_
          refine CW.seq ?_
          refine CW.sh (Sh.trans (Sh.frzC 2 0 4 0 (by decide) rfl rfl rfl) (Sh.frzC 2 2 4 2 (by decide) rfl rfl rfl)) ?_
          simp only [go_sem, reduceIte, reduceCtorEq, reduceEqDiff, reduceAdd, reduceLT, reduceLeDiff, reduceToNat, reduceMul, OWN]
          refine CW.sh (Sh.frz 4 1 rfl rfl) ?_
          rw [show ([.int .i64 (newId g), .int .i64 (q : Int), .sl 3 ((List.map zeroV ty.F).map eVal)] : List AV) = [.int .i64 (newObj g q).Id, .int .i64 (newObj g q).T, .sl 3 ((newObj g q).F.map eVal)] by unfold newObj; rw [htF], frz_ObjA]
          simp only [go_sem, reduceIte, reduceCtorEq, reduceEqDiff, reduceAdd, reduceLT, reduceLeDiff, reduceToNat, reduceMul]
          refine CW.drawnF mixed 3 4 [1, 2] (D := [82, 83]) (by decide) (by decide) (by kernel_rfl) (by kernel_rfl) rfl (by kernel_rfl) (by kernel_rfl) ?_ -- r18
          refine Seg.run htt 3 (by simp only [go_sem, reduceIte, reduceCtorEq, reduceEqDiff, reduceAdd, reduceLT, reduceLeDiff, reduceToNat, reduceMul]; exact rfl) ?_
          refine Seg.done ?_
          refine Mid.sto htt (Flo.cons htt rfl rfl (by simp only [go_sem, reduceIte, reduceCtorEq, reduceEqDiff, reduceAdd, reduceLT, reduceLeDiff, reduceToNat, reduceMul]; first | done | exact rfl) (Flo.cons htt rfl rfl (by simp only [go_sem, reduceIte, reduceCtorEq, reduceEqDiff, reduceAdd, reduceLT, reduceLeDiff, reduceToNat, reduceMul]; first | done | exact rfl) (Flo.nil))) (fun u => by simp only [go_sem, reduceIte, reduceCtorEq, reduceEqDiff, reduceAdd, reduceLT, reduceLeDiff, reduceToNat, reduceMul]; exact rfl) ?_
          refine Mid.done (Flo.cons htt rfl rfl (by simp only [go_sem, reduceIte, reduceCtorEq, reduceEqDiff, reduceAdd, reduceLT, reduceLeDiff, reduceToNat, reduceMul]; first | done | exact rfl) (Flo.cons htt rfl rfl (by simp only [go_sem, reduceIte, reduceCtorEq, reduceEqDiff, reduceAdd, reduceLT, reduceLeDiff, reduceToNat, reduceMul]; first | done | exact rfl) (Flo.nil))) ?_
          refine CWops.run htt 2 (by simp only [go_sem, reduceIte, reduceCtorEq, reduceEqDiff, reduceAdd, reduceLT, reduceLeDiff, reduceToNat, reduceMul]; exact rfl) (by simp [go_sem, reduceIte, reduceCtorEq, reduceEqDiff, reduceAdd, reduceLT, reduceLeDiff, reduceToNat, reduceMul]) ?_
          refine CWops.done ?_
          refine CW.ret ?_
          refine retQ.ret (by simp only [f22, go_sem, reduceIte, reduceCtorEq, reduceEqDiff, reduceAdd, reduceLT, reduceLeDiff, reduceToNat, reduceMul]; exact rfl) (by simp only [go_sem, reduceIte, reduceCtorEq, reduceEqDiff, reduceAdd, reduceLT, reduceLeDiff, reduceToNat, reduceMul]; exact rfl) ?_ -- ret4
          refine ⟨_, ?_, rfl⟩
          simp [leP, leL, gNew, ct16, show ¬ ((q : Int) < 0) by omega, Nat.not_le.2 hql, ct53, eGraph, newObj]
end Go.Ab
namespace Go.Ab
open Go Go.Proofs.Try
open Nat (reduceEqDiff reduceAdd reduceLT reduceLeDiff reduceBEq reduceSub reduceMul)
open Int (reduceToNat)
set_option maxRecDepth 100000
set_option linter.unusedSimpArgs false
set_option linter.unusedVariables false
@[go_sem] theorem tt_115 : tiOf prog 115 = some ⟨.int IntKind.u64, 1, 8, [.int .u64 0], false⟩ := by kernel_rfl
@[go_sem] theorem tt_134 : tiOf prog 134 = some ⟨.int IntKind.u64, 1, 8, [.int .u64 0], false⟩ := by kernel_rfl
@[go_sem] theorem tt_132 : tiOf prog 132 = some ⟨.int IntKind.u32, 1, 4, [.int .u32 0], false⟩ := by kernel_rfl
theorem cmp_isNaN (up : Bool) (x : Int) : PCall prog up 102 [.int .i64 x] (· = .bool false) := by
  refine PCall.intro htt func102 (by kernel_rfl) rfl (Nat.le_of_ble_eq_true rfl) fun hl => ?_

  simp only [tmps0, Nat.reduceAdd]
  refine CW.seq ?_
  refine CW.region (by kernel_rfl) (by kernel_rfl) ?_ -- r0
  refine CWops.run htt 1 (by simp only [go_sem, reduceIte, reduceCtorEq, reduceEqDiff, reduceAdd, reduceLT, reduceLeDiff, reduceToNat]; exact rfl) (by simp [go_sem, reduceIte, reduceCtorEq, reduceEqDiff, reduceAdd, reduceLT, reduceLeDiff, reduceToNat]) ?_
  refine CWops.done ?_
  refine CW.seq ?_
  refine CW.region (by kernel_rfl) (by kernel_rfl) ?_ -- r1
  refine CWops.run htt 4 (by simp only [go_sem, reduceIte, reduceCtorEq, reduceEqDiff, reduceAdd, reduceLT, reduceLeDiff, reduceToNat]; exact rfl) (by simp [go_sem, reduceIte, reduceCtorEq, reduceEqDiff, reduceAdd, reduceLT, reduceLeDiff, reduceToNat]) ?_
  refine CWops.done ?_
  refine CW.ret ?_
  refine retQ.ret (by simp only [f102, go_sem, reduceIte, reduceCtorEq, reduceEqDiff, reduceAdd, reduceLT, reduceLeDiff, reduceToNat]; exact rfl) (by simp only [go_sem, reduceIte, reduceCtorEq, reduceEqDiff, reduceAdd, reduceLT, reduceLeDiff, reduceToNat]; exact rfl) ?_ -- ret1
  refine ⟨_, ?_, rfl⟩
  simp [leP]
theorem slices_isNaN (up : Bool) (x : Int) : PCall prog up 84 [.int .i64 x] (· = .bool false) := by
  refine PCall.intro htt func84 (by kernel_rfl) rfl (Nat.le_of_ble_eq_true rfl) fun hl => ?_

  simp only [tmps0, Nat.reduceAdd]
  refine CW.seq ?_
  refine CW.region (by kernel_rfl) (by kernel_rfl) ?_ -- r0
  refine CWops.run htt 1 (by simp only [go_sem, reduceIte, reduceCtorEq, reduceEqDiff, reduceAdd, reduceLT, reduceLeDiff, reduceToNat]; exact rfl) (by simp [go_sem, reduceIte, reduceCtorEq, reduceEqDiff, reduceAdd, reduceLT, reduceLeDiff, reduceToNat]) ?_
  refine CWops.done ?_
  refine CW.seq ?_
  refine CW.region (by kernel_rfl) (by kernel_rfl) ?_ -- r1
  refine CWops.run htt 4 (by simp only [go_sem, reduceIte, reduceCtorEq, reduceEqDiff, reduceAdd, reduceLT, reduceLeDiff, reduceToNat]; exact rfl) (by simp [go_sem, reduceIte, reduceCtorEq, reduceEqDiff, reduceAdd, reduceLT, reduceLeDiff, reduceToNat]) ?_
  refine CWops.done ?_
  refine CW.ret ?_
  refine retQ.ret (by simp only [f84, go_sem, reduceIte, reduceCtorEq, reduceEqDiff, reduceAdd, reduceLT, reduceLeDiff, reduceToNat]; exact rfl) (by simp only [go_sem, reduceIte, reduceCtorEq, reduceEqDiff, reduceAdd, reduceLT, reduceLeDiff, reduceToNat]; exact rfl) ?_ -- ret1
  refine ⟨_, ?_, rfl⟩
  simp [leP]
theorem cmp_Less (up : Bool) (x y : Int) : PCall prog up 83 [.int .i64 x, .int .i64 y] (· = .bool (decide (x < y))) := by
  refine PCall.intro htt func83 (by kernel_rfl) rfl (Nat.le_of_ble_eq_true rfl) fun hl => ?_

  simp only [tmps0, Nat.reduceAdd]
  refine CW.seq ?_
  refine CW.region (by kernel_rfl) (by kernel_rfl) ?_ -- r0
  refine CWops.run htt 1 (by simp only [go_sem, reduceIte, reduceCtorEq, reduceEqDiff, reduceAdd, reduceLT, reduceLeDiff, reduceToNat]; exact rfl) (by simp [go_sem, reduceIte, reduceCtorEq, reduceEqDiff, reduceAdd, reduceLT, reduceLeDiff, reduceToNat]) ?_
  refine CWops.done ?_
  refine CW.seq ?_
  refine CW.region (by kernel_rfl) (by kernel_rfl) ?_ -- r1
  refine CWops.run htt 1 (by simp only [go_sem, reduceIte, reduceCtorEq, reduceEqDiff, reduceAdd, reduceLT, reduceLeDiff, reduceToNat]; exact rfl) (by simp [go_sem, reduceIte, reduceCtorEq, reduceEqDiff, reduceAdd, reduceLT, reduceLeDiff, reduceToNat]) ?_
  refine CWops.callA (cmp_isNaN up x) (by simp only [go_sem, reduceIte, reduceCtorEq, reduceEqDiff, reduceAdd, reduceLT, reduceLeDiff, reduceToNat]) (by simp only [go_sem, reduceIte, reduceCtorEq, reduceEqDiff, reduceAdd, reduceLT, reduceLeDiff, reduceToNat]; first | done | exact rfl) (by simp only [go_sem, reduceIte, reduceCtorEq, reduceEqDiff, reduceAdd, reduceLT, reduceLeDiff, reduceToNat]) (by simp only [go_sem, reduceIte, reduceCtorEq, reduceEqDiff, reduceAdd, reduceLT, reduceLeDiff, reduceToNat]) (fun rt6 hrt6 => ?_)
  subst hrt6
  refine CWops.run htt 1 (by simp only [go_sem, reduceIte, reduceCtorEq, reduceEqDiff, reduceAdd, reduceLT, reduceLeDiff, reduceToNat]; exact rfl) (by simp [go_sem, reduceIte, reduceCtorEq, reduceEqDiff, reduceAdd, reduceLT, reduceLeDiff, reduceToNat]) ?_
  all_goals (first | refine CWops.guard 7 (by simp only [go_sem, reduceIte, reduceCtorEq, reduceEqDiff, reduceAdd, reduceLT, reduceLeDiff, reduceToNat]; exact rfl) (fun g7 => ?_) (fun g7 => ?_) | skip)
  all_goals (try (cases g7; done))
  all_goals (refine CWops.run htt 1 (by simp only [go_sem, reduceIte, reduceCtorEq, reduceEqDiff, reduceAdd, reduceLT, reduceLeDiff, reduceToNat]; exact rfl) (by simp [go_sem, reduceIte, reduceCtorEq, reduceEqDiff, reduceAdd, reduceLT, reduceLeDiff, reduceToNat]) ?_)
  all_goals (first | (refine CWops.skip ?_ ?_; next => (simp only [go_sem, reduceIte, reduceCtorEq, reduceEqDiff, reduceAdd, reduceLT, reduceLeDiff, reduceToNat]; done)) | (refine CWops.callA (cmp_isNaN up y) (by simp only [go_sem, reduceIte, reduceCtorEq, reduceEqDiff, reduceAdd, reduceLT, reduceLeDiff, reduceToNat]) (by simp only [go_sem, reduceIte, reduceCtorEq, reduceEqDiff, reduceAdd, reduceLT, reduceLeDiff, reduceToNat]; first | done | exact rfl) (by simp only [go_sem, reduceIte, reduceCtorEq, reduceEqDiff, reduceAdd, reduceLT, reduceLeDiff, reduceToNat]) (by simp only [go_sem, reduceIte, reduceCtorEq, reduceEqDiff, reduceAdd, reduceLT, reduceLeDiff, reduceToNat]) (fun rt9 hrt9 => ?_); subst hrt9))
  all_goals (refine CWops.run htt 3 (by simp only [go_sem, reduceIte, reduceCtorEq, reduceEqDiff, reduceAdd, reduceLT, reduceLeDiff, reduceToNat]; exact rfl) (by simp [go_sem, reduceIte, reduceCtorEq, reduceEqDiff, reduceAdd, reduceLT, reduceLeDiff, reduceToNat]) ?_)
  all_goals (first | refine CWops.guard 12 (by simp only [go_sem, reduceIte, reduceCtorEq, reduceEqDiff, reduceAdd, reduceLT, reduceLeDiff, reduceToNat]; exact rfl) (fun g12 => ?_) (fun g12 => ?_) | skip)
  all_goals (try (cases g12; done))
  all_goals (refine CWops.run htt 5 (by simp only [go_sem, reduceIte, reduceCtorEq, reduceEqDiff, reduceAdd, reduceLT, reduceLeDiff, reduceToNat]; exact rfl) (by simp [go_sem, reduceIte, reduceCtorEq, reduceEqDiff, reduceAdd, reduceLT, reduceLeDiff, reduceToNat]) ?_)
  all_goals (refine CWops.done ?_)
  all_goals (
    refine CW.ret ?_
    refine retQ.ret (by simp only [f83, go_sem, reduceIte, reduceCtorEq, reduceEqDiff, reduceAdd, reduceLT, reduceLeDiff, reduceToNat]; exact rfl) (by simp only [go_sem, reduceIte, reduceCtorEq, reduceEqDiff, reduceAdd, reduceLT, reduceLeDiff, reduceToNat]; exact rfl) ?_ -- ret1
    refine ⟨_, ?_, rfl⟩
    simp [leP])
theorem insertionSort (up : Bool) (l : List Int) (hl : l.length < 1000) : GCallH prog up 92 [.ref 0 [] 0, .int .i64 0, .int .i64 l.length] 1 [(0, ⟨false, [.own 1 (l.map eI)]⟩)] [0] (fun _ σ' => ∃ m, σ'.n = 1 ∧ σ'.s = [(0, ⟨false, [.own 1 (m.map eI)]⟩)] ∧ Sorted l m) := by
  refine GCallH.intro htt 1 func92 (by kernel_rfl) rfl (Nat.le_of_ble_eq_true rfl) (CW.told ?_)
  have w1 : IntKind.i64.wrap ((0 : Int) + 1) = ((1 : Nat) : Int) := by decide
  simp only [tmps0, Nat.reduceAdd]
  refine CW.seq ?_
  refine CW.region (by kernel_rfl) (by kernel_rfl) ?_ -- r0
  refine CWops.run htt 3 (by simp only [go_sem, reduceIte, reduceCtorEq, reduceEqDiff, reduceAdd, reduceLT, reduceLeDiff, reduceToNat, w1]; exact rfl) (by simp [go_sem, reduceIte, reduceCtorEq, reduceEqDiff, reduceAdd, reduceLT, reduceLeDiff, reduceToNat, w1]) ?_
  refine CWops.done ?_
  refine CW.block ?_
  refine CW.loop (S := Nat × List Int) (fun p => ⟨1, [(0, .ref 0 [] 0), (1, .int .i64 0), (2, .int .i64 l.length), (6, .int .i64 p.1)], [(0, ⟨false, [.own 1 (p.2.map eI)]⟩)]⟩) (fun p => UpTo p.2 p.1 ∧ p.2.Perm l ∧ 1 ≤ p.1) (fun p => l.length - p.1) ((1, l)) ?_ ⟨fun p q x y h1 h2 => by omega, List.Perm.refl l, Nat.le_refl 1⟩ (fun ⟨i, m⟩ ⟨h1, h2, h3⟩ => ?_)
  · refine Sh.wk0 ?_; simp [Wk, go_sem, reduceIte, reduceCtorEq, reduceEqDiff, reduceAdd, reduceLT, reduceLeDiff, reduceToNat]
  refine CW.seq ?_
  refine CW.seq ?_
  refine CW.region (by kernel_rfl) (by kernel_rfl) ?_ -- r1
  refine CWops.run htt 3 (by simp only [go_sem, reduceIte, reduceCtorEq, reduceEqDiff, reduceAdd, reduceLT, reduceLeDiff, reduceToNat]; exact rfl) (by simp [go_sem, reduceIte, reduceCtorEq, reduceEqDiff, reduceAdd, reduceLT, reduceLeDiff, reduceToNat]) ?_
  refine CWops.done ?_
  refine CW.cond (by simp only [go_sem, reduceIte, reduceCtorEq, reduceEqDiff, reduceAdd, reduceLT, reduceLeDiff, reduceToNat]; first | done | exact rfl) (fun ct12 => ?_) (fun ct12 => ?_)
  · have hi : i < l.length := by simpa using ct12
    refine CW.skip ?_
    refine CW.seq ?_
    refine CW.block ?_
    refine CW.seq ?_
    refine CW.region (by kernel_rfl) (by kernel_rfl) ?_ -- r3
    refine CWops.run htt 2 (by simp only [go_sem, reduceIte, reduceCtorEq, reduceEqDiff, reduceAdd, reduceLT, reduceLeDiff, reduceToNat]; exact rfl) (by simp [go_sem, reduceIte, reduceCtorEq, reduceEqDiff, reduceAdd, reduceLT, reduceLeDiff, reduceToNat]) ?_
    refine CWops.done ?_
    refine CW.block ?_
    refine CW.loop (S := Nat × List Int) (fun p => ⟨1, [(0, .ref 0 [] 0), (1, .int .i64 0), (2, .int .i64 l.length), (6, .int .i64 i), (7, .int .i64 p.1)], [(0, ⟨false, [.own 1 (p.2.map eI)]⟩)]⟩) (fun p => Ins p.2 i p.1 ∧ p.2.Perm l ∧ p.1 ≤ i) (fun p => p.1) ((i, m)) ?_ ⟨Ins.start h1, h2, Nat.le_refl i⟩ (fun ⟨j, mm⟩ ⟨k1, k2, k3⟩ => ?_)
    · refine Sh.wk0 ?_; simp [Wk, go_sem, reduceIte, reduceCtorEq, reduceEqDiff, reduceAdd, reduceLT, reduceLeDiff, reduceToNat]
    refine CW.seq ?_
    refine CW.cut ⟨1, [(0, .ref 0 [] 0), (1, .int .i64 0), (2, .int .i64 l.length), (6, .int .i64 i), (7, .int .i64 j), (30, .bool (lessAt mm j))], [(0, ⟨false, [.own 1 (mm.map eI)]⟩)]⟩ ?_ ?_
    · have hml : mm.length = l.length := k2.length_eq
      simp only at k3
      obtain ⟨k, a, b, hjab⟩ : ∃ k a b, (j = 0 ∧ True ∧ True ∧ True ∧ True ∧ True) ∨ (j = k + 1 ∧ mm[k]? = some a ∧ mm[k + 1]? = some b ∧ IntKind.i64.wrap (((k + 1 : Nat) : Int) - 1) = (k : Int) ∧ k < mm.length ∧ k + 1 < mm.length) := by
        rcases j with _ | k
        · exact ⟨0, 0, 0, .inl ⟨rfl, trivial, trivial, trivial, trivial, trivial⟩⟩
        · exact ⟨k, mm[k], mm[k + 1], .inr ⟨rfl, List.getElem?_eq_getElem (by omega), List.getElem?_eq_getElem (by omega), by rw [wrap_id (by omega) (by omega)]; omega, by omega, by omega⟩⟩
      rcases hjab with ⟨rfl, ha, hb, hw, hja, hjb⟩ | ⟨rfl, ha, hb, hw, hja, hjb⟩
      all_goals (refine CW.drawn mixed 13 (by decide) (by kernel_rfl) (by kernel_rfl) (by kernel_rfl) ?_) -- r4
      all_goals (refine Seg.run htt 4 (by simp only [go_sem, reduceIte, reduceCtorEq, reduceEqDiff, reduceAdd, reduceLT, reduceLeDiff, reduceToNat, ha, hb, hw, hja, hjb, List.length_map, eI]; exact rfl) ?_)
      all_goals (first | refine Seg.guard 19 (by simp only [go_sem, reduceIte, reduceCtorEq, reduceEqDiff, reduceAdd, reduceLT, reduceLeDiff, reduceToNat, ha, hb, hw, hja, hjb, List.length_map, eI]; exact rfl) (fun g19 => ?_) (fun g19 => ?_) | skip)
      all_goals (first | (simp at g19; done) | (exfalso; simp at g19 <;> omega) | skip)
      all_goals (refine Seg.run htt 9 (by simp only [go_sem, reduceIte, reduceCtorEq, reduceEqDiff, reduceAdd, reduceLT, reduceLeDiff, reduceToNat, ha, hb, hw, hja, hjb, List.length_map, eI]; exact rfl) ?_)
      all_goals (refine Seg.done ?_)
      all_goals (first | (refine CWops.skip ?_ ?_; next => (simp only [go_sem, reduceIte, reduceCtorEq, reduceEqDiff, reduceAdd, reduceLT, reduceLeDiff, reduceToNat]; done)) | (refine CWops.callA (cmp_Less up b a) (by simp only [go_sem, reduceIte, reduceCtorEq, reduceEqDiff, reduceAdd, reduceLT, reduceLeDiff, reduceToNat, ha, hb, hw, hja, hjb, List.length_map, eI]) (by simp only [go_sem, reduceIte, reduceCtorEq, reduceEqDiff, reduceAdd, reduceLT, reduceLeDiff, reduceToNat, ha, hb, hw, hja, hjb, List.length_map, eI]; first | done | exact rfl) (by simp only [go_sem, reduceIte, reduceCtorEq, reduceEqDiff, reduceAdd, reduceLT, reduceLeDiff, reduceToNat, ha, hb, hw, hja, hjb, List.length_map, eI]) (by simp only [go_sem, reduceIte, reduceCtorEq, reduceEqDiff, reduceAdd, reduceLT, reduceLeDiff, reduceToNat, ha, hb, hw, hja, hjb, List.length_map, eI]) (fun rt29 hrt29 => ?_); subst hrt29))
      all_goals (refine CWops.run htt 1 (by simp only [go_sem, reduceIte, reduceCtorEq, reduceEqDiff, reduceAdd, reduceLT, reduceLeDiff, reduceToNat, ha, hb, hw, hja, hjb, List.length_map, eI]; exact rfl) (by simp [go_sem, reduceIte, reduceCtorEq, reduceEqDiff, reduceAdd, reduceLT, reduceLeDiff, reduceToNat, ha, hb, hw, hja, hjb, List.length_map, eI]) ?_)
      all_goals (refine CWops.done ?_)
      all_goals (
        first | refine ⟨rfl, Sh.wk0 ?_⟩ | refine Sh.wk0 ?_
        first | (simp [Wk, go_sem, reduceIte, reduceCtorEq, reduceEqDiff, reduceAdd, reduceLT, reduceLeDiff, reduceToNat, lessAt]; done) | (simp [Wk, go_sem, reduceIte, reduceCtorEq, reduceEqDiff, reduceAdd, reduceLT, reduceLeDiff, reduceToNat, lessAt, ha, hb]; done) | skip)
    refine CW.cond (by simp only [go_sem, reduceIte, reduceCtorEq, reduceEqDiff, reduceAdd, reduceLT, reduceLeDiff, reduceToNat]; first | done | exact rfl) (fun ct30 => ?_) (fun ct30 => ?_)
    · obtain ⟨j, a, b, rfl, ha, hb, hab⟩ := lessAt_true ct30
      have hw : IntKind.i64.wrap (((j + 1 : Nat) : Int) - 1) = (j : Int) := by rw [wrap_id (by omega) (by omega)]; omega
      have hja := (List.getElem?_eq_some_iff.1 ha).1
      have hjb := (List.getElem?_eq_some_iff.1 hb).1
      have hr2 : ((List.map eI mm).set (j + 1) [AV.int .i64 a])[j]? = some [AV.int .i64 a] := by rw [List.getElem?_set_ne (by omega), List.getElem?_map, ha]; rfl
      refine CW.skip ?_
      refine CW.seq ?_
      refine CW.block ?_
      refine CW.drawnF mixed 15 16 [2, 3, 4] (D := [35, 36, 37]) (by decide) (by decide) (by kernel_rfl) (by kernel_rfl) rfl (by kernel_rfl) (by kernel_rfl) ?_ -- r6
      refine Seg.run htt 15 (by simp only [go_sem, reduceIte, reduceCtorEq, reduceEqDiff, reduceAdd, reduceLT, reduceLeDiff, reduceToNat, ha, hb, hw, hja, hjb, List.length_map, eI, hr2, List.length_set]; exact rfl) ?_
      refine Seg.done ?_
      refine Mid.sto htt (Flo.cons htt rfl rfl (by simp only [go_sem, reduceIte, reduceCtorEq, reduceEqDiff, reduceAdd, reduceLT, reduceLeDiff, reduceToNat, ha, hb, hw, hja, hjb, List.length_map, eI, hr2, List.length_set]; first | done | exact rfl) (Flo.cons htt rfl rfl (by simp only [go_sem, reduceIte, reduceCtorEq, reduceEqDiff, reduceAdd, reduceLT, reduceLeDiff, reduceToNat, ha, hb, hw, hja, hjb, List.length_map, eI, hr2, List.length_set]; first | done | exact rfl) (Flo.cons htt rfl rfl (by simp only [go_sem, reduceIte, reduceCtorEq, reduceEqDiff, reduceAdd, reduceLT, reduceLeDiff, reduceToNat, ha, hb, hw, hja, hjb, List.length_map, eI, hr2, List.length_set]; first | done | exact rfl) (Flo.nil)))) (fun u => by simp only [go_sem, reduceIte, reduceCtorEq, reduceEqDiff, reduceAdd, reduceLT, reduceLeDiff, reduceToNat, ha, hb, hw, hja, hjb, List.length_map, eI, hr2, List.length_set]; exact rfl) ?_
      refine Mid.done (Flo.cons htt rfl rfl (by simp only [go_sem, reduceIte, reduceCtorEq, reduceEqDiff, reduceAdd, reduceLT, reduceLeDiff, reduceToNat, ha, hb, hw, hja, hjb, List.length_map, eI, hr2, List.length_set]; first | done | exact rfl) (Flo.cons htt rfl rfl (by simp only [go_sem, reduceIte, reduceCtorEq, reduceEqDiff, reduceAdd, reduceLT, reduceLeDiff, reduceToNat, ha, hb, hw, hja, hjb, List.length_map, eI, hr2, List.length_set]; first | done | exact rfl) (Flo.cons htt rfl rfl (by simp only [go_sem, reduceIte, reduceCtorEq, reduceEqDiff, reduceAdd, reduceLT, reduceLeDiff, reduceToNat, ha, hb, hw, hja, hjb, List.length_map, eI, hr2, List.length_set]; first | done | exact rfl) (Flo.nil)))) ?_
      refine CWops.run htt 2 (by simp only [go_sem, reduceIte, reduceCtorEq, reduceEqDiff, reduceAdd, reduceLT, reduceLeDiff, reduceToNat, ha, hb, hw, hja, hjb, List.length_map, eI, hr2, List.length_set]; exact rfl) (by simp [go_sem, reduceIte, reduceCtorEq, reduceEqDiff, reduceAdd, reduceLT, reduceLeDiff, reduceToNat, ha, hb, hw, hja, hjb, List.length_map, eI, hr2, List.length_set]) ?_
      refine CWops.done ?_
      refine CW.region (by kernel_rfl) (by kernel_rfl) ?_ -- r5
      refine CWops.run htt 3 (by simp only [go_sem, reduceIte, reduceCtorEq, reduceEqDiff, reduceAdd, reduceLT, reduceLeDiff, reduceToNat, hw]; exact rfl) (by simp [go_sem, reduceIte, reduceCtorEq, reduceEqDiff, reduceAdd, reduceLT, reduceLeDiff, reduceToNat, hw]) ?_
      refine CWops.done ?_
      refine ⟨(j, swp mm j a b), ?_, ?_, ?_⟩
      · refine Sh.wk0 ?_; simp [Wk, go_sem, reduceIte, reduceCtorEq, reduceEqDiff, reduceAdd, reduceLT, reduceLeDiff, reduceToNat, swp, set_I]; first | done | rfl
      · exact ⟨k1.step k3 ha hb hab, (swp_perm ha hb).trans k2, by simp only at k3 ⊢; omega⟩
      · simp only; omega
    · refine CW.exit ?_
      refine CW.region (by kernel_rfl) (by kernel_rfl) ?_ -- r2
      refine CWops.run htt 3 (by simp only [go_sem, reduceIte, reduceCtorEq, reduceEqDiff, reduceAdd, reduceLT, reduceLeDiff, reduceToNat, wrap_succ (show i < MX by unfold MX; omega)]; exact rfl) (by simp [go_sem, reduceIte, reduceCtorEq, reduceEqDiff, reduceAdd, reduceLT, reduceLeDiff, reduceToNat, wrap_succ (show i < MX by unfold MX; omega)]) ?_
      refine CWops.done ?_
      refine ⟨(i + 1, mm), ?_, ?_, ?_⟩
      · refine Sh.wk0 ?_; simp [Wk, go_sem, reduceIte, reduceCtorEq, reduceEqDiff, reduceAdd, reduceLT, reduceLeDiff, reduceToNat]
      · exact ⟨lessAt_false ct30 k1 k3 (by rw [k2.length_eq]; exact hi), k2, by simp only; omega⟩
      · simp only; omega
  · have hi : l.length ≤ i := by simpa using ct12
    refine CW.exit ?_
    refine ⟨⟨1, [(0, .ref 0 [] 0)], [(0, ⟨false, [.own 1 (m.map eI)]⟩)]⟩, ?_, .inl rfl, ⟨by simp [ptrOK, go_sem, reduceIte, reduceCtorEq, reduceEqDiff, reduceAdd, reduceLT, reduceLeDiff, reduceToNat], (by refine ⟨⟨0, by decide, rfl, by simp only [go_sem, reduceIte, reduceCtorEq, reduceEqDiff, reduceAdd, reduceLT, reduceLeDiff, reduceToNat], rfl⟩, trivial⟩)⟩, _, by simp only [f92, go_sem, reduceIte, reduceCtorEq, reduceEqDiff, reduceAdd, reduceLT, reduceLeDiff, reduceToNat]; exact rfl, ?_⟩ -- end
    · refine Sh.wk0 ?_
      simp [Wk, go_sem, reduceIte, reduceCtorEq, reduceEqDiff, reduceAdd, reduceLT, reduceLeDiff, reduceToNat]
    · exact ⟨m, rfl, rfl, upTo_pairwise (fun p q x y a b => h1 p q x y a (by rw [h2.length_eq] at b; omega)), h2⟩
end Go.Ab
namespace Go.Ab
open Go Go.Proofs.Try
open Nat (reduceEqDiff reduceAdd reduceLT reduceLeDiff reduceBEq reduceSub reduceMul)
open Int (reduceToNat)
set_option maxRecDepth 100000
set_option linter.unusedSimpArgs false
set_option linter.unusedVariables false
theorem bits_Len64 (up : Bool) (n : Nat) (hn : n < 256) : PCall prog up 101 [.int .u64 n] (fun r => ∃ m : Int, r = .int .i64 m) := by
  refine PCall.intro htt func101 (by kernel_rfl) rfl (Nat.le_of_ble_eq_true rfl) fun hl => ?_
  have hwu : IntKind.u8.wrap (n : Int) = (n : Int) := by
    simp only [IntKind.wrap, IntKind.bits, IntKind.signed]
    simp
    omega
  have hMX : (256 ≤ MX) = True := eq_true (by decide)
  simp only [tmps0, Nat.reduceAdd]
  refine CW.seq ?_
  refine CW.region (by kernel_rfl) (by kernel_rfl) ?_ -- r0
  refine CWops.run htt 1 (by simp only [go_sem, reduceIte, reduceCtorEq, reduceEqDiff, reduceAdd, reduceLT, reduceLeDiff, reduceToNat]; exact rfl) (by simp [go_sem, reduceIte, reduceCtorEq, reduceEqDiff, reduceAdd, reduceLT, reduceLeDiff, reduceToNat]) ?_
  refine CWops.done ?_
  refine CW.seq ?_
  refine CW.seq ?_
  refine CW.region (by kernel_rfl) (by kernel_rfl) ?_ -- r1
  refine CWops.run htt 2 (by simp only [go_sem, reduceIte, reduceCtorEq, reduceEqDiff, reduceAdd, reduceLT, reduceLeDiff, reduceToNat]; exact rfl) (by simp [go_sem, reduceIte, reduceCtorEq, reduceEqDiff, reduceAdd, reduceLT, reduceLeDiff, reduceToNat]) ?_
  refine CWops.done ?_
  refine CW.cond (by simp only [go_sem, reduceIte, reduceCtorEq, reduceEqDiff, reduceAdd, reduceLT, reduceLeDiff, reduceToNat]; first | done | exact rfl) (fun ct4 => ?_) (fun ct4 => ?_)
  · exfalso; simp at ct4; omega 
  · refine CW.skip ?_
    refine CW.seq ?_
    refine CW.seq ?_
    refine CW.region (by kernel_rfl) (by kernel_rfl) ?_ -- r4
    refine CWops.run htt 2 (by simp only [go_sem, reduceIte, reduceCtorEq, reduceEqDiff, reduceAdd, reduceLT, reduceLeDiff, reduceToNat]; exact rfl) (by simp [go_sem, reduceIte, reduceCtorEq, reduceEqDiff, reduceAdd, reduceLT, reduceLeDiff, reduceToNat]) ?_
    refine CWops.done ?_
    refine CW.cond (by simp only [go_sem, reduceIte, reduceCtorEq, reduceEqDiff, reduceAdd, reduceLT, reduceLeDiff, reduceToNat]; first | done | exact rfl) (fun ct8 => ?_) (fun ct8 => ?_)
    · exfalso; simp at ct8; omega 
    · refine CW.skip ?_
      refine CW.seq ?_
      refine CW.seq ?_
      refine CW.region (by kernel_rfl) (by kernel_rfl) ?_ -- r7
      refine CWops.run htt 2 (by simp only [go_sem, reduceIte, reduceCtorEq, reduceEqDiff, reduceAdd, reduceLT, reduceLeDiff, reduceToNat]; exact rfl) (by simp [go_sem, reduceIte, reduceCtorEq, reduceEqDiff, reduceAdd, reduceLT, reduceLeDiff, reduceToNat]) ?_
      refine CWops.done ?_
      refine CW.cond (by simp only [go_sem, reduceIte, reduceCtorEq, reduceEqDiff, reduceAdd, reduceLT, reduceLeDiff, reduceToNat]; first | done | exact rfl) (fun ct14 => ?_) (fun ct14 => ?_)
      · exfalso; simp at ct14; omega 
      · refine CW.skip ?_
        refine CW.seq ?_
        refine CW.region (by kernel_rfl) (by kernel_rfl) ?_ -- r10
        refine CWops.run htt 2 (by simp only [go_sem, reduceIte, reduceCtorEq, reduceEqDiff, reduceAdd, reduceLT, reduceLeDiff, reduceToNat]; exact rfl) (by simp [go_sem, reduceIte, reduceCtorEq, reduceEqDiff, reduceAdd, reduceLT, reduceLeDiff, reduceToNat]) ?_
        refine CWops.conv (n := (n : Int)) (k := .u64) (k' := .u8) htt (by simp only [go_sem, reduceIte, reduceCtorEq, reduceEqDiff, reduceAdd, reduceLT, reduceLeDiff, reduceToNat]) tt_134 rfl tt_5 rfl (by simp only [go_sem, reduceIte, reduceCtorEq, reduceEqDiff, reduceAdd, reduceLT, reduceLeDiff, reduceToNat]) ?_
        rw [hwu]
        refine CWops.strAt (q := n) (k := .u8) htt (by simp only [go_sem, reduceIte, reduceCtorEq, reduceEqDiff, reduceAdd, reduceLT, reduceLeDiff, reduceToNat]) tt_9 rfl (by simp only [go_sem, reduceIte, reduceCtorEq, reduceEqDiff, reduceAdd, reduceLT, reduceLeDiff, reduceToNat, hMX]; first | done | exact rfl) (by simp only [go_sem, reduceIte, reduceCtorEq, reduceEqDiff, reduceAdd, reduceLT, reduceLeDiff, reduceToNat]) (by exact hn) (fun c => ?_)
        refine CWops.conv (n := (c.toNat : Int)) (k := .u8) (k' := .i64) htt (by simp only [go_sem, reduceIte, reduceCtorEq, reduceEqDiff, reduceAdd, reduceLT, reduceLeDiff, reduceToNat]) tt_5 rfl tt_3 rfl (by simp only [go_sem, reduceIte, reduceCtorEq, reduceEqDiff, reduceAdd, reduceLT, reduceLeDiff, reduceToNat]) ?_
        refine CWops.run htt 2 (by simp only [go_sem, reduceIte, reduceCtorEq, reduceEqDiff, reduceAdd, reduceLT, reduceLeDiff, reduceToNat]; exact rfl) (by simp [go_sem, reduceIte, reduceCtorEq, reduceEqDiff, reduceAdd, reduceLT, reduceLeDiff, reduceToNat]) ?_
        refine CWops.done ?_
        refine CW.ret ?_
        refine retQ.ret (by simp only [f101, go_sem, reduceIte, reduceCtorEq, reduceEqDiff, reduceAdd, reduceLT, reduceLeDiff, reduceToNat]; exact rfl) (by simp only [go_sem, reduceIte, reduceCtorEq, reduceEqDiff, reduceAdd, reduceLT, reduceLeDiff, reduceToNat]; exact rfl) ?_ -- ret1
        exact ⟨_, leP_refl _, _, rfl⟩
theorem bits_Len (up : Bool) (n : Nat) (hn : n < 256) : PCall prog up 82 [.int .u64 n] (fun r => ∃ m : Int, r = .int .i64 m) := by
  refine PCall.intro htt func82 (by kernel_rfl) rfl (Nat.le_of_ble_eq_true rfl) fun hl => ?_

  simp only [tmps0, Nat.reduceAdd]
  refine CW.seq ?_
  refine CW.region (by kernel_rfl) (by kernel_rfl) ?_ -- r0
  refine CWops.run htt 1 (by simp only [go_sem, reduceIte, reduceCtorEq, reduceEqDiff, reduceAdd, reduceLT, reduceLeDiff, reduceToNat]; exact rfl) (by simp [go_sem, reduceIte, reduceCtorEq, reduceEqDiff, reduceAdd, reduceLT, reduceLeDiff, reduceToNat]) ?_
  refine CWops.done ?_
  refine CW.seq ?_
  refine CW.cond (by simp only [go_sem, reduceIte, reduceCtorEq, reduceEqDiff, reduceAdd, reduceLT, reduceLeDiff, reduceToNat]; first | done | exact rfl) (fun cK => ?_) (fun cK => ?_)
  · cases cK 
  · refine CW.skip ?_
    refine CW.seq ?_
    refine CW.region (by kernel_rfl) (by kernel_rfl) ?_ -- r2
    refine CWops.run htt 1 (by simp only [go_sem, reduceIte, reduceCtorEq, reduceEqDiff, reduceAdd, reduceLT, reduceLeDiff, reduceToNat]; exact rfl) (by simp [go_sem, reduceIte, reduceCtorEq, reduceEqDiff, reduceAdd, reduceLT, reduceLeDiff, reduceToNat]) ?_
    refine CWops.callA (bits_Len64 up n hn) (by simp only [go_sem, reduceIte, reduceCtorEq, reduceEqDiff, reduceAdd, reduceLT, reduceLeDiff, reduceToNat]) (by simp only [go_sem, reduceIte, reduceCtorEq, reduceEqDiff, reduceAdd, reduceLT, reduceLeDiff, reduceToNat]; first | done | exact rfl) (by simp only [go_sem, reduceIte, reduceCtorEq, reduceEqDiff, reduceAdd, reduceLT, reduceLeDiff, reduceToNat]) (by simp only [go_sem, reduceIte, reduceCtorEq, reduceEqDiff, reduceAdd, reduceLT, reduceLeDiff, reduceToNat]) (fun rt7 hrt7 => ?_)
    obtain ⟨m7, rfl⟩ := hrt7
    refine CWops.run htt 1 (by simp only [go_sem, reduceIte, reduceCtorEq, reduceEqDiff, reduceAdd, reduceLT, reduceLeDiff, reduceToNat]; exact rfl) (by simp [go_sem, reduceIte, reduceCtorEq, reduceEqDiff, reduceAdd, reduceLT, reduceLeDiff, reduceToNat]) ?_
    refine CWops.done ?_
    refine CW.ret ?_
    refine retQ.ret (by simp only [f82, go_sem, reduceIte, reduceCtorEq, reduceEqDiff, reduceAdd, reduceLT, reduceLeDiff, reduceToNat]; exact rfl) (by simp only [go_sem, reduceIte, reduceCtorEq, reduceEqDiff, reduceAdd, reduceLT, reduceLeDiff, reduceToNat]; exact rfl) ?_ -- ret1
    exact ⟨_, leP_refl _, _, rfl⟩
theorem pdqsort (up : Bool) (l : List Int) (lim : Int) (hl : l.length < 13) : GCallH prog up 81 [.ref 0 [] 0, .int .i64 0, .int .i64 l.length, .int .i64 lim] 1 [(0, ⟨false, [.own 1 (l.map eI)]⟩)] [0] (fun _ σ' => ∃ m, σ'.n = 1 ∧ σ'.s = [(0, ⟨false, [.own 1 (m.map eI)]⟩)] ∧ Sorted l m) := by
  refine GCallH.intro htt 1 func81 (by kernel_rfl) rfl (Nat.le_of_ble_eq_true rfl) (CW.told ?_)
  have hw : IntKind.i64.wrap ((l.length : Int) - 0) = (l.length : Int) := by rw [wrap_id (by omega) (by omega)]; omega
  simp only [tmps0, Nat.reduceAdd]
  refine CW.seq ?_
  refine CW.region (by kernel_rfl) (by kernel_rfl) ?_ -- r0
  refine CWops.run htt 1 (by simp only [go_sem, reduceIte, reduceCtorEq, reduceEqDiff, reduceAdd, reduceLT, reduceLeDiff, reduceToNat]; exact rfl) (by simp [go_sem, reduceIte, reduceCtorEq, reduceEqDiff, reduceAdd, reduceLT, reduceLeDiff, reduceToNat]) ?_
  refine CWops.done ?_
  refine CW.seq ?_
  refine CW.region (by kernel_rfl) (by kernel_rfl) ?_ -- r1
  refine CWops.run htt 1 (by simp only [go_sem, reduceIte, reduceCtorEq, reduceEqDiff, reduceAdd, reduceLT, reduceLeDiff, reduceToNat]; exact rfl) (by simp [go_sem, reduceIte, reduceCtorEq, reduceEqDiff, reduceAdd, reduceLT, reduceLeDiff, reduceToNat]) ?_
  refine CWops.done ?_
  refine CW.block ?_
  refine CW.loop (S := Unit) (fun u => ⟨1, [(0, .ref 0 [] 0), (1, .int .i64 0), (2, .int .i64 l.length)], [(0, ⟨false, [.own 1 (l.map eI)]⟩)]⟩) (fun u => True) (fun u => 0) (()) ?_ trivial (fun _ _ => ?_)
  · refine Sh.wk0 ?_; simp [Wk, go_sem, reduceIte, reduceCtorEq, reduceEqDiff, reduceAdd, reduceLT, reduceLeDiff, reduceToNat]
  refine CW.block ?_
  refine CW.seq ?_
  refine CW.region (by kernel_rfl) (by kernel_rfl) ?_ -- r2
  refine CWops.run htt 4 (by simp only [go_sem, reduceIte, reduceCtorEq, reduceEqDiff, reduceAdd, reduceLT, reduceLeDiff, reduceToNat, hw]; exact rfl) (by simp [go_sem, reduceIte, reduceCtorEq, reduceEqDiff, reduceAdd, reduceLT, reduceLeDiff, reduceToNat, hw]) ?_
  refine CWops.done ?_
  refine CW.seq ?_
  refine CW.seq ?_
  refine CW.region (by kernel_rfl) (by kernel_rfl) ?_ -- r3
  refine CWops.run htt 2 (by simp only [go_sem, reduceIte, reduceCtorEq, reduceEqDiff, reduceAdd, reduceLT, reduceLeDiff, reduceToNat]; exact rfl) (by simp [go_sem, reduceIte, reduceCtorEq, reduceEqDiff, reduceAdd, reduceLT, reduceLeDiff, reduceToNat]) ?_
  refine CWops.done ?_
  refine CW.cond (by simp only [go_sem, reduceIte, reduceCtorEq, reduceEqDiff, reduceAdd, reduceLT, reduceLeDiff, reduceToNat]; first | done | exact rfl) (fun ct23 => ?_) (fun ct23 => ?_)
  · refine CW.seq ?_
    refine CW.region (by kernel_rfl) (by kernel_rfl) ?_ -- r4
    refine CWops.run htt 3 (by simp only [go_sem, reduceIte, reduceCtorEq, reduceEqDiff, reduceAdd, reduceLT, reduceLeDiff, reduceToNat]; exact rfl) (by simp [go_sem, reduceIte, reduceCtorEq, reduceEqDiff, reduceAdd, reduceLT, reduceLeDiff, reduceToNat]) ?_
    refine CWops.callGH [0] rfl (insertionSort up l (by omega)) (by decide) (by simp only [go_sem, reduceIte, reduceCtorEq, reduceEqDiff, reduceAdd, reduceLT, reduceLeDiff, reduceToNat]) (by simp only [go_sem, reduceIte, reduceCtorEq, reduceEqDiff, reduceAdd, reduceLT, reduceLeDiff, reduceToNat]; first | done | exact rfl) (by decide) (by simp [go_sem, reduceIte, reduceCtorEq, reduceEqDiff, reduceAdd, reduceLT, reduceLeDiff, reduceToNat, mName, memB]) (by simp [go_sem, reduceIte, reduceCtorEq, reduceEqDiff, reduceAdd, reduceLT, reduceLeDiff, reduceToNat, mName]) (by simp [go_sem, reduceIte, reduceCtorEq, reduceEqDiff, reduceAdd, reduceLT, reduceLeDiff, reduceToNat]) (by simp [go_sem, reduceIte, reduceCtorEq, reduceEqDiff, reduceAdd, reduceLT, reduceLeDiff, reduceToNat]) (by simp [go_sem, reduceIte, reduceCtorEq, reduceEqDiff, reduceAdd, reduceLT, reduceLeDiff, reduceToNat, mName]) (fun r σ' hσ => ?_)
    obtain ⟨σn, σt, σs⟩ := σ'
    simp only at hσ
    obtain ⟨m, rfl, rfl, hm2⟩ := hσ
    simp only [aftH, renS, List.map_cons, List.map_nil, delAll, memB, mName, List.getD_nil, killH, kref, ren, Nat.beq_eq, go_sem, reduceIte, reduceCtorEq, reduceEqDiff, reduceAdd, reduceLT, reduceLeDiff, reduceToNat]
    refine CWops.done ?_
    refine CW.ret ?_
    refine ⟨⟨1, [(0, .ref 0 [] 0)], [(0, ⟨false, [.own 1 (m.map eI)]⟩)]⟩, ?_, .inr rfl, ⟨by simp [ptrOK, go_sem, reduceIte, reduceCtorEq, reduceEqDiff, reduceAdd, reduceLT, reduceLeDiff, reduceToNat], (by refine ⟨⟨0, by decide, rfl, by simp only [go_sem, reduceIte, reduceCtorEq, reduceEqDiff, reduceAdd, reduceLT, reduceLeDiff, reduceToNat], rfl⟩, trivial⟩)⟩, _, by simp only [f81, go_sem, reduceIte, reduceCtorEq, reduceEqDiff, reduceAdd, reduceLT, reduceLeDiff, reduceToNat]; exact rfl, ?_⟩ -- ret1
    · refine Sh.wk0 ?_
      simp [Wk, go_sem, reduceIte, reduceCtorEq, reduceEqDiff, reduceAdd, reduceLT, reduceLeDiff, reduceToNat]
    · exact ⟨m, rfl, rfl, hm2⟩
  · exfalso; simp at ct23; omega
theorem slices_Sort (up : Bool) (l : List Int) (hl : l.length < 13) : GCallH prog up 61 [.ref 0 [] 0] 1 [(0, ⟨false, [.own 1 (l.map eI)]⟩)] [0] (fun _ σ' => ∃ m, σ'.n = 1 ∧ σ'.s = [(0, ⟨false, [.own 1 (m.map eI)]⟩)] ∧ Sorted l m) := by
  refine GCallH.intro htt 1 func61 (by kernel_rfl) rfl (Nat.le_of_ble_eq_true rfl) (CW.told ?_)
  have hw : IntKind.u64.wrap (l.length : Int) = (l.length : Int) := by
    simp only [IntKind.wrap, IntKind.bits, IntKind.signed]
    simp
    omega
  simp only [tmps0, Nat.reduceAdd]
  refine CW.seq ?_
  refine CW.region (by kernel_rfl) (by kernel_rfl) ?_ -- r0
  refine CWops.run htt 3 (by simp only [go_sem, reduceIte, reduceCtorEq, reduceEqDiff, reduceAdd, reduceLT, reduceLeDiff, reduceToNat]; exact rfl) (by simp [go_sem, reduceIte, reduceCtorEq, reduceEqDiff, reduceAdd, reduceLT, reduceLeDiff, reduceToNat]) ?_
  refine CWops.done ?_
  refine CW.region (by kernel_rfl) (by kernel_rfl) ?_ -- r1
  refine CWops.run htt 3 (by simp only [go_sem, reduceIte, reduceCtorEq, reduceEqDiff, reduceAdd, reduceLT, reduceLeDiff, reduceToNat]; exact rfl) (by simp [go_sem, reduceIte, reduceCtorEq, reduceEqDiff, reduceAdd, reduceLT, reduceLeDiff, reduceToNat]) ?_
  refine CWops.conv (n := (l.length : Int)) (k := .i64) (k' := .u64) htt (by simp only [go_sem, reduceIte, reduceCtorEq, reduceEqDiff, reduceAdd, reduceLT, reduceLeDiff, reduceToNat]) tt_3 rfl tt_115 rfl (by simp only [go_sem, reduceIte, reduceCtorEq, reduceEqDiff, reduceAdd, reduceLT, reduceLeDiff, reduceToNat, List.length_map]; first | done | exact rfl) ?_
  rw [hw]
  refine CWops.callA (bits_Len up l.length (by omega)) (by simp only [go_sem, reduceIte, reduceCtorEq, reduceEqDiff, reduceAdd, reduceLT, reduceLeDiff, reduceToNat]) (by simp only [go_sem, reduceIte, reduceCtorEq, reduceEqDiff, reduceAdd, reduceLT, reduceLeDiff, reduceToNat]; first | done | exact rfl) (by simp only [go_sem, reduceIte, reduceCtorEq, reduceEqDiff, reduceAdd, reduceLT, reduceLeDiff, reduceToNat]) (by simp only [go_sem, reduceIte, reduceCtorEq, reduceEqDiff, reduceAdd, reduceLT, reduceLeDiff, reduceToNat]) (fun rt9 hrt9 => ?_)
  obtain ⟨lim, rfl⟩ := hrt9
  refine CWops.callGH [0] rfl (pdqsort up l lim hl) (by decide) (by simp only [go_sem, reduceIte, reduceCtorEq, reduceEqDiff, reduceAdd, reduceLT, reduceLeDiff, reduceToNat]) (by simp only [go_sem, reduceIte, reduceCtorEq, reduceEqDiff, reduceAdd, reduceLT, reduceLeDiff, reduceToNat]; first | done | exact rfl) (by decide) (by simp [go_sem, reduceIte, reduceCtorEq, reduceEqDiff, reduceAdd, reduceLT, reduceLeDiff, reduceToNat, mName, memB]) (by simp [go_sem, reduceIte, reduceCtorEq, reduceEqDiff, reduceAdd, reduceLT, reduceLeDiff, reduceToNat, mName]) (by simp [go_sem, reduceIte, reduceCtorEq, reduceEqDiff, reduceAdd, reduceLT, reduceLeDiff, reduceToNat]) (by simp [go_sem, reduceIte, reduceCtorEq, reduceEqDiff, reduceAdd, reduceLT, reduceLeDiff, reduceToNat]) (by simp [go_sem, reduceIte, reduceCtorEq, reduceEqDiff, reduceAdd, reduceLT, reduceLeDiff, reduceToNat, mName]) (fun r σ' hσ => ?_)
  obtain ⟨σn, σt, σs⟩ := σ'
  simp only at hσ
  obtain ⟨m, rfl, rfl, hm2⟩ := hσ
  simp only [aftH, renS, List.map_cons, List.map_nil, delAll, memB, mName, List.getD_nil, killH, kref, ren, Nat.beq_eq, go_sem, reduceIte, reduceCtorEq, reduceEqDiff, reduceAdd, reduceLT, reduceLeDiff, reduceToNat]
  refine CWops.done ?_
  refine ⟨⟨1, [(0, .ref 0 [] 0)], [(0, ⟨false, [.own 1 (m.map eI)]⟩)]⟩, ?_, .inl rfl, ⟨by simp [ptrOK, go_sem, reduceIte, reduceCtorEq, reduceEqDiff, reduceAdd, reduceLT, reduceLeDiff, reduceToNat], (by refine ⟨⟨0, by decide, rfl, by simp only [go_sem, reduceIte, reduceCtorEq, reduceEqDiff, reduceAdd, reduceLT, reduceLeDiff, reduceToNat], rfl⟩, trivial⟩)⟩, _, by simp only [f61, go_sem, reduceIte, reduceCtorEq, reduceEqDiff, reduceAdd, reduceLT, reduceLeDiff, reduceToNat]; exact rfl, ?_⟩ -- end
  · refine Sh.wk0 ?_
    simp [Wk, go_sem, reduceIte, reduceCtorEq, reduceEqDiff, reduceAdd, reduceLT, reduceLeDiff, reduceToNat]
  · exact ⟨m, rfl, rfl, hm2⟩
end Go.Ab
namespace Go.Ab
open Go Go.Proofs.Try
open Nat (reduceEqDiff reduceAdd reduceLT reduceLeDiff reduceBEq reduceSub reduceMul)
open Int (reduceToNat)
set_option maxRecDepth 100000
set_option linter.unusedSimpArgs false
set_option linter.unusedVariables false
@[go_sem] theorem tt_93 : tiOf prog 93 = some ⟨.map 3 4, 1, 8, [.nilmap], false⟩ := by kernel_rfl
@[go_sem] theorem tt_94 : tiOf prog 94 = some ⟨.func, 1, 8, [.nilfunc], false⟩ := by kernel_rfl
theorem come_in (up : Bool) (g : Graph) (l : List Int) (id : Int) (hin : id = -1 ∨ id ∈ l) : GCall prog up 60 [.int .i64 id, .lv 0 [] 0, .lv 1 [] 0, .lv 2 [] 0, .lv 3 [] 0] 4 [(0, ⟨true, [.omap (wasMap (l))]⟩), (1, ⟨true, [.own 1 (List.map eI (l))]⟩), (2, ⟨true, eGraph g⟩), (3, ⟨true, [.func (.func 60) [] [.lv 0 [] 0, .lv 1 [] 0, .lv 2 [] 0, .lv 3 [] 0]]⟩)] (fun _ σ' => ∃ t, σ' = ⟨4, t, [(0, ⟨true, [.omap (wasMap (l))]⟩), (1, ⟨true, [.own 1 (List.map eI (l))]⟩), (2, ⟨true, eGraph g⟩), (3, ⟨true, [.func (.func 60) [] [.lv 0 [] 0, .lv 1 [] 0, .lv 2 [] 0, .lv 3 [] 0]]⟩)]⟩) := by
  refine GCall.intro htt 5 func60 (by kernel_rfl) rfl (Nat.le_of_ble_eq_true rfl) (CW.told ?_)

  simp only [tmps0, Nat.reduceAdd]
  refine CW.seq ?_
  refine CW.seq ?_
  refine CW.region (by kernel_rfl) (by kernel_rfl) ?_ -- r0
  refine CWops.run htt 3 (by simp only [go_sem, reduceIte, reduceCtorEq, reduceEqDiff, reduceAdd, reduceLT, reduceLeDiff, reduceToNat, reduceMul, maplk_was, if_pos hin]; exact rfl) (by simp [go_sem, reduceIte, reduceCtorEq, reduceEqDiff, reduceAdd, reduceLT, reduceLeDiff, reduceToNat, reduceMul, maplk_was, if_pos hin]) ?_
  refine CWops.done ?_
  refine CW.cond (by simp only [go_sem, reduceIte, reduceCtorEq, reduceEqDiff, reduceAdd, reduceLT, reduceLeDiff, reduceToNat, reduceMul]; first | done | exact rfl) (fun ct11 => ?_) (fun ct11 => ?_)
  · refine CW.ret ?_
    refine ⟨⟨4, [(0, .int .i64 id), (1, .lv 0 [] 0), (2, .lv 1 [] 0), (3, .lv 2 [] 0), (4, .lv 3 [] 0)], [(0, ⟨true, [.omap (wasMap (l))]⟩), (1, ⟨true, [.own 1 (List.map eI (l))]⟩), (2, ⟨true, eGraph g⟩), (3, ⟨true, [.func (.func 60) [] [.lv 0 [] 0, .lv 1 [] 0, .lv 2 [] 0, .lv 3 [] 0]]⟩)]⟩, ?_, .inr rfl, by (simp [ptrOK, go_sem, reduceIte, reduceCtorEq, reduceEqDiff, reduceAdd, reduceLT, reduceLeDiff, reduceToNat, reduceMul]; exact ⟨⟨1, by simp⟩, ⟨2, by simp⟩, ⟨3, by simp⟩, ⟨4, by simp⟩⟩), _, by simp only [f60, go_sem, reduceIte, reduceCtorEq, reduceEqDiff, reduceAdd, reduceLT, reduceLeDiff, reduceToNat, reduceMul]; exact rfl, ?_⟩ -- ret1
    · refine Sh.wk0 ?_
      simp [Wk, go_sem, reduceIte, reduceCtorEq, reduceEqDiff, reduceAdd, reduceLT, reduceLeDiff, reduceToNat, reduceMul, ex_func, SubL, Sub, eGraph]
    · exact ⟨_, rfl⟩
  · cases ct11
theorem come_out (up : Bool) (g : Graph) (hm : May g) (n : Nat) (ih : ∀ (l : List Int) (id : Int), Good g l → rootB g id = true → g.O.length < n + l.length → GCall prog up 60 [.int .i64 id, .lv 0 [] 0, .lv 1 [] 0, .lv 2 [] 0, .lv 3 [] 0] 4 [(0, ⟨true, [.omap (wasMap (l))]⟩), (1, ⟨true, [.own 1 (List.map eI (l))]⟩), (2, ⟨true, eGraph g⟩), (3, ⟨true, [.func (.func 60) [] [.lv 0 [] 0, .lv 1 [] 0, .lv 2 [] 0, .lv 3 [] 0]]⟩)] (fun _ σ' => ∃ t, σ' = ⟨4, t, [(0, ⟨true, [.omap (wasMap (dfs g n l id))]⟩), (1, ⟨true, [.own 1 (List.map eI (dfs g n l id))]⟩), (2, ⟨true, eGraph g⟩), (3, ⟨true, [.func (.func 60) [] [.lv 0 [] 0, .lv 1 [] 0, .lv 2 [] 0, .lv 3 [] 0]]⟩)]⟩)) (l : List Int) (id : Int) (hg : Good g l) (hr : rootB g id = true) (hn : g.O.length < n + 1 + l.length) (hno : ¬ (id = -1 ∨ id ∈ l)) : GCall prog up 60 [.int .i64 id, .lv 0 [] 0, .lv 1 [] 0, .lv 2 [] 0, .lv 3 [] 0] 4 [(0, ⟨true, [.omap (wasMap (l))]⟩), (1, ⟨true, [.own 1 (List.map eI (l))]⟩), (2, ⟨true, eGraph g⟩), (3, ⟨true, [.func (.func 60) [] [.lv 0 [] 0, .lv 1 [] 0, .lv 2 [] 0, .lv 3 [] 0]]⟩)] (fun _ σ' => ∃ t, σ' = ⟨4, t, [(0, ⟨true, [.omap (wasMap (dfs g (n + 1) l id))]⟩), (1, ⟨true, [.own 1 (List.map eI (dfs g (n + 1) l id))]⟩), (2, ⟨true, eGraph g⟩), (3, ⟨true, [.func (.func 60) [] [.lv 0 [] 0, .lv 1 [] 0, .lv 2 [] 0, .lv 3 [] 0]]⟩)]⟩) := by
  refine GCall.intro htt 5 func60 (by kernel_rfl) rfl (Nat.le_of_ble_eq_true rfl) (CW.told ?_)
  have ho := hm.o
  have hgl := hg.len
  have hg2 : Good g (l ++ [id]) := by
    have := hg.meet hr
    unfold meet at this
    rwa [if_neg hno] at this
  have hty : (typ g.O id).isSome = true := hg2.ids id (by simp)
  obtain ⟨p, ⟨oi, oT, oF⟩, hp, e1, hF1, hA, _⟩ := hm.find hty
  unfold gFind at hF1
  obtain ⟨_, t, hT, hmo⟩ := hm.objT hp
  obtain ⟨q, rfl⟩ := Int.eq_ofNat_of_zero_le (show 0 ≤ oT from hmo.t0)
  have ht : g.S[q]? = some t := by simpa using hmo.at_
  have hlen : oF.length = t.F.length := hmo.len
  have h5 := hm.small.2.1 t (List.mem_of_getElem? ht)
  have hpl := (List.getElem?_eq_some_iff.1 hp).1
  have hql := (List.getElem?_eq_some_iff.1 ht).1
  have hrefs : refsOf g id = refsZ (t.F.zip oF) := by unfold refsOf; rw [hA]; simp only [refsO, hT]
  simp only [tmps0, Nat.reduceAdd]
  refine CW.seq ?_
  refine CW.seq ?_
  refine CW.region (by kernel_rfl) (by kernel_rfl) ?_ -- r0
  refine CWops.run htt 3 (by simp only [go_sem, reduceIte, reduceCtorEq, reduceEqDiff, reduceAdd, reduceLT, reduceLeDiff, reduceToNat, reduceMul, maplk_was, if_neg hno]; exact rfl) (by simp [go_sem, reduceIte, reduceCtorEq, reduceEqDiff, reduceAdd, reduceLT, reduceLeDiff, reduceToNat, reduceMul, maplk_was, if_neg hno]) ?_
  refine CWops.done ?_
  refine CW.cond (by simp only [go_sem, reduceIte, reduceCtorEq, reduceEqDiff, reduceAdd, reduceLT, reduceLeDiff, reduceToNat, reduceMul]; first | done | exact rfl) (fun ct11 => ?_) (fun ct11 => ?_)
  · cases ct11 
  · refine CW.skip ?_
    refine CW.seq ?_
    refine CW.region (by kernel_rfl) (by kernel_rfl) ?_ -- r1
    refine CWops.run htt 3 (by simp only [go_sem, reduceIte, reduceCtorEq, reduceEqDiff, reduceAdd, reduceLT, reduceLeDiff, reduceToNat, reduceMul, was_put hno]; exact rfl) (by simp [was_len, MX]; omega) ?_
    refine CWops.done ?_
    refine CW.seq ?_
    refine CW.region (by kernel_rfl) (by kernel_rfl) ?_ -- r2
    refine CWops.run htt 5 (by simp only [go_sem, reduceIte, reduceCtorEq, reduceEqDiff, reduceAdd, reduceLT, reduceLeDiff, reduceToNat, reduceMul, List.replicate]; exact rfl) (by simp [AV.cell, AV.tree, eI, MX]; omega) ?_
    refine CWops.done ?_
    refine CW.seq ?_
    refine CW.drawn mixed 8 (by decide) (by kernel_rfl) (by kernel_rfl) (by kernel_rfl) ?_ -- r3
    refine Seg.run htt 4 (by simp only [go_sem, reduceIte, reduceCtorEq, reduceEqDiff, reduceAdd, reduceLT, reduceLeDiff, reduceToNat, reduceMul, eGraph, hF1, hp, eObj, hpl]; exact rfl) ?_
    refine Seg.call (graph_Find up g id) (by simp only [go_sem, reduceIte, reduceCtorEq, reduceEqDiff, reduceAdd, reduceLT, reduceLeDiff, reduceToNat, reduceMul, eGraph, hF1, hp, eObj, hpl]) (by simp only [go_sem, reduceIte, reduceCtorEq, reduceEqDiff, reduceAdd, reduceLT, reduceLeDiff, reduceToNat, reduceMul, eGraph, hF1, hp, eObj, hpl]; first | done | exact rfl) (by simp only [go_sem, reduceIte, reduceCtorEq, reduceEqDiff, reduceAdd, reduceLT, reduceLeDiff, reduceToNat, reduceMul, eGraph, hF1, hp, eObj, hpl]) (by simp only [go_sem, reduceIte, reduceCtorEq, reduceEqDiff, reduceAdd, reduceLT, reduceLeDiff, reduceToNat, reduceMul, eGraph, hF1, hp, eObj, hpl]) rfl ?_
    refine Seg.run htt 3 (by simp only [go_sem, reduceIte, reduceCtorEq, reduceEqDiff, reduceAdd, reduceLT, reduceLeDiff, reduceToNat, reduceMul, eGraph, hF1, hp, eObj, hpl]; exact rfl) ?_
    refine Seg.done ?_
    refine CWops.run htt 1 (by simp only [go_sem, reduceIte, reduceCtorEq, reduceEqDiff, reduceAdd, reduceLT, reduceLeDiff, reduceToNat, reduceMul, eGraph, hF1, hp, eObj, hpl]; exact rfl) (by simp [go_sem, reduceIte, reduceCtorEq, reduceEqDiff, reduceAdd, reduceLT, reduceLeDiff, reduceToNat, reduceMul, eGraph, hF1, hp, eObj, hpl]) ?_
    refine CWops.done ?_
    refine CW.seq ?_
    refine CW.region (by kernel_rfl) (by kernel_rfl) ?_ -- r4
    refine CWops.run htt 10 (by simp only [go_sem, reduceIte, reduceCtorEq, reduceEqDiff, reduceAdd, reduceLT, reduceLeDiff, reduceToNat, reduceMul, eGraph, ht, eType, hql, eObj]; exact rfl) (by simp [go_sem, reduceIte, reduceCtorEq, reduceEqDiff, reduceAdd, reduceLT, reduceLeDiff, reduceToNat, reduceMul, eGraph, ht, eType, hql, eObj]) ?_
    refine CWops.done ?_
    refine CW.block ?_
    refine CW.loop (S := Nat) (fun k => ⟨7, [(0, .int .i64 id), (1, .lv 0 [] 0), (2, .lv 1 [] 0), (3, .lv 2 [] 0), (4, .lv 3 [] 0), (6, .lv 6 [] 0), (32, .sl 3 (t.F.map eField)), (33, .int .i64 t.F.length), (34, .int .i64 k)], [(0, ⟨true, [.omap (wasMap ((refsZ ((t.F.zip oF).take k)).foldl (dfs g n) (l ++ [id])))]⟩), (1, ⟨true, [.own 1 (List.map eI ((refsZ ((t.F.zip oF).take k)).foldl (dfs g n) (l ++ [id])))]⟩), (2, ⟨true, eGraph g⟩), (3, ⟨true, [.func (.func 60) [] [.lv 0 [] 0, .lv 1 [] 0, .lv 2 [] 0, .lv 3 [] 0]]⟩), (6, ⟨true, eObj ⟨oi, q, oF⟩⟩)]⟩) (fun k => k ≤ t.F.length ∧ Step g (l ++ [id]) (refsZ ((t.F.zip oF).take k)) ((refsZ ((t.F.zip oF).take k)).foldl (dfs g n) (l ++ [id]))) (fun k => t.F.length - k) (0) ?_ ⟨Nat.zero_le _, by simpa [refsZ] using Step.nil hg2⟩ (fun k ⟨k1, k2⟩ => ?_)
    · refine Sh.wk0 ?_; simp [Wk, go_sem, reduceIte, reduceCtorEq, reduceEqDiff, reduceAdd, reduceLT, reduceLeDiff, reduceToNat, reduceMul, ex_func, SubL, Sub, eGraph, eObj, refsZ, eI]
    refine CW.seq ?_
    refine CW.region (by kernel_rfl) (by kernel_rfl) ?_ -- r5
    refine CWops.run htt 1 (by simp only [go_sem, reduceIte, reduceCtorEq, reduceEqDiff, reduceAdd, reduceLT, reduceLeDiff, reduceToNat, reduceMul]; exact rfl) (by simp [go_sem, reduceIte, reduceCtorEq, reduceEqDiff, reduceAdd, reduceLT, reduceLeDiff, reduceToNat, reduceMul]) ?_
    refine CWops.done ?_
    refine CW.seq ?_
    refine CW.cond (by simp only [go_sem, reduceIte, reduceCtorEq, reduceEqDiff, reduceAdd, reduceLT, reduceLeDiff, reduceToNat, reduceMul]; first | done | exact rfl) (fun ct35 => ?_) (fun ct35 => ?_)
    · have hk : k < t.F.length := by simpa using ct35
      have hko : k < oF.length := by omega
      obtain ⟨v, hv⟩ : ∃ v, oF[k]? = some v := ⟨oF[k], List.getElem?_eq_getElem hko⟩
      obtain ⟨f, hf⟩ : ∃ f, t.F[k]? = some f := ⟨t.F[k], List.getElem?_eq_getElem (by omega)⟩
      have hz : (t.F.zip oF)[k]? = some (f, v) := List.getElem?_zip_eq_some.2 ⟨hf, hv⟩
      refine CW.skip ?_
      refine CW.seq ?_
      refine CW.block ?_
      refine CW.seq ?_
      refine CW.region (by kernel_rfl) (by kernel_rfl) ?_ -- r6
      refine CWops.run htt 6 (by simp only [go_sem, reduceIte, reduceCtorEq, reduceEqDiff, reduceAdd, reduceLT, reduceLeDiff, reduceToNat, reduceMul, hf, hk, eField]; exact rfl) (by simp [go_sem, reduceIte, reduceCtorEq, reduceEqDiff, reduceAdd, reduceLT, reduceLeDiff, reduceToNat, reduceMul, hf, hk, eField]) ?_
      refine CWops.done ?_
      refine CW.seq ?_
      refine CW.region (by kernel_rfl) (by kernel_rfl) ?_ -- r7
      refine CWops.run htt 3 (by simp only [go_sem, reduceIte, reduceCtorEq, reduceEqDiff, reduceAdd, reduceLT, reduceLeDiff, reduceToNat, reduceMul, eField]; exact rfl) (by simp [go_sem, reduceIte, reduceCtorEq, reduceEqDiff, reduceAdd, reduceLT, reduceLeDiff, reduceToNat, reduceMul, eField]) ?_
      refine CWops.done ?_
      refine CW.cond (by simp only [go_sem, reduceIte, reduceCtorEq, reduceEqDiff, reduceAdd, reduceLT, reduceLeDiff, reduceToNat, reduceMul]; first | done | exact rfl) (fun ct41 => ?_) (fun ct41 => ?_)
      · have hk5 : f.Kind = 5 := by simpa using ct41
        refine CW.drawn mixed 7 (by decide) (by kernel_rfl) (by kernel_rfl) (by kernel_rfl) ?_ -- r8
        refine Seg.run htt 7 (by simp only [go_sem, reduceIte, reduceCtorEq, reduceEqDiff, reduceAdd, reduceLT, reduceLeDiff, reduceToNat, reduceMul, eObj, hv, hko, eVal]; exact rfl) ?_
        refine Seg.done ?_
        refine CWops.callG [0, 1, 2, 3] rfl (ih ((refsZ ((t.F.zip oF).take k)).foldl (dfs g n) (l ++ [id])) v.R k2.good (hmo.ref hf hv hk5) (by obtain ⟨s, hs⟩ := k2.pre; rw [hs]; simp; omega)) (by simp only [go_sem, reduceIte, reduceCtorEq, reduceEqDiff, reduceAdd, reduceLT, reduceLeDiff, reduceToNat, reduceMul]) (by simp only [go_sem, reduceIte, reduceCtorEq, reduceEqDiff, reduceAdd, reduceLT, reduceLeDiff, reduceToNat, reduceMul]; first | done | exact rfl) (by decide) (by simp [go_sem, reduceIte, reduceCtorEq, reduceEqDiff, reduceAdd, reduceLT, reduceLeDiff, reduceToNat, reduceMul, mName, memB, ex_func, SubL, Sub, eGraph]) (by simp [go_sem, reduceIte, reduceCtorEq, reduceEqDiff, reduceAdd, reduceLT, reduceLeDiff, reduceToNat, reduceMul, mName, ex_func, SubL, Sub, eGraph]) (by simp [go_sem, reduceIte, reduceCtorEq, reduceEqDiff, reduceAdd, reduceLT, reduceLeDiff, reduceToNat, reduceMul, ex_func, SubL, Sub, eGraph]) (by intro x hx; rcases x with _ | _ | _ | _ | x <;> first | (simp [go_sem, reduceIte, reduceCtorEq, reduceEqDiff, reduceAdd, reduceLT, reduceLeDiff, reduceToNat, reduceMul]; done) | omega | (simp at hx; done) | (simp at hx; omega)) (by simp [go_sem, reduceIte, reduceCtorEq, reduceEqDiff, reduceAdd, reduceLT, reduceLeDiff, reduceToNat, reduceMul, mName, ex_func, SubL, Sub, eGraph]) (fun r σ' hσ => ?_)
        obtain ⟨t', rfl⟩ := hσ
        simp only [aftS, renS, delAll, memB, mName, List.getD_nil, killH, kref, ren, Nat.beq_eq, go_sem, reduceIte, reduceCtorEq, reduceEqDiff, reduceAdd, reduceLT, reduceLeDiff, reduceToNat, reduceMul]
        refine CWops.done ?_
        refine CW.region (by kernel_rfl) (by kernel_rfl) ?_ -- r9
        refine CWops.run htt 2 (by simp only [go_sem, reduceIte, reduceCtorEq, reduceEqDiff, reduceAdd, reduceLT, reduceLeDiff, reduceToNat, reduceMul, wrap_succ (show k < MX by unfold MX; omega)]; exact rfl) (by simp [go_sem, reduceIte, reduceCtorEq, reduceEqDiff, reduceAdd, reduceLT, reduceLeDiff, reduceToNat, reduceMul, wrap_succ (show k < MX by unfold MX; omega)]) ?_
        refine CWops.done ?_
        refine ⟨k + 1, ?_, ?_, ?_⟩
        · refine Sh.wk0 ?_
          first | (simp [Wk, go_sem, reduceIte, reduceCtorEq, reduceEqDiff, reduceAdd, reduceLT, reduceLeDiff, reduceToNat, reduceMul, ex_func, SubL, Sub, eGraph, eObj, refsZ_foldRef hz hk5]; done) | (simp [Wk, go_sem, reduceIte, reduceCtorEq, reduceEqDiff, reduceAdd, reduceLT, reduceLeDiff, reduceToNat, reduceMul, ex_func, SubL, Sub, eGraph, eObj, refsZ_no hz hk5]; done) | skip
        · refine ⟨hk, ?_⟩
          first | (rw [refsZ_foldRef hz hk5, show refsZ ((t.F.zip oF).take (k + 1)) = refsZ ((t.F.zip oF).take k) ++ [v.R] by rw [List.take_add_one, hz]; simp [refsZ, hk5]]; obtain ⟨s, hs⟩ := k2.pre; exact k2.app (dfs_step hm n k2.good (hmo.ref hf hv hk5) (by rw [hs]; simp; omega))) | (rw [refsZ_no hz hk5]; exact k2)
        · simp only; omega
      · have hk5 : f.Kind ≠ 5 := by simpa using ct41
        refine CW.skip ?_
        refine CW.region (by kernel_rfl) (by kernel_rfl) ?_ -- r9
        refine CWops.run htt 2 (by simp only [go_sem, reduceIte, reduceCtorEq, reduceEqDiff, reduceAdd, reduceLT, reduceLeDiff, reduceToNat, reduceMul, wrap_succ (show k < MX by unfold MX; omega)]; exact rfl) (by simp [go_sem, reduceIte, reduceCtorEq, reduceEqDiff, reduceAdd, reduceLT, reduceLeDiff, reduceToNat, reduceMul, wrap_succ (show k < MX by unfold MX; omega)]) ?_
        refine CWops.done ?_
        refine ⟨k + 1, ?_, ?_, ?_⟩
        · refine Sh.wk0 ?_
          first | (simp [Wk, go_sem, reduceIte, reduceCtorEq, reduceEqDiff, reduceAdd, reduceLT, reduceLeDiff, reduceToNat, reduceMul, ex_func, SubL, Sub, eGraph, eObj, refsZ_foldRef hz hk5]; done) | (simp [Wk, go_sem, reduceIte, reduceCtorEq, reduceEqDiff, reduceAdd, reduceLT, reduceLeDiff, reduceToNat, reduceMul, ex_func, SubL, Sub, eGraph, eObj, refsZ_no hz hk5]; done) | skip
        · refine ⟨hk, ?_⟩
          first | (rw [refsZ_foldRef hz hk5, show refsZ ((t.F.zip oF).take (k + 1)) = refsZ ((t.F.zip oF).take k) ++ [v.R] by rw [List.take_add_one, hz]; simp [refsZ, hk5]]; obtain ⟨s, hs⟩ := k2.pre; exact k2.app (dfs_step hm n k2.good (hmo.ref hf hv hk5) (by rw [hs]; simp; omega))) | (rw [refsZ_no hz hk5]; exact k2)
        · simp only; omega
    · have hk : k = t.F.length := by simp at ct35; omega
      have hz : (t.F.zip oF).take k = t.F.zip oF := List.take_of_length_le (by rw [List.length_zip]; omega)
      refine CW.exit ?_
      refine ⟨⟨4, [(0, .int .i64 id), (1, .lv 0 [] 0), (2, .lv 1 [] 0), (3, .lv 2 [] 0), (4, .lv 3 [] 0)], [(0, ⟨true, [.omap (wasMap (dfs g (n + 1) l id))]⟩), (1, ⟨true, [.own 1 (List.map eI (dfs g (n + 1) l id))]⟩), (2, ⟨true, eGraph g⟩), (3, ⟨true, [.func (.func 60) [] [.lv 0 [] 0, .lv 1 [] 0, .lv 2 [] 0, .lv 3 [] 0]]⟩)]⟩, ?_, .inl rfl, by (simp [ptrOK, go_sem, reduceIte, reduceCtorEq, reduceEqDiff, reduceAdd, reduceLT, reduceLeDiff, reduceToNat, reduceMul]; exact ⟨⟨1, by simp⟩, ⟨2, by simp⟩, ⟨3, by simp⟩, ⟨4, by simp⟩⟩), _, by simp only [f60, go_sem, reduceIte, reduceCtorEq, reduceEqDiff, reduceAdd, reduceLT, reduceLeDiff, reduceToNat, reduceMul]; exact rfl, ?_⟩ -- end
      · refine Sh.wk0 ?_
        rw [dfs_out hno, hrefs, hz]
        simp [Wk, go_sem, reduceIte, reduceCtorEq, reduceEqDiff, reduceAdd, reduceLT, reduceLeDiff, reduceToNat, reduceMul, ex_func, SubL, Sub, eGraph]
      · exact ⟨_, rfl⟩
theorem come (up : Bool) (g : Graph) (hm : May g) : ∀ (n : Nat) (l : List Int) (id : Int), Good g l → rootB g id = true → g.O.length < n + l.length → GCall prog up 60 [.int .i64 id, .lv 0 [] 0, .lv 1 [] 0, .lv 2 [] 0, .lv 3 [] 0] 4 [(0, ⟨true, [.omap (wasMap (l))]⟩), (1, ⟨true, [.own 1 (List.map eI (l))]⟩), (2, ⟨true, eGraph g⟩), (3, ⟨true, [.func (.func 60) [] [.lv 0 [] 0, .lv 1 [] 0, .lv 2 [] 0, .lv 3 [] 0]]⟩)] (fun _ σ' => ∃ t, σ' = ⟨4, t, [(0, ⟨true, [.omap (wasMap (dfs g n l id))]⟩), (1, ⟨true, [.own 1 (List.map eI (dfs g n l id))]⟩), (2, ⟨true, eGraph g⟩), (3, ⟨true, [.func (.func 60) [] [.lv 0 [] 0, .lv 1 [] 0, .lv 2 [] 0, .lv 3 [] 0]]⟩)]⟩)
  | 0, l, id, h, _, hn => by have := h.len; omega
  | n + 1, l, id, h, hr, hn => by
    by_cases e : id = -1 ∨ id ∈ l
    · rw [dfs_in e]; exact come_in up g l id e
    · exact come_out up g hm n (come up g hm n) l id h hr hn e
end Go.Ab
