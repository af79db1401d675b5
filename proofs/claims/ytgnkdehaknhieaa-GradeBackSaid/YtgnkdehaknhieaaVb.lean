/-
  What functions of the program answer: each by its contract. No condition but those of each theorem.
-/
import Derived.Test.YtgnkdehaknhieaaProg
import Derived.WalkKit
import Derived.Below
import Derived.Scope
import Derived.Orders
import Derived.Still
import Derived.Deep.RegionLaw
import Derived.Test.YtgnkdehaknhieaaFa
import Derived.Test.YtgnkdehaknhieaaFb
import Derived.Test.YtgnkdehaknhieaaFc
import Derived.Test.YtgnkdehaknhieaaFd
import Derived.Test.YtgnkdehaknhieaaFe
import Derived.Test.YtgnkdehaknhieaaFf
import Derived.Test.YtgnkdehaknhieaaDa
import Derived.Test.YtgnkdehaknhieaaVa
set_option linter.unusedVariables false
set_option linter.unusedSimpArgs false
namespace Go.Ab
open Go Go.Proofs.Try
open Nat (reduceEqDiff reduceAdd reduceLT reduceLeDiff reduceBEq reduceSub reduceMul)
open Int (reduceToNat)
set_option maxRecDepth 100000
set_option linter.unusedSimpArgs false
set_option linter.unusedVariables false
theorem graph_types (up : Bool) (g : Graph) : PCall prog up 39 [.agg (eGraph g)] (· = .fmap (tmap g.O)) := by
  refine PCall.intro htt func39 (by kernel_rfl) rfl (Nat.le_of_ble_eq_true rfl) fun hl => ?_
  have hL := (hl (.agg (eGraph g)) (by simp)).agg
  have hb := (hL (.sl 3 (g.O.map eObj)) (by simp [eGraph])).sl.1
  simp only [List.length_map] at hb
  simp only [tmps0, Nat.reduceAdd]
  refine CW.seq ?_
  refine CW.region (by kernel_rfl) (by kernel_rfl) ?_ -- r0
  refine CWops.run htt 2 (by simp only [go_sem, reduceIte, reduceCtorEq, reduceEqDiff, reduceAdd, reduceLT, reduceLeDiff, reduceToNat, eGraph]; exact rfl) (by simp [go_sem, reduceIte, reduceCtorEq, reduceEqDiff, reduceAdd, reduceLT, reduceLeDiff, reduceToNat, eGraph]) ?_
  refine CWops.done ?_
  refine CW.seq ?_
  refine CW.region (by kernel_rfl) (by kernel_rfl) ?_ -- r1
  refine CWops.run htt 2 (by simp only [go_sem, reduceIte, reduceCtorEq, reduceEqDiff, reduceAdd, reduceLT, reduceLeDiff, reduceToNat]; exact rfl) (by simp [go_sem, reduceIte, reduceCtorEq, reduceEqDiff, reduceAdd, reduceLT, reduceLeDiff, reduceToNat]) ?_
  refine CWops.done ?_
  refine CW.seq ?_
  refine CW.seq ?_
  refine CW.region (by kernel_rfl) (by kernel_rfl) ?_ -- r2
  refine CWops.run htt 4 (by simp only [go_sem, reduceIte, reduceCtorEq, reduceEqDiff, reduceAdd, reduceLT, reduceLeDiff, reduceToNat, eGraph]; exact rfl) (by simp [go_sem, reduceIte, reduceCtorEq, reduceEqDiff, reduceAdd, reduceLT, reduceLeDiff, reduceToNat, eGraph]) ?_
  refine CWops.done ?_
  refine CW.block ?_
  refine CW.loop (S := Nat) (fun i => ⟨2, [(3, .ref 1 [] 0), (8, .sl 3 (g.O.map eObj)), (9, .int .i64 g.O.length), (10, .int .i64 i)], [(1, ⟨false, [.omap (tmap (g.O.take i))]⟩)]⟩) (fun i => i ≤ g.O.length) (fun i => g.O.length - i) (0) ?_ (Nat.zero_le _) (fun i h1 => ?_)
  · refine Sh.wk0 ?_; simp [Wk, go_sem, reduceIte, reduceCtorEq, reduceEqDiff, reduceAdd, reduceLT, reduceLeDiff, reduceToNat, tmap]
  refine CW.seq ?_
  refine CW.region (by kernel_rfl) (by kernel_rfl) ?_ -- r3
  refine CWops.run htt 1 (by simp only [go_sem, reduceIte, reduceCtorEq, reduceEqDiff, reduceAdd, reduceLT, reduceLeDiff, reduceToNat]; exact rfl) (by simp [go_sem, reduceIte, reduceCtorEq, reduceEqDiff, reduceAdd, reduceLT, reduceLeDiff, reduceToNat]) ?_
  refine CWops.done ?_
  refine CW.seq ?_
  refine CW.cond (by simp only [go_sem, reduceIte, reduceCtorEq, reduceEqDiff, reduceAdd, reduceLT, reduceLeDiff, reduceToNat]; first | done | exact rfl) (fun ct11 => ?_) (fun ct11 => ?_)
  · have hi : i < g.O.length := by simpa using ct11
    obtain ⟨x, hx⟩ : ∃ x, g.O[i]? = some x := ⟨g.O[i], List.getElem?_eq_getElem hi⟩
    refine CW.skip ?_
    refine CW.seq ?_
    refine CW.block ?_
    refine CW.seq ?_
    refine CW.region (by kernel_rfl) (by kernel_rfl) ?_ -- r4
    refine CWops.run htt 4 (by simp only [go_sem, reduceIte, reduceCtorEq, reduceEqDiff, reduceAdd, reduceLT, reduceLeDiff, reduceToNat, hx, eObj]; exact rfl) (by simp [go_sem, reduceIte, reduceCtorEq, reduceEqDiff, reduceAdd, reduceLT, reduceLeDiff, reduceToNat, hx, eObj]) ?_
    refine CWops.done ?_
    refine CW.region (by kernel_rfl) (by kernel_rfl) ?_ -- r5
    refine CWops.run htt 6 (by simp only [go_sem, reduceIte, reduceCtorEq, reduceEqDiff, reduceAdd, reduceLT, reduceLeDiff, reduceToNat, eObj]; exact rfl) (by have := tmap_len (g.O.take i); simp only [List.length_take] at this; simp; omega) ?_
    refine CWops.done ?_
    refine CW.region (by kernel_rfl) (by kernel_rfl) ?_ -- r6
    refine CWops.run htt 2 (by simp only [go_sem, reduceIte, reduceCtorEq, reduceEqDiff, reduceAdd, reduceLT, reduceLeDiff, reduceToNat, wrap_succ (Nat.lt_of_lt_of_le hi hb)]; exact rfl) (by simp [go_sem, reduceIte, reduceCtorEq, reduceEqDiff, reduceAdd, reduceLT, reduceLeDiff, reduceToNat, wrap_succ (Nat.lt_of_lt_of_le hi hb)]) ?_
    refine CWops.done ?_
    refine ⟨i + 1, ?_, ?_, ?_⟩
    · refine Sh.wk0 ?_; simp [Wk, go_sem, reduceIte, reduceCtorEq, reduceEqDiff, reduceAdd, reduceLT, reduceLeDiff, reduceToNat, tmap_succ _ hx]
    · exact hi
    · simp only; omega
  · have hi : i = g.O.length := by simp at ct11; omega
    refine CW.exit ?_
    refine CW.seq ?_
    refine CW.region (by kernel_rfl) (by kernel_rfl) ?_ -- r7
    refine CWops.run htt 2 (by simp only [go_sem, reduceIte, reduceCtorEq, reduceEqDiff, reduceAdd, reduceLT, reduceLeDiff, reduceToNat]; exact rfl) (by simp [go_sem, reduceIte, reduceCtorEq, reduceEqDiff, reduceAdd, reduceLT, reduceLeDiff, reduceToNat]) ?_
    refine CWops.done ?_
    refine CW.ret ?_
    refine retQ.ret (by simp only [f39, go_sem, reduceIte, reduceCtorEq, reduceEqDiff, reduceAdd, reduceLT, reduceLeDiff, reduceToNat]; exact rfl) (by simp only [go_sem, reduceIte, reduceCtorEq, reduceEqDiff, reduceAdd, reduceLT, reduceLeDiff, reduceToNat]; exact rfl) ?_ -- ret1
    refine ⟨_, ?_, rfl⟩
    simp only [leP, hi, List.take_length, AV.freeze]
theorem graph_leads_some (up : Bool) (g : Graph) (f : GField) (v : GVal) (t : Int) (ht : typ g.O v.R = some t) : PCall prog up 87 [.agg (eGraph g), .fmap (tmap g.O), .agg (eField f), .agg (eVal v)] (· = .bool (leadsB g f v)) := by
  refine PCall.intro htt func87 (by kernel_rfl) rfl (Nat.le_of_ble_eq_true rfl) fun hl => ?_

  simp only [tmps0, Nat.reduceAdd]
  refine CW.seq ?_
  refine CW.region (by kernel_rfl) (by kernel_rfl) ?_ -- r0
  refine CWops.run htt 4 (by simp only [go_sem, reduceIte, reduceCtorEq, reduceEqDiff, reduceAdd, reduceLT, reduceLeDiff, reduceToNat, eGraph, eField, eVal]; exact rfl) (by simp [go_sem, reduceIte, reduceCtorEq, reduceEqDiff, reduceAdd, reduceLT, reduceLeDiff, reduceToNat, eGraph, eField, eVal]) ?_
  refine CWops.done ?_
  refine CW.seq ?_
  refine CW.seq ?_
  refine CW.region (by kernel_rfl) (by kernel_rfl) ?_ -- r1
  refine CWops.run htt 2 (by simp only [go_sem, reduceIte, reduceCtorEq, reduceEqDiff, reduceAdd, reduceLT, reduceLeDiff, reduceToNat, eField, eVal]; exact rfl) (by simp [go_sem, reduceIte, reduceCtorEq, reduceEqDiff, reduceAdd, reduceLT, reduceLeDiff, reduceToNat, eField, eVal]) ?_
  refine CWops.call (value_Fits up f v) (by simp only [go_sem, reduceIte, reduceCtorEq, reduceEqDiff, reduceAdd, reduceLT, reduceLeDiff, reduceToNat, eField, eVal]) (by simp only [go_sem, reduceIte, reduceCtorEq, reduceEqDiff, reduceAdd, reduceLT, reduceLeDiff, reduceToNat, eField, eVal]; first | done | exact rfl) (by simp only [go_sem, reduceIte, reduceCtorEq, reduceEqDiff, reduceAdd, reduceLT, reduceLeDiff, reduceToNat, eField, eVal]) (fun rt13 hrt13 => ?_)
  subst hrt13; refine ⟨rfl, ?_⟩
  refine CWops.run htt 1 (by simp only [go_sem, reduceIte, reduceCtorEq, reduceEqDiff, reduceAdd, reduceLT, reduceLeDiff, reduceToNat, eField, eVal]; exact rfl) (by simp [go_sem, reduceIte, reduceCtorEq, reduceEqDiff, reduceAdd, reduceLT, reduceLeDiff, reduceToNat, eField, eVal]) ?_
  refine CWops.done ?_
  refine CW.cond (by simp only [go_sem, reduceIte, reduceCtorEq, reduceEqDiff, reduceAdd, reduceLT, reduceLeDiff, reduceToNat]; first | done | exact rfl) (fun ct14 => ?_) (fun ct14 => ?_)
  · simp only [Bool.not_eq_true'] at ct14
    refine CW.seq ?_
    refine CW.region (by kernel_rfl) (by kernel_rfl) ?_ -- r2
    refine CWops.run htt 1 (by simp only [go_sem, reduceIte, reduceCtorEq, reduceEqDiff, reduceAdd, reduceLT, reduceLeDiff, reduceToNat]; exact rfl) (by simp [go_sem, reduceIte, reduceCtorEq, reduceEqDiff, reduceAdd, reduceLT, reduceLeDiff, reduceToNat]) ?_
    refine CWops.done ?_
    refine CW.ret ?_
    refine retQ.ret (by simp only [f87, go_sem, reduceIte, reduceCtorEq, reduceEqDiff, reduceAdd, reduceLT, reduceLeDiff, reduceToNat]; exact rfl) (by simp only [go_sem, reduceIte, reduceCtorEq, reduceEqDiff, reduceAdd, reduceLT, reduceLeDiff, reduceToNat]; exact rfl) ?_ -- ret1
    refine ⟨_, ?_, rfl⟩
    unfold leadsB sFind
    rw [ht]
    clear ht hl
    simp only [leP, AV.bool.injEq]
    first | (cases g32; done) | (cases g30; done) | (simp only [ct14, Bool.false_and]; done) | (rw [ct14, Bool.true_and]; first | (simp only [g25, Bool.true_or]; done) | (simp only [g25, g30, Bool.true_or, Bool.false_or]; done) | (simp only [g25, g30, Bool.true_or, Bool.false_or]; rfl))
  · simp only [Bool.not_eq_false'] at ct14
    refine CW.skip ?_
    refine CW.seq ?_
    refine CW.region (by kernel_rfl) (by kernel_rfl) ?_ -- r3
    refine CWops.run htt 9 (by simp only [go_sem, reduceIte, reduceCtorEq, reduceEqDiff, reduceAdd, reduceLT, reduceLeDiff, reduceToNat, eVal, maplk_tmap, ht]; exact rfl) (by simp [go_sem, reduceIte, reduceCtorEq, reduceEqDiff, reduceAdd, reduceLT, reduceLeDiff, reduceToNat, eVal, maplk_tmap, ht]) ?_
    refine CWops.done ?_
    refine CW.seq ?_
    refine CW.region (by kernel_rfl) (by kernel_rfl) ?_ -- r4
    refine CWops.run htt 4 (by simp only [go_sem, reduceIte, reduceCtorEq, reduceEqDiff, reduceAdd, reduceLT, reduceLeDiff, reduceToNat, eGraph, eField, eVal, eSchema]; exact rfl) (by simp [go_sem, reduceIte, reduceCtorEq, reduceEqDiff, reduceAdd, reduceLT, reduceLeDiff, reduceToNat, eGraph, eField, eVal, eSchema]) ?_
    all_goals (first | refine CWops.guard 25 (by simp only [go_sem, reduceIte, reduceCtorEq, reduceEqDiff, reduceAdd, reduceLT, reduceLeDiff, reduceToNat, eGraph, eField, eVal, eSchema]; exact rfl) (fun g25 => ?_) (fun g25 => ?_) | skip)
    all_goals (refine CWops.run htt 5 (by simp only [go_sem, reduceIte, reduceCtorEq, reduceEqDiff, reduceAdd, reduceLT, reduceLeDiff, reduceToNat, eGraph, eField, eVal, eSchema]; exact rfl) (by simp [go_sem, reduceIte, reduceCtorEq, reduceEqDiff, reduceAdd, reduceLT, reduceLeDiff, reduceToNat, eGraph, eField, eVal, eSchema]) ?_)
    all_goals (first | refine CWops.guard 30 (by simp only [go_sem, reduceIte, reduceCtorEq, reduceEqDiff, reduceAdd, reduceLT, reduceLeDiff, reduceToNat, eGraph, eField, eVal, eSchema]; exact rfl) (fun g30 => ?_) (fun g30 => ?_) | skip)
    all_goals (refine CWops.run htt 2 (by simp only [go_sem, reduceIte, reduceCtorEq, reduceEqDiff, reduceAdd, reduceLT, reduceLeDiff, reduceToNat, eGraph, eField, eVal, eSchema]; exact rfl) (by simp [go_sem, reduceIte, reduceCtorEq, reduceEqDiff, reduceAdd, reduceLT, reduceLeDiff, reduceToNat, eGraph, eField, eVal, eSchema]) ?_)
    all_goals (first | refine CWops.guard 32 (by simp only [go_sem, reduceIte, reduceCtorEq, reduceEqDiff, reduceAdd, reduceLT, reduceLeDiff, reduceToNat, eGraph, eField, eVal, eSchema]; exact rfl) (fun g32 => ?_) (fun g32 => ?_) | skip)
    all_goals (refine CWops.run htt 5 (by simp only [go_sem, reduceIte, reduceCtorEq, reduceEqDiff, reduceAdd, reduceLT, reduceLeDiff, reduceToNat, eGraph, eField, eVal, eSchema]; exact rfl) (by simp [go_sem, reduceIte, reduceCtorEq, reduceEqDiff, reduceAdd, reduceLT, reduceLeDiff, reduceToNat, eGraph, eField, eVal, eSchema]) ?_)
    all_goals (first | (refine CWops.skip ?_ ?_; next => (simp only [go_sem, reduceIte, reduceCtorEq, reduceEqDiff, reduceAdd, reduceLT, reduceLeDiff, reduceToNat]; done)) | (refine CWops.call (schema_Find up g.S f.To) (by simp only [go_sem, reduceIte, reduceCtorEq, reduceEqDiff, reduceAdd, reduceLT, reduceLeDiff, reduceToNat, eGraph, eField, eVal, eSchema]) (by simp only [go_sem, reduceIte, reduceCtorEq, reduceEqDiff, reduceAdd, reduceLT, reduceLeDiff, reduceToNat, eGraph, eField, eVal, eSchema]; first | done | exact rfl) (by simp only [go_sem, reduceIte, reduceCtorEq, reduceEqDiff, reduceAdd, reduceLT, reduceLeDiff, reduceToNat, eGraph, eField, eVal, eSchema]) (fun rt38 hrt38 => ?_); subst hrt38; refine ⟨rfl, ?_⟩))
    all_goals (refine CWops.run htt 4 (by simp only [go_sem, reduceIte, reduceCtorEq, reduceEqDiff, reduceAdd, reduceLT, reduceLeDiff, reduceToNat, eGraph, eField, eVal, eSchema]; exact rfl) (by simp [go_sem, reduceIte, reduceCtorEq, reduceEqDiff, reduceAdd, reduceLT, reduceLeDiff, reduceToNat, eGraph, eField, eVal, eSchema]) ?_)
    all_goals (refine CWops.done ?_)
    all_goals (
      refine CW.ret ?_
      refine retQ.ret (by simp only [f87, go_sem, reduceIte, reduceCtorEq, reduceEqDiff, reduceAdd, reduceLT, reduceLeDiff, reduceToNat]; exact rfl) (by simp only [go_sem, reduceIte, reduceCtorEq, reduceEqDiff, reduceAdd, reduceLT, reduceLeDiff, reduceToNat]; exact rfl) ?_ -- ret2
      refine ⟨_, ?_, rfl⟩
      unfold leadsB sFind
      rw [ht]
      clear ht hl
      simp only [leP, AV.bool.injEq]
      first | (cases g32; done) | (cases g30; done) | (simp only [ct14, Bool.false_and]; done) | (rw [ct14, Bool.true_and]; first | (simp only [g25, Bool.true_or]; done) | (simp only [g25, g30, Bool.true_or, Bool.false_or]; done) | (simp only [g25, g30, Bool.true_or, Bool.false_or]; rfl)))
theorem graph_leads_none (up : Bool) (g : Graph) (f : GField) (v : GVal) (ht : typ g.O v.R = none) : PCall prog up 87 [.agg (eGraph g), .fmap (tmap g.O), .agg (eField f), .agg (eVal v)] (· = .bool (leadsB g f v)) := by
  refine PCall.intro htt func87 (by kernel_rfl) rfl (Nat.le_of_ble_eq_true rfl) fun hl => ?_

  simp only [tmps0, Nat.reduceAdd]
  refine CW.seq ?_
  refine CW.region (by kernel_rfl) (by kernel_rfl) ?_ -- r0
  refine CWops.run htt 4 (by simp only [go_sem, reduceIte, reduceCtorEq, reduceEqDiff, reduceAdd, reduceLT, reduceLeDiff, reduceToNat, eGraph, eField, eVal]; exact rfl) (by simp [go_sem, reduceIte, reduceCtorEq, reduceEqDiff, reduceAdd, reduceLT, reduceLeDiff, reduceToNat, eGraph, eField, eVal]) ?_
  refine CWops.done ?_
  refine CW.seq ?_
  refine CW.seq ?_
  refine CW.region (by kernel_rfl) (by kernel_rfl) ?_ -- r1
  refine CWops.run htt 2 (by simp only [go_sem, reduceIte, reduceCtorEq, reduceEqDiff, reduceAdd, reduceLT, reduceLeDiff, reduceToNat, eField, eVal]; exact rfl) (by simp [go_sem, reduceIte, reduceCtorEq, reduceEqDiff, reduceAdd, reduceLT, reduceLeDiff, reduceToNat, eField, eVal]) ?_
  refine CWops.call (value_Fits up f v) (by simp only [go_sem, reduceIte, reduceCtorEq, reduceEqDiff, reduceAdd, reduceLT, reduceLeDiff, reduceToNat, eField, eVal]) (by simp only [go_sem, reduceIte, reduceCtorEq, reduceEqDiff, reduceAdd, reduceLT, reduceLeDiff, reduceToNat, eField, eVal]; first | done | exact rfl) (by simp only [go_sem, reduceIte, reduceCtorEq, reduceEqDiff, reduceAdd, reduceLT, reduceLeDiff, reduceToNat, eField, eVal]) (fun rt13 hrt13 => ?_)
  subst hrt13; refine ⟨rfl, ?_⟩
  refine CWops.run htt 1 (by simp only [go_sem, reduceIte, reduceCtorEq, reduceEqDiff, reduceAdd, reduceLT, reduceLeDiff, reduceToNat, eField, eVal]; exact rfl) (by simp [go_sem, reduceIte, reduceCtorEq, reduceEqDiff, reduceAdd, reduceLT, reduceLeDiff, reduceToNat, eField, eVal]) ?_
  refine CWops.done ?_
  refine CW.cond (by simp only [go_sem, reduceIte, reduceCtorEq, reduceEqDiff, reduceAdd, reduceLT, reduceLeDiff, reduceToNat]; first | done | exact rfl) (fun ct14 => ?_) (fun ct14 => ?_)
  · simp only [Bool.not_eq_true'] at ct14
    refine CW.seq ?_
    refine CW.region (by kernel_rfl) (by kernel_rfl) ?_ -- r2
    refine CWops.run htt 1 (by simp only [go_sem, reduceIte, reduceCtorEq, reduceEqDiff, reduceAdd, reduceLT, reduceLeDiff, reduceToNat]; exact rfl) (by simp [go_sem, reduceIte, reduceCtorEq, reduceEqDiff, reduceAdd, reduceLT, reduceLeDiff, reduceToNat]) ?_
    refine CWops.done ?_
    refine CW.ret ?_
    refine retQ.ret (by simp only [f87, go_sem, reduceIte, reduceCtorEq, reduceEqDiff, reduceAdd, reduceLT, reduceLeDiff, reduceToNat]; exact rfl) (by simp only [go_sem, reduceIte, reduceCtorEq, reduceEqDiff, reduceAdd, reduceLT, reduceLeDiff, reduceToNat]; exact rfl) ?_ -- ret1
    refine ⟨_, ?_, rfl⟩
    unfold leadsB sFind
    rw [ht]
    clear ht hl
    simp only [leP, AV.bool.injEq]
    first | (cases g32; done) | (cases g30; done) | (simp only [ct14, Bool.false_and]; done) | (rw [ct14, Bool.true_and]; first | (simp only [g25, Bool.true_or]; done) | (simp only [g25, g30, Bool.true_or, Bool.false_or]; done) | (simp only [g25, g30, Bool.true_or, Bool.false_or]; rfl))
  · simp only [Bool.not_eq_false'] at ct14
    refine CW.skip ?_
    refine CW.seq ?_
    refine CW.region (by kernel_rfl) (by kernel_rfl) ?_ -- r3
    refine CWops.run htt 9 (by simp only [go_sem, reduceIte, reduceCtorEq, reduceEqDiff, reduceAdd, reduceLT, reduceLeDiff, reduceToNat, eVal, maplk_tmap, ht]; exact rfl) (by simp [go_sem, reduceIte, reduceCtorEq, reduceEqDiff, reduceAdd, reduceLT, reduceLeDiff, reduceToNat, eVal, maplk_tmap, ht]) ?_
    refine CWops.done ?_
    refine CW.seq ?_
    refine CW.region (by kernel_rfl) (by kernel_rfl) ?_ -- r4
    refine CWops.run htt 4 (by simp only [go_sem, reduceIte, reduceCtorEq, reduceEqDiff, reduceAdd, reduceLT, reduceLeDiff, reduceToNat, eGraph, eField, eVal, eSchema]; exact rfl) (by simp [go_sem, reduceIte, reduceCtorEq, reduceEqDiff, reduceAdd, reduceLT, reduceLeDiff, reduceToNat, eGraph, eField, eVal, eSchema]) ?_
    all_goals (first | refine CWops.guard 25 (by simp only [go_sem, reduceIte, reduceCtorEq, reduceEqDiff, reduceAdd, reduceLT, reduceLeDiff, reduceToNat, eGraph, eField, eVal, eSchema]; exact rfl) (fun g25 => ?_) (fun g25 => ?_) | skip)
    all_goals (refine CWops.run htt 5 (by simp only [go_sem, reduceIte, reduceCtorEq, reduceEqDiff, reduceAdd, reduceLT, reduceLeDiff, reduceToNat, eGraph, eField, eVal, eSchema]; exact rfl) (by simp [go_sem, reduceIte, reduceCtorEq, reduceEqDiff, reduceAdd, reduceLT, reduceLeDiff, reduceToNat, eGraph, eField, eVal, eSchema]) ?_)
    all_goals (first | refine CWops.guard 30 (by simp only [go_sem, reduceIte, reduceCtorEq, reduceEqDiff, reduceAdd, reduceLT, reduceLeDiff, reduceToNat, eGraph, eField, eVal, eSchema]; exact rfl) (fun g30 => ?_) (fun g30 => ?_) | skip)
    all_goals (refine CWops.run htt 2 (by simp only [go_sem, reduceIte, reduceCtorEq, reduceEqDiff, reduceAdd, reduceLT, reduceLeDiff, reduceToNat, eGraph, eField, eVal, eSchema]; exact rfl) (by simp [go_sem, reduceIte, reduceCtorEq, reduceEqDiff, reduceAdd, reduceLT, reduceLeDiff, reduceToNat, eGraph, eField, eVal, eSchema]) ?_)
    all_goals (first | refine CWops.guard 32 (by simp only [go_sem, reduceIte, reduceCtorEq, reduceEqDiff, reduceAdd, reduceLT, reduceLeDiff, reduceToNat, eGraph, eField, eVal, eSchema]; exact rfl) (fun g32 => ?_) (fun g32 => ?_) | skip)
    all_goals (refine CWops.run htt 5 (by simp only [go_sem, reduceIte, reduceCtorEq, reduceEqDiff, reduceAdd, reduceLT, reduceLeDiff, reduceToNat, eGraph, eField, eVal, eSchema]; exact rfl) (by simp [go_sem, reduceIte, reduceCtorEq, reduceEqDiff, reduceAdd, reduceLT, reduceLeDiff, reduceToNat, eGraph, eField, eVal, eSchema]) ?_)
    all_goals (first | (refine CWops.skip ?_ ?_; next => (simp only [go_sem, reduceIte, reduceCtorEq, reduceEqDiff, reduceAdd, reduceLT, reduceLeDiff, reduceToNat]; done)) | (refine CWops.call (schema_Find up g.S f.To) (by simp only [go_sem, reduceIte, reduceCtorEq, reduceEqDiff, reduceAdd, reduceLT, reduceLeDiff, reduceToNat, eGraph, eField, eVal, eSchema]) (by simp only [go_sem, reduceIte, reduceCtorEq, reduceEqDiff, reduceAdd, reduceLT, reduceLeDiff, reduceToNat, eGraph, eField, eVal, eSchema]; first | done | exact rfl) (by simp only [go_sem, reduceIte, reduceCtorEq, reduceEqDiff, reduceAdd, reduceLT, reduceLeDiff, reduceToNat, eGraph, eField, eVal, eSchema]) (fun rt38 hrt38 => ?_); subst hrt38; refine ⟨rfl, ?_⟩))
    all_goals (refine CWops.run htt 4 (by simp only [go_sem, reduceIte, reduceCtorEq, reduceEqDiff, reduceAdd, reduceLT, reduceLeDiff, reduceToNat, eGraph, eField, eVal, eSchema]; exact rfl) (by simp [go_sem, reduceIte, reduceCtorEq, reduceEqDiff, reduceAdd, reduceLT, reduceLeDiff, reduceToNat, eGraph, eField, eVal, eSchema]) ?_)
    all_goals (refine CWops.done ?_)
    all_goals (
      refine CW.ret ?_
      refine retQ.ret (by simp only [f87, go_sem, reduceIte, reduceCtorEq, reduceEqDiff, reduceAdd, reduceLT, reduceLeDiff, reduceToNat]; exact rfl) (by simp only [go_sem, reduceIte, reduceCtorEq, reduceEqDiff, reduceAdd, reduceLT, reduceLeDiff, reduceToNat]; exact rfl) ?_ -- ret2
      refine ⟨_, ?_, rfl⟩
      unfold leadsB sFind
      rw [ht]
      clear ht hl
      simp only [leP, AV.bool.injEq]
      first | (cases g32; done) | (cases g30; done) | (simp only [ct14, Bool.false_and]; done) | (rw [ct14, Bool.true_and]; first | (simp only [g25, Bool.true_or]; done) | (simp only [g25, g30, Bool.true_or, Bool.false_or]; done) | (simp only [g25, g30, Bool.true_or, Bool.false_or]; rfl)))
theorem graph_leads (up : Bool) (g : Graph) (f : GField) (v : GVal) : PCall prog up 87 [.agg (eGraph g), .fmap (tmap g.O), .agg (eField f), .agg (eVal v)] (· = .bool (leadsB g f v)) := by
  cases ht : typ g.O v.R with
  | none => exact graph_leads_none up g f v ht
  | some t => exact graph_leads_some up g f v t ht
theorem graph_object (up : Bool) (g : Graph) (o : GObj) (last : Int) : PCall prog up 40 [.agg (eGraph g), .fmap (tmap g.O), .agg (eObj o), .int .i64 last] (· = .bool (objectB g o last)) := by
  refine PCall.intro htt func40 (by kernel_rfl) rfl (Nat.le_of_ble_eq_true rfl) fun hl => ?_
  have hL := (hl (.agg (eObj o)) (by simp)).agg
  have hb := (hL (.sl 3 (o.F.map eVal)) (by simp [eObj])).sl.1
  simp only [List.length_map] at hb
  simp only [tmps0, Nat.reduceAdd]
  refine CW.seq ?_
  refine CW.region (by kernel_rfl) (by kernel_rfl) ?_ -- r0
  refine CWops.run htt 3 (by simp only [go_sem, reduceIte, reduceCtorEq, reduceEqDiff, reduceAdd, reduceLT, reduceLeDiff, reduceToNat, eGraph, eObj]; exact rfl) (by simp [go_sem, reduceIte, reduceCtorEq, reduceEqDiff, reduceAdd, reduceLT, reduceLeDiff, reduceToNat, eGraph, eObj]) ?_
  refine CWops.done ?_
  refine CW.seq ?_
  refine CW.cut ⟨2, [(1, .fmap (tmap g.O)), (4, .lv 0 [] 0), (6, .lv 1 [] 0), (34, .bool (!((decide (last < o.Id) && decide (o.Id ≤ 1073741824)) && (decide (0 ≤ o.T) && decide (o.T < g.S.length)))))], [(0, ⟨true, eGraph g⟩), (1, ⟨true, eObj o⟩)]⟩ ?_ ?_
  · refine CW.region (by kernel_rfl) (by kernel_rfl) ?_ -- r1
    refine CWops.run htt 5 (by simp only [go_sem, reduceIte, reduceCtorEq, reduceEqDiff, reduceAdd, reduceLT, reduceLeDiff, reduceToNat, eGraph, eSchema, eObj]; exact rfl) (by simp [go_sem, reduceIte, reduceCtorEq, reduceEqDiff, reduceAdd, reduceLT, reduceLeDiff, reduceToNat, eGraph, eSchema, eObj]) ?_
    all_goals (first | refine CWops.guard 16 (by simp only [go_sem, reduceIte, reduceCtorEq, reduceEqDiff, reduceAdd, reduceLT, reduceLeDiff, reduceToNat, eGraph, eSchema, eObj]; exact rfl) (fun g16 => ?_) (fun g16 => ?_) | skip)
    all_goals (refine CWops.run htt 5 (by simp only [go_sem, reduceIte, reduceCtorEq, reduceEqDiff, reduceAdd, reduceLT, reduceLeDiff, reduceToNat, eGraph, eSchema, eObj]; exact rfl) (by simp [go_sem, reduceIte, reduceCtorEq, reduceEqDiff, reduceAdd, reduceLT, reduceLeDiff, reduceToNat, eGraph, eSchema, eObj]) ?_)
    all_goals (first | refine CWops.guard 21 (by simp only [go_sem, reduceIte, reduceCtorEq, reduceEqDiff, reduceAdd, reduceLT, reduceLeDiff, reduceToNat, eGraph, eSchema, eObj]; exact rfl) (fun g21 => ?_) (fun g21 => ?_) | skip)
    all_goals (refine CWops.run htt 5 (by simp only [go_sem, reduceIte, reduceCtorEq, reduceEqDiff, reduceAdd, reduceLT, reduceLeDiff, reduceToNat, eGraph, eSchema, eObj]; exact rfl) (by simp [go_sem, reduceIte, reduceCtorEq, reduceEqDiff, reduceAdd, reduceLT, reduceLeDiff, reduceToNat, eGraph, eSchema, eObj]) ?_)
    all_goals (first | refine CWops.guard 26 (by simp only [go_sem, reduceIte, reduceCtorEq, reduceEqDiff, reduceAdd, reduceLT, reduceLeDiff, reduceToNat, eGraph, eSchema, eObj]; exact rfl) (fun g26 => ?_) (fun g26 => ?_) | skip)
    all_goals (refine CWops.run htt 8 (by simp only [go_sem, reduceIte, reduceCtorEq, reduceEqDiff, reduceAdd, reduceLT, reduceLeDiff, reduceToNat, eGraph, eSchema, eObj]; exact rfl) (by simp [go_sem, reduceIte, reduceCtorEq, reduceEqDiff, reduceAdd, reduceLT, reduceLeDiff, reduceToNat, eGraph, eSchema, eObj]) ?_)
    all_goals (refine CWops.done ?_)
    all_goals (
      refine ⟨rfl, Sh.wk0 ?_⟩
      simp_all [Wk, go_sem, reduceIte, reduceCtorEq, reduceEqDiff, reduceAdd, reduceLT, reduceLeDiff, reduceToNat, eGraph, eObj] <;> first | done | omega | rfl | (rw [Bool.eq_iff_iff]; done) | (rw [Bool.eq_iff_iff]; simp; done) | (rw [Bool.eq_iff_iff]; simp; omega))
  refine CW.cond (by simp only [go_sem, reduceIte, reduceCtorEq, reduceEqDiff, reduceAdd, reduceLT, reduceLeDiff, reduceToNat]; first | done | exact rfl) (fun ct34 => ?_) (fun ct34 => ?_)
  · simp only [Bool.not_eq_true'] at ct34
    refine CW.seq ?_
    refine CW.region (by kernel_rfl) (by kernel_rfl) ?_ -- r2
    refine CWops.run htt 1 (by simp only [go_sem, reduceIte, reduceCtorEq, reduceEqDiff, reduceAdd, reduceLT, reduceLeDiff, reduceToNat]; exact rfl) (by simp [go_sem, reduceIte, reduceCtorEq, reduceEqDiff, reduceAdd, reduceLT, reduceLeDiff, reduceToNat]) ?_
    refine CWops.done ?_
    refine CW.ret ?_
    refine retQ.ret (by simp only [f40, go_sem, reduceIte, reduceCtorEq, reduceEqDiff, reduceAdd, reduceLT, reduceLeDiff, reduceToNat]; exact rfl) (by simp only [go_sem, reduceIte, reduceCtorEq, reduceEqDiff, reduceAdd, reduceLT, reduceLeDiff, reduceToNat]; exact rfl) ?_ -- ret1
    refine ⟨_, ?_, rfl⟩
    have : objectB g o last = false := by
      unfold objectB
      cases e : typeAt g.S o.T with
      | none => simp
      | some t =>
        have : (decide (0 ≤ o.T) && decide (o.T < g.S.length)) = true := by
          unfold typeAt at e; split at e
          · have := (List.getElem?_eq_some_iff.1 e).1; simp; omega
          · cases e
        rw [this] at ct34; simp only [Bool.and_true] at ct34; rw [ct34]; rfl
    simp [leP, this]
  · simp only [Bool.not_eq_false', Bool.and_eq_true, decide_eq_true_eq] at ct34
    obtain ⟨⟨h1, h2⟩, h3, h4⟩ := ct34
    obtain ⟨oi, oT, oF⟩ := o
    simp only at h1 h2 h3 h4 hb
    obtain ⟨n, rfl⟩ := Int.eq_ofNat_of_zero_le h3
    obtain ⟨t, ht⟩ : ∃ t, g.S[n]? = some t := ⟨g.S[n], List.getElem?_eq_getElem (by omega)⟩
    have hA : typeAt g.S n = some t := by unfold typeAt; rw [if_pos h3]; simpa using ht
    refine CW.skip ?_
    refine CW.seq ?_
    refine CW.region (by kernel_rfl) (by kernel_rfl) ?_ -- r3
    refine CWops.run htt 9 (by simp only [go_sem, reduceIte, reduceCtorEq, reduceEqDiff, reduceAdd, reduceLT, reduceLeDiff, reduceToNat, eGraph, eObj, eType, ht]; exact rfl) (by simp [go_sem, reduceIte, reduceCtorEq, reduceEqDiff, reduceAdd, reduceLT, reduceLeDiff, reduceToNat, eGraph, eObj, eType, ht]) ?_
    refine CWops.done ?_
    refine CW.seq ?_
    refine CW.seq ?_
    refine CW.region (by kernel_rfl) (by kernel_rfl) ?_ -- r4
    refine CWops.run htt 6 (by simp only [go_sem, reduceIte, reduceCtorEq, reduceEqDiff, reduceAdd, reduceLT, reduceLeDiff, reduceToNat, eObj]; exact rfl) (by simp [go_sem, reduceIte, reduceCtorEq, reduceEqDiff, reduceAdd, reduceLT, reduceLeDiff, reduceToNat, eObj]) ?_
    refine CWops.done ?_
    refine CW.cond (by simp only [go_sem, reduceIte, reduceCtorEq, reduceEqDiff, reduceAdd, reduceLT, reduceLeDiff, reduceToNat]; first | done | exact rfl) (fun ct48 => ?_) (fun ct48 => ?_)
    · have hn : oF.length ≠ t.F.length := by simp at ct48; omega
      refine CW.seq ?_
      refine CW.region (by kernel_rfl) (by kernel_rfl) ?_ -- r5
      refine CWops.run htt 1 (by simp only [go_sem, reduceIte, reduceCtorEq, reduceEqDiff, reduceAdd, reduceLT, reduceLeDiff, reduceToNat]; exact rfl) (by simp [go_sem, reduceIte, reduceCtorEq, reduceEqDiff, reduceAdd, reduceLT, reduceLeDiff, reduceToNat]) ?_
      refine CWops.done ?_
      refine CW.ret ?_
      refine retQ.ret (by simp only [f40, go_sem, reduceIte, reduceCtorEq, reduceEqDiff, reduceAdd, reduceLT, reduceLeDiff, reduceToNat]; exact rfl) (by simp only [go_sem, reduceIte, reduceCtorEq, reduceEqDiff, reduceAdd, reduceLT, reduceLeDiff, reduceToNat]; exact rfl) ?_ -- ret2
      refine ⟨_, ?_, rfl⟩
      have : objectB g ⟨oi, n, oF⟩ last = false := by
        unfold objectB; rw [hA]; simp [hn]
      simp [leP, this]
    · have hn : oF.length = t.F.length := by simp at ct48; omega
      refine CW.skip ?_
      refine CW.seq ?_
      refine CW.seq ?_
      refine CW.region (by kernel_rfl) (by kernel_rfl) ?_ -- r6
      refine CWops.run htt 4 (by simp only [go_sem, reduceIte, reduceCtorEq, reduceEqDiff, reduceAdd, reduceLT, reduceLeDiff, reduceToNat, eObj]; exact rfl) (by simp [go_sem, reduceIte, reduceCtorEq, reduceEqDiff, reduceAdd, reduceLT, reduceLeDiff, reduceToNat, eObj]) ?_
      refine CWops.done ?_
      refine CW.block ?_
      refine CW.loop (S := Nat) (fun k => ⟨2, [(1, .fmap (tmap g.O)), (4, .lv 0 [] 0), (6, .lv 1 [] 0), (9, .sl 3 (t.F.map eField)), (50, .sl 3 (oF.map eVal)), (51, .int .i64 oF.length), (52, .int .i64 k)], [(0, ⟨true, eGraph g⟩), (1, ⟨true, eObj ⟨oi, n, oF⟩⟩)]⟩) (fun k => k ≤ oF.length ∧ ∀ (j : Nat) (y), j < k → oF[j]? = some y → leadsAt g t.F j y = true) (fun k => oF.length - k) (0) ?_ ⟨Nat.zero_le _, fun j y hj => by omega⟩ (fun k ⟨k1, k2⟩ => ?_)
      · refine Sh.wk0 ?_; simp [Wk, go_sem, reduceIte, reduceCtorEq, reduceEqDiff, reduceAdd, reduceLT, reduceLeDiff, reduceToNat, eGraph, eObj]
      refine CW.seq ?_
      refine CW.region (by kernel_rfl) (by kernel_rfl) ?_ -- r7
      refine CWops.run htt 1 (by simp only [go_sem, reduceIte, reduceCtorEq, reduceEqDiff, reduceAdd, reduceLT, reduceLeDiff, reduceToNat]; exact rfl) (by simp [go_sem, reduceIte, reduceCtorEq, reduceEqDiff, reduceAdd, reduceLT, reduceLeDiff, reduceToNat]) ?_
      refine CWops.done ?_
      refine CW.seq ?_
      refine CW.cond (by simp only [go_sem, reduceIte, reduceCtorEq, reduceEqDiff, reduceAdd, reduceLT, reduceLeDiff, reduceToNat]; first | done | exact rfl) (fun ct53 => ?_) (fun ct53 => ?_)
      · have hk : k < oF.length := by simpa using ct53
        obtain ⟨v, hv⟩ : ∃ v, oF[k]? = some v := ⟨oF[k], List.getElem?_eq_getElem hk⟩
        obtain ⟨f, hf⟩ : ∃ f, t.F[k]? = some f := ⟨t.F[k], List.getElem?_eq_getElem (by omega)⟩
        refine CW.skip ?_
        refine CW.seq ?_
        refine CW.block ?_
        refine CW.seq ?_
        refine CW.region (by kernel_rfl) (by kernel_rfl) ?_ -- r8
        refine CWops.run htt 6 (by simp only [go_sem, reduceIte, reduceCtorEq, reduceEqDiff, reduceAdd, reduceLT, reduceLeDiff, reduceToNat, hv, eVal]; exact rfl) (by simp [go_sem, reduceIte, reduceCtorEq, reduceEqDiff, reduceAdd, reduceLT, reduceLeDiff, reduceToNat, hv, eVal]) ?_
        refine CWops.done ?_
        refine CW.seq ?_
        refine CW.drawn mixed 7 (by decide) (by kernel_rfl) (by kernel_rfl) (by kernel_rfl) ?_ -- r9
        refine Seg.run htt 7 (by simp only [go_sem, reduceIte, reduceCtorEq, reduceEqDiff, reduceAdd, reduceLT, reduceLeDiff, reduceToNat, hf, eGraph, eField, eVal]; exact rfl) ?_
        refine Seg.done ?_
        refine CWops.call (graph_leads up g f v) (by simp only [go_sem, reduceIte, reduceCtorEq, reduceEqDiff, reduceAdd, reduceLT, reduceLeDiff, reduceToNat, hf, eGraph, eField, eVal]) (by simp only [go_sem, reduceIte, reduceCtorEq, reduceEqDiff, reduceAdd, reduceLT, reduceLeDiff, reduceToNat, hf, eGraph, eField, eVal]; first | done | exact rfl) (by simp only [go_sem, reduceIte, reduceCtorEq, reduceEqDiff, reduceAdd, reduceLT, reduceLeDiff, reduceToNat, hf, eGraph, eField, eVal]) (fun rt64 hrt64 => ?_)
        subst hrt64; refine ⟨rfl, ?_⟩
        refine CWops.run htt 1 (by simp only [go_sem, reduceIte, reduceCtorEq, reduceEqDiff, reduceAdd, reduceLT, reduceLeDiff, reduceToNat, hf, eGraph, eField, eVal]; exact rfl) (by simp [go_sem, reduceIte, reduceCtorEq, reduceEqDiff, reduceAdd, reduceLT, reduceLeDiff, reduceToNat, hf, eGraph, eField, eVal]) ?_
        refine CWops.done ?_
        refine CW.cond (by simp only [go_sem, reduceIte, reduceCtorEq, reduceEqDiff, reduceAdd, reduceLT, reduceLeDiff, reduceToNat]; first | done | exact rfl) (fun ct65 => ?_) (fun ct65 => ?_)
        · simp only [Bool.not_eq_true'] at ct65
          refine CW.seq ?_
          refine CW.region (by kernel_rfl) (by kernel_rfl) ?_ -- r10
          refine CWops.run htt 1 (by simp only [go_sem, reduceIte, reduceCtorEq, reduceEqDiff, reduceAdd, reduceLT, reduceLeDiff, reduceToNat]; exact rfl) (by simp [go_sem, reduceIte, reduceCtorEq, reduceEqDiff, reduceAdd, reduceLT, reduceLeDiff, reduceToNat]) ?_
          refine CWops.done ?_
          refine CW.ret ?_
          refine retQ.ret (by simp only [f40, go_sem, reduceIte, reduceCtorEq, reduceEqDiff, reduceAdd, reduceLT, reduceLeDiff, reduceToNat]; exact rfl) (by simp only [go_sem, reduceIte, reduceCtorEq, reduceEqDiff, reduceAdd, reduceLT, reduceLeDiff, reduceToNat]; exact rfl) ?_ -- ret3
          refine ⟨_, ?_, rfl⟩
          have : objectB g ⟨oi, n, oF⟩ last = false := by
            unfold objectB; rw [hA]; simp only; rw [allI_no hv (by rw [Nat.zero_add]; unfold leadsAt; rw [hf]; exact ct65)]; simp
          simp [leP, this]
        · simp only [Bool.not_eq_false'] at ct65
          refine CW.skip ?_
          refine CW.region (by kernel_rfl) (by kernel_rfl) ?_ -- r11
          refine CWops.run htt 2 (by simp only [go_sem, reduceIte, reduceCtorEq, reduceEqDiff, reduceAdd, reduceLT, reduceLeDiff, reduceToNat, wrap_succ (Nat.lt_of_lt_of_le hk hb)]; exact rfl) (by simp [go_sem, reduceIte, reduceCtorEq, reduceEqDiff, reduceAdd, reduceLT, reduceLeDiff, reduceToNat, wrap_succ (Nat.lt_of_lt_of_le hk hb)]) ?_
          refine CWops.done ?_
          refine ⟨k + 1, ?_, ?_, ?_⟩
          · refine Sh.wk0 ?_; simp [Wk, go_sem, reduceIte, reduceCtorEq, reduceEqDiff, reduceAdd, reduceLT, reduceLeDiff, reduceToNat, eGraph, eObj]
          · exact ⟨hk, belowI_succ k2 hv (by unfold leadsAt; rw [hf]; exact ct65)⟩
          · simp only; omega
      · have hk : k = oF.length := by simp at ct53; omega
        refine CW.exit ?_
        refine CW.seq ?_
        refine CW.region (by kernel_rfl) (by kernel_rfl) ?_ -- r12
        refine CWops.run htt 1 (by simp only [go_sem, reduceIte, reduceCtorEq, reduceEqDiff, reduceAdd, reduceLT, reduceLeDiff, reduceToNat]; exact rfl) (by simp [go_sem, reduceIte, reduceCtorEq, reduceEqDiff, reduceAdd, reduceLT, reduceLeDiff, reduceToNat]) ?_
        refine CWops.done ?_
        refine CW.ret ?_
        refine retQ.ret (by simp only [f40, go_sem, reduceIte, reduceCtorEq, reduceEqDiff, reduceAdd, reduceLT, reduceLeDiff, reduceToNat]; exact rfl) (by simp only [go_sem, reduceIte, reduceCtorEq, reduceEqDiff, reduceAdd, reduceLT, reduceLeDiff, reduceToNat]; exact rfl) ?_ -- ret4
        refine ⟨_, ?_, rfl⟩
        have : objectB g ⟨oi, n, oF⟩ last = true := by
          unfold objectB; rw [hA]; simp only; rw [belowI_all (by rw [← hk]; exact k2)]; simp [h1, h2, hn]
        simp [leP, this]
theorem graph_May_1s (up : Bool) (g : Graph) (r t : Int) (ht : typ g.O r = some t) : PCall prog up 41 [.int .i64 r, .fp [.fmap (tmap g.O)]] (· = .bool (!rootB g r)) := by
  refine PCall.intro htt func41 (by kernel_rfl) rfl (Nat.le_of_ble_eq_true rfl) fun hl => ?_

  simp only [tmps0, Nat.reduceAdd]
  refine CW.seq ?_
  refine CW.region (by kernel_rfl) (by kernel_rfl) ?_ -- r0
  refine CWops.run htt 1 (by simp only [go_sem, reduceIte, reduceCtorEq, reduceEqDiff, reduceAdd, reduceLT, reduceLeDiff, reduceToNat]; exact rfl) (by simp [go_sem, reduceIte, reduceCtorEq, reduceEqDiff, reduceAdd, reduceLT, reduceLeDiff, reduceToNat]) ?_
  refine CWops.done ?_
  refine CW.seq ?_
  refine CW.region (by kernel_rfl) (by kernel_rfl) ?_ -- r1
  refine CWops.run htt 8 (by simp only [go_sem, reduceIte, reduceCtorEq, reduceEqDiff, reduceAdd, reduceLT, reduceLeDiff, reduceToNat, maplk_tmap, ht]; exact rfl) (by simp [go_sem, reduceIte, reduceCtorEq, reduceEqDiff, reduceAdd, reduceLT, reduceLeDiff, reduceToNat, maplk_tmap, ht]) ?_
  refine CWops.done ?_
  refine CW.seq ?_
  refine CW.region (by kernel_rfl) (by kernel_rfl) ?_ -- r2
  refine CWops.run htt 3 (by simp only [go_sem, reduceIte, reduceCtorEq, reduceEqDiff, reduceAdd, reduceLT, reduceLeDiff, reduceToNat]; exact rfl) (by simp [go_sem, reduceIte, reduceCtorEq, reduceEqDiff, reduceAdd, reduceLT, reduceLeDiff, reduceToNat]) ?_
  all_goals (first | refine CWops.guard 14 (by simp only [go_sem, reduceIte, reduceCtorEq, reduceEqDiff, reduceAdd, reduceLT, reduceLeDiff, reduceToNat]; exact rfl) (fun g14 => ?_) (fun g14 => ?_) | skip)
  all_goals (refine CWops.run htt 4 (by simp only [go_sem, reduceIte, reduceCtorEq, reduceEqDiff, reduceAdd, reduceLT, reduceLeDiff, reduceToNat]; exact rfl) (by simp [go_sem, reduceIte, reduceCtorEq, reduceEqDiff, reduceAdd, reduceLT, reduceLeDiff, reduceToNat]) ?_)
  all_goals (refine CWops.done ?_)
  all_goals (
    refine CW.ret ?_
    refine retQ.ret (by simp only [f41, go_sem, reduceIte, reduceCtorEq, reduceEqDiff, reduceAdd, reduceLT, reduceLeDiff, reduceToNat]; exact rfl) (by simp only [go_sem, reduceIte, reduceCtorEq, reduceEqDiff, reduceAdd, reduceLT, reduceLeDiff, reduceToNat]; exact rfl) ?_ -- ret1
    refine ⟨_, ?_, rfl⟩
    simp_all [leP, rootB])
theorem graph_May_1n (up : Bool) (g : Graph) (r : Int) (ht : typ g.O r = none) : PCall prog up 41 [.int .i64 r, .fp [.fmap (tmap g.O)]] (· = .bool (!rootB g r)) := by
  refine PCall.intro htt func41 (by kernel_rfl) rfl (Nat.le_of_ble_eq_true rfl) fun hl => ?_

  simp only [tmps0, Nat.reduceAdd]
  refine CW.seq ?_
  refine CW.region (by kernel_rfl) (by kernel_rfl) ?_ -- r0
  refine CWops.run htt 1 (by simp only [go_sem, reduceIte, reduceCtorEq, reduceEqDiff, reduceAdd, reduceLT, reduceLeDiff, reduceToNat]; exact rfl) (by simp [go_sem, reduceIte, reduceCtorEq, reduceEqDiff, reduceAdd, reduceLT, reduceLeDiff, reduceToNat]) ?_
  refine CWops.done ?_
  refine CW.seq ?_
  refine CW.region (by kernel_rfl) (by kernel_rfl) ?_ -- r1
  refine CWops.run htt 8 (by simp only [go_sem, reduceIte, reduceCtorEq, reduceEqDiff, reduceAdd, reduceLT, reduceLeDiff, reduceToNat, maplk_tmap, ht]; exact rfl) (by simp [go_sem, reduceIte, reduceCtorEq, reduceEqDiff, reduceAdd, reduceLT, reduceLeDiff, reduceToNat, maplk_tmap, ht]) ?_
  refine CWops.done ?_
  refine CW.seq ?_
  refine CW.region (by kernel_rfl) (by kernel_rfl) ?_ -- r2
  refine CWops.run htt 3 (by simp only [go_sem, reduceIte, reduceCtorEq, reduceEqDiff, reduceAdd, reduceLT, reduceLeDiff, reduceToNat]; exact rfl) (by simp [go_sem, reduceIte, reduceCtorEq, reduceEqDiff, reduceAdd, reduceLT, reduceLeDiff, reduceToNat]) ?_
  all_goals (first | refine CWops.guard 14 (by simp only [go_sem, reduceIte, reduceCtorEq, reduceEqDiff, reduceAdd, reduceLT, reduceLeDiff, reduceToNat]; exact rfl) (fun g14 => ?_) (fun g14 => ?_) | skip)
  all_goals (refine CWops.run htt 4 (by simp only [go_sem, reduceIte, reduceCtorEq, reduceEqDiff, reduceAdd, reduceLT, reduceLeDiff, reduceToNat]; exact rfl) (by simp [go_sem, reduceIte, reduceCtorEq, reduceEqDiff, reduceAdd, reduceLT, reduceLeDiff, reduceToNat]) ?_)
  all_goals (refine CWops.done ?_)
  all_goals (
    refine CW.ret ?_
    refine retQ.ret (by simp only [f41, go_sem, reduceIte, reduceCtorEq, reduceEqDiff, reduceAdd, reduceLT, reduceLeDiff, reduceToNat]; exact rfl) (by simp only [go_sem, reduceIte, reduceCtorEq, reduceEqDiff, reduceAdd, reduceLT, reduceLeDiff, reduceToNat]; exact rfl) ?_ -- ret1
    refine ⟨_, ?_, rfl⟩
    simp_all [leP, rootB])
theorem graph_May_1 (up : Bool) (g : Graph) (r : Int) : PCall prog up 41 [.int .i64 r, .fp [.fmap (tmap g.O)]] (· = .bool (!rootB g r)) := by
  cases ht : typ g.O r with
  | none => exact graph_May_1n up g r ht
  | some t => exact graph_May_1s up g r t ht
theorem fnd_any {α : Type} (p : α → Bool) (l : List α) : decide (0 ≤ fnd p l) = l.any p := by
  cases h : l.any p with
  | true =>
    have : 0 ≤ fnd p l := by
      unfold fnd
      split
      · omega
      · rename_i e
        rw [List.findIdx?_eq_none_iff] at e
        obtain ⟨x, hx, hp⟩ := List.any_eq_true.1 h
        rw [e x hx] at hp; cases hp
    simp [this]
  | false =>
    have : fnd p l = -1 := fnd_no fun j y hy => by
      cases hp : p y with
      | false => rfl
      | true => rw [any_at hy hp] at h; cases h
    rw [this]; rfl
theorem contains_int (up : Bool) (xs : List Int) (p : Int → Bool) (fn : FuncId) (caps : List AV) (hc : pureL caps = true) (hp : ∀ x ∈ xs, PCall prog up fn (.int .i64 x :: caps) (· = .bool (p x))) : PCall prog up 42 [.sl 1 (xs.map eI), .func (.func fn) [] caps] (· = .bool (xs.any p)) := by
  refine PCall.intro htt func42 (by kernel_rfl) rfl (Nat.le_of_ble_eq_true rfl) fun hl => ?_

  simp only [tmps0, Nat.reduceAdd]
  refine CW.seq ?_
  refine CW.region (by kernel_rfl) (by kernel_rfl) ?_ -- r0
  refine CWops.run htt 1 (by simp only [go_sem, reduceIte, reduceCtorEq, reduceEqDiff, reduceAdd, reduceLT, reduceLeDiff, reduceToNat]; exact rfl) (by simp [go_sem, reduceIte, reduceCtorEq, reduceEqDiff, reduceAdd, reduceLT, reduceLeDiff, reduceToNat]) ?_
  refine CWops.done ?_
  refine CW.seq ?_
  refine CW.region (by kernel_rfl) (by kernel_rfl) ?_ -- r1
  refine CWops.run htt 2 (by simp only [go_sem, reduceIte, reduceCtorEq, reduceEqDiff, reduceAdd, reduceLT, reduceLeDiff, reduceToNat, hc]; exact rfl) (by simp [go_sem, reduceIte, reduceCtorEq, reduceEqDiff, reduceAdd, reduceLT, reduceLeDiff, reduceToNat, hc]) ?_
  refine CWops.callA (index_int up xs p fn caps hc hp) (by simp only [go_sem, reduceIte, reduceCtorEq, reduceEqDiff, reduceAdd, reduceLT, reduceLeDiff, reduceToNat, hc]) (by simp only [go_sem, reduceIte, reduceCtorEq, reduceEqDiff, reduceAdd, reduceLT, reduceLeDiff, reduceToNat, hc]; first | done | exact rfl) (by simp only [go_sem, reduceIte, reduceCtorEq, reduceEqDiff, reduceAdd, reduceLT, reduceLeDiff, reduceToNat, hc]) (by simp only [go_sem, reduceIte, reduceCtorEq, reduceEqDiff, reduceAdd, reduceLT, reduceLeDiff, reduceToNat, hc]) (fun rt7 hrt7 => ?_)
  subst hrt7
  refine CWops.run htt 2 (by simp only [go_sem, reduceIte, reduceCtorEq, reduceEqDiff, reduceAdd, reduceLT, reduceLeDiff, reduceToNat, hc]; exact rfl) (by simp [go_sem, reduceIte, reduceCtorEq, reduceEqDiff, reduceAdd, reduceLT, reduceLeDiff, reduceToNat, hc]) ?_
  refine CWops.done ?_
  refine CW.ret ?_
  refine retQ.ret (by simp only [f42, go_sem, reduceIte, reduceCtorEq, reduceEqDiff, reduceAdd, reduceLT, reduceLeDiff, reduceToNat]; exact rfl) (by simp only [go_sem, reduceIte, reduceCtorEq, reduceEqDiff, reduceAdd, reduceLT, reduceLeDiff, reduceToNat]; exact rfl) ?_ -- ret1
  refine ⟨_, ?_, rfl⟩
  simp only [leP, fnd_any]
theorem graph_May (up : Bool) (g : Graph) : PCall prog up 12 [.agg (eGraph g)] (· = .bool (gMay g)) := by
  refine PCall.intro htt func12 (by kernel_rfl) rfl (Nat.le_of_ble_eq_true rfl) fun hl => ?_
  have hL := (hl (.agg (eGraph g)) (by simp)).agg
  have hb := (hL (.sl 3 (g.O.map eObj)) (by simp [eGraph])).sl.1
  simp only [List.length_map] at hb
  simp only [tmps0, Nat.reduceAdd]
  refine CW.seq ?_
  refine CW.region (by kernel_rfl) (by kernel_rfl) ?_ -- r0
  refine CWops.run htt 2 (by simp only [go_sem, reduceIte, reduceCtorEq, reduceEqDiff, reduceAdd, reduceLT, reduceLeDiff, reduceToNat, eGraph]; exact rfl) (by simp [go_sem, reduceIte, reduceCtorEq, reduceEqDiff, reduceAdd, reduceLT, reduceLeDiff, reduceToNat, eGraph]) ?_
  refine CWops.done ?_
  refine CW.seq ?_
  refine CW.cut ⟨1, [(1, .lv 0 [] 0), (23, .bool (!((schemaMay g.S && decide (g.O.length ≤ 8)) && decide (g.Roots.length ≤ 3))))], [(0, ⟨true, eGraph g⟩)]⟩ ?_ ?_
  · refine CW.region (by kernel_rfl) (by kernel_rfl) ?_ -- r1
    refine CWops.run htt 2 (by simp only [go_sem, reduceIte, reduceCtorEq, reduceEqDiff, reduceAdd, reduceLT, reduceLeDiff, reduceToNat, eGraph, eSchema]; exact rfl) (by simp [go_sem, reduceIte, reduceCtorEq, reduceEqDiff, reduceAdd, reduceLT, reduceLeDiff, reduceToNat, eGraph, eSchema]) ?_
    refine CWops.call (schema_May up g.S) (by simp only [go_sem, reduceIte, reduceCtorEq, reduceEqDiff, reduceAdd, reduceLT, reduceLeDiff, reduceToNat, eGraph, eSchema]) (by simp only [go_sem, reduceIte, reduceCtorEq, reduceEqDiff, reduceAdd, reduceLT, reduceLeDiff, reduceToNat, eGraph, eSchema]; first | done | exact rfl) (by simp only [go_sem, reduceIte, reduceCtorEq, reduceEqDiff, reduceAdd, reduceLT, reduceLeDiff, reduceToNat, eGraph, eSchema]) (fun rt10 hrt10 => ?_)
    subst hrt10; refine ⟨rfl, ?_⟩
    refine CWops.run htt 2 (by simp only [go_sem, reduceIte, reduceCtorEq, reduceEqDiff, reduceAdd, reduceLT, reduceLeDiff, reduceToNat, eGraph, eSchema]; exact rfl) (by simp [go_sem, reduceIte, reduceCtorEq, reduceEqDiff, reduceAdd, reduceLT, reduceLeDiff, reduceToNat, eGraph, eSchema]) ?_
    all_goals (first | refine CWops.guard 12 (by simp only [go_sem, reduceIte, reduceCtorEq, reduceEqDiff, reduceAdd, reduceLT, reduceLeDiff, reduceToNat, eGraph, eSchema]; exact rfl) (fun g12 => ?_) (fun g12 => ?_) | skip)
    all_goals (refine CWops.run htt 6 (by simp only [go_sem, reduceIte, reduceCtorEq, reduceEqDiff, reduceAdd, reduceLT, reduceLeDiff, reduceToNat, eGraph, eSchema]; exact rfl) (by simp [go_sem, reduceIte, reduceCtorEq, reduceEqDiff, reduceAdd, reduceLT, reduceLeDiff, reduceToNat, eGraph, eSchema]) ?_)
    all_goals (first | refine CWops.guard 18 (by simp only [go_sem, reduceIte, reduceCtorEq, reduceEqDiff, reduceAdd, reduceLT, reduceLeDiff, reduceToNat, eGraph, eSchema]; exact rfl) (fun g18 => ?_) (fun g18 => ?_) | skip)
    all_goals (refine CWops.run htt 5 (by simp only [go_sem, reduceIte, reduceCtorEq, reduceEqDiff, reduceAdd, reduceLT, reduceLeDiff, reduceToNat, eGraph, eSchema]; exact rfl) (by simp [go_sem, reduceIte, reduceCtorEq, reduceEqDiff, reduceAdd, reduceLT, reduceLeDiff, reduceToNat, eGraph, eSchema]) ?_)
    all_goals (refine CWops.done ?_)
    all_goals (
      refine ⟨rfl, Sh.wk0 ?_⟩
      simp_all [Wk, go_sem, reduceIte, reduceCtorEq, reduceEqDiff, reduceAdd, reduceLT, reduceLeDiff, reduceToNat, eGraph] <;> first | done | omega | rfl | (rw [Bool.eq_iff_iff]; done) | (rw [Bool.eq_iff_iff]; simp; done) | (rw [Bool.eq_iff_iff]; simp; omega))
  refine CW.cond (by simp only [go_sem, reduceIte, reduceCtorEq, reduceEqDiff, reduceAdd, reduceLT, reduceLeDiff, reduceToNat]; first | done | exact rfl) (fun ct23 => ?_) (fun ct23 => ?_)
  · simp only [Bool.not_eq_true'] at ct23
    refine CW.seq ?_
    refine CW.region (by kernel_rfl) (by kernel_rfl) ?_ -- r2
    refine CWops.run htt 1 (by simp only [go_sem, reduceIte, reduceCtorEq, reduceEqDiff, reduceAdd, reduceLT, reduceLeDiff, reduceToNat]; exact rfl) (by simp [go_sem, reduceIte, reduceCtorEq, reduceEqDiff, reduceAdd, reduceLT, reduceLeDiff, reduceToNat]) ?_
    refine CWops.done ?_
    refine CW.ret ?_
    refine retQ.ret (by simp only [f12, go_sem, reduceIte, reduceCtorEq, reduceEqDiff, reduceAdd, reduceLT, reduceLeDiff, reduceToNat]; exact rfl) (by simp only [go_sem, reduceIte, reduceCtorEq, reduceEqDiff, reduceAdd, reduceLT, reduceLeDiff, reduceToNat]; exact rfl) ?_ -- ret1
    refine ⟨_, ?_, rfl⟩
    have : gMay g = false := by unfold gMay; rw [ct23]; rfl
    simp [leP, this]
  · simp only [Bool.not_eq_false'] at ct23
    refine CW.skip ?_
    refine CW.seq ?_
    refine CW.region (by kernel_rfl) (by kernel_rfl) ?_ -- r3
    refine CWops.run htt 1 (by simp only [go_sem, reduceIte, reduceCtorEq, reduceEqDiff, reduceAdd, reduceLT, reduceLeDiff, reduceToNat, eGraph]; exact rfl) (by simp [go_sem, reduceIte, reduceCtorEq, reduceEqDiff, reduceAdd, reduceLT, reduceLeDiff, reduceToNat, eGraph]) ?_
    refine CWops.callA (graph_types up g) (by simp only [go_sem, reduceIte, reduceCtorEq, reduceEqDiff, reduceAdd, reduceLT, reduceLeDiff, reduceToNat, eGraph]) (by simp only [go_sem, reduceIte, reduceCtorEq, reduceEqDiff, reduceAdd, reduceLT, reduceLeDiff, reduceToNat, eGraph]; first | done | exact rfl) (by simp only [go_sem, reduceIte, reduceCtorEq, reduceEqDiff, reduceAdd, reduceLT, reduceLeDiff, reduceToNat, eGraph]) (by simp only [go_sem, reduceIte, reduceCtorEq, reduceEqDiff, reduceAdd, reduceLT, reduceLeDiff, reduceToNat, eGraph]) (fun rt25 hrt25 => ?_)
    subst hrt25
    refine CWops.run htt 2 (by simp only [go_sem, reduceIte, reduceCtorEq, reduceEqDiff, reduceAdd, reduceLT, reduceLeDiff, reduceToNat, eGraph]; exact rfl) (by simp [go_sem, reduceIte, reduceCtorEq, reduceEqDiff, reduceAdd, reduceLT, reduceLeDiff, reduceToNat, eGraph]) ?_
    refine CWops.done ?_
    refine CW.seq ?_
    refine CW.region (by kernel_rfl) (by kernel_rfl) ?_ -- r4
    refine CWops.run htt 1 (by simp only [go_sem, reduceIte, reduceCtorEq, reduceEqDiff, reduceAdd, reduceLT, reduceLeDiff, reduceToNat]; exact rfl) (by simp [go_sem, reduceIte, reduceCtorEq, reduceEqDiff, reduceAdd, reduceLT, reduceLeDiff, reduceToNat]) ?_
    refine CWops.done ?_
    refine CW.seq ?_
    refine CW.seq ?_
    refine CW.region (by kernel_rfl) (by kernel_rfl) ?_ -- r5
    refine CWops.run htt 4 (by simp only [go_sem, reduceIte, reduceCtorEq, reduceEqDiff, reduceAdd, reduceLT, reduceLeDiff, reduceToNat, eGraph]; exact rfl) (by simp [go_sem, reduceIte, reduceCtorEq, reduceEqDiff, reduceAdd, reduceLT, reduceLeDiff, reduceToNat, eGraph]) ?_
    refine CWops.done ?_
    refine CW.block ?_
    refine CW.loop (S := Nat) (fun i => ⟨2, [(1, .lv 0 [] 0), (3, .lv 1 [] 0), (4, .int .i64 (prevId g.O i)), (27, .sl 3 (g.O.map eObj)), (28, .int .i64 g.O.length), (29, .int .i64 i)], [(0, ⟨true, eGraph g⟩), (1, ⟨true, [.fmap (tmap g.O)]⟩)]⟩) (fun i => i ≤ g.O.length ∧ ∀ (j : Nat) (y), j < i → g.O[j]? = some y → objectB g y (prevId g.O j) = true) (fun i => g.O.length - i) (0) ?_ ⟨Nat.zero_le _, fun j y hj => by omega⟩ (fun i ⟨h1, h2⟩ => ?_)
    · refine Sh.wk0 ?_; simp [Wk, go_sem, reduceIte, reduceCtorEq, reduceEqDiff, reduceAdd, reduceLT, reduceLeDiff, reduceToNat, eGraph, prevId]
    refine CW.seq ?_
    refine CW.region (by kernel_rfl) (by kernel_rfl) ?_ -- r6
    refine CWops.run htt 1 (by simp only [go_sem, reduceIte, reduceCtorEq, reduceEqDiff, reduceAdd, reduceLT, reduceLeDiff, reduceToNat]; exact rfl) (by simp [go_sem, reduceIte, reduceCtorEq, reduceEqDiff, reduceAdd, reduceLT, reduceLeDiff, reduceToNat]) ?_
    refine CWops.done ?_
    refine CW.seq ?_
    refine CW.cond (by simp only [go_sem, reduceIte, reduceCtorEq, reduceEqDiff, reduceAdd, reduceLT, reduceLeDiff, reduceToNat]; first | done | exact rfl) (fun ct30 => ?_) (fun ct30 => ?_)
    · have hi : i < g.O.length := by simpa using ct30
      obtain ⟨x, hx⟩ : ∃ x, g.O[i]? = some x := ⟨g.O[i], List.getElem?_eq_getElem hi⟩
      refine CW.skip ?_
      refine CW.seq ?_
      refine CW.block ?_
      refine CW.seq ?_
      refine CW.region (by kernel_rfl) (by kernel_rfl) ?_ -- r7
      refine CWops.run htt 4 (by simp only [go_sem, reduceIte, reduceCtorEq, reduceEqDiff, reduceAdd, reduceLT, reduceLeDiff, reduceToNat, hx, eObj]; exact rfl) (by simp [go_sem, reduceIte, reduceCtorEq, reduceEqDiff, reduceAdd, reduceLT, reduceLeDiff, reduceToNat, hx, eObj]) ?_
      refine CWops.done ?_
      refine CW.seq ?_
      refine CW.seq ?_
      refine CW.region (by kernel_rfl) (by kernel_rfl) ?_ -- r8
      refine CWops.run htt 4 (by simp only [go_sem, reduceIte, reduceCtorEq, reduceEqDiff, reduceAdd, reduceLT, reduceLeDiff, reduceToNat, eGraph, eObj]; exact rfl) (by simp [go_sem, reduceIte, reduceCtorEq, reduceEqDiff, reduceAdd, reduceLT, reduceLeDiff, reduceToNat, eGraph, eObj]) ?_
      refine CWops.call (graph_object up g x (prevId g.O i)) (by simp only [go_sem, reduceIte, reduceCtorEq, reduceEqDiff, reduceAdd, reduceLT, reduceLeDiff, reduceToNat, eGraph, eObj]) (by simp only [go_sem, reduceIte, reduceCtorEq, reduceEqDiff, reduceAdd, reduceLT, reduceLeDiff, reduceToNat, eGraph, eObj]; first | done | exact rfl) (by simp only [go_sem, reduceIte, reduceCtorEq, reduceEqDiff, reduceAdd, reduceLT, reduceLeDiff, reduceToNat, eGraph, eObj]) (fun rt37 hrt37 => ?_)
      subst hrt37; refine ⟨rfl, ?_⟩
      refine CWops.run htt 1 (by simp only [go_sem, reduceIte, reduceCtorEq, reduceEqDiff, reduceAdd, reduceLT, reduceLeDiff, reduceToNat, eGraph, eObj]; exact rfl) (by simp [go_sem, reduceIte, reduceCtorEq, reduceEqDiff, reduceAdd, reduceLT, reduceLeDiff, reduceToNat, eGraph, eObj]) ?_
      refine CWops.done ?_
      refine CW.cond (by simp only [go_sem, reduceIte, reduceCtorEq, reduceEqDiff, reduceAdd, reduceLT, reduceLeDiff, reduceToNat]; first | done | exact rfl) (fun ct38 => ?_) (fun ct38 => ?_)
      · simp only [Bool.not_eq_true'] at ct38
        refine CW.seq ?_
        refine CW.region (by kernel_rfl) (by kernel_rfl) ?_ -- r9
        refine CWops.run htt 1 (by simp only [go_sem, reduceIte, reduceCtorEq, reduceEqDiff, reduceAdd, reduceLT, reduceLeDiff, reduceToNat]; exact rfl) (by simp [go_sem, reduceIte, reduceCtorEq, reduceEqDiff, reduceAdd, reduceLT, reduceLeDiff, reduceToNat]) ?_
        refine CWops.done ?_
        refine CW.ret ?_
        refine retQ.ret (by simp only [f12, go_sem, reduceIte, reduceCtorEq, reduceEqDiff, reduceAdd, reduceLT, reduceLeDiff, reduceToNat]; exact rfl) (by simp only [go_sem, reduceIte, reduceCtorEq, reduceEqDiff, reduceAdd, reduceLT, reduceLeDiff, reduceToNat]; exact rfl) ?_ -- ret2
        refine ⟨_, ?_, rfl⟩
        have : gMay g = false := by unfold gMay; rw [allI_no hx (by rw [Nat.zero_add]; exact ct38)]; simp
        simp [leP, this]
      · simp only [Bool.not_eq_false'] at ct38
        refine CW.skip ?_
        refine CW.region (by kernel_rfl) (by kernel_rfl) ?_ -- r10
        refine CWops.run htt 3 (by simp only [go_sem, reduceIte, reduceCtorEq, reduceEqDiff, reduceAdd, reduceLT, reduceLeDiff, reduceToNat, eObj]; exact rfl) (by simp [go_sem, reduceIte, reduceCtorEq, reduceEqDiff, reduceAdd, reduceLT, reduceLeDiff, reduceToNat, eObj]) ?_
        refine CWops.done ?_
        refine CW.region (by kernel_rfl) (by kernel_rfl) ?_ -- r11
        refine CWops.run htt 2 (by simp only [go_sem, reduceIte, reduceCtorEq, reduceEqDiff, reduceAdd, reduceLT, reduceLeDiff, reduceToNat, wrap_succ (Nat.lt_of_lt_of_le hi hb)]; exact rfl) (by simp [go_sem, reduceIte, reduceCtorEq, reduceEqDiff, reduceAdd, reduceLT, reduceLeDiff, reduceToNat, wrap_succ (Nat.lt_of_lt_of_le hi hb)]) ?_
        refine CWops.done ?_
        refine ⟨i + 1, ?_, ?_, ?_⟩
        · refine Sh.wk0 ?_; simp [Wk, go_sem, reduceIte, reduceCtorEq, reduceEqDiff, reduceAdd, reduceLT, reduceLeDiff, reduceToNat, eGraph, prevId, hx]
        · exact ⟨hi, belowI_succ (p := fun j y => objectB g y (prevId g.O j)) h2 hx ct38⟩
        · simp only; omega
    · have hi : i = g.O.length := by simp at ct30; omega
      refine CW.exit ?_
      refine CW.seq ?_
      refine CW.region (by kernel_rfl) (by kernel_rfl) ?_ -- r12
      refine CWops.run htt 2 (by simp only [go_sem, reduceIte, reduceCtorEq, reduceEqDiff, reduceAdd, reduceLT, reduceLeDiff, reduceToNat]; exact rfl) (by simp [go_sem, reduceIte, reduceCtorEq, reduceEqDiff, reduceAdd, reduceLT, reduceLeDiff, reduceToNat]) ?_
      refine CWops.done ?_
      refine CW.seq ?_
      refine CW.region (by kernel_rfl) (by kernel_rfl) ?_ -- r13
      refine CWops.run htt 3 (by simp only [go_sem, reduceIte, reduceCtorEq, reduceEqDiff, reduceAdd, reduceLT, reduceLeDiff, reduceToNat, eGraph]; exact rfl) (by simp [go_sem, reduceIte, reduceCtorEq, reduceEqDiff, reduceAdd, reduceLT, reduceLeDiff, reduceToNat, eGraph]) ?_
      refine CWops.call (contains_int up g.Roots (fun r => !rootB g r) 41 [.fp [.fmap (tmap g.O)]] rfl (fun r _ => graph_May_1 up g r)) (by simp only [go_sem, reduceIte, reduceCtorEq, reduceEqDiff, reduceAdd, reduceLT, reduceLeDiff, reduceToNat, eGraph]) (by simp only [go_sem, reduceIte, reduceCtorEq, reduceEqDiff, reduceAdd, reduceLT, reduceLeDiff, reduceToNat, eGraph]; first | done | exact rfl) (by simp only [go_sem, reduceIte, reduceCtorEq, reduceEqDiff, reduceAdd, reduceLT, reduceLeDiff, reduceToNat, eGraph]) (fun rt46 hrt46 => ?_)
      subst hrt46; refine ⟨rfl, ?_⟩
      refine CWops.run htt 2 (by simp only [go_sem, reduceIte, reduceCtorEq, reduceEqDiff, reduceAdd, reduceLT, reduceLeDiff, reduceToNat, eGraph]; exact rfl) (by simp [go_sem, reduceIte, reduceCtorEq, reduceEqDiff, reduceAdd, reduceLT, reduceLeDiff, reduceToNat, eGraph]) ?_
      refine CWops.done ?_
      refine CW.ret ?_
      refine retQ.ret (by simp only [f12, go_sem, reduceIte, reduceCtorEq, reduceEqDiff, reduceAdd, reduceLT, reduceLeDiff, reduceToNat]; exact rfl) (by simp only [go_sem, reduceIte, reduceCtorEq, reduceEqDiff, reduceAdd, reduceLT, reduceLeDiff, reduceToNat]; exact rfl) ?_ -- ret3
      refine ⟨_, ?_, rfl⟩
      have : gMay g = !g.Roots.any (fun r => !rootB g r) := by unfold gMay; rw [ct23, belowI_all (p := fun i o => objectB g o (prevId g.O i)) (by rw [← hi]; exact h2)]; simp [List.any_eq_not_all_not]
      simp [leP, this]
end Go.Ab
namespace Go.Ab
open Go Go.Proofs.Try
open Nat (reduceEqDiff reduceAdd reduceLT reduceLeDiff reduceBEq reduceSub reduceMul)
open Int (reduceToNat)
set_option maxRecDepth 100000
set_option linter.unusedSimpArgs false
set_option linter.unusedVariables false
theorem clone_ValG (up : Bool) (xs : List GVal) (hx : xs.length * 32 ≤ MX) : GCall prog up 45 [.sl 3 (xs.map eVal)] 0 [] (fun r σ' => r = .ref 0 [] 0 ∧ σ'.n = 1 ∧ σ'.s = [(0, ⟨false, [.own 3 (xs.map eVal)]⟩)]) := by
  refine GCall.intro htt 0 func45 (by kernel_rfl) rfl (Nat.le_of_ble_eq_true rfl) (CW.told ?_)
  have hx1 : xs.length ≤ MX := by omega
  simp only [tmps0, Nat.reduceAdd]
  refine CW.seq ?_
  refine CW.region (by kernel_rfl) (by kernel_rfl) ?_ -- r0
  refine CWops.run htt 1 (by simp only [go_sem, reduceIte, reduceCtorEq, reduceEqDiff, reduceAdd, reduceLT, reduceLeDiff, reduceToNat, reduceMul]; exact rfl) (by simp [go_sem, reduceIte, reduceCtorEq, reduceEqDiff, reduceAdd, reduceLT, reduceLeDiff, reduceToNat, reduceMul]) ?_
  refine CWops.done ?_
  refine CW.seq ?_
  refine CW.seq ?_
  refine CW.region (by kernel_rfl) (by kernel_rfl) ?_ -- r1
  refine CWops.run htt 1 (by simp only [go_sem, reduceIte, reduceCtorEq, reduceEqDiff, reduceAdd, reduceLT, reduceLeDiff, reduceToNat, reduceMul]; exact rfl) (by simp [go_sem, reduceIte, reduceCtorEq, reduceEqDiff, reduceAdd, reduceLT, reduceLeDiff, reduceToNat, reduceMul]) ?_
  refine CWops.nilcmp (n := 3) (l := xs.map eVal) htt (by simp only [go_sem, reduceIte, reduceCtorEq, reduceEqDiff, reduceAdd, reduceLT, reduceLeDiff, reduceToNat, reduceMul]) (by simp only [go_sem, reduceIte, reduceCtorEq, reduceEqDiff, reduceAdd, reduceLT, reduceLeDiff, reduceToNat, reduceMul]) (by simp only [go_sem, reduceIte, reduceCtorEq, reduceEqDiff, reduceAdd, reduceLT, reduceLeDiff, reduceToNat, reduceMul]) tt_38 rfl (fun b hb => ⟨_, rfl, ?_⟩)
  refine CWops.done ?_
  refine CW.cond (by simp only [go_sem, reduceIte, reduceCtorEq, reduceEqDiff, reduceAdd, reduceLT, reduceLeDiff, reduceToNat, reduceMul]; first | done | exact rfl) (fun ct4 => ?_) (fun ct4 => ?_)
  · refine CW.seq ?_
    refine CW.region (by kernel_rfl) (by kernel_rfl) ?_ -- r2
    refine CWops.run htt 1 (by simp only [go_sem, reduceIte, reduceCtorEq, reduceEqDiff, reduceAdd, reduceLT, reduceLeDiff, reduceToNat, reduceMul]; exact rfl) (by simp [go_sem, reduceIte, reduceCtorEq, reduceEqDiff, reduceAdd, reduceLT, reduceLeDiff, reduceToNat, reduceMul]) ?_
    refine CWops.done ?_
    refine CW.ret ?_
    refine ⟨⟨1, [(2, .ref 0 [] 0)], [(0, ⟨false, [.own 3 (xs.map eVal)]⟩)]⟩, ?_, .inr rfl, by simp [ptrOK, go_sem, reduceIte, reduceCtorEq, reduceEqDiff, reduceAdd, reduceLT, reduceLeDiff, reduceToNat, reduceMul], _, by simp only [f45, go_sem, reduceIte, reduceCtorEq, reduceEqDiff, reduceAdd, reduceLT, reduceLeDiff, reduceToNat, reduceMul]; exact rfl, ?_⟩ -- ret1
    · have h0 := hb ct4
      refine Sh.trans (Sh.nilRoot 2 3 (by simp only [go_sem, reduceIte, reduceCtorEq, reduceEqDiff, reduceAdd, reduceLT, reduceLeDiff, reduceToNat, reduceMul]) rfl) (Sh.wk0 ?_)
      simp [Wk, go_sem, reduceIte, reduceCtorEq, reduceEqDiff, reduceAdd, reduceLT, reduceLeDiff, reduceToNat, reduceMul, h0]
    · exact ⟨rfl, rfl, rfl⟩
  · refine CW.skip ?_
    refine CW.seq ?_
    refine CW.region (by kernel_rfl) (by kernel_rfl) ?_ -- r3
    refine CWops.run htt 4 (by simp only [go_sem, reduceIte, reduceCtorEq, reduceEqDiff, reduceAdd, reduceLT, reduceLeDiff, reduceToNat, reduceMul]; exact rfl) (by refine ⟨?_, ?_, ?_⟩ <;> first | (simp [eVal, AV.cell]; done) | (simp; omega)) ?_
    refine CWops.done ?_
    refine CW.ret ?_
    refine ⟨⟨1, [(2, .ref 0 [] 0)], [(0, ⟨false, [.own 3 (xs.map eVal)]⟩)]⟩, ?_, .inr rfl, by simp [ptrOK, go_sem, reduceIte, reduceCtorEq, reduceEqDiff, reduceAdd, reduceLT, reduceLeDiff, reduceToNat, reduceMul], _, by simp only [f45, go_sem, reduceIte, reduceCtorEq, reduceEqDiff, reduceAdd, reduceLT, reduceLeDiff, reduceToNat, reduceMul]; exact rfl, ?_⟩ -- ret2
    · refine Sh.wk (fun x => x + 1) ?_
      simp [Wk, go_sem, reduceIte, reduceCtorEq, reduceEqDiff, reduceAdd, reduceLT, reduceLeDiff, reduceToNat, reduceMul]
    · exact ⟨rfl, rfl, rfl⟩
theorem clone_TypeG (up : Bool) (xs : List GType) (hx : xs.length * 40 ≤ MX) : GCall prog up 112 [.sl 2 (xs.map eType)] 0 [] (fun r σ' => r = .ref 0 [] 0 ∧ σ'.n = 1 ∧ σ'.s = [(0, ⟨false, [.own 2 (xs.map eType)]⟩)]) := by
  refine GCall.intro htt 0 func112 (by kernel_rfl) rfl (Nat.le_of_ble_eq_true rfl) (CW.told ?_)
  have hx1 : xs.length ≤ MX := by omega
  simp only [tmps0, Nat.reduceAdd]
  refine CW.seq ?_
  refine CW.region (by kernel_rfl) (by kernel_rfl) ?_ -- r0
  refine CWops.run htt 1 (by simp only [go_sem, reduceIte, reduceCtorEq, reduceEqDiff, reduceAdd, reduceLT, reduceLeDiff, reduceToNat, reduceMul]; exact rfl) (by simp [go_sem, reduceIte, reduceCtorEq, reduceEqDiff, reduceAdd, reduceLT, reduceLeDiff, reduceToNat, reduceMul]) ?_
  refine CWops.done ?_
  refine CW.seq ?_
  refine CW.seq ?_
  refine CW.region (by kernel_rfl) (by kernel_rfl) ?_ -- r1
  refine CWops.run htt 1 (by simp only [go_sem, reduceIte, reduceCtorEq, reduceEqDiff, reduceAdd, reduceLT, reduceLeDiff, reduceToNat, reduceMul]; exact rfl) (by simp [go_sem, reduceIte, reduceCtorEq, reduceEqDiff, reduceAdd, reduceLT, reduceLeDiff, reduceToNat, reduceMul]) ?_
  refine CWops.nilcmp (n := 2) (l := xs.map eType) htt (by simp only [go_sem, reduceIte, reduceCtorEq, reduceEqDiff, reduceAdd, reduceLT, reduceLeDiff, reduceToNat, reduceMul]) (by simp only [go_sem, reduceIte, reduceCtorEq, reduceEqDiff, reduceAdd, reduceLT, reduceLeDiff, reduceToNat, reduceMul]) (by simp only [go_sem, reduceIte, reduceCtorEq, reduceEqDiff, reduceAdd, reduceLT, reduceLeDiff, reduceToNat, reduceMul]) tt_22 rfl (fun b hb => ⟨_, rfl, ?_⟩)
  refine CWops.done ?_
  refine CW.cond (by simp only [go_sem, reduceIte, reduceCtorEq, reduceEqDiff, reduceAdd, reduceLT, reduceLeDiff, reduceToNat, reduceMul]; first | done | exact rfl) (fun ct4 => ?_) (fun ct4 => ?_)
  · refine CW.seq ?_
    refine CW.region (by kernel_rfl) (by kernel_rfl) ?_ -- r2
    refine CWops.run htt 1 (by simp only [go_sem, reduceIte, reduceCtorEq, reduceEqDiff, reduceAdd, reduceLT, reduceLeDiff, reduceToNat, reduceMul]; exact rfl) (by simp [go_sem, reduceIte, reduceCtorEq, reduceEqDiff, reduceAdd, reduceLT, reduceLeDiff, reduceToNat, reduceMul]) ?_
    refine CWops.done ?_
    refine CW.ret ?_
    refine ⟨⟨1, [(2, .ref 0 [] 0)], [(0, ⟨false, [.own 2 (xs.map eType)]⟩)]⟩, ?_, .inr rfl, by simp [ptrOK, go_sem, reduceIte, reduceCtorEq, reduceEqDiff, reduceAdd, reduceLT, reduceLeDiff, reduceToNat, reduceMul], _, by simp only [f112, go_sem, reduceIte, reduceCtorEq, reduceEqDiff, reduceAdd, reduceLT, reduceLeDiff, reduceToNat, reduceMul]; exact rfl, ?_⟩ -- ret1
    · have h0 := hb ct4
      refine Sh.trans (Sh.nilRoot 2 2 (by simp only [go_sem, reduceIte, reduceCtorEq, reduceEqDiff, reduceAdd, reduceLT, reduceLeDiff, reduceToNat, reduceMul]) rfl) (Sh.wk0 ?_)
      simp [Wk, go_sem, reduceIte, reduceCtorEq, reduceEqDiff, reduceAdd, reduceLT, reduceLeDiff, reduceToNat, reduceMul, h0]
    · exact ⟨rfl, rfl, rfl⟩
  · refine CW.skip ?_
    refine CW.seq ?_
    refine CW.region (by kernel_rfl) (by kernel_rfl) ?_ -- r3
    refine CWops.run htt 4 (by simp only [go_sem, reduceIte, reduceCtorEq, reduceEqDiff, reduceAdd, reduceLT, reduceLeDiff, reduceToNat, reduceMul]; exact rfl) (by refine ⟨?_, ?_, ?_⟩ <;> first | (simp [eType, AV.cell]; done) | (simp; omega)) ?_
    refine CWops.done ?_
    refine CW.ret ?_
    refine ⟨⟨1, [(2, .ref 0 [] 0)], [(0, ⟨false, [.own 2 (xs.map eType)]⟩)]⟩, ?_, .inr rfl, by simp [ptrOK, go_sem, reduceIte, reduceCtorEq, reduceEqDiff, reduceAdd, reduceLT, reduceLeDiff, reduceToNat, reduceMul], _, by simp only [f112, go_sem, reduceIte, reduceCtorEq, reduceEqDiff, reduceAdd, reduceLT, reduceLeDiff, reduceToNat, reduceMul]; exact rfl, ?_⟩ -- ret2
    · refine Sh.wk (fun x => x + 1) ?_
      simp [Wk, go_sem, reduceIte, reduceCtorEq, reduceEqDiff, reduceAdd, reduceLT, reduceLeDiff, reduceToNat, reduceMul]
    · exact ⟨rfl, rfl, rfl⟩
end Go.Ab
namespace Go.Ab
open Go Go.Proofs.Try
open Nat (reduceEqDiff reduceAdd reduceLT reduceLeDiff reduceBEq reduceSub reduceMul)
open Int (reduceToNat)
set_option maxRecDepth 100000
set_option linter.unusedSimpArgs false
set_option linter.unusedVariables false
theorem one_MX (b : UInt8) : (Array.size #[b] ≤ MX) = True := eq_true (by show 1 ≤ MX; unfold MX; decide)
theorem law06_Few (up : Bool) (s : List GType) (k : Int) : PCall prog up 16 [.agg (eSchema s), .int .i64 k] (· = .bool (few06 s k)) := by
  refine PCall.intro htt func16 (by kernel_rfl) rfl (Nat.le_of_ble_eq_true rfl) fun hl => ?_
  have hL := (hl (.agg (eSchema s)) (by simp)).agg
  have hb := (hL (.sl 2 (s.map eType)) (by simp [eSchema])).sl.1
  simp only [List.length_map] at hb
  simp only [tmps0, Nat.reduceAdd]
  refine CW.seq ?_
  refine CW.region (by kernel_rfl) (by kernel_rfl) ?_ -- r0
  refine CWops.run htt 2 (by simp only [go_sem, reduceIte, reduceCtorEq, reduceEqDiff, reduceAdd, reduceLT, reduceLeDiff, reduceToNat, eSchema]; exact rfl) (by simp [go_sem, reduceIte, reduceCtorEq, reduceEqDiff, reduceAdd, reduceLT, reduceLeDiff, reduceToNat, eSchema]) ?_
  refine CWops.done ?_
  refine CW.seq ?_
  refine CW.seq ?_
  refine CW.region (by kernel_rfl) (by kernel_rfl) ?_ -- r1
  refine CWops.run htt 1 (by simp only [go_sem, reduceIte, reduceCtorEq, reduceEqDiff, reduceAdd, reduceLT, reduceLeDiff, reduceToNat]; exact rfl) (by simp [go_sem, reduceIte, reduceCtorEq, reduceEqDiff, reduceAdd, reduceLT, reduceLeDiff, reduceToNat]) ?_
  refine CWops.done ?_
  refine CW.block ?_
  refine CW.loop (S := Nat) (fun i => ⟨1, [(1, .int .i64 k), (2, .lv 0 [] 0), (5, .int .i64 i)], [(0, ⟨true, eSchema s⟩)]⟩) (fun i => i ≤ s.length ∧ ∀ (j : Nat) (y), j < i → s[j]? = some y → decide ((y.F.length : Int) ≤ k) = true) (fun i => s.length - i) (0) ?_ ⟨Nat.zero_le _, fun j y hj => by omega⟩ (fun i ⟨h1, h2⟩ => ?_)
  · refine Sh.wk0 ?_; simp [Wk, go_sem, reduceIte, reduceCtorEq, reduceEqDiff, reduceAdd, reduceLT, reduceLeDiff, reduceToNat, eSchema]
  refine CW.seq ?_
  refine CW.seq ?_
  refine CW.region (by kernel_rfl) (by kernel_rfl) ?_ -- r2
  refine CWops.run htt 5 (by simp only [go_sem, reduceIte, reduceCtorEq, reduceEqDiff, reduceAdd, reduceLT, reduceLeDiff, reduceToNat, eSchema]; exact rfl) (by simp [go_sem, reduceIte, reduceCtorEq, reduceEqDiff, reduceAdd, reduceLT, reduceLeDiff, reduceToNat, eSchema]) ?_
  refine CWops.done ?_
  refine CW.cond (by simp only [go_sem, reduceIte, reduceCtorEq, reduceEqDiff, reduceAdd, reduceLT, reduceLeDiff, reduceToNat]; first | done | exact rfl) (fun ct10 => ?_) (fun ct10 => ?_)
  · have hi : i < s.length := by simpa using ct10
    obtain ⟨x, hx⟩ : ∃ x, s[i]? = some x := ⟨s[i], List.getElem?_eq_getElem hi⟩
    refine CW.skip ?_
    refine CW.seq ?_
    refine CW.block ?_
    refine CW.seq ?_
    refine CW.region (by kernel_rfl) (by kernel_rfl) ?_ -- r4
    refine CWops.run htt 9 (by simp only [go_sem, reduceIte, reduceCtorEq, reduceEqDiff, reduceAdd, reduceLT, reduceLeDiff, reduceToNat, eSchema, hx, eType]; exact rfl) (by simp [go_sem, reduceIte, reduceCtorEq, reduceEqDiff, reduceAdd, reduceLT, reduceLeDiff, reduceToNat, eSchema, hx, eType]) ?_
    refine CWops.done ?_
    refine CW.cond (by simp only [go_sem, reduceIte, reduceCtorEq, reduceEqDiff, reduceAdd, reduceLT, reduceLeDiff, reduceToNat]; first | done | exact rfl) (fun ct21 => ?_) (fun ct21 => ?_)
    · have hp : decide ((x.F.length : Int) ≤ k) = false := by simp at ct21 ⊢; omega
      refine CW.seq ?_
      refine CW.region (by kernel_rfl) (by kernel_rfl) ?_ -- r5
      refine CWops.run htt 1 (by simp only [go_sem, reduceIte, reduceCtorEq, reduceEqDiff, reduceAdd, reduceLT, reduceLeDiff, reduceToNat]; exact rfl) (by simp [go_sem, reduceIte, reduceCtorEq, reduceEqDiff, reduceAdd, reduceLT, reduceLeDiff, reduceToNat]) ?_
      refine CWops.done ?_
      refine CW.ret ?_
      refine retQ.ret (by simp only [f16, go_sem, reduceIte, reduceCtorEq, reduceEqDiff, reduceAdd, reduceLT, reduceLeDiff, reduceToNat]; exact rfl) (by simp only [go_sem, reduceIte, reduceCtorEq, reduceEqDiff, reduceAdd, reduceLT, reduceLeDiff, reduceToNat]; exact rfl) ?_ -- ret1
      refine ⟨_, ?_, rfl⟩
      have : few06 s k = false := by unfold few06; rw [allI_no hx hp]; rfl
      simp [leP, this]
    · have hp : decide ((x.F.length : Int) ≤ k) = true := by simp at ct21 ⊢; omega
      refine CW.skip ?_
      refine CW.region (by kernel_rfl) (by kernel_rfl) ?_ -- r3
      refine CWops.run htt 3 (by simp only [go_sem, reduceIte, reduceCtorEq, reduceEqDiff, reduceAdd, reduceLT, reduceLeDiff, reduceToNat, wrap_succ (Nat.lt_of_lt_of_le hi hb)]; exact rfl) (by simp [go_sem, reduceIte, reduceCtorEq, reduceEqDiff, reduceAdd, reduceLT, reduceLeDiff, reduceToNat, wrap_succ (Nat.lt_of_lt_of_le hi hb)]) ?_
      refine CWops.done ?_
      refine ⟨i + 1, ?_, ?_, ?_⟩
      · refine Sh.wk0 ?_; simp [Wk, go_sem, reduceIte, reduceCtorEq, reduceEqDiff, reduceAdd, reduceLT, reduceLeDiff, reduceToNat, eSchema]
      · exact ⟨hi, belowI_succ (p := fun _ y => decide ((y.F.length : Int) ≤ k)) h2 hx hp⟩
      · simp only; omega
  · have hi : i = s.length := by simp at ct10; omega
    refine CW.exit ?_
    refine CW.seq ?_
    refine CW.region (by kernel_rfl) (by kernel_rfl) ?_ -- r6
    refine CWops.run htt 6 (by simp only [go_sem, reduceIte, reduceCtorEq, reduceEqDiff, reduceAdd, reduceLT, reduceLeDiff, reduceToNat, eSchema]; exact rfl) (by simp [go_sem, reduceIte, reduceCtorEq, reduceEqDiff, reduceAdd, reduceLT, reduceLeDiff, reduceToNat, eSchema]) ?_
    refine CWops.done ?_
    refine CW.ret ?_
    refine retQ.ret (by simp only [f16, go_sem, reduceIte, reduceCtorEq, reduceEqDiff, reduceAdd, reduceLT, reduceLeDiff, reduceToNat]; exact rfl) (by simp only [go_sem, reduceIte, reduceCtorEq, reduceEqDiff, reduceAdd, reduceLT, reduceLeDiff, reduceToNat]; exact rfl) ?_ -- ret2
    refine ⟨_, ?_, rfl⟩
    have : few06 s k = decide ((s.length : Int) ≤ k) := by unfold few06; rw [belowI_all (p := fun _ (y : GType) => decide ((y.F.length : Int) ≤ k)) (by rw [← hi]; exact h2)]; simp
    simp [leP, this]
theorem law08_Few (up : Bool) (g : Graph) : PCall prog up 11 [.agg (eGraph g)] (· = .bool (fewG g)) := by
  refine PCall.intro htt func11 (by kernel_rfl) rfl (Nat.le_of_ble_eq_true rfl) fun hl => ?_
  have hL := (hl (.agg (eGraph g)) (by simp)).agg
  have hb := (hL (.sl 3 (g.O.map eObj)) (by simp [eGraph])).sl.1
  simp only [List.length_map] at hb
  simp only [tmps0, Nat.reduceAdd]
  refine CW.seq ?_
  refine CW.region (by kernel_rfl) (by kernel_rfl) ?_ -- r0
  refine CWops.run htt 2 (by simp only [go_sem, reduceIte, reduceCtorEq, reduceEqDiff, reduceAdd, reduceLT, reduceLeDiff, reduceToNat, eGraph]; exact rfl) (by simp [go_sem, reduceIte, reduceCtorEq, reduceEqDiff, reduceAdd, reduceLT, reduceLeDiff, reduceToNat, eGraph]) ?_
  refine CWops.done ?_
  refine CW.seq ?_
  refine CW.region (by kernel_rfl) (by kernel_rfl) ?_ -- r1
  refine CWops.run htt 2 (by simp only [go_sem, reduceIte, reduceCtorEq, reduceEqDiff, reduceAdd, reduceLT, reduceLeDiff, reduceToNat, eGraph, eSchema]; exact rfl) (by simp [go_sem, reduceIte, reduceCtorEq, reduceEqDiff, reduceAdd, reduceLT, reduceLeDiff, reduceToNat, eGraph, eSchema]) ?_
  refine CWops.call (law06_Few up g.S 10) (by simp only [go_sem, reduceIte, reduceCtorEq, reduceEqDiff, reduceAdd, reduceLT, reduceLeDiff, reduceToNat, eGraph, eSchema]) (by simp only [go_sem, reduceIte, reduceCtorEq, reduceEqDiff, reduceAdd, reduceLT, reduceLeDiff, reduceToNat, eGraph, eSchema]; first | done | exact rfl) (by simp only [go_sem, reduceIte, reduceCtorEq, reduceEqDiff, reduceAdd, reduceLT, reduceLeDiff, reduceToNat, eGraph, eSchema]) (fun rt7 hrt7 => ?_)
  subst hrt7; refine ⟨rfl, ?_⟩
  refine CWops.run htt 1 (by simp only [go_sem, reduceIte, reduceCtorEq, reduceEqDiff, reduceAdd, reduceLT, reduceLeDiff, reduceToNat, eGraph, eSchema]; exact rfl) (by simp [go_sem, reduceIte, reduceCtorEq, reduceEqDiff, reduceAdd, reduceLT, reduceLeDiff, reduceToNat, eGraph, eSchema]) ?_
  refine CWops.done ?_
  refine CW.seq ?_
  refine CW.cut ⟨1, [(1, .lv 0 [] 0), (21, .bool (!((few06 g.S 10 && decide (g.O.length ≤ 12)) && decide (g.Roots.length ≤ 10))))], [(0, ⟨true, eGraph g⟩)]⟩ ?_ ?_
  · refine CW.region (by kernel_rfl) (by kernel_rfl) ?_ -- r2
    refine CWops.run htt 3 (by simp only [go_sem, reduceIte, reduceCtorEq, reduceEqDiff, reduceAdd, reduceLT, reduceLeDiff, reduceToNat, eGraph]; exact rfl) (by simp [go_sem, reduceIte, reduceCtorEq, reduceEqDiff, reduceAdd, reduceLT, reduceLeDiff, reduceToNat, eGraph]) ?_
    all_goals (first | refine CWops.guard 10 (by simp only [go_sem, reduceIte, reduceCtorEq, reduceEqDiff, reduceAdd, reduceLT, reduceLeDiff, reduceToNat, eGraph]; exact rfl) (fun g10 => ?_) (fun g10 => ?_) | skip)
    all_goals (refine CWops.run htt 6 (by simp only [go_sem, reduceIte, reduceCtorEq, reduceEqDiff, reduceAdd, reduceLT, reduceLeDiff, reduceToNat, eGraph]; exact rfl) (by simp [go_sem, reduceIte, reduceCtorEq, reduceEqDiff, reduceAdd, reduceLT, reduceLeDiff, reduceToNat, eGraph]) ?_)
    all_goals (first | refine CWops.guard 16 (by simp only [go_sem, reduceIte, reduceCtorEq, reduceEqDiff, reduceAdd, reduceLT, reduceLeDiff, reduceToNat, eGraph]; exact rfl) (fun g16 => ?_) (fun g16 => ?_) | skip)
    all_goals (refine CWops.run htt 5 (by simp only [go_sem, reduceIte, reduceCtorEq, reduceEqDiff, reduceAdd, reduceLT, reduceLeDiff, reduceToNat, eGraph]; exact rfl) (by simp [go_sem, reduceIte, reduceCtorEq, reduceEqDiff, reduceAdd, reduceLT, reduceLeDiff, reduceToNat, eGraph]) ?_)
    all_goals (refine CWops.done ?_)
    all_goals (
      refine ⟨rfl, Sh.wk0 ?_⟩
      simp_all [Wk, go_sem, reduceIte, reduceCtorEq, reduceEqDiff, reduceAdd, reduceLT, reduceLeDiff, reduceToNat, eGraph] <;> first | done | omega | rfl | (rw [Bool.eq_iff_iff]; done) | (rw [Bool.eq_iff_iff]; simp; done) | (rw [Bool.eq_iff_iff]; simp; omega))
  refine CW.cond (by simp only [go_sem, reduceIte, reduceCtorEq, reduceEqDiff, reduceAdd, reduceLT, reduceLeDiff, reduceToNat]; first | done | exact rfl) (fun ct21 => ?_) (fun ct21 => ?_)
  · simp only [Bool.not_eq_true'] at ct21
    refine CW.seq ?_
    refine CW.region (by kernel_rfl) (by kernel_rfl) ?_ -- r3
    refine CWops.run htt 1 (by simp only [go_sem, reduceIte, reduceCtorEq, reduceEqDiff, reduceAdd, reduceLT, reduceLeDiff, reduceToNat]; exact rfl) (by simp [go_sem, reduceIte, reduceCtorEq, reduceEqDiff, reduceAdd, reduceLT, reduceLeDiff, reduceToNat]) ?_
    refine CWops.done ?_
    refine CW.ret ?_
    refine retQ.ret (by simp only [f11, go_sem, reduceIte, reduceCtorEq, reduceEqDiff, reduceAdd, reduceLT, reduceLeDiff, reduceToNat]; exact rfl) (by simp only [go_sem, reduceIte, reduceCtorEq, reduceEqDiff, reduceAdd, reduceLT, reduceLeDiff, reduceToNat]; exact rfl) ?_ -- ret1
    refine ⟨_, ?_, rfl⟩
    have : fewG g = false := by unfold fewG; rw [ct21]; rfl
    simp [leP, this]
  · simp only [Bool.not_eq_false'] at ct21
    refine CW.skip ?_
    refine CW.seq ?_
    refine CW.seq ?_
    refine CW.region (by kernel_rfl) (by kernel_rfl) ?_ -- r4
    refine CWops.run htt 1 (by simp only [go_sem, reduceIte, reduceCtorEq, reduceEqDiff, reduceAdd, reduceLT, reduceLeDiff, reduceToNat]; exact rfl) (by simp [go_sem, reduceIte, reduceCtorEq, reduceEqDiff, reduceAdd, reduceLT, reduceLeDiff, reduceToNat]) ?_
    refine CWops.done ?_
    refine CW.block ?_
    refine CW.loop (S := Nat) (fun i => ⟨1, [(1, .lv 0 [] 0), (4, .int .i64 i)], [(0, ⟨true, eGraph g⟩)]⟩) (fun i => i ≤ g.O.length ∧ ∀ (j : Nat) (y), j < i → g.O[j]? = some y → decide (y.F.length ≤ 10) = true) (fun i => g.O.length - i) (0) ?_ ⟨Nat.zero_le _, fun j y hj => by omega⟩ (fun i ⟨h1, h2⟩ => ?_)
    · refine Sh.wk0 ?_; simp [Wk, go_sem, reduceIte, reduceCtorEq, reduceEqDiff, reduceAdd, reduceLT, reduceLeDiff, reduceToNat, eGraph]
    refine CW.seq ?_
    refine CW.seq ?_
    refine CW.region (by kernel_rfl) (by kernel_rfl) ?_ -- r5
    refine CWops.run htt 5 (by simp only [go_sem, reduceIte, reduceCtorEq, reduceEqDiff, reduceAdd, reduceLT, reduceLeDiff, reduceToNat, eGraph]; exact rfl) (by simp [go_sem, reduceIte, reduceCtorEq, reduceEqDiff, reduceAdd, reduceLT, reduceLeDiff, reduceToNat, eGraph]) ?_
    refine CWops.done ?_
    refine CW.cond (by simp only [go_sem, reduceIte, reduceCtorEq, reduceEqDiff, reduceAdd, reduceLT, reduceLeDiff, reduceToNat]; first | done | exact rfl) (fun ct26 => ?_) (fun ct26 => ?_)
    · have hi : i < g.O.length := by simpa using ct26
      obtain ⟨x, hx⟩ : ∃ x, g.O[i]? = some x := ⟨g.O[i], List.getElem?_eq_getElem hi⟩
      refine CW.skip ?_
      refine CW.seq ?_
      refine CW.block ?_
      refine CW.seq ?_
      refine CW.region (by kernel_rfl) (by kernel_rfl) ?_ -- r7
      refine CWops.run htt 8 (by simp only [go_sem, reduceIte, reduceCtorEq, reduceEqDiff, reduceAdd, reduceLT, reduceLeDiff, reduceToNat, eGraph, hx, eObj]; exact rfl) (by simp [go_sem, reduceIte, reduceCtorEq, reduceEqDiff, reduceAdd, reduceLT, reduceLeDiff, reduceToNat, eGraph, hx, eObj]) ?_
      refine CWops.done ?_
      refine CW.cond (by simp only [go_sem, reduceIte, reduceCtorEq, reduceEqDiff, reduceAdd, reduceLT, reduceLeDiff, reduceToNat]; first | done | exact rfl) (fun ct36 => ?_) (fun ct36 => ?_)
      · have hp : decide (x.F.length ≤ 10) = false := by simp at ct36 ⊢; omega
        refine CW.seq ?_
        refine CW.region (by kernel_rfl) (by kernel_rfl) ?_ -- r8
        refine CWops.run htt 1 (by simp only [go_sem, reduceIte, reduceCtorEq, reduceEqDiff, reduceAdd, reduceLT, reduceLeDiff, reduceToNat]; exact rfl) (by simp [go_sem, reduceIte, reduceCtorEq, reduceEqDiff, reduceAdd, reduceLT, reduceLeDiff, reduceToNat]) ?_
        refine CWops.done ?_
        refine CW.ret ?_
        refine retQ.ret (by simp only [f11, go_sem, reduceIte, reduceCtorEq, reduceEqDiff, reduceAdd, reduceLT, reduceLeDiff, reduceToNat]; exact rfl) (by simp only [go_sem, reduceIte, reduceCtorEq, reduceEqDiff, reduceAdd, reduceLT, reduceLeDiff, reduceToNat]; exact rfl) ?_ -- ret2
        refine ⟨_, ?_, rfl⟩
        have : fewG g = false := by unfold fewG; rw [allI_no hx hp]; simp
        simp [leP, this]
      · have hp : decide (x.F.length ≤ 10) = true := by simp at ct36 ⊢; omega
        refine CW.skip ?_
        refine CW.region (by kernel_rfl) (by kernel_rfl) ?_ -- r6
        refine CWops.run htt 3 (by simp only [go_sem, reduceIte, reduceCtorEq, reduceEqDiff, reduceAdd, reduceLT, reduceLeDiff, reduceToNat, wrap_succ (Nat.lt_of_lt_of_le hi hb)]; exact rfl) (by simp [go_sem, reduceIte, reduceCtorEq, reduceEqDiff, reduceAdd, reduceLT, reduceLeDiff, reduceToNat, wrap_succ (Nat.lt_of_lt_of_le hi hb)]) ?_
        refine CWops.done ?_
        refine ⟨i + 1, ?_, ?_, ?_⟩
        · refine Sh.wk0 ?_; simp [Wk, go_sem, reduceIte, reduceCtorEq, reduceEqDiff, reduceAdd, reduceLT, reduceLeDiff, reduceToNat, eGraph]
        · exact ⟨hi, belowI_succ (p := fun _ y => decide (y.F.length ≤ 10)) h2 hx hp⟩
        · simp only; omega
    · have hi : i = g.O.length := by simp at ct26; omega
      refine CW.exit ?_
      refine CW.seq ?_
      refine CW.region (by kernel_rfl) (by kernel_rfl) ?_ -- r9
      refine CWops.run htt 1 (by simp only [go_sem, reduceIte, reduceCtorEq, reduceEqDiff, reduceAdd, reduceLT, reduceLeDiff, reduceToNat]; exact rfl) (by simp [go_sem, reduceIte, reduceCtorEq, reduceEqDiff, reduceAdd, reduceLT, reduceLeDiff, reduceToNat]) ?_
      refine CWops.done ?_
      refine CW.ret ?_
      refine retQ.ret (by simp only [f11, go_sem, reduceIte, reduceCtorEq, reduceEqDiff, reduceAdd, reduceLT, reduceLeDiff, reduceToNat]; exact rfl) (by simp only [go_sem, reduceIte, reduceCtorEq, reduceEqDiff, reduceAdd, reduceLT, reduceLeDiff, reduceToNat]; exact rfl) ?_ -- ret3
      refine ⟨_, ?_, rfl⟩
      have : fewG g = true := by unfold fewG; rw [ct21, belowI_all (p := fun _ (y : GObj) => decide (y.F.length ≤ 10)) (by rw [← hi]; exact h2)]; rfl
      simp [leP, this]
end Go.Ab
namespace Go.Ab
open Go Go.Proofs.Try
open Nat (reduceEqDiff reduceAdd reduceLT reduceLeDiff reduceBEq reduceSub reduceMul)
open Int (reduceToNat)
set_option maxRecDepth 100000
set_option linter.unusedSimpArgs false
set_option linter.unusedVariables false
@[go_sem] theorem tt_69 : tiOf prog 69 = some ⟨.slice 112, 1, 24, [.nilsl], false⟩ := by kernel_rfl
@[go_sem] theorem tt_71 : tiOf prog 71 = some ⟨.struct [(26, 0), (26, 1), (69, 2), (26, 3)], 4, 96, [.nilsl, .nilsl, .nilsl, .nilsl], true⟩ := by kernel_rfl
@[go_sem] theorem tt_35 : tiOf prog 35 = some ⟨.int IntKind.i64, 1, 8, [.int .i64 0], false⟩ := by kernel_rfl
@[go_sem] theorem tt_112 : tiOf prog 112 = some ⟨.array 2 3, 2, 16, [.int .i64 0, .int .i64 0], false⟩ := by kernel_rfl
end Go.Ab
namespace Go.Ab
open Go Go.Proofs.Try
open Nat (reduceEqDiff reduceAdd reduceLT reduceLeDiff reduceBEq reduceSub reduceMul)
open Int (reduceToNat)
set_option maxRecDepth 100000
set_option linter.unusedSimpArgs false
set_option linter.unusedVariables false
theorem value_Zero (up : Bool) (f : GField) : PCall prog up 15 [.agg (eField f)] (· = .agg (eVal (zeroV f))) := by
  refine PCall.intro htt func15 (by kernel_rfl) rfl (Nat.le_of_ble_eq_true rfl) fun hl => ?_

  simp only [tmps0, Nat.reduceAdd]
  refine CW.seq ?_
  refine CW.region (by kernel_rfl) (by kernel_rfl) ?_ -- r0
  refine CWops.run htt 2 (by simp only [go_sem, reduceIte, reduceCtorEq, reduceEqDiff, reduceAdd, reduceLT, reduceLeDiff, reduceToNat, eField]; exact rfl) (by simp [go_sem, reduceIte, reduceCtorEq, reduceEqDiff, reduceAdd, reduceLT, reduceLeDiff, reduceToNat, eField]) ?_
  refine CWops.done ?_
  refine CW.seq ?_
  refine CW.seq ?_
  refine CW.region (by kernel_rfl) (by kernel_rfl) ?_ -- r1
  refine CWops.run htt 3 (by simp only [go_sem, reduceIte, reduceCtorEq, reduceEqDiff, reduceAdd, reduceLT, reduceLeDiff, reduceToNat, eField]; exact rfl) (by simp [go_sem, reduceIte, reduceCtorEq, reduceEqDiff, reduceAdd, reduceLT, reduceLeDiff, reduceToNat, eField]) ?_
  refine CWops.done ?_
  refine CW.cond (by simp only [go_sem, reduceIte, reduceCtorEq, reduceEqDiff, reduceAdd, reduceLT, reduceLeDiff, reduceToNat]; first | done | exact rfl) (fun ct5 => ?_) (fun ct5 => ?_)
  · have hk : f.Kind = 5 := by simpa using ct5
    refine CW.seq ?_
    refine CW.region (by kernel_rfl) (by kernel_rfl) ?_ -- r2
    refine CWops.run htt 2 (by simp only [go_sem, reduceIte, reduceCtorEq, reduceEqDiff, reduceAdd, reduceLT, reduceLeDiff, reduceToNat]; exact rfl) (by simp [go_sem, reduceIte, reduceCtorEq, reduceEqDiff, reduceAdd, reduceLT, reduceLeDiff, reduceToNat]) ?_
    refine CWops.done ?_
    refine CW.ret ?_
    refine retQ.ret (by simp only [f15, go_sem, reduceIte, reduceCtorEq, reduceEqDiff, reduceAdd, reduceLT, reduceLeDiff, reduceToNat]; exact rfl) (by simp only [go_sem, reduceIte, reduceCtorEq, reduceEqDiff, reduceAdd, reduceLT, reduceLeDiff, reduceToNat]; exact rfl) ?_ -- ret1
    refine ⟨_, ?_, rfl⟩
    simp [leP, leL, zeroV, hk, eVal]
  · have hk : ¬ f.Kind = 5 := by simpa using ct5
    refine CW.skip ?_
    refine CW.seq ?_
    refine CW.region (by kernel_rfl) (by kernel_rfl) ?_ -- r3
    refine CWops.run htt 2 (by simp only [go_sem, reduceIte, reduceCtorEq, reduceEqDiff, reduceAdd, reduceLT, reduceLeDiff, reduceToNat]; exact rfl) (by simp [go_sem, reduceIte, reduceCtorEq, reduceEqDiff, reduceAdd, reduceLT, reduceLeDiff, reduceToNat]) ?_
    refine CWops.done ?_
    refine CW.ret ?_
    refine retQ.ret (by simp only [f15, go_sem, reduceIte, reduceCtorEq, reduceEqDiff, reduceAdd, reduceLT, reduceLeDiff, reduceToNat]; exact rfl) (by simp only [go_sem, reduceIte, reduceCtorEq, reduceEqDiff, reduceAdd, reduceLT, reduceLeDiff, reduceToNat]; exact rfl) ?_ -- ret2
    refine ⟨_, ?_, rfl⟩
    simp [leP, leL, zeroV, hk, eVal]
end Go.Ab
namespace Go.Ab
open Go Go.Proofs.Try
open Nat (reduceEqDiff reduceAdd reduceLT reduceLeDiff reduceBEq reduceSub reduceMul)
open Int (reduceToNat)
set_option maxRecDepth 100000
set_option linter.unusedSimpArgs false
set_option linter.unusedVariables false
@[go_sem] theorem tt_135 : tiOf prog 135 = some ⟨.int IntKind.u64, 1, 8, [.int .u64 0], false⟩ := by kernel_rfl
@[go_sem] theorem tt_162 : tiOf prog 162 = some ⟨.int IntKind.u64, 1, 8, [.int .u64 0], false⟩ := by kernel_rfl
@[go_sem] theorem tt_160 : tiOf prog 160 = some ⟨.int IntKind.u32, 1, 4, [.int .u32 0], false⟩ := by kernel_rfl
end Go.Ab
namespace Go.Ab
open Go Go.Proofs.Try
open Nat (reduceEqDiff reduceAdd reduceLT reduceLeDiff reduceBEq reduceSub reduceMul)
open Int (reduceToNat)
set_option maxRecDepth 100000
set_option linter.unusedSimpArgs false
set_option linter.unusedVariables false
@[go_sem] theorem tt_106 : tiOf prog 106 = some ⟨.map 3 4, 1, 8, [.nilmap], false⟩ := by kernel_rfl
@[go_sem] theorem tt_107 : tiOf prog 107 = some ⟨.func, 1, 8, [.nilfunc], false⟩ := by kernel_rfl
end Go.Ab
namespace Go.Ab
open Go Go.Proofs.Try
open Nat (reduceEqDiff reduceAdd reduceLT reduceLeDiff reduceBEq reduceSub reduceMul)
open Int (reduceToNat)
set_option maxRecDepth 100000
set_option linter.unusedSimpArgs false
set_option linter.unusedVariables false
theorem May.sz {g : Graph} (h : May g) : GSz g := by
  obtain ⟨h1, h2, h3⟩ := h.small
  have h4 := h.o
  have h5 := h.r
  exact ⟨by unfold MX; omega, fun x hx => by have := h2 x hx; unfold MX; omega, by unfold MX; omega, fun x hx => by have := h3 x hx; unfold MX; omega, by unfold MX; omega⟩
end Go.Ab
namespace Go.Ab
open Go Go.Proofs.Try
open Nat (reduceEqDiff reduceAdd reduceLT reduceLeDiff reduceBEq reduceSub reduceMul)
open Int (reduceToNat)
set_option maxRecDepth 100000
set_option maxHeartbeats 1600000
set_option linter.unusedSimpArgs false
set_option linter.unusedVariables false
@[go_sem] theorem tt_32 : tiOf prog 32 = some ⟨.struct [(3, 0), (9, 1), (30, 2)], 5, 64, [.int .i64 0, .str ⟨#[]⟩, .str ⟨#[]⟩, .int .i64 0, .str ⟨#[]⟩], true⟩ := by kernel_rfl
@[go_sem] theorem tt_82 : tiOf prog 82 = some ⟨.ptr 86, 1, 8, [.nilp], false⟩ := by kernel_rfl
@[go_sem] theorem tt_86 : tiOf prog 86 = some ⟨.struct [(24, 0), (32, 1), (3, 6), (3, 7)], 8, 104, [.nilsl, .int .i64 0, .str ⟨#[]⟩, .str ⟨#[]⟩, .int .i64 0, .str ⟨#[]⟩, .int .i64 0, .int .i64 0], true⟩ := by kernel_rfl
@[go_sem] theorem tt_123 : tiOf prog 123 = some ⟨.ptr 43, 1, 8, [.nilp], false⟩ := by kernel_rfl
@[go_sem] theorem tt_146 : tiOf prog 146 = some ⟨.ptr 30, 1, 8, [.nilp], false⟩ := by kernel_rfl
@[go_sem] theorem tt_125 : tiOf prog 125 = some ⟨.func, 1, 8, [.nilfunc], false⟩ := by kernel_rfl
open Go.RowKit
theorem inf30 : (prog.info? 30).map (fun i => (i.zero, i.size, i.bytes)) = some (some (.agg #[.string ⟨#[]⟩, .int .i64 0, .string ⟨#[]⟩]), 3, 40) := by kernel_rfl
set_option maxHeartbeats 4000000 in
set_option maxRecDepth 1000000 in
theorem delete_Field_calls (b cap n i : Nat) (w W1 : World) (news : List Value) (hi : i < n) (hl : n ≤ cap) (hm : cap ≤ 9223372036854775807)
    (A : Addr) (hA : (if cap = i + 1 then some (⟨b, 0, none⟩ : Addr) else some ⟨b, (i + 1) * 3, none⟩) = some A) (hnews : Hid (∀ j u, news[j]? = some u → w.drew.cell? (A.add j) = some u)) (s1 : Hid (news.length = (n - (i + 1)) * 3)) (s2 : Hid (∀ u ∈ news, u.oneCell' = true))
    (s3 : Hid (∀ j, j < news.length → (w.drew.cell? ⟨b, 0 + i * 3 + j, none⟩).isSome = true ∧ w.drew.frozen? ⟨b, 0 + i * 3 + j, none⟩ = false)) (hW : Hid (W1 = w.drew.setCells b (0 + i * 3) news))
    (w' : World) (hcl : ∀ ty, (Builtin.clear_ #[41] ty #[.slice (some ⟨b, (i + (n - (i + 1))) * 3, none⟩) (n - (i + (n - (i + 1)))) (cap - (i + (n - (i + 1))))]).run prog W1 = .ok (.tuple #[]) w') :
    Calls prog 117 #[.slice (some ⟨b, 0, none⟩) n cap, .int .i64 i, .int .i64 ((i : Int) + 1)] w fun e w'' => e = .returned (.slice (some ⟨b, 0, none⟩) (i + (n - (i + 1))) cap) ∧ w'' = w' := by
  obtain ⟨i0, hi0, hz0, hz1, hz2⟩ := info_parts inf30
  have hic : i ≤ cap := by omega
  have hjc : i + 1 ≤ cap := by omega
  have hp0 : (0 : Int) ≤ (i : Int) + 1 := by omega
  have hp1 : (i : Int) + 1 ≤ (n : Int) := by omega
  have hp2 : ((i : Int) + 1).toNat = i + 1 := by omega
  have mixed : prog.follows .mixedOrders = true := by kernel_rfl
  go_enter func117, ntmps117
  go_wp2_with fail
  go_region_law (refine step_append_room rfl (.tmp 22) (.tmp 25) 41 rfl 30 i0 3 underlying41 hi0 hz1 b 0 i cap (by simp [Act.eval, Act.put]) A (n - (i + 1)) (cap - (i + 1)) news (by simp [Act.eval, Act.put]) s1.out hnews.out s2.out (by omega) s3.out ?_; rw [← hW.out])
  go_wp2
  go_ret
  exact ⟨rfl, rfl⟩
theorem delete_Field (up : Bool) (xs : List GField) (i : Nat) (hi : i < xs.length) : GCall prog up 117 [.ref 0 [] 0, .int .i64 (i : Int), .int .i64 ((i : Int) + 1)] 1 [(0, ⟨false, [.own 3 (xs.map eField)]⟩)] (fun r σ' => r = .ref 1 [] 0 ∧ σ'.n = 2 ∧ σ'.s = [(1, ⟨false, [.own 3 ((xs.eraseIdx i).map eField)]⟩)]) := by
  have hz : ZeroOK [.str ⟨#[]⟩, .int .i64 0, .str ⟨#[]⟩] [.string ⟨#[]⟩, .int .i64 0, .string ⟨#[]⟩] := ⟨rfl, fun i a v h1 h2 => by
    rcases i with _ | _ | _ | i
    all_goals first | (cases h1; cases h2; exact ⟨fun _ _ => .str _ (Nat.zero_le _), rfl⟩) | (cases h1; cases h2; exact ⟨fun _ _ => .int _ _, rfl⟩) | (simp at h1)⟩
  have hmap : (xs.eraseIdx i).map eField = (xs.map eField).eraseIdx i := by
    rw [List.eraseIdx_eq_take_drop_succ, List.eraseIdx_eq_take_drop_succ, List.map_append, List.map_take, List.map_drop]
  rw [hmap]
  refine GCall.delete ⟨_, func117, by kernel_rfl, rfl⟩ (by decide) (by simpa using hi) (fields_plain xs) hz rfl fun b cap w vs T news h1 h2 h3 h4 h5 h6 h7 => ?_
  rw [List.length_map] at h3 h5 ⊢
  have hnew : news.length = (xs.length - (i + 1)) * 3 := h5
  have hcell : ∀ (w : World) (vs : Array Value), w.heap[b]? = some (.cells vs T (0, 0)) → ∀ k, k < vs.size → (w.cell? ⟨b, k, none⟩).isSome = true ∧ w.frozen? ⟨b, k, none⟩ = false := fun w vs h k hk => by
    refine ⟨by simp [World.cell?, h, hk], by simp [World.frozen?, h]⟩
  obtain ⟨vs', q1, q2, _⟩ := setCells_facts (b := b) (o := i * 3) news 0 w.drew vs h1 (by rw [h2, hnew]; omega)
  have e1 : setCells b (i * 3) w.drew 0 news = w.drew.setCells b (0 + i * 3) news := by rw [setCells_eq]; congr 1; omega
  have hlen3 : (0 + i * 3 + news.length) = (i + (xs.length - (i + 1))) * 3 := by rw [hnew]; omega
  refine (delete_Field_calls b cap xs.length i w _ news hi h3 (by unfold maxLen at h4; omega) (if cap = i + 1 then ⟨b, 0, none⟩ else ⟨b, (i + 1) * 3, none⟩) (by split <;> rfl) ?_ hnew h7 (fun j hj => ?_) rfl
    ((w.drew.setCells b (0 + i * 3) news).setCells b (0 + i * 3 + news.length) [.string ⟨#[]⟩, .int .i64 0, .string ⟨#[]⟩]) (fun ty => ?_)).mono fun e w' he => ?_
  · intro j u hu
    by_cases hc : cap = i + 1
    · exfalso
      have := (List.getElem?_eq_some_iff.1 hu).1
      rw [hnew] at this; omega
    · rw [if_neg hc, Addr.add_lit]; exact h6 j u hu
  · refine hcell w.drew vs h1 _ ?_
    rw [h2]; rw [hnew] at hj; omega
  · rw [show xs.length - (i + (xs.length - (i + 1))) = 1 by omega, ← hlen3]
    have hst := run_storeCells (P := prog) [.string ⟨#[]⟩, .int .i64 0, .string ⟨#[]⟩] 0 (w.drew.setCells b (0 + i * 3) news) vs' (b := b) (o := 0 + i * 3 + news.length) (by rw [← e1]; exact q1) (by rw [q2, h2, hnew]; simp; omega) (by simp [Value.oneCell'])
    rw [setCells_eq] at hst
    have hz := zeroValue30 (w.drew.setCells b (0 + i * 3) news)
    have hzc : (Builtin.zeroCells (Value.cells (.agg #[.string ⟨#[]⟩, .int .i64 0, .string ⟨#[]⟩])) 1).toList = [.string ⟨#[]⟩, .int .i64 0, .string ⟨#[]⟩] := by kernel_rfl
    simp only [Nat.zero_add, Nat.add_zero] at hst
    simp [Builtin.clear_, run_underlying underlying41, hz, hzc, hst]
  · obtain ⟨rfl, rfl⟩ := he
    refine ⟨by rw [show i + (xs.length - (i + 1)) = xs.length - 1 by omega], ?_⟩
    rw [setCells_eq, setCells_app, show i * 3 + 0 = 0 + i * 3 by omega]
theorem inf46 : (prog.info? 46).map (fun i => (i.zero, i.size, i.bytes)) = some (some (.agg #[.int .i64 0, .string ⟨#[]⟩, .int .i64 0]), 3, 32) := by kernel_rfl
set_option maxHeartbeats 4000000 in
set_option maxRecDepth 1000000 in
theorem delete_Val_calls (b cap n i : Nat) (w W1 : World) (news : List Value) (hi : i < n) (hl : n ≤ cap) (hm : cap ≤ 9223372036854775807)
    (A : Addr) (hA : (if cap = i + 1 then some (⟨b, 0, none⟩ : Addr) else some ⟨b, (i + 1) * 3, none⟩) = some A) (hnews : Hid (∀ j u, news[j]? = some u → w.drew.cell? (A.add j) = some u)) (s1 : Hid (news.length = (n - (i + 1)) * 3)) (s2 : Hid (∀ u ∈ news, u.oneCell' = true))
    (s3 : Hid (∀ j, j < news.length → (w.drew.cell? ⟨b, 0 + i * 3 + j, none⟩).isSome = true ∧ w.drew.frozen? ⟨b, 0 + i * 3 + j, none⟩ = false)) (hW : Hid (W1 = w.drew.setCells b (0 + i * 3) news))
    (w' : World) (hcl : ∀ ty, (Builtin.clear_ #[38] ty #[.slice (some ⟨b, (i + (n - (i + 1))) * 3, none⟩) (n - (i + (n - (i + 1)))) (cap - (i + (n - (i + 1))))]).run prog W1 = .ok (.tuple #[]) w') :
    Calls prog 46 #[.slice (some ⟨b, 0, none⟩) n cap, .int .i64 i, .int .i64 ((i : Int) + 1)] w fun e w'' => e = .returned (.slice (some ⟨b, 0, none⟩) (i + (n - (i + 1))) cap) ∧ w'' = w' := by
  obtain ⟨i0, hi0, hz0, hz1, hz2⟩ := info_parts inf46
  have hic : i ≤ cap := by omega
  have hjc : i + 1 ≤ cap := by omega
  have hp0 : (0 : Int) ≤ (i : Int) + 1 := by omega
  have hp1 : (i : Int) + 1 ≤ (n : Int) := by omega
  have hp2 : ((i : Int) + 1).toNat = i + 1 := by omega
  have mixed : prog.follows .mixedOrders = true := by kernel_rfl
  go_enter func46, ntmps46
  go_wp2_with fail
  go_region_law (refine step_append_room rfl (.tmp 22) (.tmp 25) 38 rfl 46 i0 3 underlying38 hi0 hz1 b 0 i cap (by simp [Act.eval, Act.put]) A (n - (i + 1)) (cap - (i + 1)) news (by simp [Act.eval, Act.put]) s1.out hnews.out s2.out (by omega) s3.out ?_; rw [← hW.out])
  go_wp2
  go_ret
  exact ⟨rfl, rfl⟩
theorem delete_Val (up : Bool) (xs : List GVal) (i : Nat) (hi : i < xs.length) : GCall prog up 46 [.ref 0 [] 0, .int .i64 (i : Int), .int .i64 ((i : Int) + 1)] 1 [(0, ⟨false, [.own 3 (xs.map eVal)]⟩)] (fun r σ' => r = .ref 1 [] 0 ∧ σ'.n = 2 ∧ σ'.s = [(1, ⟨false, [.own 3 ((xs.eraseIdx i).map eVal)]⟩)]) := by
  have hz : ZeroOK [.int .i64 0, .str ⟨#[]⟩, .int .i64 0] [.int .i64 0, .string ⟨#[]⟩, .int .i64 0] := ⟨rfl, fun i a v h1 h2 => by
    rcases i with _ | _ | _ | i
    all_goals first | (cases h1; cases h2; exact ⟨fun _ _ => .str _ (Nat.zero_le _), rfl⟩) | (cases h1; cases h2; exact ⟨fun _ _ => .int _ _, rfl⟩) | (simp at h1)⟩
  have hmap : (xs.eraseIdx i).map eVal = (xs.map eVal).eraseIdx i := by
    rw [List.eraseIdx_eq_take_drop_succ, List.eraseIdx_eq_take_drop_succ, List.map_append, List.map_take, List.map_drop]
  rw [hmap]
  refine GCall.delete ⟨_, func46, by kernel_rfl, rfl⟩ (by decide) (by simpa using hi) (vals_plain xs) hz rfl fun b cap w vs T news h1 h2 h3 h4 h5 h6 h7 => ?_
  rw [List.length_map] at h3 h5 ⊢
  have hnew : news.length = (xs.length - (i + 1)) * 3 := h5
  have hcell : ∀ (w : World) (vs : Array Value), w.heap[b]? = some (.cells vs T (0, 0)) → ∀ k, k < vs.size → (w.cell? ⟨b, k, none⟩).isSome = true ∧ w.frozen? ⟨b, k, none⟩ = false := fun w vs h k hk => by
    refine ⟨by simp [World.cell?, h, hk], by simp [World.frozen?, h]⟩
  obtain ⟨vs', q1, q2, _⟩ := setCells_facts (b := b) (o := i * 3) news 0 w.drew vs h1 (by rw [h2, hnew]; omega)
  have e1 : setCells b (i * 3) w.drew 0 news = w.drew.setCells b (0 + i * 3) news := by rw [setCells_eq]; congr 1; omega
  have hlen3 : (0 + i * 3 + news.length) = (i + (xs.length - (i + 1))) * 3 := by rw [hnew]; omega
  refine (delete_Val_calls b cap xs.length i w _ news hi h3 (by unfold maxLen at h4; omega) (if cap = i + 1 then ⟨b, 0, none⟩ else ⟨b, (i + 1) * 3, none⟩) (by split <;> rfl) ?_ hnew h7 (fun j hj => ?_) rfl
    ((w.drew.setCells b (0 + i * 3) news).setCells b (0 + i * 3 + news.length) [.int .i64 0, .string ⟨#[]⟩, .int .i64 0]) (fun ty => ?_)).mono fun e w' he => ?_
  · intro j u hu
    by_cases hc : cap = i + 1
    · exfalso
      have := (List.getElem?_eq_some_iff.1 hu).1
      rw [hnew] at this; omega
    · rw [if_neg hc, Addr.add_lit]; exact h6 j u hu
  · refine hcell w.drew vs h1 _ ?_
    rw [h2]; rw [hnew] at hj; omega
  · rw [show xs.length - (i + (xs.length - (i + 1))) = 1 by omega, ← hlen3]
    have hst := run_storeCells (P := prog) [.int .i64 0, .string ⟨#[]⟩, .int .i64 0] 0 (w.drew.setCells b (0 + i * 3) news) vs' (b := b) (o := 0 + i * 3 + news.length) (by rw [← e1]; exact q1) (by rw [q2, h2, hnew]; simp; omega) (by simp [Value.oneCell'])
    rw [setCells_eq] at hst
    have hz := zeroValue46 (w.drew.setCells b (0 + i * 3) news)
    have hzc : (Builtin.zeroCells (Value.cells (.agg #[.int .i64 0, .string ⟨#[]⟩, .int .i64 0])) 1).toList = [.int .i64 0, .string ⟨#[]⟩, .int .i64 0] := by kernel_rfl
    simp only [Nat.zero_add, Nat.add_zero] at hst
    simp [Builtin.clear_, run_underlying underlying38, hz, hzc, hst]
  · obtain ⟨rfl, rfl⟩ := he
    refine ⟨by rw [show i + (xs.length - (i + 1)) = xs.length - 1 by omega], ?_⟩
    rw [setCells_eq, setCells_app, show i * 3 + 0 = 0 + i * 3 by omega]
end Go.Ab
namespace Go.Ab
open Go Go.Proofs.Try
open Nat (reduceEqDiff reduceAdd reduceLT reduceLeDiff reduceBEq reduceSub reduceMul)
open Int (reduceToNat)
set_option maxRecDepth 100000
set_option maxHeartbeats 1600000
set_option linter.unusedSimpArgs false
set_option linter.unusedVariables false
theorem clone_FieldG (up : Bool) (xs : List GField) (hx : xs.length * 40 ≤ MX) : GCall prog up 113 [.sl 3 (xs.map eField)] 0 [] (fun r σ' => r = .ref 0 [] 0 ∧ σ'.n = 1 ∧ σ'.s = [(0, ⟨false, [.own 3 (xs.map eField)]⟩)]) := by
  refine GCall.intro htt 0 func113 (by kernel_rfl) rfl (Nat.le_of_ble_eq_true rfl) (CW.told ?_)
  have hx1 : xs.length ≤ MX := by omega
  simp only [tmps0, Nat.reduceAdd]
  refine CW.seq ?_
  refine CW.region (by kernel_rfl) (by kernel_rfl) ?_ -- r0
  refine CWops.run htt 1 (by simp only [go_sem, reduceIte, reduceCtorEq, reduceEqDiff, reduceAdd, reduceLT, reduceLeDiff, reduceToNat, reduceMul]; exact rfl) (by simp [go_sem, reduceIte, reduceCtorEq, reduceEqDiff, reduceAdd, reduceLT, reduceLeDiff, reduceToNat, reduceMul]) ?_
  refine CWops.done ?_
  refine CW.seq ?_
  refine CW.seq ?_
  refine CW.region (by kernel_rfl) (by kernel_rfl) ?_ -- r1
  refine CWops.run htt 1 (by simp only [go_sem, reduceIte, reduceCtorEq, reduceEqDiff, reduceAdd, reduceLT, reduceLeDiff, reduceToNat, reduceMul]; exact rfl) (by simp [go_sem, reduceIte, reduceCtorEq, reduceEqDiff, reduceAdd, reduceLT, reduceLeDiff, reduceToNat, reduceMul]) ?_
  refine CWops.nilcmp (n := 3) (l := xs.map eField) htt (by simp only [go_sem, reduceIte, reduceCtorEq, reduceEqDiff, reduceAdd, reduceLT, reduceLeDiff, reduceToNat, reduceMul]) (by simp only [go_sem, reduceIte, reduceCtorEq, reduceEqDiff, reduceAdd, reduceLT, reduceLeDiff, reduceToNat, reduceMul]) (by simp only [go_sem, reduceIte, reduceCtorEq, reduceEqDiff, reduceAdd, reduceLT, reduceLeDiff, reduceToNat, reduceMul]) tt_41 rfl (fun b hb => ⟨_, rfl, ?_⟩)
  refine CWops.done ?_
  refine CW.cond (by simp only [go_sem, reduceIte, reduceCtorEq, reduceEqDiff, reduceAdd, reduceLT, reduceLeDiff, reduceToNat, reduceMul]; first | done | exact rfl) (fun ct4 => ?_) (fun ct4 => ?_)
  · refine CW.seq ?_
    refine CW.region (by kernel_rfl) (by kernel_rfl) ?_ -- r2
    refine CWops.run htt 1 (by simp only [go_sem, reduceIte, reduceCtorEq, reduceEqDiff, reduceAdd, reduceLT, reduceLeDiff, reduceToNat, reduceMul]; exact rfl) (by simp [go_sem, reduceIte, reduceCtorEq, reduceEqDiff, reduceAdd, reduceLT, reduceLeDiff, reduceToNat, reduceMul]) ?_
    refine CWops.done ?_
    refine CW.ret ?_
    refine ⟨⟨1, [(2, .ref 0 [] 0)], [(0, ⟨false, [.own 3 (xs.map eField)]⟩)]⟩, ?_, .inr rfl, by simp [ptrOK, go_sem, reduceIte, reduceCtorEq, reduceEqDiff, reduceAdd, reduceLT, reduceLeDiff, reduceToNat, reduceMul], _, by simp only [f113, go_sem, reduceIte, reduceCtorEq, reduceEqDiff, reduceAdd, reduceLT, reduceLeDiff, reduceToNat, reduceMul]; exact rfl, ?_⟩ -- ret1
    · have h0 := hb ct4
      refine Sh.trans (Sh.nilRoot 2 3 (by simp only [go_sem, reduceIte, reduceCtorEq, reduceEqDiff, reduceAdd, reduceLT, reduceLeDiff, reduceToNat, reduceMul]) rfl) (Sh.wk0 ?_)
      simp [Wk, go_sem, reduceIte, reduceCtorEq, reduceEqDiff, reduceAdd, reduceLT, reduceLeDiff, reduceToNat, reduceMul, h0]
    · exact ⟨rfl, rfl, rfl⟩
  · refine CW.skip ?_
    refine CW.seq ?_
    refine CW.region (by kernel_rfl) (by kernel_rfl) ?_ -- r3
    refine CWops.run htt 4 (by simp only [go_sem, reduceIte, reduceCtorEq, reduceEqDiff, reduceAdd, reduceLT, reduceLeDiff, reduceToNat, reduceMul]; exact rfl) (by refine ⟨?_, ?_, ?_⟩ <;> first | (simp [eField, AV.cell]; done) | (simp; omega)) ?_
    refine CWops.done ?_
    refine CW.ret ?_
    refine ⟨⟨1, [(2, .ref 0 [] 0)], [(0, ⟨false, [.own 3 (xs.map eField)]⟩)]⟩, ?_, .inr rfl, by simp [ptrOK, go_sem, reduceIte, reduceCtorEq, reduceEqDiff, reduceAdd, reduceLT, reduceLeDiff, reduceToNat, reduceMul], _, by simp only [f113, go_sem, reduceIte, reduceCtorEq, reduceEqDiff, reduceAdd, reduceLT, reduceLeDiff, reduceToNat, reduceMul]; exact rfl, ?_⟩ -- ret2
    · refine Sh.wk (fun x => x + 1) ?_
      simp [Wk, go_sem, reduceIte, reduceCtorEq, reduceEqDiff, reduceAdd, reduceLT, reduceLeDiff, reduceToNat, reduceMul]
    · exact ⟨rfl, rfl, rfl⟩
theorem grade_own (up : Bool) (s : List GType) (h1 : s.length * 40 ≤ MX) (h2 : ∀ x ∈ s, x.F.length * 40 ≤ MX) : GCall prog up 89 [.agg (eSchema s)] 0 [] (fun r σ' => r = .agg [.ref 0 [] 0] ∧ σ'.n = 2 ∧ σ'.s = [(0, ⟨false, [.own 2 (s.map eTypeO)]⟩), (1, ⟨true, [.ref 0 [] 0]⟩)]) := by
  refine GCall.intro htt 0 func89 (by kernel_rfl) rfl (Nat.le_of_ble_eq_true rfl) (CW.told ?_)
  have hb : s.length ≤ MX := by omega
  simp only [tmps0, Nat.reduceAdd]
  refine CW.seq ?_
  refine CW.region (by kernel_rfl) (by kernel_rfl) ?_ -- r0
  refine CWops.run htt 2 (by simp only [go_sem, reduceIte, reduceCtorEq, reduceEqDiff, reduceAdd, reduceLT, reduceLeDiff, reduceToNat, reduceMul, eSchema]; exact rfl) (by simp [go_sem, reduceIte, reduceCtorEq, reduceEqDiff, reduceAdd, reduceLT, reduceLeDiff, reduceToNat, reduceMul, eSchema]) ?_
  refine CWops.done ?_
  refine CW.seq ?_
  refine CW.region (by kernel_rfl) (by kernel_rfl) ?_ -- r1
  refine CWops.run htt 2 (by simp only [go_sem, reduceIte, reduceCtorEq, reduceEqDiff, reduceAdd, reduceLT, reduceLeDiff, reduceToNat, reduceMul, eSchema]; exact rfl) (by simp [go_sem, reduceIte, reduceCtorEq, reduceEqDiff, reduceAdd, reduceLT, reduceLeDiff, reduceToNat, reduceMul, eSchema]) ?_
  refine CWops.callG [] rfl (clone_TypeG up s h1) (by simp only [go_sem, reduceIte, reduceCtorEq, reduceEqDiff, reduceAdd, reduceLT, reduceLeDiff, reduceToNat, reduceMul]) (by simp only [go_sem, reduceIte, reduceCtorEq, reduceEqDiff, reduceAdd, reduceLT, reduceLeDiff, reduceToNat, reduceMul]; first | done | exact rfl) (by decide) (by simp [go_sem, reduceIte, reduceCtorEq, reduceEqDiff, reduceAdd, reduceLT, reduceLeDiff, reduceToNat, reduceMul, mName, memB]) (by simp [go_sem, reduceIte, reduceCtorEq, reduceEqDiff, reduceAdd, reduceLT, reduceLeDiff, reduceToNat, reduceMul, mName]) (by simp [go_sem, reduceIte, reduceCtorEq, reduceEqDiff, reduceAdd, reduceLT, reduceLeDiff, reduceToNat, reduceMul]) (by simp [go_sem, reduceIte, reduceCtorEq, reduceEqDiff, reduceAdd, reduceLT, reduceLeDiff, reduceToNat, reduceMul]) (by simp [go_sem, reduceIte, reduceCtorEq, reduceEqDiff, reduceAdd, reduceLT, reduceLeDiff, reduceToNat, reduceMul, mName]) (fun r σ' hσ => ?_)
  obtain ⟨σn, σt, σs⟩ := σ'
  simp only at hσ
  obtain ⟨rfl, rfl, rfl⟩ := hσ
  simp only [aftS, renS, delAll, memB, mName, List.getD_nil, killH, kref, ren, Nat.beq_eq, go_sem, reduceIte, reduceCtorEq, reduceEqDiff, reduceAdd, reduceLT, reduceLeDiff, reduceToNat, reduceMul]
  refine CWops.run htt 2 (by simp only [go_sem, reduceIte, reduceCtorEq, reduceEqDiff, reduceAdd, reduceLT, reduceLeDiff, reduceToNat, reduceMul, eSchema]; exact rfl) (by simp [go_sem, reduceIte, reduceCtorEq, reduceEqDiff, reduceAdd, reduceLT, reduceLeDiff, reduceToNat, reduceMul, eSchema]) ?_
  refine CWops.done ?_
  refine CW.seq ?_
  refine CW.seq ?_
  refine CW.region (by kernel_rfl) (by kernel_rfl) ?_ -- r2
  refine CWops.run htt 4 (by simp only [go_sem, reduceIte, reduceCtorEq, reduceEqDiff, reduceAdd, reduceLT, reduceLeDiff, reduceToNat, reduceMul]; exact rfl) (by simp [go_sem, reduceIte, reduceCtorEq, reduceEqDiff, reduceAdd, reduceLT, reduceLeDiff, reduceToNat, reduceMul]) ?_
  refine CWops.done ?_
  refine CW.block ?_
  refine CW.loop (S := Nat) (fun i => ⟨2, [(1, .lv 0 [] 0), (2, .lv 1 [] 0), (10, .ref 0 [] 0), (11, .int .i64 s.length), (12, .int .i64 i)], [(0, ⟨true, [.own 2 (mixT s i)]⟩), (1, ⟨true, [.nilsl]⟩)]⟩) (fun i => i ≤ s.length) (fun i => s.length - i) (0) ?_ (Nat.zero_le _) (fun i h3 => ?_)
  · refine Sh.wk0 ?_; simp [Wk, go_sem, reduceIte, reduceCtorEq, reduceEqDiff, reduceAdd, reduceLT, reduceLeDiff, reduceToNat, reduceMul, mixT_zero]
  refine CW.seq ?_
  refine CW.region (by kernel_rfl) (by kernel_rfl) ?_ -- r3
  refine CWops.run htt 1 (by simp only [go_sem, reduceIte, reduceCtorEq, reduceEqDiff, reduceAdd, reduceLT, reduceLeDiff, reduceToNat, reduceMul]; exact rfl) (by simp [go_sem, reduceIte, reduceCtorEq, reduceEqDiff, reduceAdd, reduceLT, reduceLeDiff, reduceToNat, reduceMul]) ?_
  refine CWops.done ?_
  refine CW.seq ?_
  refine CW.cond (by simp only [go_sem, reduceIte, reduceCtorEq, reduceEqDiff, reduceAdd, reduceLT, reduceLeDiff, reduceToNat, reduceMul]; first | done | exact rfl) (fun ct13 => ?_) (fun ct13 => ?_)
  · have hi : i < s.length := by simpa using ct13
    obtain ⟨x, hx⟩ : ∃ x, s[i]? = some x := ⟨s[i], List.getElem?_eq_getElem hi⟩
    refine CW.skip ?_
    refine CW.seq ?_
    refine CW.block ?_
    refine CW.seq ?_
    refine CW.region (by kernel_rfl) (by kernel_rfl) ?_ -- r4
    refine CWops.run htt 6 (by simp only [go_sem, reduceIte, reduceCtorEq, reduceEqDiff, reduceAdd, reduceLT, reduceLeDiff, reduceToNat, reduceMul, hi, mixT_get hx, mixT_len, eType]; exact rfl) (by simp [go_sem, reduceIte, reduceCtorEq, reduceEqDiff, reduceAdd, reduceLT, reduceLeDiff, reduceToNat, reduceMul, hi, mixT_get hx, mixT_len, eType]) ?_
    refine CWops.done ?_
    refine CW.drawn mixed 6 (by decide) (by kernel_rfl) (by kernel_rfl) (by kernel_rfl) ?_ -- r5
    refine Seg.run htt 5 (by simp only [go_sem, reduceIte, reduceCtorEq, reduceEqDiff, reduceAdd, reduceLT, reduceLeDiff, reduceToNat, reduceMul, hi, mixT_get hx, mixT_len, eType]; exact rfl) ?_
    refine Seg.callN (clone_FieldG up x.F (h2 x (List.mem_of_getElem? hx))) (by simp only [go_sem, reduceIte, reduceCtorEq, reduceEqDiff, reduceAdd, reduceLT, reduceLeDiff, reduceToNat, reduceMul]) (by simp only [go_sem, reduceIte, reduceCtorEq, reduceEqDiff, reduceAdd, reduceLT, reduceLeDiff, reduceToNat, reduceMul]; first | done | exact rfl) (by simp [go_sem, reduceIte, reduceCtorEq, reduceEqDiff, reduceAdd, reduceLT, reduceLeDiff, reduceToNat, reduceMul]) ?_
    refine Seg.done ?_
    refine CWops.run htt 3 (by simp only [go_sem, reduceIte, reduceCtorEq, reduceEqDiff, reduceAdd, reduceLT, reduceLeDiff, reduceToNat, reduceMul, hi, mixT_get hx, mixT_len, eType]; exact rfl) (by simp [go_sem, reduceIte, reduceCtorEq, reduceEqDiff, reduceAdd, reduceLT, reduceLeDiff, reduceToNat, reduceMul, hi, mixT_get hx, mixT_len, eType]) ?_
    refine CWops.done ?_
    refine CW.region (by kernel_rfl) (by kernel_rfl) ?_ -- r6
    refine CWops.run htt 2 (by simp only [go_sem, reduceIte, reduceCtorEq, reduceEqDiff, reduceAdd, reduceLT, reduceLeDiff, reduceToNat, reduceMul, wrap_succ (Nat.lt_of_lt_of_le hi hb)]; exact rfl) (by simp [go_sem, reduceIte, reduceCtorEq, reduceEqDiff, reduceAdd, reduceLT, reduceLeDiff, reduceToNat, reduceMul, wrap_succ (Nat.lt_of_lt_of_le hi hb)]) ?_
    refine CWops.done ?_
    refine ⟨i + 1, ?_, ?_, ?_⟩
    · refine Sh.wk0 ?_
      dsimp only
      rw [← mixT_set hx]
      simp [Wk, go_sem, reduceIte, reduceCtorEq, reduceEqDiff, reduceAdd, reduceLT, reduceLeDiff, reduceToNat, reduceMul, eTypeO]
    · exact hi
    · simp only; omega
  · have hi : i = s.length := by simp at ct13; omega
    refine CW.exit ?_
    refine CW.seq ?_
    refine CW.region (by kernel_rfl) (by kernel_rfl) ?_ -- r7
    refine CWops.run htt 2 (by simp only [go_sem, reduceIte, reduceCtorEq, reduceEqDiff, reduceAdd, reduceLT, reduceLeDiff, reduceToNat, reduceMul]; exact rfl) (by simp [go_sem, reduceIte, reduceCtorEq, reduceEqDiff, reduceAdd, reduceLT, reduceLeDiff, reduceToNat, reduceMul]) ?_
    refine CWops.done ?_
    refine CW.ret ?_
    refine ⟨⟨2, [(2, .lv 1 [] 0)], [(0, ⟨false, [.own 2 (s.map eTypeO)]⟩), (1, ⟨true, [.ref 0 [] 0]⟩)]⟩, ?_, .inr rfl, by simp [ptrOK, go_sem, reduceIte, reduceCtorEq, reduceEqDiff, reduceAdd, reduceLT, reduceLeDiff, reduceToNat, reduceMul], _, by simp only [f89, go_sem, reduceIte, reduceCtorEq, reduceEqDiff, reduceAdd, reduceLT, reduceLeDiff, reduceToNat, reduceMul]; exact rfl, ?_⟩ -- ret1
    · rw [hi, mixT_all]
      refine Sh.trans (Sh.out 0 0 rfl rfl rfl) (Sh.wk (fun x => if x = 0 then 2 else x) ?_)
      simp [Wk, go_sem, reduceIte, reduceCtorEq, reduceEqDiff, reduceAdd, reduceLT, reduceLeDiff, reduceToNat, reduceMul, mapT, mapS, outF, putAt]
    · exact ⟨rfl, rfl, rfl⟩
theorem grade_wider (up : Bool) (k than : Int) : PCall prog up 100 [.int .i64 k, .int .i64 than] (· = .bool (wider k than)) := by
  refine PCall.intro htt func100 (by kernel_rfl) rfl (Nat.le_of_ble_eq_true rfl) fun hl => ?_

  simp only [tmps0, Nat.reduceAdd]
  refine CW.seq ?_
  refine CW.region (by kernel_rfl) (by kernel_rfl) ?_ -- r0
  refine CWops.run htt 1 (by simp only [go_sem, reduceIte, reduceCtorEq, reduceEqDiff, reduceAdd, reduceLT, reduceLeDiff, reduceToNat, reduceMul]; exact rfl) (by simp [go_sem, reduceIte, reduceCtorEq, reduceEqDiff, reduceAdd, reduceLT, reduceLeDiff, reduceToNat, reduceMul]) ?_
  refine CWops.done ?_
  refine CW.seq ?_
  refine CW.region (by kernel_rfl) (by kernel_rfl) ?_ -- r1
  refine CWops.run htt 3 (by simp only [go_sem, reduceIte, reduceCtorEq, reduceEqDiff, reduceAdd, reduceLT, reduceLeDiff, reduceToNat, reduceMul]; exact rfl) (by simp [go_sem, reduceIte, reduceCtorEq, reduceEqDiff, reduceAdd, reduceLT, reduceLeDiff, reduceToNat, reduceMul]) ?_
  all_goals (first | refine CWops.guard 7 (by simp only [go_sem, reduceIte, reduceCtorEq, reduceEqDiff, reduceAdd, reduceLT, reduceLeDiff, reduceToNat, reduceMul]; exact rfl) (fun g7 => ?_) (fun g7 => ?_) | skip)
  all_goals (refine CWops.run htt 5 (by simp only [go_sem, reduceIte, reduceCtorEq, reduceEqDiff, reduceAdd, reduceLT, reduceLeDiff, reduceToNat, reduceMul]; exact rfl) (by simp [go_sem, reduceIte, reduceCtorEq, reduceEqDiff, reduceAdd, reduceLT, reduceLeDiff, reduceToNat, reduceMul]) ?_)
  all_goals (first | refine CWops.guard 12 (by simp only [go_sem, reduceIte, reduceCtorEq, reduceEqDiff, reduceAdd, reduceLT, reduceLeDiff, reduceToNat, reduceMul]; exact rfl) (fun g12 => ?_) (fun g12 => ?_) | skip)
  all_goals (refine CWops.run htt 4 (by simp only [go_sem, reduceIte, reduceCtorEq, reduceEqDiff, reduceAdd, reduceLT, reduceLeDiff, reduceToNat, reduceMul]; exact rfl) (by simp [go_sem, reduceIte, reduceCtorEq, reduceEqDiff, reduceAdd, reduceLT, reduceLeDiff, reduceToNat, reduceMul]) ?_)
  all_goals (refine CWops.done ?_)
  all_goals (
    refine CW.ret ?_
    refine retQ.ret (by simp only [f100, go_sem, reduceIte, reduceCtorEq, reduceEqDiff, reduceAdd, reduceLT, reduceLeDiff, reduceToNat, reduceMul]; exact rfl) (by simp only [go_sem, reduceIte, reduceCtorEq, reduceEqDiff, reduceAdd, reduceLT, reduceLeDiff, reduceToNat, reduceMul]; exact rfl) ?_ -- ret1
    refine ⟨_, ?_, rfl⟩
    first | (simp_all [leP, wider]; done) | (simp_all [leP, wider]; omega))
theorem kind_R (x y t : Nat) (a1 a2 a3 a4 a5 a7 : AV) (b : Bool) (rows : List (List AV)) (n : Nat) (s : List (Nat × Root)) (hx : getS s x = some ⟨true, [.ref y [] 0, a1, a2, a3, a4, a5, .int .i64 (t : Int), a7]⟩) (hy : getS s y = some ⟨b, [.own 2 rows]⟩) (ht : t < rows.length) :
    RCall prog 90 [.lv x [] 0] n s (.lv y [(0, t)] 0) := by
  refine RCall.intro (σ1 := ?s1) (τ := ?ta) htt mixed func90 (by kernel_rfl) rfl (Nat.le_of_ble_eq_true rfl) (by kernel_rfl) (by kernel_rfl) (by kernel_rfl) (StillS.run htt ?h0) (StillS.run htt ?h1) ?h2 ?h3
  case h0 => simp only [runV, stillB, tmps0, go_sem, reduceIte, reduceCtorEq, reduceEqDiff, reduceAdd, reduceLT, reduceLeDiff, reduceToNat, reduceMul]; exact rfl
  case h1 => simp only [runV, stillB, go_sem, reduceIte, reduceCtorEq, reduceEqDiff, reduceAdd, reduceLT, reduceLeDiff, reduceToNat, reduceMul, hx, hy, ht]; exact rfl
  case h2 => rfl
  case h3 => exact ⟨_, by simp only [f90, go_sem, reduceIte, reduceCtorEq, reduceEqDiff, reduceAdd, reduceLT, reduceLeDiff, reduceToNat, reduceMul]; exact rfl, rfl⟩
end Go.Ab
namespace Go.Ab
open Go Go.Proofs.Try
open Nat (reduceEqDiff reduceAdd reduceLT reduceLeDiff reduceBEq reduceSub reduceMul)
open Int (reduceToNat)
set_option maxRecDepth 100000
set_option maxHeartbeats 1600000
set_option linter.unusedSimpArgs false
set_option linter.unusedVariables false
theorem work_widen_no (up : Bool) (s : List GType) (x : GStep) (t : Nat)  : GCall prog up 91 [.lv 1 [] 0] 2 [(0, ⟨false, [.own 2 (List.map eTypeO (s))]⟩), (1, ⟨true, eWork 0 x (t : Int) (-1)⟩)] (fun r σ' => r = .int .i64 (11) ∧ ∃ tt, σ' = ⟨2, tt, [(0, ⟨false, [.own 2 (List.map eTypeO (s))]⟩), (1, ⟨true, eWork 0 x (t : Int) (-1)⟩)]⟩) := by
  refine GCall.intro htt 1 func91 (by kernel_rfl) rfl (Nat.le_of_ble_eq_true rfl) (CW.told ?_)

  simp only [tmps0, Nat.reduceAdd]
  refine CW.seq ?_
  refine CW.region (by kernel_rfl) (by kernel_rfl) ?_ -- r0
  refine CWops.run htt 1 (by simp only [go_sem, reduceIte, reduceCtorEq, reduceEqDiff, reduceAdd, reduceLT, reduceLeDiff, reduceToNat, eWork]; exact rfl) (by simp [go_sem, reduceIte, reduceCtorEq, reduceEqDiff, reduceAdd, reduceLT, reduceLeDiff, reduceToNat, eWork]) ?_
  refine CWops.done ?_
  refine CW.seq ?_
  refine CW.seq ?_
  refine CW.region (by kernel_rfl) (by kernel_rfl) ?_ -- r1
  refine CWops.run htt 5 (by simp only [go_sem, reduceIte, reduceCtorEq, reduceEqDiff, reduceAdd, reduceLT, reduceLeDiff, reduceToNat, eWork]; exact rfl) (by simp [go_sem, reduceIte, reduceCtorEq, reduceEqDiff, reduceAdd, reduceLT, reduceLeDiff, reduceToNat, eWork]) ?_
  refine CWops.done ?_
  refine CW.cond (by simp only [go_sem, reduceIte, reduceCtorEq, reduceEqDiff, reduceAdd, reduceLT, reduceLeDiff, reduceToNat]; first | done | exact rfl) (fun ct8 => ?_) (fun ct8 => ?_)
  · refine CW.seq ?_
    refine CW.region (by kernel_rfl) (by kernel_rfl) ?_ -- r2
    refine CWops.run htt 1 (by simp only [go_sem, reduceIte, reduceCtorEq, reduceEqDiff, reduceAdd, reduceLT, reduceLeDiff, reduceToNat, eWork]; exact rfl) (by simp [go_sem, reduceIte, reduceCtorEq, reduceEqDiff, reduceAdd, reduceLT, reduceLeDiff, reduceToNat, eWork]) ?_
    refine CWops.done ?_
    refine CW.ret ?_
    refine ⟨⟨2, [(0, .lv 1 [] 0), (2, .int .i64 (11))], [(0, ⟨false, [.own 2 (List.map eTypeO (s))]⟩), (1, ⟨true, eWork 0 x (t : Int) (-1)⟩)]⟩, ?_, .inr rfl, by simp [ptrOK, go_sem, reduceIte, reduceCtorEq, reduceEqDiff, reduceAdd, reduceLT, reduceLeDiff, reduceToNat], _, by simp only [f91, go_sem, reduceIte, reduceCtorEq, reduceEqDiff, reduceAdd, reduceLT, reduceLeDiff, reduceToNat]; exact rfl, ?_⟩ -- ret1
    · refine Sh.wk0 ?_
      simp [Wk, go_sem, reduceIte, reduceCtorEq, reduceEqDiff, reduceAdd, reduceLT, reduceLeDiff, reduceToNat, eWork]
    · exact ⟨rfl, _, rfl⟩
  · exfalso; revert ct8; simp
theorem work_widen_at (up : Bool) (s : List GType) (x : GStep) (t : Nat) (ty : GType) (hS : s[t]? = some ty) (q : Nat) (f0 : GField) (hF : ty.F[q]? = some f0) : GCall prog up 91 [.lv 1 [] 0] 2 [(0, ⟨false, [.own 2 (List.map eTypeO (s))]⟩), (1, ⟨true, eWork 0 x (t : Int) ((q : Int))⟩)] (fun r σ' => r = .int .i64 (if wider x.F.Kind f0.Kind = true then 0 else 6) ∧ ∃ tt, σ' = ⟨2, tt, [(0, ⟨false, [.own 2 (List.map eTypeO (if wider x.F.Kind f0.Kind = true then s.set t ⟨ty.Name, ty.F.set q ⟨f0.Name, x.F.Kind, f0.To⟩⟩ else s))]⟩), (1, ⟨true, eWork 0 x (t : Int) ((q : Int))⟩)]⟩) := by
  refine GCall.intro htt 1 func91 (by kernel_rfl) rfl (Nat.le_of_ble_eq_true rfl) (CW.told ?_)
  have htl : t < s.length := (List.getElem?_eq_some_iff.1 hS).1
  have hql : q < ty.F.length := (List.getElem?_eq_some_iff.1 hF).1
  simp only [tmps0, Nat.reduceAdd]
  refine CW.seq ?_
  refine CW.region (by kernel_rfl) (by kernel_rfl) ?_ -- r0
  refine CWops.run htt 1 (by simp only [go_sem, reduceIte, reduceCtorEq, reduceEqDiff, reduceAdd, reduceLT, reduceLeDiff, reduceToNat, eWork]; exact rfl) (by simp [go_sem, reduceIte, reduceCtorEq, reduceEqDiff, reduceAdd, reduceLT, reduceLeDiff, reduceToNat, eWork]) ?_
  refine CWops.done ?_
  refine CW.seq ?_
  refine CW.seq ?_
  refine CW.region (by kernel_rfl) (by kernel_rfl) ?_ -- r1
  refine CWops.run htt 5 (by simp only [go_sem, reduceIte, reduceCtorEq, reduceEqDiff, reduceAdd, reduceLT, reduceLeDiff, reduceToNat, eWork]; exact rfl) (by simp [go_sem, reduceIte, reduceCtorEq, reduceEqDiff, reduceAdd, reduceLT, reduceLeDiff, reduceToNat, eWork]) ?_
  refine CWops.done ?_
  refine CW.cond (by simp only [go_sem, reduceIte, reduceCtorEq, reduceEqDiff, reduceAdd, reduceLT, reduceLeDiff, reduceToNat]; first | done | exact rfl) (fun ct8 => ?_) (fun ct8 => ?_)
  · exfalso; revert ct8; simp <;> omega 
  · refine CW.skip ?_
    refine CW.seq ?_
    refine CW.drawn mixed 9 (by decide) (by kernel_rfl) (by kernel_rfl) (by kernel_rfl) ?_ -- r3
    refine Seg.run htt 1 (by simp only [go_sem, reduceIte, reduceCtorEq, reduceEqDiff, reduceAdd, reduceLT, reduceLeDiff, reduceToNat, eWork, hS, htl, eTypeO, hF, hql]; exact rfl) ?_
    refine Seg.callR (v := .lv 0 [(0, t)] 0) (by simp only [go_sem, reduceIte, reduceCtorEq, reduceEqDiff, reduceAdd, reduceLT, reduceLeDiff, reduceToNat]) (by simp only [go_sem, reduceIte, reduceCtorEq, reduceEqDiff, reduceAdd, reduceLT, reduceLeDiff, reduceToNat]; first | done | exact rfl) (fun n s' hs => by simp only [go_sem, reduceIte, reduceCtorEq, reduceEqDiff, reduceAdd, reduceLT, reduceLeDiff, reduceToNat]; exact kind_R 1 0 t _ _ _ _ _ _ false (s.map eTypeO) n s' (hs _ _ rfl) (hs _ _ rfl) (by simpa using htl)) ?_
    refine Seg.run htt 7 (by simp only [go_sem, reduceIte, reduceCtorEq, reduceEqDiff, reduceAdd, reduceLT, reduceLeDiff, reduceToNat, eWork, hS, htl, eTypeO, hF, hql]; exact rfl) ?_
    refine Seg.done ?_
    refine CWops.run htt 2 (by simp only [go_sem, reduceIte, reduceCtorEq, reduceEqDiff, reduceAdd, reduceLT, reduceLeDiff, reduceToNat, eWork, hS, htl, eTypeO, hF, hql]; exact rfl) (by simp [go_sem, reduceIte, reduceCtorEq, reduceEqDiff, reduceAdd, reduceLT, reduceLeDiff, reduceToNat, eWork, hS, htl, eTypeO, hF, hql]) ?_
    refine CWops.done ?_
    refine CW.seq ?_
    refine CW.seq ?_
    refine CW.drawn mixed 10 (by decide) (by kernel_rfl) (by kernel_rfl) (by kernel_rfl) ?_ -- r4
    refine Seg.run htt 10 (by simp only [go_sem, reduceIte, reduceCtorEq, reduceEqDiff, reduceAdd, reduceLT, reduceLeDiff, reduceToNat, eWork, hS, htl, eTypeO, hF, hql, eField]; exact rfl) ?_
    refine Seg.done ?_
    refine CWops.callA (grade_wider up x.F.Kind f0.Kind) (by simp only [go_sem, reduceIte, reduceCtorEq, reduceEqDiff, reduceAdd, reduceLT, reduceLeDiff, reduceToNat, eWork, hS, htl, eTypeO, hF, hql, eField]) (by simp only [go_sem, reduceIte, reduceCtorEq, reduceEqDiff, reduceAdd, reduceLT, reduceLeDiff, reduceToNat, eWork, hS, htl, eTypeO, hF, hql, eField]; first | done | exact rfl) (by simp only [go_sem, reduceIte, reduceCtorEq, reduceEqDiff, reduceAdd, reduceLT, reduceLeDiff, reduceToNat, eWork, hS, htl, eTypeO, hF, hql, eField]) (by simp only [go_sem, reduceIte, reduceCtorEq, reduceEqDiff, reduceAdd, reduceLT, reduceLeDiff, reduceToNat, eWork, hS, htl, eTypeO, hF, hql, eField]) (fun rt29 hrt29 => ?_)
    subst hrt29
    refine CWops.run htt 1 (by simp only [go_sem, reduceIte, reduceCtorEq, reduceEqDiff, reduceAdd, reduceLT, reduceLeDiff, reduceToNat, eWork, hS, htl, eTypeO, hF, hql, eField]; exact rfl) (by simp [go_sem, reduceIte, reduceCtorEq, reduceEqDiff, reduceAdd, reduceLT, reduceLeDiff, reduceToNat, eWork, hS, htl, eTypeO, hF, hql, eField]) ?_
    refine CWops.done ?_
    refine CW.cond (by simp only [go_sem, reduceIte, reduceCtorEq, reduceEqDiff, reduceAdd, reduceLT, reduceLeDiff, reduceToNat]; first | done | exact rfl) (fun ct30 => ?_) (fun ct30 => ?_)
    · have hw : wider x.F.Kind f0.Kind = false := by simpa using ct30
      refine CW.seq ?_
      refine CW.region (by kernel_rfl) (by kernel_rfl) ?_ -- r5
      refine CWops.run htt 1 (by simp only [go_sem, reduceIte, reduceCtorEq, reduceEqDiff, reduceAdd, reduceLT, reduceLeDiff, reduceToNat, eWork, hS, htl, eTypeO]; exact rfl) (by simp [go_sem, reduceIte, reduceCtorEq, reduceEqDiff, reduceAdd, reduceLT, reduceLeDiff, reduceToNat, eWork, hS, htl, eTypeO]) ?_
      refine CWops.done ?_
      refine CW.ret ?_
      refine ⟨⟨2, [(0, .lv 1 [] 0), (2, .int .i64 (if wider x.F.Kind f0.Kind = true then 0 else 6))], [(0, ⟨false, [.own 2 (List.map eTypeO (if wider x.F.Kind f0.Kind = true then s.set t ⟨ty.Name, ty.F.set q ⟨f0.Name, x.F.Kind, f0.To⟩⟩ else s))]⟩), (1, ⟨true, eWork 0 x (t : Int) ((q : Int))⟩)]⟩, ?_, .inr rfl, by simp [ptrOK, go_sem, reduceIte, reduceCtorEq, reduceEqDiff, reduceAdd, reduceLT, reduceLeDiff, reduceToNat], _, by simp only [f91, go_sem, reduceIte, reduceCtorEq, reduceEqDiff, reduceAdd, reduceLT, reduceLeDiff, reduceToNat]; exact rfl, ?_⟩ -- ret1
      · rw [hw]
        refine Sh.wk0 ?_
        simp [Wk, go_sem, reduceIte, reduceCtorEq, reduceEqDiff, reduceAdd, reduceLT, reduceLeDiff, reduceToNat, eWork]
      · exact ⟨rfl, _, rfl⟩
    · have hw : wider x.F.Kind f0.Kind = true := by simpa using ct30
      refine CW.skip ?_
      refine CW.seq ?_
      refine CW.region (by kernel_rfl) (by kernel_rfl) ?_ -- r6
      refine CWops.run htt 10 (by simp only [go_sem, reduceIte, reduceCtorEq, reduceEqDiff, reduceAdd, reduceLT, reduceLeDiff, reduceToNat, eWork, hS, htl, eTypeO, hF, hql, eField]; exact rfl) (by simp [go_sem, reduceIte, reduceCtorEq, reduceEqDiff, reduceAdd, reduceLT, reduceLeDiff, reduceToNat, eWork, hS, htl, eTypeO, hF, hql, eField]) ?_
      refine CWops.done ?_
      refine CW.seq ?_
      refine CW.region (by kernel_rfl) (by kernel_rfl) ?_ -- r7
      refine CWops.run htt 1 (by simp only [go_sem, reduceIte, reduceCtorEq, reduceEqDiff, reduceAdd, reduceLT, reduceLeDiff, reduceToNat, eWork, hS, htl, eTypeO]; exact rfl) (by simp [go_sem, reduceIte, reduceCtorEq, reduceEqDiff, reduceAdd, reduceLT, reduceLeDiff, reduceToNat, eWork, hS, htl, eTypeO]) ?_
      refine CWops.done ?_
      refine CW.ret ?_
      refine ⟨⟨2, [(0, .lv 1 [] 0), (2, .int .i64 (if wider x.F.Kind f0.Kind = true then 0 else 6))], [(0, ⟨false, [.own 2 (List.map eTypeO (if wider x.F.Kind f0.Kind = true then s.set t ⟨ty.Name, ty.F.set q ⟨f0.Name, x.F.Kind, f0.To⟩⟩ else s))]⟩), (1, ⟨true, eWork 0 x (t : Int) ((q : Int))⟩)]⟩, ?_, .inr rfl, by simp [ptrOK, go_sem, reduceIte, reduceCtorEq, reduceEqDiff, reduceAdd, reduceLT, reduceLeDiff, reduceToNat], _, by simp only [f91, go_sem, reduceIte, reduceCtorEq, reduceEqDiff, reduceAdd, reduceLT, reduceLeDiff, reduceToNat]; exact rfl, ?_⟩ -- ret2
      · rw [hw]
        have hset : (List.map eTypeO s).set t [.str ty.Name, .own 3 ((List.map eField ty.F).set q [.str f0.Name, .int .i64 x.F.Kind, .str f0.To])] = List.map eTypeO (s.set t ⟨ty.Name, ty.F.set q ⟨f0.Name, x.F.Kind, f0.To⟩⟩) := by
          rw [← set_TypeO, List.map_set]; rfl
        refine Sh.wk0 ?_
        simp only [if_true]
        rw [← hset]
        simp [Wk, go_sem, reduceIte, reduceCtorEq, reduceEqDiff, reduceAdd, reduceLT, reduceLeDiff, reduceToNat, eWork]
      · exact ⟨rfl, _, rfl⟩
end Go.Ab
namespace Go.Ab
open Go Go.Proofs.Try
open Nat (reduceEqDiff reduceAdd reduceLT reduceLeDiff reduceBEq reduceSub reduceMul)
open Int (reduceToNat)
set_option maxRecDepth 100000
set_option maxHeartbeats 1600000
set_option linter.unusedSimpArgs false
set_option linter.unusedVariables false
theorem work_add (up : Bool) (s : List GType) (x : GStep) (t : Nat) (at_ : Int) (ty : GType) (hS : s[t]? = some ty) (h5 : ty.F.length ≤ 5) : GCall prog up 92 [.lv 1 [] 0] 2 [(0, ⟨false, [.own 2 (List.map eTypeO (s))]⟩), (1, ⟨true, eWork 0 x (t : Int) (at_)⟩)] (fun r σ' => r = .int .i64 (if (fieldMay s x.F && decide (at_ = -1)) = true then (if ty.F.length = 5 then 5 else 0) else 6) ∧ ∃ tt, σ' = ⟨2, tt, [(0, ⟨false, [.own 2 (List.map eTypeO (if (fieldMay s x.F && decide (at_ = -1)) = true ∧ ¬ ty.F.length = 5 then s.set t ⟨ty.Name, ty.F ++ [x.F]⟩ else s))]⟩), (1, ⟨true, eWork 0 x (t : Int) (at_)⟩)]⟩) := by
  refine GCall.intro htt 1 func92 (by kernel_rfl) rfl (Nat.le_of_ble_eq_true rfl) (CW.told ?_)
  have htl : t < s.length := (List.getElem?_eq_some_iff.1 hS).1
  simp only [tmps0, Nat.reduceAdd]
  refine CW.seq ?_
  refine CW.region (by kernel_rfl) (by kernel_rfl) ?_ -- r0
  refine CWops.run htt 1 (by simp only [go_sem, reduceIte, reduceCtorEq, reduceEqDiff, reduceAdd, reduceLT, reduceLeDiff, reduceToNat, eWork]; exact rfl) (by simp [go_sem, reduceIte, reduceCtorEq, reduceEqDiff, reduceAdd, reduceLT, reduceLeDiff, reduceToNat, eWork]) ?_
  refine CWops.done ?_
  refine CW.seq ?_
  refine CW.region (by kernel_rfl) (by kernel_rfl) ?_ -- r1
  refine CWops.run htt 7 (by simp only [go_sem, reduceIte, reduceCtorEq, reduceEqDiff, reduceAdd, reduceLT, reduceLeDiff, reduceToNat, eWork, eField]; exact rfl) (by simp [go_sem, reduceIte, reduceCtorEq, reduceEqDiff, reduceAdd, reduceLT, reduceLeDiff, reduceToNat, eWork, eField]) ?_
  refine CWops.done ?_
  refine CW.seq ?_
  refine CW.region (by kernel_rfl) (by kernel_rfl) ?_ -- r2
  refine CWops.run htt 4 (by simp only [go_sem, reduceIte, reduceCtorEq, reduceEqDiff, reduceAdd, reduceLT, reduceLeDiff, reduceToNat, eField]; exact rfl) (by simp [go_sem, reduceIte, reduceCtorEq, reduceEqDiff, reduceAdd, reduceLT, reduceLeDiff, reduceToNat, eField]) ?_
  refine CWops.done ?_
  refine CW.cut ⟨3, [(0, .lv 1 [] 0), (3, .lv 2 [] 0), (4, .bool (if x.F.Kind = 5 then !decide (sFind s x.F.To = -1) else decide (x.F.To = ⟨#[]⟩)))], [(0, ⟨false, [.own 2 (List.map eTypeO s)]⟩), (1, ⟨true, eWork 0 x (t : Int) at_⟩), (2, ⟨true, eField x.F⟩)]⟩ ?_ ?_
  · refine CW.seq ?_
    refine CW.region (by kernel_rfl) (by kernel_rfl) ?_ -- r3
    refine CWops.run htt 3 (by simp only [go_sem, reduceIte, reduceCtorEq, reduceEqDiff, reduceAdd, reduceLT, reduceLeDiff, reduceToNat, eField]; exact rfl) (by simp [go_sem, reduceIte, reduceCtorEq, reduceEqDiff, reduceAdd, reduceLT, reduceLeDiff, reduceToNat, eField]) ?_
    refine CWops.done ?_
    refine CW.cond (by simp only [go_sem, reduceIte, reduceCtorEq, reduceEqDiff, reduceAdd, reduceLT, reduceLeDiff, reduceToNat]; first | done | exact rfl) (fun ct15 => ?_) (fun ct15 => ?_)
    · refine CW.drawn mixed 6 (by decide) (by kernel_rfl) (by kernel_rfl) (by kernel_rfl) ?_ -- r4
      refine Seg.run htt 6 (by simp only [go_sem, reduceIte, reduceCtorEq, reduceEqDiff, reduceAdd, reduceLT, reduceLeDiff, reduceToNat, eWork, eSchema, eField]; exact rfl) ?_
      refine Seg.done ?_
      refine CWops.call (schema_Find up s x.F.To) (by simp only [go_sem, reduceIte, reduceCtorEq, reduceEqDiff, reduceAdd, reduceLT, reduceLeDiff, reduceToNat, eWork, eSchema, eField]) (by simp only [go_sem, reduceIte, reduceCtorEq, reduceEqDiff, reduceAdd, reduceLT, reduceLeDiff, reduceToNat, eWork, eSchema, eField]; first | done | exact rfl) (by simp only [go_sem, reduceIte, reduceCtorEq, reduceEqDiff, reduceAdd, reduceLT, reduceLeDiff, reduceToNat, eWork, eSchema, eField]) (fun rt22 hrt22 => ?_)
      subst hrt22; refine ⟨rfl, ?_⟩
      refine CWops.run htt 2 (by simp only [go_sem, reduceIte, reduceCtorEq, reduceEqDiff, reduceAdd, reduceLT, reduceLeDiff, reduceToNat, eWork, eSchema, eField]; exact rfl) (by simp [go_sem, reduceIte, reduceCtorEq, reduceEqDiff, reduceAdd, reduceLT, reduceLeDiff, reduceToNat, eWork, eSchema, eField]) ?_
      refine CWops.done ?_
      first | refine ⟨rfl, Sh.wk0 ?_⟩ | refine Sh.wk0 ?_
      simp_all [Wk, go_sem, reduceIte, reduceCtorEq, reduceEqDiff, reduceAdd, reduceLT, reduceLeDiff, reduceToNat, eSchema, eField, eWork, sFind] <;> rfl
    · refine CW.skip ?_
      first | refine ⟨rfl, Sh.wk0 ?_⟩ | refine Sh.wk0 ?_
      simp_all [Wk, go_sem, reduceIte, reduceCtorEq, reduceEqDiff, reduceAdd, reduceLT, reduceLeDiff, reduceToNat, eSchema, eField, eWork, sFind] <;> rfl
  refine CW.seq ?_
  refine CW.cut ⟨3, [(0, .lv 1 [] 0), (3, .lv 2 [] 0), (48, .bool (!(fieldMay s x.F && decide (at_ = -1))))], [(0, ⟨false, [.own 2 (List.map eTypeO s)]⟩), (1, ⟨true, eWork 0 x (t : Int) at_⟩), (2, ⟨true, eField x.F⟩)]⟩ ?_ ?_
  · refine CW.region (by kernel_rfl) (by kernel_rfl) ?_ -- r5
    refine CWops.run htt 3 (by simp only [go_sem, reduceIte, reduceCtorEq, reduceEqDiff, reduceAdd, reduceLT, reduceLeDiff, reduceToNat, eWork, eField]; exact rfl) (by simp [go_sem, reduceIte, reduceCtorEq, reduceEqDiff, reduceAdd, reduceLT, reduceLeDiff, reduceToNat, eWork, eField]) ?_
    all_goals (first | refine CWops.guard 26 (by simp only [go_sem, reduceIte, reduceCtorEq, reduceEqDiff, reduceAdd, reduceLT, reduceLeDiff, reduceToNat, eWork, eField]; exact rfl) (fun g26 => ?_) (fun g26 => ?_) | skip)
    all_goals (refine CWops.run htt 7 (by simp only [go_sem, reduceIte, reduceCtorEq, reduceEqDiff, reduceAdd, reduceLT, reduceLeDiff, reduceToNat, eWork, eField]; exact rfl) (by simp [go_sem, reduceIte, reduceCtorEq, reduceEqDiff, reduceAdd, reduceLT, reduceLeDiff, reduceToNat, eWork, eField]) ?_)
    all_goals (first | refine CWops.guard 33 (by simp only [go_sem, reduceIte, reduceCtorEq, reduceEqDiff, reduceAdd, reduceLT, reduceLeDiff, reduceToNat, eWork, eField]; exact rfl) (fun g33 => ?_) (fun g33 => ?_) | skip)
    all_goals (refine CWops.run htt 2 (by simp only [go_sem, reduceIte, reduceCtorEq, reduceEqDiff, reduceAdd, reduceLT, reduceLeDiff, reduceToNat, eWork, eField]; exact rfl) (by simp [go_sem, reduceIte, reduceCtorEq, reduceEqDiff, reduceAdd, reduceLT, reduceLeDiff, reduceToNat, eWork, eField]) ?_)
    all_goals (first | (refine CWops.skip ?_ ?_; next => (simp only [go_sem, reduceIte, reduceCtorEq, reduceEqDiff, reduceAdd, reduceLT, reduceLeDiff, reduceToNat]; done)) | (refine CWops.callA (name_May up x.F.Name) (by simp only [go_sem, reduceIte, reduceCtorEq, reduceEqDiff, reduceAdd, reduceLT, reduceLeDiff, reduceToNat, eWork, eField]) (by simp only [go_sem, reduceIte, reduceCtorEq, reduceEqDiff, reduceAdd, reduceLT, reduceLeDiff, reduceToNat, eWork, eField]; first | done | exact rfl) (by simp only [go_sem, reduceIte, reduceCtorEq, reduceEqDiff, reduceAdd, reduceLT, reduceLeDiff, reduceToNat, eWork, eField]) (by simp only [go_sem, reduceIte, reduceCtorEq, reduceEqDiff, reduceAdd, reduceLT, reduceLeDiff, reduceToNat, eWork, eField]) (fun rt36 hrt36 => ?_); subst hrt36))
    all_goals (refine CWops.run htt 3 (by simp only [go_sem, reduceIte, reduceCtorEq, reduceEqDiff, reduceAdd, reduceLT, reduceLeDiff, reduceToNat, eWork, eField]; exact rfl) (by simp [go_sem, reduceIte, reduceCtorEq, reduceEqDiff, reduceAdd, reduceLT, reduceLeDiff, reduceToNat, eWork, eField]) ?_)
    all_goals (first | refine CWops.guard 39 (by simp only [go_sem, reduceIte, reduceCtorEq, reduceEqDiff, reduceAdd, reduceLT, reduceLeDiff, reduceToNat, eWork, eField]; exact rfl) (fun g39 => ?_) (fun g39 => ?_) | skip)
    all_goals (refine CWops.run htt 5 (by simp only [go_sem, reduceIte, reduceCtorEq, reduceEqDiff, reduceAdd, reduceLT, reduceLeDiff, reduceToNat, eWork, eField]; exact rfl) (by simp [go_sem, reduceIte, reduceCtorEq, reduceEqDiff, reduceAdd, reduceLT, reduceLeDiff, reduceToNat, eWork, eField]) ?_)
    all_goals (first | refine CWops.guard 44 (by simp only [go_sem, reduceIte, reduceCtorEq, reduceEqDiff, reduceAdd, reduceLT, reduceLeDiff, reduceToNat, eWork, eField]; exact rfl) (fun g44 => ?_) (fun g44 => ?_) | skip)
    all_goals (refine CWops.run htt 4 (by simp only [go_sem, reduceIte, reduceCtorEq, reduceEqDiff, reduceAdd, reduceLT, reduceLeDiff, reduceToNat, eWork, eField]; exact rfl) (by simp [go_sem, reduceIte, reduceCtorEq, reduceEqDiff, reduceAdd, reduceLT, reduceLeDiff, reduceToNat, eWork, eField]) ?_)
    all_goals (refine CWops.done ?_)
    all_goals (
      first | refine ⟨rfl, Sh.wk0 ?_⟩ | refine Sh.wk0 ?_
      unfold fieldMay
      by_cases hk : x.F.Kind = 5 <;> by_cases ha : at_ = -1 <;> simp_all [Wk, go_sem, reduceIte, reduceCtorEq, reduceEqDiff, reduceAdd, reduceLT, reduceLeDiff, reduceToNat, eField, eWork] <;> first | done | omega | (rw [Bool.eq_iff_iff]; simp <;> omega))
  refine CW.cond (by simp only [go_sem, reduceIte, reduceCtorEq, reduceEqDiff, reduceAdd, reduceLT, reduceLeDiff, reduceToNat]; first | done | exact rfl) (fun ct48 => ?_) (fun ct48 => ?_)
  · have hok : (fieldMay s x.F && decide (at_ = -1)) = false := by simp only [Bool.not_eq_true'] at ct48; exact ct48
    refine CW.seq ?_
    refine CW.region (by kernel_rfl) (by kernel_rfl) ?_ -- r6
    refine CWops.run htt 1 (by simp only [go_sem, reduceIte, reduceCtorEq, reduceEqDiff, reduceAdd, reduceLT, reduceLeDiff, reduceToNat, eWork]; exact rfl) (by simp [go_sem, reduceIte, reduceCtorEq, reduceEqDiff, reduceAdd, reduceLT, reduceLeDiff, reduceToNat, eWork]) ?_
    refine CWops.done ?_
    refine CW.ret ?_
    refine ⟨⟨2, [(0, .lv 1 [] 0), (2, .int .i64 (if (fieldMay s x.F && decide (at_ = -1)) = true then (if ty.F.length = 5 then 5 else 0) else 6))], [(0, ⟨false, [.own 2 (List.map eTypeO (if (fieldMay s x.F && decide (at_ = -1)) = true ∧ ¬ ty.F.length = 5 then s.set t ⟨ty.Name, ty.F ++ [x.F]⟩ else s))]⟩), (1, ⟨true, eWork 0 x (t : Int) (at_)⟩)]⟩, ?_, .inr rfl, by simp [ptrOK, go_sem, reduceIte, reduceCtorEq, reduceEqDiff, reduceAdd, reduceLT, reduceLeDiff, reduceToNat], _, by simp only [f92, go_sem, reduceIte, reduceCtorEq, reduceEqDiff, reduceAdd, reduceLT, reduceLeDiff, reduceToNat]; exact rfl, ?_⟩ -- ret1
    · rw [hok]
      refine Sh.wk0 ?_
      simp [Wk, go_sem, reduceIte, reduceCtorEq, reduceEqDiff, reduceAdd, reduceLT, reduceLeDiff, reduceToNat, eWork]
    · exact ⟨rfl, _, rfl⟩
  · have hok : (fieldMay s x.F && decide (at_ = -1)) = true := by simp only [Bool.not_eq_false'] at ct48; exact ct48
    refine CW.skip ?_
    refine CW.seq ?_
    refine CW.seq ?_
    refine CW.region (by kernel_rfl) (by kernel_rfl) ?_ -- r7
    refine CWops.run htt 1 (by simp only [go_sem, reduceIte, reduceCtorEq, reduceEqDiff, reduceAdd, reduceLT, reduceLeDiff, reduceToNat, eWork, hS, htl, eTypeO]; exact rfl) (by simp [go_sem, reduceIte, reduceCtorEq, reduceEqDiff, reduceAdd, reduceLT, reduceLeDiff, reduceToNat, eWork, hS, htl, eTypeO]) ?_
    refine CWops.callR (r := .lv 0 [(0, t)] 0) (by simp only [go_sem, reduceIte, reduceCtorEq, reduceEqDiff, reduceAdd, reduceLT, reduceLeDiff, reduceToNat]) (by simp only [go_sem, reduceIte, reduceCtorEq, reduceEqDiff, reduceAdd, reduceLT, reduceLeDiff, reduceToNat]; first | done | exact rfl) (by simp only [go_sem, reduceIte, reduceCtorEq, reduceEqDiff, reduceAdd, reduceLT, reduceLeDiff, reduceToNat]; exact kind_R 1 0 t _ _ _ _ _ _ false (s.map eTypeO) _ _ rfl rfl (by simpa using htl)) ?_
    refine CWops.run htt 5 (by simp only [go_sem, reduceIte, reduceCtorEq, reduceEqDiff, reduceAdd, reduceLT, reduceLeDiff, reduceToNat, eWork, hS, htl, eTypeO]; exact rfl) (by simp [go_sem, reduceIte, reduceCtorEq, reduceEqDiff, reduceAdd, reduceLT, reduceLeDiff, reduceToNat, eWork, hS, htl, eTypeO]) ?_
    refine CWops.done ?_
    refine CW.cond (by simp only [go_sem, reduceIte, reduceCtorEq, reduceEqDiff, reduceAdd, reduceLT, reduceLeDiff, reduceToNat]; first | done | exact rfl) (fun ct55 => ?_) (fun ct55 => ?_)
    · have h55 : ty.F.length = 5 := by simp at ct55; omega
      refine CW.seq ?_
      refine CW.region (by kernel_rfl) (by kernel_rfl) ?_ -- r8
      refine CWops.run htt 1 (by simp only [go_sem, reduceIte, reduceCtorEq, reduceEqDiff, reduceAdd, reduceLT, reduceLeDiff, reduceToNat, eWork]; exact rfl) (by simp [go_sem, reduceIte, reduceCtorEq, reduceEqDiff, reduceAdd, reduceLT, reduceLeDiff, reduceToNat, eWork]) ?_
      refine CWops.done ?_
      refine CW.ret ?_
      refine ⟨⟨2, [(0, .lv 1 [] 0), (2, .int .i64 (if (fieldMay s x.F && decide (at_ = -1)) = true then (if ty.F.length = 5 then 5 else 0) else 6))], [(0, ⟨false, [.own 2 (List.map eTypeO (if (fieldMay s x.F && decide (at_ = -1)) = true ∧ ¬ ty.F.length = 5 then s.set t ⟨ty.Name, ty.F ++ [x.F]⟩ else s))]⟩), (1, ⟨true, eWork 0 x (t : Int) (at_)⟩)]⟩, ?_, .inr rfl, by simp [ptrOK, go_sem, reduceIte, reduceCtorEq, reduceEqDiff, reduceAdd, reduceLT, reduceLeDiff, reduceToNat], _, by simp only [f92, go_sem, reduceIte, reduceCtorEq, reduceEqDiff, reduceAdd, reduceLT, reduceLeDiff, reduceToNat]; exact rfl, ?_⟩ -- ret2
      · rw [hok, h55]
        refine Sh.wk0 ?_
        simp [Wk, go_sem, reduceIte, reduceCtorEq, reduceEqDiff, reduceAdd, reduceLT, reduceLeDiff, reduceToNat, eWork]
      · exact ⟨rfl, _, rfl⟩
    · have h55 : ¬ ty.F.length = 5 := by simp at ct55; omega
      refine CW.skip ?_
      refine CW.seq ?_
      refine CW.drawn mixed 9 (by decide) (by kernel_rfl) (by kernel_rfl) (by kernel_rfl) ?_ -- r9
      refine Seg.run htt 1 (by simp only [go_sem, reduceIte, reduceCtorEq, reduceEqDiff, reduceAdd, reduceLT, reduceLeDiff, reduceToNat, eWork, hS, htl, eTypeO, eField, List.getElem?_set_self, List.length_map, List.set_set]; exact rfl) ?_
      refine Seg.callR (v := .lv 0 [(0, t)] 0) (by simp only [go_sem, reduceIte, reduceCtorEq, reduceEqDiff, reduceAdd, reduceLT, reduceLeDiff, reduceToNat]) (by simp only [go_sem, reduceIte, reduceCtorEq, reduceEqDiff, reduceAdd, reduceLT, reduceLeDiff, reduceToNat]; first | done | exact rfl) (fun n s' hs => by simp only [go_sem, reduceIte, reduceCtorEq, reduceEqDiff, reduceAdd, reduceLT, reduceLeDiff, reduceToNat]; exact kind_R 1 0 t _ _ _ _ _ _ false (s.map eTypeO) n s' (hs _ _ rfl) (hs _ _ rfl) (by simpa using htl)) ?_
      refine Seg.run htt 1 (by simp only [go_sem, reduceIte, reduceCtorEq, reduceEqDiff, reduceAdd, reduceLT, reduceLeDiff, reduceToNat, eWork, hS, htl, eTypeO, eField, List.getElem?_set_self, List.length_map, List.set_set]; exact rfl) ?_
      refine Seg.callR (v := .lv 0 [(0, t)] 0) (by simp only [go_sem, reduceIte, reduceCtorEq, reduceEqDiff, reduceAdd, reduceLT, reduceLeDiff, reduceToNat]) (by simp only [go_sem, reduceIte, reduceCtorEq, reduceEqDiff, reduceAdd, reduceLT, reduceLeDiff, reduceToNat]; first | done | exact rfl) (fun n s' hs => by simp only [go_sem, reduceIte, reduceCtorEq, reduceEqDiff, reduceAdd, reduceLT, reduceLeDiff, reduceToNat]; exact kind_R 1 0 t _ _ _ _ _ _ false (s.map eTypeO) n s' (hs _ _ rfl) (hs _ _ rfl) (by simpa using htl)) ?_
      refine Seg.run htt 5 (by simp only [go_sem, reduceIte, reduceCtorEq, reduceEqDiff, reduceAdd, reduceLT, reduceLeDiff, reduceToNat, eWork, hS, htl, eTypeO, eField, List.getElem?_set_self, List.length_map, List.set_set]; exact rfl) ?_
      refine Seg.done ?_
      refine CWops.run htt 4 (by simp only [go_sem, reduceIte, reduceCtorEq, reduceEqDiff, reduceAdd, reduceLT, reduceLeDiff, reduceToNat, eWork, hS, htl, eTypeO, eField, List.getElem?_set_self, List.length_map, List.set_set]; exact rfl) (by simp [AV.cell, AV.tree, eField, MX] <;> omega) ?_
      refine CWops.done ?_
      refine CW.seq ?_
      refine CW.region (by kernel_rfl) (by kernel_rfl) ?_ -- r10
      refine CWops.run htt 1 (by simp only [go_sem, reduceIte, reduceCtorEq, reduceEqDiff, reduceAdd, reduceLT, reduceLeDiff, reduceToNat, eWork]; exact rfl) (by simp [go_sem, reduceIte, reduceCtorEq, reduceEqDiff, reduceAdd, reduceLT, reduceLeDiff, reduceToNat, eWork]) ?_
      refine CWops.done ?_
      refine CW.ret ?_
      refine ⟨⟨2, [(0, .lv 1 [] 0), (2, .int .i64 (if (fieldMay s x.F && decide (at_ = -1)) = true then (if ty.F.length = 5 then 5 else 0) else 6))], [(0, ⟨false, [.own 2 (List.map eTypeO (if (fieldMay s x.F && decide (at_ = -1)) = true ∧ ¬ ty.F.length = 5 then s.set t ⟨ty.Name, ty.F ++ [x.F]⟩ else s))]⟩), (1, ⟨true, eWork 0 x (t : Int) (at_)⟩)]⟩, ?_, .inr rfl, by simp [ptrOK, go_sem, reduceIte, reduceCtorEq, reduceEqDiff, reduceAdd, reduceLT, reduceLeDiff, reduceToNat], _, by simp only [f92, go_sem, reduceIte, reduceCtorEq, reduceEqDiff, reduceAdd, reduceLT, reduceLeDiff, reduceToNat]; exact rfl, ?_⟩ -- ret3
      · have hset : (List.map eTypeO s).set t [.str ty.Name, .own 3 (List.map eField ty.F ++ [[.str x.F.Name, .int .i64 x.F.Kind, .str x.F.To]])] = List.map eTypeO (s.set t ⟨ty.Name, ty.F ++ [x.F]⟩) := by
          rw [← set_TypeO, List.map_append]; rfl
        rw [hok, if_pos rfl, if_neg h55, if_pos ⟨rfl, h55⟩, ← hset]
        refine Sh.wk0 ?_
        simp [Wk, go_sem, reduceIte, reduceCtorEq, reduceEqDiff, reduceAdd, reduceLT, reduceLeDiff, reduceToNat, eWork]
      · exact ⟨rfl, _, rfl⟩
theorem work_drop_no (up : Bool) (s : List GType) (x : GStep) (t : Nat)  : GCall prog up 93 [.lv 1 [] 0] 2 [(0, ⟨false, [.own 2 (List.map eTypeO (s))]⟩), (1, ⟨true, eWork 0 x (t : Int) (-1)⟩)] (fun r σ' => r = .int .i64 (11) ∧ ∃ tt, σ' = ⟨2, tt, [(0, ⟨false, [.own 2 (List.map eTypeO (s))]⟩), (1, ⟨true, eWork 0 x (t : Int) (-1)⟩)]⟩) := by
  refine GCall.intro htt 1 func93 (by kernel_rfl) rfl (Nat.le_of_ble_eq_true rfl) (CW.told ?_)

  simp only [tmps0, Nat.reduceAdd]
  refine CW.seq ?_
  refine CW.region (by kernel_rfl) (by kernel_rfl) ?_ -- r0
  refine CWops.run htt 1 (by simp only [go_sem, reduceIte, reduceCtorEq, reduceEqDiff, reduceAdd, reduceLT, reduceLeDiff, reduceToNat, eWork]; exact rfl) (by simp [go_sem, reduceIte, reduceCtorEq, reduceEqDiff, reduceAdd, reduceLT, reduceLeDiff, reduceToNat, eWork]) ?_
  refine CWops.done ?_
  refine CW.seq ?_
  refine CW.seq ?_
  refine CW.region (by kernel_rfl) (by kernel_rfl) ?_ -- r1
  refine CWops.run htt 5 (by simp only [go_sem, reduceIte, reduceCtorEq, reduceEqDiff, reduceAdd, reduceLT, reduceLeDiff, reduceToNat, eWork]; exact rfl) (by simp [go_sem, reduceIte, reduceCtorEq, reduceEqDiff, reduceAdd, reduceLT, reduceLeDiff, reduceToNat, eWork]) ?_
  refine CWops.done ?_
  refine CW.cond (by simp only [go_sem, reduceIte, reduceCtorEq, reduceEqDiff, reduceAdd, reduceLT, reduceLeDiff, reduceToNat]; first | done | exact rfl) (fun ct7 => ?_) (fun ct7 => ?_)
  · refine CW.seq ?_
    refine CW.region (by kernel_rfl) (by kernel_rfl) ?_ -- r2
    refine CWops.run htt 1 (by simp only [go_sem, reduceIte, reduceCtorEq, reduceEqDiff, reduceAdd, reduceLT, reduceLeDiff, reduceToNat, eWork]; exact rfl) (by simp [go_sem, reduceIte, reduceCtorEq, reduceEqDiff, reduceAdd, reduceLT, reduceLeDiff, reduceToNat, eWork]) ?_
    refine CWops.done ?_
    refine CW.ret ?_
    refine ⟨⟨2, [(0, .lv 1 [] 0), (2, .int .i64 (11))], [(0, ⟨false, [.own 2 (List.map eTypeO (s))]⟩), (1, ⟨true, eWork 0 x (t : Int) (-1)⟩)]⟩, ?_, .inr rfl, by simp [ptrOK, go_sem, reduceIte, reduceCtorEq, reduceEqDiff, reduceAdd, reduceLT, reduceLeDiff, reduceToNat], _, by simp only [f93, go_sem, reduceIte, reduceCtorEq, reduceEqDiff, reduceAdd, reduceLT, reduceLeDiff, reduceToNat]; exact rfl, ?_⟩ -- ret1
    · refine Sh.wk0 ?_
      simp [Wk, go_sem, reduceIte, reduceCtorEq, reduceEqDiff, reduceAdd, reduceLT, reduceLeDiff, reduceToNat, eWork]
    · exact ⟨rfl, _, rfl⟩
  · exfalso; revert ct7; simp
end Go.Ab
namespace Go.Ab
open Go Go.Proofs.Try
open Nat (reduceEqDiff reduceAdd reduceLT reduceLeDiff reduceBEq reduceSub reduceMul)
open Int (reduceToNat)
set_option maxRecDepth 100000
set_option maxHeartbeats 1600000
set_option linter.unusedSimpArgs false
set_option linter.unusedVariables false
theorem work_drop_at (up : Bool) (s : List GType) (x : GStep) (t : Nat) (ty : GType) (hS : s[t]? = some ty) (q : Nat) (f0 : GField) (hF : ty.F[q]? = some f0) (h5 : ty.F.length ≤ 5) : GCall prog up 93 [.lv 1 [] 0] 2 [(0, ⟨false, [.own 2 (List.map eTypeO (s))]⟩), (1, ⟨true, eWork 0 x (t : Int) ((q : Int))⟩)] (fun r σ' => r = .int .i64 (0) ∧ ∃ tt, σ' = ⟨2, tt, [(0, ⟨false, [.own 2 (List.map eTypeO (s.set t ⟨ty.Name, ty.F.eraseIdx q⟩))]⟩), (1, ⟨true, eWork 0 x (t : Int) ((q : Int))⟩)]⟩) := by
  refine GCall.intro htt 1 func93 (by kernel_rfl) rfl (Nat.le_of_ble_eq_true rfl) (CW.told ?_)
  have htl : t < s.length := (List.getElem?_eq_some_iff.1 hS).1
  have hql : q < ty.F.length := (List.getElem?_eq_some_iff.1 hF).1
  have hw1 : IntKind.i64.wrap ((q : Int) + 1) = (q : Int) + 1 := by have := @wrap_succ q (by unfold MX; omega); rw [this]; omega
  simp only [tmps0, Nat.reduceAdd]
  refine CW.seq ?_
  refine CW.region (by kernel_rfl) (by kernel_rfl) ?_ -- r0
  refine CWops.run htt 1 (by simp only [go_sem, reduceIte, reduceCtorEq, reduceEqDiff, reduceAdd, reduceLT, reduceLeDiff, reduceToNat, eWork]; exact rfl) (by simp [go_sem, reduceIte, reduceCtorEq, reduceEqDiff, reduceAdd, reduceLT, reduceLeDiff, reduceToNat, eWork]) ?_
  refine CWops.done ?_
  refine CW.seq ?_
  refine CW.seq ?_
  refine CW.region (by kernel_rfl) (by kernel_rfl) ?_ -- r1
  refine CWops.run htt 5 (by simp only [go_sem, reduceIte, reduceCtorEq, reduceEqDiff, reduceAdd, reduceLT, reduceLeDiff, reduceToNat, eWork]; exact rfl) (by simp [go_sem, reduceIte, reduceCtorEq, reduceEqDiff, reduceAdd, reduceLT, reduceLeDiff, reduceToNat, eWork]) ?_
  refine CWops.done ?_
  refine CW.cond (by simp only [go_sem, reduceIte, reduceCtorEq, reduceEqDiff, reduceAdd, reduceLT, reduceLeDiff, reduceToNat]; first | done | exact rfl) (fun ct7 => ?_) (fun ct7 => ?_)
  · exfalso; revert ct7; simp <;> omega 
  · refine CW.skip ?_
    refine CW.seq ?_
    refine CW.drawn mixed 16 (by decide) (by kernel_rfl) (by kernel_rfl) (by kernel_rfl) ?_ -- r3
    refine Seg.run htt 1 (by simp only [go_sem, reduceIte, reduceCtorEq, reduceEqDiff, reduceAdd, reduceLT, reduceLeDiff, reduceToNat, eWork, hS, htl, eTypeO, eField, List.getElem?_set_self, List.length_map, List.set_set, hF, hql, hw1]; exact rfl) ?_
    refine Seg.callR (v := .lv 0 [(0, t)] 0) (by simp only [go_sem, reduceIte, reduceCtorEq, reduceEqDiff, reduceAdd, reduceLT, reduceLeDiff, reduceToNat]) (by simp only [go_sem, reduceIte, reduceCtorEq, reduceEqDiff, reduceAdd, reduceLT, reduceLeDiff, reduceToNat]; first | done | exact rfl) (fun n s' hs => by simp only [go_sem, reduceIte, reduceCtorEq, reduceEqDiff, reduceAdd, reduceLT, reduceLeDiff, reduceToNat]; exact kind_R 1 0 t _ _ _ _ _ _ false (s.map eTypeO) n s' (hs _ _ rfl) (hs _ _ rfl) (by simpa using htl)) ?_
    refine Seg.run htt 1 (by simp only [go_sem, reduceIte, reduceCtorEq, reduceEqDiff, reduceAdd, reduceLT, reduceLeDiff, reduceToNat, eWork, hS, htl, eTypeO, eField, List.getElem?_set_self, List.length_map, List.set_set, hF, hql, hw1]; exact rfl) ?_
    refine Seg.callR (v := .lv 0 [(0, t)] 0) (by simp only [go_sem, reduceIte, reduceCtorEq, reduceEqDiff, reduceAdd, reduceLT, reduceLeDiff, reduceToNat]) (by simp only [go_sem, reduceIte, reduceCtorEq, reduceEqDiff, reduceAdd, reduceLT, reduceLeDiff, reduceToNat]; first | done | exact rfl) (fun n s' hs => by simp only [go_sem, reduceIte, reduceCtorEq, reduceEqDiff, reduceAdd, reduceLT, reduceLeDiff, reduceToNat]; exact kind_R 1 0 t _ _ _ _ _ _ false (s.map eTypeO) n s' (hs _ _ rfl) (hs _ _ rfl) (by simpa using htl)) ?_
    refine Seg.run htt 12 (by simp only [go_sem, reduceIte, reduceCtorEq, reduceEqDiff, reduceAdd, reduceLT, reduceLeDiff, reduceToNat, eWork, hS, htl, eTypeO, eField, List.getElem?_set_self, List.length_map, List.set_set, hF, hql, hw1]; exact rfl) ?_
    refine Seg.done ?_
    refine CWops.sh (Sh.outP 14 0 [(0, t)] 1 (n := 3) (rows := ty.F.map eField) (by simp only [go_sem, reduceIte, reduceCtorEq, reduceEqDiff, reduceAdd, reduceLT, reduceLeDiff, reduceToNat]) (by simp only [go_sem, reduceIte, reduceCtorEq, reduceEqDiff, reduceAdd, reduceLT, reduceLeDiff, reduceToNat, eWork, hS, htl, eTypeO]) rfl) ?_
    simp only [go_sem, reduceIte, reduceCtorEq, reduceEqDiff, reduceAdd, reduceLT, reduceLeDiff, reduceToNat, eWork, hS, htl, eTypeO]
    refine CWops.callG [2] rfl (delete_Field up ty.F q hql) (by simp only [go_sem, reduceIte, reduceCtorEq, reduceEqDiff, reduceAdd, reduceLT, reduceLeDiff, reduceToNat]) (by simp only [go_sem, reduceIte, reduceCtorEq, reduceEqDiff, reduceAdd, reduceLT, reduceLeDiff, reduceToNat]; first | done | exact rfl) (by decide) (by simp [go_sem, reduceIte, reduceCtorEq, reduceEqDiff, reduceAdd, reduceLT, reduceLeDiff, reduceToNat, mName, memB]) (by simp [go_sem, reduceIte, reduceCtorEq, reduceEqDiff, reduceAdd, reduceLT, reduceLeDiff, reduceToNat, mName]) (by simp [go_sem, reduceIte, reduceCtorEq, reduceEqDiff, reduceAdd, reduceLT, reduceLeDiff, reduceToNat]) (by simp [go_sem, reduceIte, reduceCtorEq, reduceEqDiff, reduceAdd, reduceLT, reduceLeDiff, reduceToNat]) (by simp [go_sem, reduceIte, reduceCtorEq, reduceEqDiff, reduceAdd, reduceLT, reduceLeDiff, reduceToNat, mName]) (fun r σ' hσ => ?_)
    obtain ⟨σn, σt, σs⟩ := σ'
    simp only at hσ
    obtain ⟨rfl, rfl, rfl⟩ := hσ
    simp only [aftS, renS, delAll, memB, mName, List.getD_nil, killH, kref, ren, Nat.beq_eq, go_sem, reduceIte, reduceCtorEq, reduceEqDiff, reduceAdd, reduceLT, reduceLeDiff, reduceToNat]
    refine CWops.run htt 3 (by simp only [go_sem, reduceIte, reduceCtorEq, reduceEqDiff, reduceAdd, reduceLT, reduceLeDiff, reduceToNat, eWork, hS, htl, eTypeO, eField, List.getElem?_set_self, List.length_map, List.set_set, hF, hql, hw1]; exact rfl) (by simp [go_sem, reduceIte, reduceCtorEq, reduceEqDiff, reduceAdd, reduceLT, reduceLeDiff, reduceToNat, eWork, hS, htl, eTypeO, eField, List.getElem?_set_self, List.length_map, List.set_set, hF, hql, hw1]) ?_
    refine CWops.done ?_
    refine CW.seq ?_
    refine CW.region (by kernel_rfl) (by kernel_rfl) ?_ -- r4
    refine CWops.run htt 1 (by simp only [go_sem, reduceIte, reduceCtorEq, reduceEqDiff, reduceAdd, reduceLT, reduceLeDiff, reduceToNat, eWork]; exact rfl) (by simp [go_sem, reduceIte, reduceCtorEq, reduceEqDiff, reduceAdd, reduceLT, reduceLeDiff, reduceToNat, eWork]) ?_
    refine CWops.done ?_
    refine CW.ret ?_
    refine ⟨⟨2, [(0, .lv 1 [] 0), (2, .int .i64 (0))], [(0, ⟨false, [.own 2 (List.map eTypeO (s.set t ⟨ty.Name, ty.F.eraseIdx q⟩))]⟩), (1, ⟨true, eWork 0 x (t : Int) ((q : Int))⟩)]⟩, ?_, .inr rfl, by simp [ptrOK, go_sem, reduceIte, reduceCtorEq, reduceEqDiff, reduceAdd, reduceLT, reduceLeDiff, reduceToNat], _, by simp only [f93, go_sem, reduceIte, reduceCtorEq, reduceEqDiff, reduceAdd, reduceLT, reduceLeDiff, reduceToNat]; exact rfl, ?_⟩ -- ret1
    · have hset : (List.map eTypeO s).set t [.str ty.Name, .own 3 (List.map eField (ty.F.eraseIdx q))] = List.map eTypeO (s.set t ⟨ty.Name, ty.F.eraseIdx q⟩) := by
        rw [← set_TypeO]
      rw [← hset]
      refine Sh.wk0 ?_
      simp [Wk, go_sem, reduceIte, reduceCtorEq, reduceEqDiff, reduceAdd, reduceLT, reduceLeDiff, reduceToNat, eWork]
    · exact ⟨rfl, _, rfl⟩
end Go.Ab
namespace Go.Ab
open Go Go.Proofs.Try
open Nat (reduceEqDiff reduceAdd reduceLT reduceLeDiff reduceBEq reduceSub reduceMul)
open Int (reduceToNat)
set_option maxRecDepth 100000
set_option maxHeartbeats 1600000
set_option linter.unusedSimpArgs false
set_option linter.unusedVariables false
theorem grade_own1 (up : Bool) (s : List GType) (h1 : s.length * 40 ≤ MX) (h2 : ∀ x ∈ s, x.F.length * 40 ≤ MX) : GCall prog up 89 [.agg (eSchema s)] 0 [] (fun r σ' => r = .agg [.ref 0 [] 0] ∧ σ'.n = 1 ∧ σ'.s = [(0, ⟨false, [.own 2 (s.map eTypeO)]⟩)]) := by
  refine GCall.told0 (grade_own up s h1 h2) fun r σ' hσ => ?_
  obtain ⟨σn, σt, σs⟩ := σ'
  simp only at hσ
  obtain ⟨rfl, rfl, rfl⟩ := hσ
  refine ⟨⟨1, [(0, .agg [.ref 0 [] 0])], [(0, ⟨false, [.own 2 (s.map eTypeO)]⟩)]⟩, Sh.wk0 ?_, rfl, rfl, rfl⟩
  simp [Wk, go_sem, reduceIte, reduceCtorEq, reduceEqDiff, reduceAdd, reduceLT, reduceLeDiff, reduceToNat]
theorem do_bad (up : Bool) (s : List GType) (x : GStep) (hb : (schemaMay s && (decide (0 ≤ x.Do) && decide (x.Do < 3))) = false) : GCall prog up 43 [.agg (eSchema s), .agg (eStep x)] 0 [] (fun r σ' => r = .tup [.nilp, .int .i64 (1)] ∧ σ'.n = 0 ∧ σ'.s = []) := by
  refine GCall.intro htt 0 func43 (by kernel_rfl) rfl (Nat.le_of_ble_eq_true rfl) (CW.told ?_)

  simp only [tmps0, Nat.reduceAdd]
  refine CW.seq ?_
  refine CW.region (by kernel_rfl) (by kernel_rfl) ?_ -- r0
  refine CWops.run htt 4 (by simp only [go_sem, reduceIte, reduceCtorEq, reduceEqDiff, reduceAdd, reduceLT, reduceLeDiff, reduceToNat, eSchema, eStep]; exact rfl) (by simp [go_sem, reduceIte, reduceCtorEq, reduceEqDiff, reduceAdd, reduceLT, reduceLeDiff, reduceToNat, eSchema, eStep]) ?_
  refine CWops.done ?_
  refine CW.seq ?_
  refine CW.cut ⟨2, [(2, .lv 0 [] 0), (3, .lv 1 [] 0), (21, .bool (!(schemaMay s && (decide (0 ≤ x.Do) && decide (x.Do < 3)))))], [(0, ⟨true, eSchema s⟩), (1, ⟨true, eStep x⟩)]⟩ ?_ ?_
  · refine CW.region (by kernel_rfl) (by kernel_rfl) ?_ -- r1
    refine CWops.run htt 1 (by simp only [go_sem, reduceIte, reduceCtorEq, reduceEqDiff, reduceAdd, reduceLT, reduceLeDiff, reduceToNat, eSchema, eStep]; exact rfl) (by simp [go_sem, reduceIte, reduceCtorEq, reduceEqDiff, reduceAdd, reduceLT, reduceLeDiff, reduceToNat, eSchema, eStep]) ?_
    refine CWops.call (schema_May up s) (by simp only [go_sem, reduceIte, reduceCtorEq, reduceEqDiff, reduceAdd, reduceLT, reduceLeDiff, reduceToNat, eSchema, eStep]) (by simp only [go_sem, reduceIte, reduceCtorEq, reduceEqDiff, reduceAdd, reduceLT, reduceLeDiff, reduceToNat, eSchema, eStep]; first | done | exact rfl) (by simp only [go_sem, reduceIte, reduceCtorEq, reduceEqDiff, reduceAdd, reduceLT, reduceLeDiff, reduceToNat, eSchema, eStep]) (fun rt10 hrt10 => ?_)
    subst hrt10; refine ⟨rfl, ?_⟩
    refine CWops.run htt 2 (by simp only [go_sem, reduceIte, reduceCtorEq, reduceEqDiff, reduceAdd, reduceLT, reduceLeDiff, reduceToNat, eSchema, eStep]; exact rfl) (by simp [go_sem, reduceIte, reduceCtorEq, reduceEqDiff, reduceAdd, reduceLT, reduceLeDiff, reduceToNat, eSchema, eStep]) ?_
    all_goals (first | refine CWops.guard 12 (by simp only [go_sem, reduceIte, reduceCtorEq, reduceEqDiff, reduceAdd, reduceLT, reduceLeDiff, reduceToNat, eSchema, eStep]; exact rfl) (fun g12 => ?_) (fun g12 => ?_) | skip)
    all_goals (refine CWops.run htt 5 (by simp only [go_sem, reduceIte, reduceCtorEq, reduceEqDiff, reduceAdd, reduceLT, reduceLeDiff, reduceToNat, eSchema, eStep]; exact rfl) (by simp [go_sem, reduceIte, reduceCtorEq, reduceEqDiff, reduceAdd, reduceLT, reduceLeDiff, reduceToNat, eSchema, eStep]) ?_)
    all_goals (first | refine CWops.guard 17 (by simp only [go_sem, reduceIte, reduceCtorEq, reduceEqDiff, reduceAdd, reduceLT, reduceLeDiff, reduceToNat, eSchema, eStep]; exact rfl) (fun g17 => ?_) (fun g17 => ?_) | skip)
    all_goals (refine CWops.run htt 4 (by simp only [go_sem, reduceIte, reduceCtorEq, reduceEqDiff, reduceAdd, reduceLT, reduceLeDiff, reduceToNat, eSchema, eStep]; exact rfl) (by simp [go_sem, reduceIte, reduceCtorEq, reduceEqDiff, reduceAdd, reduceLT, reduceLeDiff, reduceToNat, eSchema, eStep]) ?_)
    all_goals (refine CWops.done ?_)
    all_goals (
      first | refine ⟨rfl, Sh.wk0 ?_⟩ | refine Sh.wk0 ?_
      by_cases b1 : 0 ≤ x.Do <;> by_cases b2 : x.Do < 3 <;> cases hsm : schemaMay s <;> simp_all [Wk, go_sem, reduceIte, reduceCtorEq, reduceEqDiff, reduceAdd, reduceLT, reduceLeDiff, reduceToNat, eSchema, eStep] <;> first | done | omega)
  refine CW.cond (by simp only [go_sem, reduceIte, reduceCtorEq, reduceEqDiff, reduceAdd, reduceLT, reduceLeDiff, reduceToNat]; first | done | exact rfl) (fun ct21 => ?_) (fun ct21 => ?_)
  · refine CW.seq ?_
    refine CW.region (by kernel_rfl) (by kernel_rfl) ?_ -- r2
    refine CWops.run htt 2 (by simp only [go_sem, reduceIte, reduceCtorEq, reduceEqDiff, reduceAdd, reduceLT, reduceLeDiff, reduceToNat]; exact rfl) (by simp [go_sem, reduceIte, reduceCtorEq, reduceEqDiff, reduceAdd, reduceLT, reduceLeDiff, reduceToNat]) ?_
    refine CWops.done ?_
    refine CW.ret ?_
    refine ⟨⟨0, [(4, .nilp), (5, .int .i64 (1))], []⟩, ?_, .inr rfl, by simp [ptrOK, go_sem, reduceIte, reduceCtorEq, reduceEqDiff, reduceAdd, reduceLT, reduceLeDiff, reduceToNat], _, by simp only [f43, go_sem, reduceIte, reduceCtorEq, reduceEqDiff, reduceAdd, reduceLT, reduceLeDiff, reduceToNat]; exact rfl, ?_⟩ -- ret1
    · refine Sh.wk0 ?_
      simp [Wk, go_sem, reduceIte, reduceCtorEq, reduceEqDiff, reduceAdd, reduceLT, reduceLeDiff, reduceToNat]
    · exact ⟨rfl, rfl, rfl⟩
  · rw [hb] at ct21; cases ct21
theorem do_none (up : Bool) (s : List GType) (x : GStep) (h1 : s.length * 40 ≤ MX) (h2 : ∀ x ∈ s, x.F.length * 40 ≤ MX) (hb : (schemaMay s && (decide (0 ≤ x.Do) && decide (x.Do < 3))) = true) (hf : fnd (fun o => decide (o.Name = x.Ty)) s = -1) : GCall prog up 43 [.agg (eSchema s), .agg (eStep x)] 0 [] (fun r σ' => r = .tup [.nilp, .int .i64 (11)] ∧ σ'.n = 0 ∧ σ'.s = []) := by
  refine GCall.intro htt 0 func43 (by kernel_rfl) rfl (Nat.le_of_ble_eq_true rfl) (CW.told ?_)

  simp only [tmps0, Nat.reduceAdd]
  refine CW.seq ?_
  refine CW.region (by kernel_rfl) (by kernel_rfl) ?_ -- r0
  refine CWops.run htt 4 (by simp only [go_sem, reduceIte, reduceCtorEq, reduceEqDiff, reduceAdd, reduceLT, reduceLeDiff, reduceToNat, eSchema, eStep]; exact rfl) (by simp [go_sem, reduceIte, reduceCtorEq, reduceEqDiff, reduceAdd, reduceLT, reduceLeDiff, reduceToNat, eSchema, eStep]) ?_
  refine CWops.done ?_
  refine CW.seq ?_
  refine CW.cut ⟨2, [(2, .lv 0 [] 0), (3, .lv 1 [] 0), (21, .bool (!(schemaMay s && (decide (0 ≤ x.Do) && decide (x.Do < 3)))))], [(0, ⟨true, eSchema s⟩), (1, ⟨true, eStep x⟩)]⟩ ?_ ?_
  · refine CW.region (by kernel_rfl) (by kernel_rfl) ?_ -- r1
    refine CWops.run htt 1 (by simp only [go_sem, reduceIte, reduceCtorEq, reduceEqDiff, reduceAdd, reduceLT, reduceLeDiff, reduceToNat, eSchema, eStep]; exact rfl) (by simp [go_sem, reduceIte, reduceCtorEq, reduceEqDiff, reduceAdd, reduceLT, reduceLeDiff, reduceToNat, eSchema, eStep]) ?_
    refine CWops.call (schema_May up s) (by simp only [go_sem, reduceIte, reduceCtorEq, reduceEqDiff, reduceAdd, reduceLT, reduceLeDiff, reduceToNat, eSchema, eStep]) (by simp only [go_sem, reduceIte, reduceCtorEq, reduceEqDiff, reduceAdd, reduceLT, reduceLeDiff, reduceToNat, eSchema, eStep]; first | done | exact rfl) (by simp only [go_sem, reduceIte, reduceCtorEq, reduceEqDiff, reduceAdd, reduceLT, reduceLeDiff, reduceToNat, eSchema, eStep]) (fun rt10 hrt10 => ?_)
    subst hrt10; refine ⟨rfl, ?_⟩
    refine CWops.run htt 2 (by simp only [go_sem, reduceIte, reduceCtorEq, reduceEqDiff, reduceAdd, reduceLT, reduceLeDiff, reduceToNat, eSchema, eStep]; exact rfl) (by simp [go_sem, reduceIte, reduceCtorEq, reduceEqDiff, reduceAdd, reduceLT, reduceLeDiff, reduceToNat, eSchema, eStep]) ?_
    all_goals (first | refine CWops.guard 12 (by simp only [go_sem, reduceIte, reduceCtorEq, reduceEqDiff, reduceAdd, reduceLT, reduceLeDiff, reduceToNat, eSchema, eStep]; exact rfl) (fun g12 => ?_) (fun g12 => ?_) | skip)
    all_goals (refine CWops.run htt 5 (by simp only [go_sem, reduceIte, reduceCtorEq, reduceEqDiff, reduceAdd, reduceLT, reduceLeDiff, reduceToNat, eSchema, eStep]; exact rfl) (by simp [go_sem, reduceIte, reduceCtorEq, reduceEqDiff, reduceAdd, reduceLT, reduceLeDiff, reduceToNat, eSchema, eStep]) ?_)
    all_goals (first | refine CWops.guard 17 (by simp only [go_sem, reduceIte, reduceCtorEq, reduceEqDiff, reduceAdd, reduceLT, reduceLeDiff, reduceToNat, eSchema, eStep]; exact rfl) (fun g17 => ?_) (fun g17 => ?_) | skip)
    all_goals (refine CWops.run htt 4 (by simp only [go_sem, reduceIte, reduceCtorEq, reduceEqDiff, reduceAdd, reduceLT, reduceLeDiff, reduceToNat, eSchema, eStep]; exact rfl) (by simp [go_sem, reduceIte, reduceCtorEq, reduceEqDiff, reduceAdd, reduceLT, reduceLeDiff, reduceToNat, eSchema, eStep]) ?_)
    all_goals (refine CWops.done ?_)
    all_goals (
      first | refine ⟨rfl, Sh.wk0 ?_⟩ | refine Sh.wk0 ?_
      by_cases b1 : 0 ≤ x.Do <;> by_cases b2 : x.Do < 3 <;> cases hsm : schemaMay s <;> simp_all [Wk, go_sem, reduceIte, reduceCtorEq, reduceEqDiff, reduceAdd, reduceLT, reduceLeDiff, reduceToNat, eSchema, eStep] <;> first | done | omega)
  refine CW.cond (by simp only [go_sem, reduceIte, reduceCtorEq, reduceEqDiff, reduceAdd, reduceLT, reduceLeDiff, reduceToNat]; first | done | exact rfl) (fun ct21 => ?_) (fun ct21 => ?_)
  · rw [hb] at ct21; cases ct21 
  · refine CW.skip ?_
    refine CW.seq ?_
    refine CW.drawn mixed 7 (by decide) (by kernel_rfl) (by kernel_rfl) (by kernel_rfl) ?_ -- r3
    refine Seg.run htt 1 (by simp only [go_sem, reduceIte, reduceCtorEq, reduceEqDiff, reduceAdd, reduceLT, reduceLeDiff, reduceToNat, eSchema, eStep, hf]; exact rfl) ?_
    refine Seg.callNA (grade_own1 up s h1 h2) (by simp only [go_sem, reduceIte, reduceCtorEq, reduceEqDiff, reduceAdd, reduceLT, reduceLeDiff, reduceToNat]) (by simp only [go_sem, reduceIte, reduceCtorEq, reduceEqDiff, reduceAdd, reduceLT, reduceLeDiff, reduceToNat]; first | done | exact rfl) (by simp [go_sem, reduceIte, reduceCtorEq, reduceEqDiff, reduceAdd, reduceLT, reduceLeDiff, reduceToNat, eSchema]) ?_
    refine Seg.run htt 4 (by simp only [go_sem, reduceIte, reduceCtorEq, reduceEqDiff, reduceAdd, reduceLT, reduceLeDiff, reduceToNat, eSchema, eStep, hf]; exact rfl) ?_
    refine Seg.call (schema_Find up s x.Ty) (by simp only [go_sem, reduceIte, reduceCtorEq, reduceEqDiff, reduceAdd, reduceLT, reduceLeDiff, reduceToNat, eSchema, eStep, hf]) (by simp only [go_sem, reduceIte, reduceCtorEq, reduceEqDiff, reduceAdd, reduceLT, reduceLeDiff, reduceToNat, eSchema, eStep, hf]; first | done | exact rfl) (by simp only [go_sem, reduceIte, reduceCtorEq, reduceEqDiff, reduceAdd, reduceLT, reduceLeDiff, reduceToNat, eSchema, eStep, hf]) (by simp only [go_sem, reduceIte, reduceCtorEq, reduceEqDiff, reduceAdd, reduceLT, reduceLeDiff, reduceToNat, eSchema, eStep, hf]) rfl ?_
    refine Seg.done ?_
    refine CWops.run htt 3 (by simp only [go_sem, reduceIte, reduceCtorEq, reduceEqDiff, reduceAdd, reduceLT, reduceLeDiff, reduceToNat, eSchema, eStep, hf]; exact rfl) (by simp [go_sem, reduceIte, reduceCtorEq, reduceEqDiff, reduceAdd, reduceLT, reduceLeDiff, reduceToNat, eSchema, eStep, hf]) ?_
    refine CWops.done ?_
    refine CW.seq ?_
    refine CW.seq ?_
    refine CW.region (by kernel_rfl) (by kernel_rfl) ?_ -- r4
    refine CWops.run htt 5 (by simp only [go_sem, reduceIte, reduceCtorEq, reduceEqDiff, reduceAdd, reduceLT, reduceLeDiff, reduceToNat]; exact rfl) (by simp [go_sem, reduceIte, reduceCtorEq, reduceEqDiff, reduceAdd, reduceLT, reduceLeDiff, reduceToNat]) ?_
    refine CWops.done ?_
    refine CW.cond (by simp only [go_sem, reduceIte, reduceCtorEq, reduceEqDiff, reduceAdd, reduceLT, reduceLeDiff, reduceToNat]; first | done | exact rfl) (fun ct35 => ?_) (fun ct35 => ?_)
    · refine CW.seq ?_
      refine CW.region (by kernel_rfl) (by kernel_rfl) ?_ -- r5
      refine CWops.run htt 2 (by simp only [go_sem, reduceIte, reduceCtorEq, reduceEqDiff, reduceAdd, reduceLT, reduceLeDiff, reduceToNat]; exact rfl) (by simp [go_sem, reduceIte, reduceCtorEq, reduceEqDiff, reduceAdd, reduceLT, reduceLeDiff, reduceToNat]) ?_
      refine CWops.done ?_
      refine CW.ret ?_
      refine ⟨⟨0, [(4, .nilp), (5, .int .i64 (11))], []⟩, ?_, .inr rfl, by simp [ptrOK, go_sem, reduceIte, reduceCtorEq, reduceEqDiff, reduceAdd, reduceLT, reduceLeDiff, reduceToNat], _, by simp only [f43, go_sem, reduceIte, reduceCtorEq, reduceEqDiff, reduceAdd, reduceLT, reduceLeDiff, reduceToNat]; exact rfl, ?_⟩ -- ret1
      · refine Sh.wk0 ?_
        simp [Wk, go_sem, reduceIte, reduceCtorEq, reduceEqDiff, reduceAdd, reduceLT, reduceLeDiff, reduceToNat]
      · exact ⟨rfl, rfl, rfl⟩
    · simp at ct35
end Go.Ab
namespace Go.Ab
open Go Go.Proofs.Try
open Nat (reduceEqDiff reduceAdd reduceLT reduceLeDiff reduceBEq reduceSub reduceMul)
open Int (reduceToNat)
set_option maxRecDepth 100000
set_option maxHeartbeats 1600000
set_option linter.unusedSimpArgs false
set_option linter.unusedVariables false
theorem do_step (up : Bool) (s : List GType) (x : GStep) (h1 : s.length * 40 ≤ MX) (h2 : ∀ x ∈ s, x.F.length * 40 ≤ MX) (hb : (schemaMay s && (decide (0 ≤ x.Do) && decide (x.Do < 3))) = true) (t : Nat) (hf : fnd (fun o => decide (o.Name = x.Ty)) s = t) (ty : GType) (hS : s[t]? = some ty) (at_ : Int) (ha : fnd (fun o => decide (o.Name = x.F.Name)) ty.F = at_) (e : Int) (s2 : List GType) (fm : FuncId) (hsel : (x.Do = 0 ∧ fm = 92) ∨ (x.Do = 1 ∧ fm = 93) ∨ (x.Do = 2 ∧ fm = 91)) (hcall : GCall prog up fm [.lv 1 [] 0] 2 [(0, ⟨false, [.own 2 (List.map eTypeO (s))]⟩), (1, ⟨true, eWork 0 x (t : Int) (at_)⟩)] (fun r σ' => r = .int .i64 (e) ∧ ∃ tt, σ' = ⟨2, tt, [(0, ⟨false, [.own 2 (List.map eTypeO (s2))]⟩), (1, ⟨true, eWork 0 x (t : Int) (at_)⟩)]⟩)) : GCall prog up 43 [.agg (eSchema s), .agg (eStep x)] 0 [] (fun r σ' => (e = 0 ∧ r = .tup [.lv 1 [] 0, .int .i64 0] ∧ σ'.n = 2 ∧ σ'.s = [(0, ⟨false, [.own 2 (List.map eTypeO (s2))]⟩), (1, ⟨true, eWork 0 x (t : Int) (at_)⟩)]) ∨ (e ≠ 0 ∧ r = .tup [.nilp, .int .i64 e] ∧ σ'.n = 0 ∧ σ'.s = [])) := by
  refine GCall.intro htt 0 func43 (by kernel_rfl) rfl (Nat.le_of_ble_eq_true rfl) (CW.told ?_)
  have htl : t < s.length := (List.getElem?_eq_some_iff.1 hS).1
  simp only [tmps0, Nat.reduceAdd]
  refine CW.seq ?_
  refine CW.region (by kernel_rfl) (by kernel_rfl) ?_ -- r0
  refine CWops.run htt 4 (by simp only [go_sem, reduceIte, reduceCtorEq, reduceEqDiff, reduceAdd, reduceLT, reduceLeDiff, reduceToNat, eSchema, eStep]; exact rfl) (by simp [go_sem, reduceIte, reduceCtorEq, reduceEqDiff, reduceAdd, reduceLT, reduceLeDiff, reduceToNat, eSchema, eStep]) ?_
  refine CWops.done ?_
  refine CW.seq ?_
  refine CW.cut ⟨2, [(2, .lv 0 [] 0), (3, .lv 1 [] 0), (21, .bool (!(schemaMay s && (decide (0 ≤ x.Do) && decide (x.Do < 3)))))], [(0, ⟨true, eSchema s⟩), (1, ⟨true, eStep x⟩)]⟩ ?_ ?_
  · refine CW.region (by kernel_rfl) (by kernel_rfl) ?_ -- r1
    refine CWops.run htt 1 (by simp only [go_sem, reduceIte, reduceCtorEq, reduceEqDiff, reduceAdd, reduceLT, reduceLeDiff, reduceToNat, eSchema, eStep]; exact rfl) (by simp [go_sem, reduceIte, reduceCtorEq, reduceEqDiff, reduceAdd, reduceLT, reduceLeDiff, reduceToNat, eSchema, eStep]) ?_
    refine CWops.call (schema_May up s) (by simp only [go_sem, reduceIte, reduceCtorEq, reduceEqDiff, reduceAdd, reduceLT, reduceLeDiff, reduceToNat, eSchema, eStep]) (by simp only [go_sem, reduceIte, reduceCtorEq, reduceEqDiff, reduceAdd, reduceLT, reduceLeDiff, reduceToNat, eSchema, eStep]; first | done | exact rfl) (by simp only [go_sem, reduceIte, reduceCtorEq, reduceEqDiff, reduceAdd, reduceLT, reduceLeDiff, reduceToNat, eSchema, eStep]) (fun rt10 hrt10 => ?_)
    subst hrt10; refine ⟨rfl, ?_⟩
    refine CWops.run htt 2 (by simp only [go_sem, reduceIte, reduceCtorEq, reduceEqDiff, reduceAdd, reduceLT, reduceLeDiff, reduceToNat, eSchema, eStep]; exact rfl) (by simp [go_sem, reduceIte, reduceCtorEq, reduceEqDiff, reduceAdd, reduceLT, reduceLeDiff, reduceToNat, eSchema, eStep]) ?_
    all_goals (first | refine CWops.guard 12 (by simp only [go_sem, reduceIte, reduceCtorEq, reduceEqDiff, reduceAdd, reduceLT, reduceLeDiff, reduceToNat, eSchema, eStep]; exact rfl) (fun g12 => ?_) (fun g12 => ?_) | skip)
    all_goals (refine CWops.run htt 5 (by simp only [go_sem, reduceIte, reduceCtorEq, reduceEqDiff, reduceAdd, reduceLT, reduceLeDiff, reduceToNat, eSchema, eStep]; exact rfl) (by simp [go_sem, reduceIte, reduceCtorEq, reduceEqDiff, reduceAdd, reduceLT, reduceLeDiff, reduceToNat, eSchema, eStep]) ?_)
    all_goals (first | refine CWops.guard 17 (by simp only [go_sem, reduceIte, reduceCtorEq, reduceEqDiff, reduceAdd, reduceLT, reduceLeDiff, reduceToNat, eSchema, eStep]; exact rfl) (fun g17 => ?_) (fun g17 => ?_) | skip)
    all_goals (refine CWops.run htt 4 (by simp only [go_sem, reduceIte, reduceCtorEq, reduceEqDiff, reduceAdd, reduceLT, reduceLeDiff, reduceToNat, eSchema, eStep]; exact rfl) (by simp [go_sem, reduceIte, reduceCtorEq, reduceEqDiff, reduceAdd, reduceLT, reduceLeDiff, reduceToNat, eSchema, eStep]) ?_)
    all_goals (refine CWops.done ?_)
    all_goals (
      first | refine ⟨rfl, Sh.wk0 ?_⟩ | refine Sh.wk0 ?_
      by_cases b1 : 0 ≤ x.Do <;> by_cases b2 : x.Do < 3 <;> cases hsm : schemaMay s <;> simp_all [Wk, go_sem, reduceIte, reduceCtorEq, reduceEqDiff, reduceAdd, reduceLT, reduceLeDiff, reduceToNat, eSchema, eStep] <;> first | done | omega)
  refine CW.cond (by simp only [go_sem, reduceIte, reduceCtorEq, reduceEqDiff, reduceAdd, reduceLT, reduceLeDiff, reduceToNat]; first | done | exact rfl) (fun ct21 => ?_) (fun ct21 => ?_)
  · rw [hb] at ct21; cases ct21 
  · refine CW.skip ?_
    refine CW.seq ?_
    refine CW.drawn mixed 7 (by decide) (by kernel_rfl) (by kernel_rfl) (by kernel_rfl) ?_ -- r3
    refine Seg.run htt 1 (by simp only [go_sem, reduceIte, reduceCtorEq, reduceEqDiff, reduceAdd, reduceLT, reduceLeDiff, reduceToNat, eSchema, eStep, hf]; exact rfl) ?_
    refine Seg.callNA (grade_own1 up s h1 h2) (by simp only [go_sem, reduceIte, reduceCtorEq, reduceEqDiff, reduceAdd, reduceLT, reduceLeDiff, reduceToNat]) (by simp only [go_sem, reduceIte, reduceCtorEq, reduceEqDiff, reduceAdd, reduceLT, reduceLeDiff, reduceToNat]; first | done | exact rfl) (by simp [go_sem, reduceIte, reduceCtorEq, reduceEqDiff, reduceAdd, reduceLT, reduceLeDiff, reduceToNat, eSchema]) ?_
    refine Seg.run htt 4 (by simp only [go_sem, reduceIte, reduceCtorEq, reduceEqDiff, reduceAdd, reduceLT, reduceLeDiff, reduceToNat, eSchema, eStep, hf]; exact rfl) ?_
    refine Seg.call (schema_Find up s x.Ty) (by simp only [go_sem, reduceIte, reduceCtorEq, reduceEqDiff, reduceAdd, reduceLT, reduceLeDiff, reduceToNat, eSchema, eStep, hf]) (by simp only [go_sem, reduceIte, reduceCtorEq, reduceEqDiff, reduceAdd, reduceLT, reduceLeDiff, reduceToNat, eSchema, eStep, hf]; first | done | exact rfl) (by simp only [go_sem, reduceIte, reduceCtorEq, reduceEqDiff, reduceAdd, reduceLT, reduceLeDiff, reduceToNat, eSchema, eStep, hf]) (by simp only [go_sem, reduceIte, reduceCtorEq, reduceEqDiff, reduceAdd, reduceLT, reduceLeDiff, reduceToNat, eSchema, eStep, hf]) rfl ?_
    refine Seg.done ?_
    refine CWops.run htt 3 (by simp only [go_sem, reduceIte, reduceCtorEq, reduceEqDiff, reduceAdd, reduceLT, reduceLeDiff, reduceToNat, eSchema, eStep, hf]; exact rfl) (by simp [go_sem, reduceIte, reduceCtorEq, reduceEqDiff, reduceAdd, reduceLT, reduceLeDiff, reduceToNat, eSchema, eStep, hf]) ?_
    refine CWops.done ?_
    refine CW.seq ?_
    refine CW.seq ?_
    refine CW.sh (Sh.out 3 0 rfl rfl rfl) ?_
    simp only [go_sem, reduceIte, reduceCtorEq, reduceEqDiff, reduceAdd, reduceLT, reduceLeDiff, reduceToNat, mapT, mapS, outF, List.map_cons, List.map_nil, putAt, List.set_cons_zero, List.set_cons_succ]
    refine CW.region (by kernel_rfl) (by kernel_rfl) ?_ -- r4
    refine CWops.run htt 5 (by simp only [go_sem, reduceIte, reduceCtorEq, reduceEqDiff, reduceAdd, reduceLT, reduceLeDiff, reduceToNat]; exact rfl) (by simp [go_sem, reduceIte, reduceCtorEq, reduceEqDiff, reduceAdd, reduceLT, reduceLeDiff, reduceToNat]) ?_
    refine CWops.done ?_
    refine CW.cond (by simp only [go_sem, reduceIte, reduceCtorEq, reduceEqDiff, reduceAdd, reduceLT, reduceLeDiff, reduceToNat]; first | done | exact rfl) (fun ct35 => ?_) (fun ct35 => ?_)
    · exfalso; revert ct35; simp <;> omega 
    · refine CW.skip ?_
      refine CW.seq ?_
      refine CW.drawn mixed 9 (by decide) (by kernel_rfl) (by kernel_rfl) (by kernel_rfl) ?_ -- r6
      refine Seg.run htt 2 (by simp only [go_sem, reduceIte, reduceCtorEq, reduceEqDiff, reduceAdd, reduceLT, reduceLeDiff, reduceToNat, eStep, hS, htl, eTypeO, eType, ha]; exact rfl) ?_
      refine Seg.callR (v := .lv 4 [(0, t)] 0) (by simp only [go_sem, reduceIte, reduceCtorEq, reduceEqDiff, reduceAdd, reduceLT, reduceLeDiff, reduceToNat]) (by simp only [go_sem, reduceIte, reduceCtorEq, reduceEqDiff, reduceAdd, reduceLT, reduceLeDiff, reduceToNat]; first | done | exact rfl) (fun n s' hs => by simp only [go_sem, reduceIte, reduceCtorEq, reduceEqDiff, reduceAdd, reduceLT, reduceLeDiff, reduceToNat]; exact kind_R 3 4 t _ _ _ _ _ _ false (s.map eTypeO) n s' (hs _ _ rfl) (hs _ _ rfl) (by simpa using htl)) ?_
      refine Seg.run htt 5 (by simp only [go_sem, reduceIte, reduceCtorEq, reduceEqDiff, reduceAdd, reduceLT, reduceLeDiff, reduceToNat, eStep, hS, htl, eTypeO, eType, ha]; exact rfl) ?_
      refine Seg.call (schema_Field up ty x.F.Name) (by simp only [go_sem, reduceIte, reduceCtorEq, reduceEqDiff, reduceAdd, reduceLT, reduceLeDiff, reduceToNat, eStep, hS, htl, eTypeO, eType, ha]) (by simp only [go_sem, reduceIte, reduceCtorEq, reduceEqDiff, reduceAdd, reduceLT, reduceLeDiff, reduceToNat, eStep, hS, htl, eTypeO, eType, ha]; first | done | exact rfl) (by simp only [go_sem, reduceIte, reduceCtorEq, reduceEqDiff, reduceAdd, reduceLT, reduceLeDiff, reduceToNat, eStep, hS, htl, eTypeO, eType, ha]) (by simp only [go_sem, reduceIte, reduceCtorEq, reduceEqDiff, reduceAdd, reduceLT, reduceLeDiff, reduceToNat, eStep, hS, htl, eTypeO, eType, ha]) rfl ?_
      refine Seg.done ?_
      refine CWops.run htt 3 (by simp only [go_sem, reduceIte, reduceCtorEq, reduceEqDiff, reduceAdd, reduceLT, reduceLeDiff, reduceToNat, eStep, hS, htl, eTypeO, eType, ha]; exact rfl) (by simp [go_sem, reduceIte, reduceCtorEq, reduceEqDiff, reduceAdd, reduceLT, reduceLeDiff, reduceToNat, eStep, hS, htl, eTypeO, eType, ha]) ?_
      refine CWops.done ?_
      refine CW.seq ?_
      refine CW.region (by kernel_rfl) (by kernel_rfl) ?_ -- r7
      refine CWops.run htt 3 (by simp only [go_sem, reduceIte, reduceCtorEq, reduceEqDiff, reduceAdd, reduceLT, reduceLeDiff, reduceToNat, eStep]; exact rfl) (by simp [go_sem, reduceIte, reduceCtorEq, reduceEqDiff, reduceAdd, reduceLT, reduceLeDiff, reduceToNat, eStep]) ?_
      refine CWops.done ?_
      refine CW.seq ?_
      refine CW.seq ?_
      refine CW.region (by kernel_rfl) (by kernel_rfl) ?_ -- r8
      refine CWops.run htt 2 (by simp only [go_sem, reduceIte, reduceCtorEq, reduceEqDiff, reduceAdd, reduceLT, reduceLeDiff, reduceToNat, eStep]; exact rfl) (by simp [go_sem, reduceIte, reduceCtorEq, reduceEqDiff, reduceAdd, reduceLT, reduceLeDiff, reduceToNat, eStep]) ?_
      refine CWops.done ?_
      refine CW.block ?_
      refine CW.seq ?_
      refine CW.region (by kernel_rfl) (by kernel_rfl) ?_ -- r9
      refine CWops.run htt 2 (by simp only [go_sem, reduceIte, reduceCtorEq, reduceEqDiff, reduceAdd, reduceLT, reduceLeDiff, reduceToNat]; exact rfl) (by simp [go_sem, reduceIte, reduceCtorEq, reduceEqDiff, reduceAdd, reduceLT, reduceLeDiff, reduceToNat]) ?_
      refine CWops.done ?_
      refine CW.cond (by simp only [go_sem, reduceIte, reduceCtorEq, reduceEqDiff, reduceAdd, reduceLT, reduceLeDiff, reduceToNat]; first | done | exact rfl) (fun ct51 => ?_) (fun ct51 => ?_)
      · have hd : x.Do = 0 := by simpa using ct51
        have hfm : fm = 92 := by rcases hsel with ⟨h, h'⟩ | ⟨h, h'⟩ | ⟨h, h'⟩ <;> first | exact h' | (exfalso; omega)
        subst hfm
        refine CW.region (by kernel_rfl) (by kernel_rfl) ?_ -- r10
        refine CWops.run htt 3 (by simp only [go_sem, reduceIte, reduceCtorEq, reduceEqDiff, reduceAdd, reduceLT, reduceLeDiff, reduceToNat]; exact rfl) (by simp [go_sem, reduceIte, reduceCtorEq, reduceEqDiff, reduceAdd, reduceLT, reduceLeDiff, reduceToNat]) ?_
        refine CWops.done ?_
        refine CW.seq ?_
        refine CW.seq ?_
        refine CW.region (by kernel_rfl) (by kernel_rfl) ?_ -- r13
        refine CWops.run htt 1 (by simp only [go_sem, reduceIte, reduceCtorEq, reduceEqDiff, reduceAdd, reduceLT, reduceLeDiff, reduceToNat]; exact rfl) (by simp [go_sem, reduceIte, reduceCtorEq, reduceEqDiff, reduceAdd, reduceLT, reduceLeDiff, reduceToNat]) ?_
        refine CWops.callG [4, 3] rfl (hcall) (by simp only [go_sem, reduceIte, reduceCtorEq, reduceEqDiff, reduceAdd, reduceLT, reduceLeDiff, reduceToNat]) (by simp only [go_sem, reduceIte, reduceCtorEq, reduceEqDiff, reduceAdd, reduceLT, reduceLeDiff, reduceToNat]; first | done | exact rfl) (by decide) (by simp [go_sem, reduceIte, reduceCtorEq, reduceEqDiff, reduceAdd, reduceLT, reduceLeDiff, reduceToNat, mName, memB, eWork]) (by simp [go_sem, reduceIte, reduceCtorEq, reduceEqDiff, reduceAdd, reduceLT, reduceLeDiff, reduceToNat, mName]) (by simp [go_sem, reduceIte, reduceCtorEq, reduceEqDiff, reduceAdd, reduceLT, reduceLeDiff, reduceToNat]) (by intro y hy; rcases y with _ | _ | y <;> first | (simp [go_sem, reduceIte, reduceCtorEq, reduceEqDiff, reduceAdd, reduceLT, reduceLeDiff, reduceToNat]; done) | (exfalso; simp at hy; done) | (exfalso; simp at hy; omega)) (by simp [go_sem, reduceIte, reduceCtorEq, reduceEqDiff, reduceAdd, reduceLT, reduceLeDiff, reduceToNat, mName]) (fun r σ' hσ => ?_)
        obtain ⟨rfl, tt, rfl⟩ := hσ
        simp only [aftS, renS, delAll, memB, mName, List.getD_nil, killH, kref, ren, Nat.beq_eq, go_sem, reduceIte, reduceCtorEq, reduceEqDiff, reduceAdd, reduceLT, reduceLeDiff, reduceToNat, eWork]
        refine CWops.run htt 1 (by simp only [go_sem, reduceIte, reduceCtorEq, reduceEqDiff, reduceAdd, reduceLT, reduceLeDiff, reduceToNat]; exact rfl) (by simp [go_sem, reduceIte, reduceCtorEq, reduceEqDiff, reduceAdd, reduceLT, reduceLeDiff, reduceToNat]) ?_
        refine CWops.done ?_
        refine CW.seq ?_
        refine CW.region (by kernel_rfl) (by kernel_rfl) ?_ -- r14
        refine CWops.run htt 2 (by simp only [go_sem, reduceIte, reduceCtorEq, reduceEqDiff, reduceAdd, reduceLT, reduceLeDiff, reduceToNat]; exact rfl) (by simp [go_sem, reduceIte, reduceCtorEq, reduceEqDiff, reduceAdd, reduceLT, reduceLeDiff, reduceToNat]) ?_
        refine CWops.done ?_
        refine CW.cond (by simp only [go_sem, reduceIte, reduceCtorEq, reduceEqDiff, reduceAdd, reduceLT, reduceLeDiff, reduceToNat]; first | done | exact rfl) (fun ct62 => ?_) (fun ct62 => ?_)
        · refine CW.seq ?_
          refine CW.region (by kernel_rfl) (by kernel_rfl) ?_ -- r15
          refine CWops.run htt 3 (by simp only [go_sem, reduceIte, reduceCtorEq, reduceEqDiff, reduceAdd, reduceLT, reduceLeDiff, reduceToNat]; exact rfl) (by simp [go_sem, reduceIte, reduceCtorEq, reduceEqDiff, reduceAdd, reduceLT, reduceLeDiff, reduceToNat]) ?_
          refine CWops.done ?_
          refine CW.ret ?_
          refine ⟨⟨0, [(4, .nilp), (5, .int .i64 e)], []⟩, ?_, .inr rfl, by simp [ptrOK, go_sem, reduceIte, reduceCtorEq, reduceEqDiff, reduceAdd, reduceLT, reduceLeDiff, reduceToNat], _, by simp only [f43, go_sem, reduceIte, reduceCtorEq, reduceEqDiff, reduceAdd, reduceLT, reduceLeDiff, reduceToNat]; exact rfl, ?_⟩ -- ret1
          · refine Sh.wk0 ?_
            simp [Wk, go_sem, reduceIte, reduceCtorEq, reduceEqDiff, reduceAdd, reduceLT, reduceLeDiff, reduceToNat]
          · exact .inr ⟨by simpa using ct62, rfl, rfl, rfl⟩
        · refine CW.skip ?_
          refine CW.seq ?_
          refine CW.region (by kernel_rfl) (by kernel_rfl) ?_ -- r16
          refine CWops.run htt 3 (by simp only [go_sem, reduceIte, reduceCtorEq, reduceEqDiff, reduceAdd, reduceLT, reduceLeDiff, reduceToNat]; exact rfl) (by simp [go_sem, reduceIte, reduceCtorEq, reduceEqDiff, reduceAdd, reduceLT, reduceLeDiff, reduceToNat]) ?_
          refine CWops.done ?_
          refine CW.ret ?_
          refine ⟨⟨2, [(4, .lv 1 [] 0), (5, .int .i64 0)], [(0, ⟨false, [.own 2 (List.map eTypeO (s2))]⟩), (1, ⟨true, eWork 0 x (t : Int) (at_)⟩)]⟩, ?_, .inr rfl, by simp [ptrOK, go_sem, reduceIte, reduceCtorEq, reduceEqDiff, reduceAdd, reduceLT, reduceLeDiff, reduceToNat], _, by simp only [f43, go_sem, reduceIte, reduceCtorEq, reduceEqDiff, reduceAdd, reduceLT, reduceLeDiff, reduceToNat]; exact rfl, ?_⟩ -- ret2
          · refine Sh.wk (fun x => if x = 0 then 4 else if x = 1 then 3 else x) ?_
            simp [Wk, go_sem, reduceIte, reduceCtorEq, reduceEqDiff, reduceAdd, reduceLT, reduceLeDiff, reduceToNat, eWork]
          · exact .inl ⟨by simpa using ct62, rfl, rfl, rfl⟩
      · have hd0 : ¬ x.Do = 0 := by simpa using ct51
        refine CW.seq ?_
        refine CW.region (by kernel_rfl) (by kernel_rfl) ?_ -- r11
        refine CWops.run htt 2 (by simp only [go_sem, reduceIte, reduceCtorEq, reduceEqDiff, reduceAdd, reduceLT, reduceLeDiff, reduceToNat]; exact rfl) (by simp [go_sem, reduceIte, reduceCtorEq, reduceEqDiff, reduceAdd, reduceLT, reduceLeDiff, reduceToNat]) ?_
        refine CWops.done ?_
        refine CW.cond (by simp only [go_sem, reduceIte, reduceCtorEq, reduceEqDiff, reduceAdd, reduceLT, reduceLeDiff, reduceToNat]; first | done | exact rfl) (fun ct55 => ?_) (fun ct55 => ?_)
        · have hd : x.Do = 1 := by simpa using ct55
          have hfm : fm = 93 := by rcases hsel with ⟨h, h'⟩ | ⟨h, h'⟩ | ⟨h, h'⟩ <;> first | exact h' | (exfalso; omega)
          subst hfm
          refine CW.region (by kernel_rfl) (by kernel_rfl) ?_ -- r12
          refine CWops.run htt 3 (by simp only [go_sem, reduceIte, reduceCtorEq, reduceEqDiff, reduceAdd, reduceLT, reduceLeDiff, reduceToNat]; exact rfl) (by simp [go_sem, reduceIte, reduceCtorEq, reduceEqDiff, reduceAdd, reduceLT, reduceLeDiff, reduceToNat]) ?_
          refine CWops.done ?_
          refine CW.seq ?_
          refine CW.seq ?_
          refine CW.region (by kernel_rfl) (by kernel_rfl) ?_ -- r13
          refine CWops.run htt 1 (by simp only [go_sem, reduceIte, reduceCtorEq, reduceEqDiff, reduceAdd, reduceLT, reduceLeDiff, reduceToNat]; exact rfl) (by simp [go_sem, reduceIte, reduceCtorEq, reduceEqDiff, reduceAdd, reduceLT, reduceLeDiff, reduceToNat]) ?_
          refine CWops.callG [4, 3] rfl (hcall) (by simp only [go_sem, reduceIte, reduceCtorEq, reduceEqDiff, reduceAdd, reduceLT, reduceLeDiff, reduceToNat]) (by simp only [go_sem, reduceIte, reduceCtorEq, reduceEqDiff, reduceAdd, reduceLT, reduceLeDiff, reduceToNat]; first | done | exact rfl) (by decide) (by simp [go_sem, reduceIte, reduceCtorEq, reduceEqDiff, reduceAdd, reduceLT, reduceLeDiff, reduceToNat, mName, memB, eWork]) (by simp [go_sem, reduceIte, reduceCtorEq, reduceEqDiff, reduceAdd, reduceLT, reduceLeDiff, reduceToNat, mName]) (by simp [go_sem, reduceIte, reduceCtorEq, reduceEqDiff, reduceAdd, reduceLT, reduceLeDiff, reduceToNat]) (by intro y hy; rcases y with _ | _ | y <;> first | (simp [go_sem, reduceIte, reduceCtorEq, reduceEqDiff, reduceAdd, reduceLT, reduceLeDiff, reduceToNat]; done) | (exfalso; simp at hy; done) | (exfalso; simp at hy; omega)) (by simp [go_sem, reduceIte, reduceCtorEq, reduceEqDiff, reduceAdd, reduceLT, reduceLeDiff, reduceToNat, mName]) (fun r σ' hσ => ?_)
          obtain ⟨rfl, tt, rfl⟩ := hσ
          simp only [aftS, renS, delAll, memB, mName, List.getD_nil, killH, kref, ren, Nat.beq_eq, go_sem, reduceIte, reduceCtorEq, reduceEqDiff, reduceAdd, reduceLT, reduceLeDiff, reduceToNat, eWork]
          refine CWops.run htt 1 (by simp only [go_sem, reduceIte, reduceCtorEq, reduceEqDiff, reduceAdd, reduceLT, reduceLeDiff, reduceToNat]; exact rfl) (by simp [go_sem, reduceIte, reduceCtorEq, reduceEqDiff, reduceAdd, reduceLT, reduceLeDiff, reduceToNat]) ?_
          refine CWops.done ?_
          refine CW.seq ?_
          refine CW.region (by kernel_rfl) (by kernel_rfl) ?_ -- r14
          refine CWops.run htt 2 (by simp only [go_sem, reduceIte, reduceCtorEq, reduceEqDiff, reduceAdd, reduceLT, reduceLeDiff, reduceToNat]; exact rfl) (by simp [go_sem, reduceIte, reduceCtorEq, reduceEqDiff, reduceAdd, reduceLT, reduceLeDiff, reduceToNat]) ?_
          refine CWops.done ?_
          refine CW.cond (by simp only [go_sem, reduceIte, reduceCtorEq, reduceEqDiff, reduceAdd, reduceLT, reduceLeDiff, reduceToNat]; first | done | exact rfl) (fun ct62 => ?_) (fun ct62 => ?_)
          · refine CW.seq ?_
            refine CW.region (by kernel_rfl) (by kernel_rfl) ?_ -- r15
            refine CWops.run htt 3 (by simp only [go_sem, reduceIte, reduceCtorEq, reduceEqDiff, reduceAdd, reduceLT, reduceLeDiff, reduceToNat]; exact rfl) (by simp [go_sem, reduceIte, reduceCtorEq, reduceEqDiff, reduceAdd, reduceLT, reduceLeDiff, reduceToNat]) ?_
            refine CWops.done ?_
            refine CW.ret ?_
            refine ⟨⟨0, [(4, .nilp), (5, .int .i64 e)], []⟩, ?_, .inr rfl, by simp [ptrOK, go_sem, reduceIte, reduceCtorEq, reduceEqDiff, reduceAdd, reduceLT, reduceLeDiff, reduceToNat], _, by simp only [f43, go_sem, reduceIte, reduceCtorEq, reduceEqDiff, reduceAdd, reduceLT, reduceLeDiff, reduceToNat]; exact rfl, ?_⟩ -- ret3
            · refine Sh.wk0 ?_
              simp [Wk, go_sem, reduceIte, reduceCtorEq, reduceEqDiff, reduceAdd, reduceLT, reduceLeDiff, reduceToNat]
            · exact .inr ⟨by simpa using ct62, rfl, rfl, rfl⟩
          · refine CW.skip ?_
            refine CW.seq ?_
            refine CW.region (by kernel_rfl) (by kernel_rfl) ?_ -- r16
            refine CWops.run htt 3 (by simp only [go_sem, reduceIte, reduceCtorEq, reduceEqDiff, reduceAdd, reduceLT, reduceLeDiff, reduceToNat]; exact rfl) (by simp [go_sem, reduceIte, reduceCtorEq, reduceEqDiff, reduceAdd, reduceLT, reduceLeDiff, reduceToNat]) ?_
            refine CWops.done ?_
            refine CW.ret ?_
            refine ⟨⟨2, [(4, .lv 1 [] 0), (5, .int .i64 0)], [(0, ⟨false, [.own 2 (List.map eTypeO (s2))]⟩), (1, ⟨true, eWork 0 x (t : Int) (at_)⟩)]⟩, ?_, .inr rfl, by simp [ptrOK, go_sem, reduceIte, reduceCtorEq, reduceEqDiff, reduceAdd, reduceLT, reduceLeDiff, reduceToNat], _, by simp only [f43, go_sem, reduceIte, reduceCtorEq, reduceEqDiff, reduceAdd, reduceLT, reduceLeDiff, reduceToNat]; exact rfl, ?_⟩ -- ret4
            · refine Sh.wk (fun x => if x = 0 then 4 else if x = 1 then 3 else x) ?_
              simp [Wk, go_sem, reduceIte, reduceCtorEq, reduceEqDiff, reduceAdd, reduceLT, reduceLeDiff, reduceToNat, eWork]
            · exact .inl ⟨by simpa using ct62, rfl, rfl, rfl⟩
        · have hd1 : ¬ x.Do = 1 := by simpa using ct55
          have hd : x.Do = 2 := by rcases hsel with ⟨h, _⟩ | ⟨h, _⟩ | ⟨h, _⟩ <;> omega
          have hfm : fm = 91 := by rcases hsel with ⟨h, h'⟩ | ⟨h, h'⟩ | ⟨h, h'⟩ <;> first | exact h' | (exfalso; omega)
          subst hfm
          refine CW.skip ?_
          refine CW.seq ?_
          refine CW.seq ?_
          refine CW.region (by kernel_rfl) (by kernel_rfl) ?_ -- r13
          refine CWops.run htt 1 (by simp only [go_sem, reduceIte, reduceCtorEq, reduceEqDiff, reduceAdd, reduceLT, reduceLeDiff, reduceToNat]; exact rfl) (by simp [go_sem, reduceIte, reduceCtorEq, reduceEqDiff, reduceAdd, reduceLT, reduceLeDiff, reduceToNat]) ?_
          refine CWops.callG [4, 3] rfl (hcall) (by simp only [go_sem, reduceIte, reduceCtorEq, reduceEqDiff, reduceAdd, reduceLT, reduceLeDiff, reduceToNat]) (by simp only [go_sem, reduceIte, reduceCtorEq, reduceEqDiff, reduceAdd, reduceLT, reduceLeDiff, reduceToNat]; first | done | exact rfl) (by decide) (by simp [go_sem, reduceIte, reduceCtorEq, reduceEqDiff, reduceAdd, reduceLT, reduceLeDiff, reduceToNat, mName, memB, eWork]) (by simp [go_sem, reduceIte, reduceCtorEq, reduceEqDiff, reduceAdd, reduceLT, reduceLeDiff, reduceToNat, mName]) (by simp [go_sem, reduceIte, reduceCtorEq, reduceEqDiff, reduceAdd, reduceLT, reduceLeDiff, reduceToNat]) (by intro y hy; rcases y with _ | _ | y <;> first | (simp [go_sem, reduceIte, reduceCtorEq, reduceEqDiff, reduceAdd, reduceLT, reduceLeDiff, reduceToNat]; done) | (exfalso; simp at hy; done) | (exfalso; simp at hy; omega)) (by simp [go_sem, reduceIte, reduceCtorEq, reduceEqDiff, reduceAdd, reduceLT, reduceLeDiff, reduceToNat, mName]) (fun r σ' hσ => ?_)
          obtain ⟨rfl, tt, rfl⟩ := hσ
          simp only [aftS, renS, delAll, memB, mName, List.getD_nil, killH, kref, ren, Nat.beq_eq, go_sem, reduceIte, reduceCtorEq, reduceEqDiff, reduceAdd, reduceLT, reduceLeDiff, reduceToNat, eWork]
          refine CWops.run htt 1 (by simp only [go_sem, reduceIte, reduceCtorEq, reduceEqDiff, reduceAdd, reduceLT, reduceLeDiff, reduceToNat]; exact rfl) (by simp [go_sem, reduceIte, reduceCtorEq, reduceEqDiff, reduceAdd, reduceLT, reduceLeDiff, reduceToNat]) ?_
          refine CWops.done ?_
          refine CW.seq ?_
          refine CW.region (by kernel_rfl) (by kernel_rfl) ?_ -- r14
          refine CWops.run htt 2 (by simp only [go_sem, reduceIte, reduceCtorEq, reduceEqDiff, reduceAdd, reduceLT, reduceLeDiff, reduceToNat]; exact rfl) (by simp [go_sem, reduceIte, reduceCtorEq, reduceEqDiff, reduceAdd, reduceLT, reduceLeDiff, reduceToNat]) ?_
          refine CWops.done ?_
          refine CW.cond (by simp only [go_sem, reduceIte, reduceCtorEq, reduceEqDiff, reduceAdd, reduceLT, reduceLeDiff, reduceToNat]; first | done | exact rfl) (fun ct62 => ?_) (fun ct62 => ?_)
          · refine CW.seq ?_
            refine CW.region (by kernel_rfl) (by kernel_rfl) ?_ -- r15
            refine CWops.run htt 3 (by simp only [go_sem, reduceIte, reduceCtorEq, reduceEqDiff, reduceAdd, reduceLT, reduceLeDiff, reduceToNat]; exact rfl) (by simp [go_sem, reduceIte, reduceCtorEq, reduceEqDiff, reduceAdd, reduceLT, reduceLeDiff, reduceToNat]) ?_
            refine CWops.done ?_
            refine CW.ret ?_
            refine ⟨⟨0, [(4, .nilp), (5, .int .i64 e)], []⟩, ?_, .inr rfl, by simp [ptrOK, go_sem, reduceIte, reduceCtorEq, reduceEqDiff, reduceAdd, reduceLT, reduceLeDiff, reduceToNat], _, by simp only [f43, go_sem, reduceIte, reduceCtorEq, reduceEqDiff, reduceAdd, reduceLT, reduceLeDiff, reduceToNat]; exact rfl, ?_⟩ -- ret5
            · refine Sh.wk0 ?_
              simp [Wk, go_sem, reduceIte, reduceCtorEq, reduceEqDiff, reduceAdd, reduceLT, reduceLeDiff, reduceToNat]
            · exact .inr ⟨by simpa using ct62, rfl, rfl, rfl⟩
          · refine CW.skip ?_
            refine CW.seq ?_
            refine CW.region (by kernel_rfl) (by kernel_rfl) ?_ -- r16
            refine CWops.run htt 3 (by simp only [go_sem, reduceIte, reduceCtorEq, reduceEqDiff, reduceAdd, reduceLT, reduceLeDiff, reduceToNat]; exact rfl) (by simp [go_sem, reduceIte, reduceCtorEq, reduceEqDiff, reduceAdd, reduceLT, reduceLeDiff, reduceToNat]) ?_
            refine CWops.done ?_
            refine CW.ret ?_
            refine ⟨⟨2, [(4, .lv 1 [] 0), (5, .int .i64 0)], [(0, ⟨false, [.own 2 (List.map eTypeO (s2))]⟩), (1, ⟨true, eWork 0 x (t : Int) (at_)⟩)]⟩, ?_, .inr rfl, by simp [ptrOK, go_sem, reduceIte, reduceCtorEq, reduceEqDiff, reduceAdd, reduceLT, reduceLeDiff, reduceToNat], _, by simp only [f43, go_sem, reduceIte, reduceCtorEq, reduceEqDiff, reduceAdd, reduceLT, reduceLeDiff, reduceToNat]; exact rfl, ?_⟩ -- ret6
            · refine Sh.wk (fun x => if x = 0 then 4 else if x = 1 then 3 else x) ?_
              simp [Wk, go_sem, reduceIte, reduceCtorEq, reduceEqDiff, reduceAdd, reduceLT, reduceLeDiff, reduceToNat, eWork]
            · exact .inl ⟨by simpa using ct62, rfl, rfl, rfl⟩
end Go.Ab
namespace Go.Ab
open Go Go.Proofs.Try
open Nat (reduceEqDiff reduceAdd reduceLT reduceLeDiff reduceBEq reduceSub reduceMul)
open Int (reduceToNat)
set_option maxRecDepth 100000
set_option maxHeartbeats 1600000
set_option linter.unusedSimpArgs false
set_option linter.unusedVariables false
theorem do_G (up : Bool) (s : List GType) (x : GStep) (h1 : s.length * 40 ≤ MX) (h2 : ∀ x ∈ s, x.F.length * 40 ≤ MX) : GCall prog up 43 [.agg (eSchema s), .agg (eStep x)] 0 [] (fun r σ' => ((gDo s x).1 = 0 ∧ (fun r σ' => r = .tup [.lv 1 [] 0, .int .i64 0] ∧ σ'.n = 2 ∧ σ'.s = [(0, ⟨false, [.own 2 (List.map eTypeO (gDo s x).2.1)]⟩), (1, ⟨true, eWork 0 x ((gDo s x).2.2.1 : Int) (gDo s x).2.2.2⟩)]) r σ') ∨ ((gDo s x).1 ≠ 0 ∧ (fun r σ' => r = .tup [.nilp, .int .i64 (gDo s x).1] ∧ σ'.n = 0 ∧ σ'.s = []) r σ')) := by
  by_cases hb : (schemaMay s && (decide (0 ≤ x.Do) && decide (x.Do < 3))) = true
  · have hs : schemaMay s = true := by simp only [Bool.and_eq_true] at hb; exact hb.1
    have hD : 0 ≤ x.Do ∧ x.Do < 3 := by simp only [Bool.and_eq_true, decide_eq_true_eq] at hb; exact hb.2
    have hSM := (smay_iff s).1 hs
    rcases find_cases (fun o : GType => decide (o.Name = x.Ty)) s with ⟨f1, f2, f3⟩ | ⟨t, ty, f1, f2, f3, f4, f5⟩
    · have e : gDo s x = (11, [], 0, -1) := by unfold gDo; rw [if_pos hb, f3]
      rw [e]
      exact (do_none up s x h1 h2 hb f1).mono fun r σ' h => .inr ⟨by decide, h⟩
    · have e : gDo s x = if (gStepF s x ty.F).1 = 0 then (0, s.set t ⟨ty.Name, (gStepF s x ty.F).2⟩, t, fFind ty.F x.F.Name) else ((gStepF s x ty.F).1, [], 0, -1) := by
        unfold gDo; rw [if_pos hb, f4]; simp only [f2]
      have h5 := hSM.flen t ty f2
      have key : ∃ (fm : FuncId) (e1 : Int) (s2 : List GType), ((x.Do = 0 ∧ fm = 92) ∨ (x.Do = 1 ∧ fm = 93) ∨ (x.Do = 2 ∧ fm = 91)) ∧ GCall prog up fm [.lv 1 [] 0] 2 [(0, ⟨false, [.own 2 (List.map eTypeO (s))]⟩), (1, ⟨true, eWork 0 x (t : Int) (fFind ty.F x.F.Name)⟩)] (fun r σ' => r = .int .i64 e1 ∧ ∃ tt, σ' = ⟨2, tt, [(0, ⟨false, [.own 2 (List.map eTypeO (s2))]⟩), (1, ⟨true, eWork 0 x (t : Int) (fFind ty.F x.F.Name)⟩)]⟩) ∧ e1 = (gStepF s x ty.F).1 ∧ (e1 = 0 → s2 = s.set t ⟨ty.Name, (gStepF s x ty.F).2⟩) := by
        rcases (by omega : x.Do = 0 ∨ x.Do = 1 ∨ x.Do = 2) with h | h | h
        · refine ⟨_, _, _, .inl ⟨h, rfl⟩, work_add up s x t _ ty f2 h5, ?_, ?_⟩
          · unfold gStepF fFind; rw [if_pos h]; split <;> (try split) <;> simp_all
          · unfold gStepF fFind; rw [if_pos h]; intro h0; split at h0
            · rename_i hok; rw [if_pos hok]; split at h0
              · exact absurd h0 (by decide)
              · rename_i hl; rw [if_neg hl, if_pos ⟨hok, hl⟩]
            · exact absurd h0 (by decide)
        · rcases find_cases (fun f : GField => decide (f.Name = x.F.Name)) ty.F with ⟨g1, g2, g3⟩ | ⟨q, f0, g1, g2, g3, g4, g5⟩
          · exact ⟨_, 11, s, .inr (.inl ⟨h, rfl⟩), by rw [show fFind ty.F x.F.Name = -1 from g1]; exact work_drop_no up s x t, by unfold gStepF; rw [if_neg (show ¬ x.Do = 0 by omega), g3], fun h => absurd h (by decide)⟩
          · exact ⟨_, 0, _, .inr (.inl ⟨h, rfl⟩), by rw [show fFind ty.F x.F.Name = q from g1]; exact work_drop_at up s x t ty f2 q f0 g2 h5, by unfold gStepF; rw [if_neg (show ¬ x.Do = 0 by omega), g4]; simp only; rw [if_pos h], fun _ => by unfold gStepF; rw [if_neg (show ¬ x.Do = 0 by omega), g4]; simp only; rw [if_pos h]⟩
        · rcases find_cases (fun f : GField => decide (f.Name = x.F.Name)) ty.F with ⟨g1, g2, g3⟩ | ⟨q, f0, g1, g2, g3, g4, g5⟩
          · exact ⟨_, 11, s, .inr (.inr ⟨h, rfl⟩), by rw [show fFind ty.F x.F.Name = -1 from g1]; exact work_widen_no up s x t, by unfold gStepF; rw [if_neg (show ¬ x.Do = 0 by omega), g3], fun h => absurd h (by decide)⟩
          · refine ⟨_, _, _, .inr (.inr ⟨h, rfl⟩), by rw [show fFind ty.F x.F.Name = q from g1]; exact work_widen_at up s x t ty f2 q f0 g2, ?_, ?_⟩
            · unfold gStepF; rw [if_neg (show ¬ x.Do = 0 by omega), g4]; simp only; rw [if_neg (show ¬ x.Do = 1 by omega), g2]; simp only; split <;> rfl
            · unfold gStepF; rw [if_neg (show ¬ x.Do = 0 by omega), g4]; simp only; rw [if_neg (show ¬ x.Do = 1 by omega), g2]; simp only
              intro h0
              split at h0
              · rename_i hw; rw [if_pos hw, if_pos hw]
              · exact absurd h0 (by decide)
      obtain ⟨fm, e1, s2, hsel, hcall, he, hs2⟩ := key
      refine (do_step up s x h1 h2 hb t f1 ty f2 _ rfl e1 s2 fm hsel hcall).mono fun r σ' h => ?_
      rcases h with ⟨h0, hr, hn, hσ⟩ | ⟨h0, h⟩
      · left
        rw [e, if_pos (by rw [← he]; exact h0)]
        rw [hs2 h0] at hσ
        exact ⟨rfl, hr, hn, hσ⟩
      · right
        rw [e, if_neg (by rw [← he]; exact h0)]
        simp only
        rw [← he]
        exact ⟨h0, h⟩
  · have hb' : (schemaMay s && (decide (0 ≤ x.Do) && decide (x.Do < 3))) = false := by simpa only [Bool.not_eq_true] using hb
    have e : gDo s x = (1, [], 0, -1) := by unfold gDo; rw [if_neg hb]
    rw [e]
    exact (do_bad up s x hb').mono fun r σ' h => .inr ⟨by decide, h⟩
theorem doG_ok (up : Bool) (s : List GType) (x : GStep) (h1 : s.length * 40 ≤ MX) (h2 : ∀ x ∈ s, x.F.length * 40 ≤ MX) (h0 : (gDo s x).1 = 0) : GCall prog up 43 [.agg (eSchema s), .agg (eStep x)] 0 [] (fun r σ' => r = .tup [.lv 1 [] 0, .int .i64 0] ∧ σ'.n = 2 ∧ σ'.s = [(0, ⟨false, [.own 2 (List.map eTypeO (gDo s x).2.1)]⟩), (1, ⟨true, eWork 0 x ((gDo s x).2.2.1 : Int) (gDo s x).2.2.2⟩)]) := (do_G up s x h1 h2).mono fun r σ' h => (h.resolve_right fun h => h.1 h0).2
theorem doG_err (up : Bool) (s : List GType) (x : GStep) (h1 : s.length * 40 ≤ MX) (h2 : ∀ x ∈ s, x.F.length * 40 ≤ MX) (h0 : (gDo s x).1 ≠ 0) : GCall prog up 43 [.agg (eSchema s), .agg (eStep x)] 0 [] (fun r σ' => r = .tup [.nilp, .int .i64 (gDo s x).1] ∧ σ'.n = 0 ∧ σ'.s = []) := (do_G up s x h1 h2).mono fun r σ' h => (h.resolve_left fun h => h0 h.1).2
theorem Schema_ok (up : Bool) (s : List GType) (x : GStep) (h1 : s.length * 40 ≤ MX) (h2 : ∀ x ∈ s, x.F.length * 40 ≤ MX) (h0 : (gDo s x).1 = 0) : PCall prog up 17 [.agg (eSchema s), .agg (eStep x)] (· = .tup [.agg (eSchema (gDo s x).2.1), .int .i64 0]) := by
  refine PCall.intro htt func17 (by kernel_rfl) rfl (Nat.le_of_ble_eq_true rfl) fun hl => ?_

  simp only [tmps0, Nat.reduceAdd]
  refine CW.seq ?_
  refine CW.region (by kernel_rfl) (by kernel_rfl) ?_ -- r0
  refine CWops.run htt 4 (by simp only [go_sem, reduceIte, reduceCtorEq, reduceEqDiff, reduceAdd, reduceLT, reduceLeDiff, reduceToNat, eSchema, eStep]; exact rfl) (by simp [go_sem, reduceIte, reduceCtorEq, reduceEqDiff, reduceAdd, reduceLT, reduceLeDiff, reduceToNat, eSchema, eStep]) ?_
  refine CWops.done ?_
  refine CW.seq ?_
  refine CW.region (by kernel_rfl) (by kernel_rfl) ?_ -- r1
  refine CWops.run htt 2 (by simp only [go_sem, reduceIte, reduceCtorEq, reduceEqDiff, reduceAdd, reduceLT, reduceLeDiff, reduceToNat, eSchema, eStep]; exact rfl) (by simp [go_sem, reduceIte, reduceCtorEq, reduceEqDiff, reduceAdd, reduceLT, reduceLeDiff, reduceToNat, eSchema, eStep]) ?_
  refine CWops.callG [] rfl (doG_ok up s x h1 h2 h0) (by simp only [go_sem, reduceIte, reduceCtorEq, reduceEqDiff, reduceAdd, reduceLT, reduceLeDiff, reduceToNat]) (by simp only [go_sem, reduceIte, reduceCtorEq, reduceEqDiff, reduceAdd, reduceLT, reduceLeDiff, reduceToNat]; first | done | exact rfl) (by decide) (by simp [go_sem, reduceIte, reduceCtorEq, reduceEqDiff, reduceAdd, reduceLT, reduceLeDiff, reduceToNat, mName, memB]) (by simp [go_sem, reduceIte, reduceCtorEq, reduceEqDiff, reduceAdd, reduceLT, reduceLeDiff, reduceToNat, mName]) (by simp [go_sem, reduceIte, reduceCtorEq, reduceEqDiff, reduceAdd, reduceLT, reduceLeDiff, reduceToNat]) (by simp [go_sem, reduceIte, reduceCtorEq, reduceEqDiff, reduceAdd, reduceLT, reduceLeDiff, reduceToNat]) (by simp [go_sem, reduceIte, reduceCtorEq, reduceEqDiff, reduceAdd, reduceLT, reduceLeDiff, reduceToNat, mName, eSchema, eStep]) (fun r σ' hσ => ?_)
  obtain ⟨σn, σt, σs⟩ := σ'
  simp only at hσ
  obtain ⟨rfl, rfl, rfl⟩ := hσ
  simp only [aftS, renS, delAll, memB, mName, List.getD_nil, killH, kref, ren, Nat.beq_eq, go_sem, reduceIte, reduceCtorEq, reduceEqDiff, reduceAdd, reduceLT, reduceLeDiff, reduceToNat, eWork]
  refine CWops.run htt 5 (by simp only [go_sem, reduceIte, reduceCtorEq, reduceEqDiff, reduceAdd, reduceLT, reduceLeDiff, reduceToNat, eSchema, eStep]; exact rfl) (by simp [go_sem, reduceIte, reduceCtorEq, reduceEqDiff, reduceAdd, reduceLT, reduceLeDiff, reduceToNat, eSchema, eStep]) ?_
  refine CWops.done ?_
  refine CW.seq ?_
  refine CW.seq ?_
  refine CW.region (by kernel_rfl) (by kernel_rfl) ?_ -- r2
  refine CWops.run htt 2 (by simp only [go_sem, reduceIte, reduceCtorEq, reduceEqDiff, reduceAdd, reduceLT, reduceLeDiff, reduceToNat]; exact rfl) (by simp [go_sem, reduceIte, reduceCtorEq, reduceEqDiff, reduceAdd, reduceLT, reduceLeDiff, reduceToNat]) ?_
  refine CWops.done ?_
  refine CW.cond (by simp only [go_sem, reduceIte, reduceCtorEq, reduceEqDiff, reduceAdd, reduceLT, reduceLeDiff, reduceToNat]; first | done | exact rfl) (fun ct15 => ?_) (fun ct15 => ?_)
  · simp at ct15 
  · refine CW.skip ?_
    refine CW.seq ?_
    refine CW.region (by kernel_rfl) (by kernel_rfl) ?_ -- r4
    refine CWops.run htt 6 (by simp only [go_sem, reduceIte, reduceCtorEq, reduceEqDiff, reduceAdd, reduceLT, reduceLeDiff, reduceToNat, eWork]; exact rfl) (by simp [go_sem, reduceIte, reduceCtorEq, reduceEqDiff, reduceAdd, reduceLT, reduceLeDiff, reduceToNat, eWork]) ?_
    refine CWops.done ?_
    refine CW.ret ?_
    refine retQ.ret (by simp only [f17, go_sem, reduceIte, reduceCtorEq, reduceEqDiff, reduceAdd, reduceLT, reduceLeDiff, reduceToNat]; exact rfl) (by simp only [go_sem, reduceIte, reduceCtorEq, reduceEqDiff, reduceAdd, reduceLT, reduceLeDiff, reduceToNat]; exact rfl) ?_ -- ret1
    refine ⟨_, ?_, rfl⟩
    simp [leP, leL, eSchema, frz_TypeO]
theorem Schema_err (up : Bool) (s : List GType) (x : GStep) (h1 : s.length * 40 ≤ MX) (h2 : ∀ x ∈ s, x.F.length * 40 ≤ MX) (h0 : (gDo s x).1 ≠ 0) : PCall prog up 17 [.agg (eSchema s), .agg (eStep x)] (· = .tup [.agg (eSchema []), .int .i64 (gDo s x).1]) := by
  refine PCall.intro htt func17 (by kernel_rfl) rfl (Nat.le_of_ble_eq_true rfl) fun hl => ?_

  simp only [tmps0, Nat.reduceAdd]
  refine CW.seq ?_
  refine CW.region (by kernel_rfl) (by kernel_rfl) ?_ -- r0
  refine CWops.run htt 4 (by simp only [go_sem, reduceIte, reduceCtorEq, reduceEqDiff, reduceAdd, reduceLT, reduceLeDiff, reduceToNat, eSchema, eStep]; exact rfl) (by simp [go_sem, reduceIte, reduceCtorEq, reduceEqDiff, reduceAdd, reduceLT, reduceLeDiff, reduceToNat, eSchema, eStep]) ?_
  refine CWops.done ?_
  refine CW.seq ?_
  refine CW.region (by kernel_rfl) (by kernel_rfl) ?_ -- r1
  refine CWops.run htt 2 (by simp only [go_sem, reduceIte, reduceCtorEq, reduceEqDiff, reduceAdd, reduceLT, reduceLeDiff, reduceToNat, eSchema, eStep]; exact rfl) (by simp [go_sem, reduceIte, reduceCtorEq, reduceEqDiff, reduceAdd, reduceLT, reduceLeDiff, reduceToNat, eSchema, eStep]) ?_
  refine CWops.callG [] rfl (doG_err up s x h1 h2 h0) (by simp only [go_sem, reduceIte, reduceCtorEq, reduceEqDiff, reduceAdd, reduceLT, reduceLeDiff, reduceToNat]) (by simp only [go_sem, reduceIte, reduceCtorEq, reduceEqDiff, reduceAdd, reduceLT, reduceLeDiff, reduceToNat]; first | done | exact rfl) (by decide) (by simp [go_sem, reduceIte, reduceCtorEq, reduceEqDiff, reduceAdd, reduceLT, reduceLeDiff, reduceToNat, mName, memB]) (by simp [go_sem, reduceIte, reduceCtorEq, reduceEqDiff, reduceAdd, reduceLT, reduceLeDiff, reduceToNat, mName]) (by simp [go_sem, reduceIte, reduceCtorEq, reduceEqDiff, reduceAdd, reduceLT, reduceLeDiff, reduceToNat]) (by simp [go_sem, reduceIte, reduceCtorEq, reduceEqDiff, reduceAdd, reduceLT, reduceLeDiff, reduceToNat]) (by simp [go_sem, reduceIte, reduceCtorEq, reduceEqDiff, reduceAdd, reduceLT, reduceLeDiff, reduceToNat, mName, eSchema, eStep]) (fun r σ' hσ => ?_)
  obtain ⟨σn, σt, σs⟩ := σ'
  simp only at hσ
  obtain ⟨rfl, rfl, rfl⟩ := hσ
  simp only [aftS, renS, delAll, memB, mName, List.getD_nil, killH, kref, ren, Nat.beq_eq, go_sem, reduceIte, reduceCtorEq, reduceEqDiff, reduceAdd, reduceLT, reduceLeDiff, reduceToNat, eWork]
  refine CWops.run htt 5 (by simp only [go_sem, reduceIte, reduceCtorEq, reduceEqDiff, reduceAdd, reduceLT, reduceLeDiff, reduceToNat, eSchema, eStep]; exact rfl) (by simp [go_sem, reduceIte, reduceCtorEq, reduceEqDiff, reduceAdd, reduceLT, reduceLeDiff, reduceToNat, eSchema, eStep]) ?_
  refine CWops.done ?_
  refine CW.seq ?_
  refine CW.seq ?_
  refine CW.region (by kernel_rfl) (by kernel_rfl) ?_ -- r2
  refine CWops.run htt 2 (by simp only [go_sem, reduceIte, reduceCtorEq, reduceEqDiff, reduceAdd, reduceLT, reduceLeDiff, reduceToNat]; exact rfl) (by simp [go_sem, reduceIte, reduceCtorEq, reduceEqDiff, reduceAdd, reduceLT, reduceLeDiff, reduceToNat]) ?_
  refine CWops.done ?_
  refine CW.cond (by simp only [go_sem, reduceIte, reduceCtorEq, reduceEqDiff, reduceAdd, reduceLT, reduceLeDiff, reduceToNat]; first | done | exact rfl) (fun ct15 => ?_) (fun ct15 => ?_)
  · refine CW.seq ?_
    refine CW.region (by kernel_rfl) (by kernel_rfl) ?_ -- r3
    refine CWops.run htt 4 (by simp only [go_sem, reduceIte, reduceCtorEq, reduceEqDiff, reduceAdd, reduceLT, reduceLeDiff, reduceToNat]; exact rfl) (by simp [go_sem, reduceIte, reduceCtorEq, reduceEqDiff, reduceAdd, reduceLT, reduceLeDiff, reduceToNat]) ?_
    refine CWops.done ?_
    refine CW.ret ?_
    refine retQ.ret (by simp only [f17, go_sem, reduceIte, reduceCtorEq, reduceEqDiff, reduceAdd, reduceLT, reduceLeDiff, reduceToNat]; exact rfl) (by simp only [go_sem, reduceIte, reduceCtorEq, reduceEqDiff, reduceAdd, reduceLT, reduceLeDiff, reduceToNat]; exact rfl) ?_ -- ret1
    refine ⟨_, ?_, rfl⟩
    simp [leP, leL, eSchema, frz_TypeO]
  · exfalso; revert ct15; simp [h0]
theorem grade_Schema (up : Bool) (s : List GType) (x : GStep) (h1 : s.length * 40 ≤ MX) (h2 : ∀ x ∈ s, x.F.length * 40 ≤ MX) : PCall prog up 17 [.agg (eSchema s), .agg (eStep x)] (· = .tup [.agg (eSchema (gSchema s x).1), .int .i64 (gSchema s x).2]) := by
  unfold gSchema
  by_cases h0 : (gDo s x).1 = 0
  · rw [h0]; exact Schema_ok up s x h1 h2 h0
  · rw [gDo_err h0]; exact Schema_err up s x h1 h2 h0
end Go.Ab
