/-
  What graph.New and graph.Root answer: each by its contract. No condition but those of each theorem.
-/
import Derived.Test.YtmadijloeffjfaaProg
import Derived.Test.YtmadijloeffjfaaVg
import Derived.Test.YtmadijloeffjfaaFj
set_option linter.unusedVariables false
set_option linter.unusedSimpArgs false
namespace Go.Ab
open Go Go.Proofs.Try
open Nat (reduceEqDiff reduceAdd reduceLT reduceLeDiff reduceBEq reduceSub reduceMul)
open Int (reduceToNat)
set_option maxRecDepth 100000
set_option linter.unusedSimpArgs false
set_option linter.unusedVariables false


theorem value_Zero (up : Bool) (f : GField) : PCall prog up 36 [.agg (eField f)] (· = .agg (eVal (zeroV f))) := by
  refine PCall.intro htt func36 (by kernel_rfl) rfl (Nat.le_of_ble_eq_true rfl) fun hl => ?_

  simp only [tmps0, Nat.reduceAdd]
  refine CW.seq ?_
  refine CW.region (by kernel_rfl) (by kernel_rfl) ?_ -- r0
  refine CWops.run htt 2 (by simp only [go_sem, reduceIte, reduceCtorEq, reduceEqDiff, reduceAdd, reduceLT, reduceLeDiff, reduceToNat, reduceMul, eField]; exact rfl) (by simp [go_sem, reduceIte, reduceCtorEq, reduceEqDiff, reduceAdd, reduceLT, reduceLeDiff, reduceToNat, reduceMul, eField]) ?_
  refine CWops.done ?_
  refine CW.seq ?_
  refine CW.seq ?_
  refine CW.region (by kernel_rfl) (by kernel_rfl) ?_ -- r1
  refine CWops.run htt 3 (by simp only [go_sem, reduceIte, reduceCtorEq, reduceEqDiff, reduceAdd, reduceLT, reduceLeDiff, reduceToNat, reduceMul, eField]; exact rfl) (by simp [go_sem, reduceIte, reduceCtorEq, reduceEqDiff, reduceAdd, reduceLT, reduceLeDiff, reduceToNat, reduceMul, eField]) ?_
  refine CWops.done ?_
  refine CW.cond (by simp only [go_sem, reduceIte, reduceCtorEq, reduceEqDiff, reduceAdd, reduceLT, reduceLeDiff, reduceToNat, reduceMul]; first | done | exact rfl) (fun ct5 => ?_) (fun ct5 => ?_)
  · have hk : f.Kind = 5 := by simpa using ct5
    refine CW.seq ?_
    refine CW.region (by kernel_rfl) (by kernel_rfl) ?_ -- r2
    refine CWops.run htt 2 (by simp only [go_sem, reduceIte, reduceCtorEq, reduceEqDiff, reduceAdd, reduceLT, reduceLeDiff, reduceToNat, reduceMul]; exact rfl) (by simp [go_sem, reduceIte, reduceCtorEq, reduceEqDiff, reduceAdd, reduceLT, reduceLeDiff, reduceToNat, reduceMul]) ?_
    refine CWops.done ?_
    refine CW.ret ?_
    refine retQ.ret (by simp only [f36, go_sem, reduceIte, reduceCtorEq, reduceEqDiff, reduceAdd, reduceLT, reduceLeDiff, reduceToNat, reduceMul]; exact rfl) (by simp only [go_sem, reduceIte, reduceCtorEq, reduceEqDiff, reduceAdd, reduceLT, reduceLeDiff, reduceToNat, reduceMul]; exact rfl) ?_ -- ret1
    refine ⟨_, ?_, rfl⟩
    simp [leP, leL, zeroV, hk, eVal]
  · have hk : ¬ f.Kind = 5 := by simpa using ct5
    refine CW.skip ?_
    refine CW.seq ?_
    refine CW.region (by kernel_rfl) (by kernel_rfl) ?_ -- r3
    refine CWops.run htt 2 (by simp only [go_sem, reduceIte, reduceCtorEq, reduceEqDiff, reduceAdd, reduceLT, reduceLeDiff, reduceToNat, reduceMul]; exact rfl) (by simp [go_sem, reduceIte, reduceCtorEq, reduceEqDiff, reduceAdd, reduceLT, reduceLeDiff, reduceToNat, reduceMul]) ?_
    refine CWops.done ?_
    refine CW.ret ?_
    refine retQ.ret (by simp only [f36, go_sem, reduceIte, reduceCtorEq, reduceEqDiff, reduceAdd, reduceLT, reduceLeDiff, reduceToNat, reduceMul]; exact rfl) (by simp only [go_sem, reduceIte, reduceCtorEq, reduceEqDiff, reduceAdd, reduceLT, reduceLeDiff, reduceToNat, reduceMul]; exact rfl) ?_ -- ret2
    refine ⟨_, ?_, rfl⟩
    simp [leP, leL, zeroV, hk, eVal]
theorem graph_New (up : Bool) (g : Graph) (t : Int) (hz : GSz g) : PCall prog up 22 [.agg (eGraph g), .int .i64 t] (· = .tup [.agg (eGraph (gNew g t).1), .int .i64 (gNew g t).2.1, .int .i64 (gNew g t).2.2]) := by
  refine PCall.intro htt func22 (by kernel_rfl) rfl (Nat.le_of_ble_eq_true rfl) fun hl => ?_

  simp only [tmps0, Nat.reduceAdd]
  refine CW.seq ?_
  refine CW.region (by kernel_rfl) (by kernel_rfl) ?_ -- r0
  refine CWops.run htt 4 (by simp only [go_sem, reduceIte, reduceCtorEq, reduceEqDiff, reduceAdd, reduceLT, reduceLeDiff, reduceToNat, reduceMul, eGraph]; exact rfl) (by simp [go_sem, reduceIte, reduceCtorEq, reduceEqDiff, reduceAdd, reduceLT, reduceLeDiff, reduceToNat, reduceMul, eGraph]) ?_
  refine CWops.done ?_
  refine CW.cut ⟨5, [(0, .agg (eGraph g)), (1, .int .i64 t), (2, .lv 0 [] 0), (4, .lv 1 [] 0), (5, .int .i64 0), (6, .int .i64 0), (7, .lv 4 [] 0)], [(0, ⟨true, eGraph g⟩), (1, ⟨true, [.nilsl, .nilsl, .nilsl]⟩), (2, ⟨true, OWN g⟩), (4, ⟨true, [.ref 2 [] 0, .ref 2 [] 1, .ref 2 [] 2]⟩)]⟩ ?_ ?_
  · refine CW.region (by kernel_rfl) (by kernel_rfl) ?_ -- r1
    refine CWops.run htt 1 (by simp only [go_sem, reduceIte, reduceCtorEq, reduceEqDiff, reduceAdd, reduceLT, reduceLeDiff, reduceToNat, reduceMul, eGraph, OWN]; exact rfl) (by simp [go_sem, reduceIte, reduceCtorEq, reduceEqDiff, reduceAdd, reduceLT, reduceLeDiff, reduceToNat, reduceMul, eGraph, OWN]) ?_
    refine CWops.callG [] rfl (graph_own up g hz) (by simp only [go_sem, reduceIte, reduceCtorEq, reduceEqDiff, reduceAdd, reduceLT, reduceLeDiff, reduceToNat, reduceMul]) (by simp only [go_sem, reduceIte, reduceCtorEq, reduceEqDiff, reduceAdd, reduceLT, reduceLeDiff, reduceToNat, reduceMul]; first | done | exact rfl) (by decide) (by simp [go_sem, reduceIte, reduceCtorEq, reduceEqDiff, reduceAdd, reduceLT, reduceLeDiff, reduceToNat, reduceMul, mName, memB]) (by simp [go_sem, reduceIte, reduceCtorEq, reduceEqDiff, reduceAdd, reduceLT, reduceLeDiff, reduceToNat, reduceMul, mName]) (by simp [go_sem, reduceIte, reduceCtorEq, reduceEqDiff, reduceAdd, reduceLT, reduceLeDiff, reduceToNat, reduceMul]) (by simp [go_sem, reduceIte, reduceCtorEq, reduceEqDiff, reduceAdd, reduceLT, reduceLeDiff, reduceToNat, reduceMul]) (by simp [go_sem, reduceIte, reduceCtorEq, reduceEqDiff, reduceAdd, reduceLT, reduceLeDiff, reduceToNat, reduceMul, mName, eGraph]) (fun r σ' hσ => ?_)
    obtain ⟨σn, σt, σs⟩ := σ'
    simp only at hσ
    obtain ⟨rfl, rfl, rfl⟩ := hσ
    simp only [aftS, renS, delAll, memB, mName, List.getD_nil, killR, ren, go_sem, reduceIte, reduceCtorEq, reduceEqDiff, reduceAdd, reduceLT, reduceLeDiff, reduceToNat, reduceMul]
    refine CWops.run htt 2 (by simp only [go_sem, reduceIte, reduceCtorEq, reduceEqDiff, reduceAdd, reduceLT, reduceLeDiff, reduceToNat, reduceMul, eGraph, OWN]; exact rfl) (by simp [go_sem, reduceIte, reduceCtorEq, reduceEqDiff, reduceAdd, reduceLT, reduceLeDiff, reduceToNat, reduceMul, eGraph, OWN]) ?_
    refine CWops.done ?_
    first | refine ⟨rfl, Sh.wk0 ?_⟩ | refine Sh.wk0 ?_
    simp [Wk, go_sem, reduceIte, reduceCtorEq, reduceEqDiff, reduceAdd, reduceLT, reduceLeDiff, reduceToNat, reduceMul, eGraph, OWN]
  refine CW.seq ?_
  refine CW.seq ?_
  refine CW.region (by kernel_rfl) (by kernel_rfl) ?_ -- r2
  refine CWops.run htt 1 (by simp only [go_sem, reduceIte, reduceCtorEq, reduceEqDiff, reduceAdd, reduceLT, reduceLeDiff, reduceToNat, reduceMul, eGraph]; exact rfl) (by simp [go_sem, reduceIte, reduceCtorEq, reduceEqDiff, reduceAdd, reduceLT, reduceLeDiff, reduceToNat, reduceMul, eGraph]) ?_
  refine CWops.call (graph_May up g) (by simp only [go_sem, reduceIte, reduceCtorEq, reduceEqDiff, reduceAdd, reduceLT, reduceLeDiff, reduceToNat, reduceMul, eGraph]) (by simp only [go_sem, reduceIte, reduceCtorEq, reduceEqDiff, reduceAdd, reduceLT, reduceLeDiff, reduceToNat, reduceMul, eGraph]; first | done | exact rfl) (by simp only [go_sem, reduceIte, reduceCtorEq, reduceEqDiff, reduceAdd, reduceLT, reduceLeDiff, reduceToNat, reduceMul, eGraph]) (fun rt15 hrt15 => ?_)
  subst hrt15; refine ⟨rfl, ?_⟩
  refine CWops.run htt 1 (by simp only [go_sem, reduceIte, reduceCtorEq, reduceEqDiff, reduceAdd, reduceLT, reduceLeDiff, reduceToNat, reduceMul, eGraph]; exact rfl) (by simp [go_sem, reduceIte, reduceCtorEq, reduceEqDiff, reduceAdd, reduceLT, reduceLeDiff, reduceToNat, reduceMul, eGraph]) ?_
  refine CWops.done ?_
  refine CW.cond (by simp only [go_sem, reduceIte, reduceCtorEq, reduceEqDiff, reduceAdd, reduceLT, reduceLeDiff, reduceToNat, reduceMul]; first | done | exact rfl) (fun ct16 => ?_) (fun ct16 => ?_)
  · simp only [Bool.not_eq_true'] at ct16
    refine CW.seq ?_
    try simp only [OWN]
    refine CW.sh (Sh.trans (Sh.frzC 2 0 4 0 (by decide) rfl rfl rfl) (Sh.trans (Sh.frzC 2 1 4 1 (by decide) rfl rfl rfl) (Sh.frzC 2 2 4 2 (by decide) rfl rfl rfl))) ?_
    simp only [go_sem, reduceIte, reduceCtorEq, reduceEqDiff, reduceAdd, reduceLT, reduceLeDiff, reduceToNat, reduceMul]
    refine CW.region (by kernel_rfl) (by kernel_rfl) ?_ -- r3
    refine CWops.run htt 4 (by simp only [go_sem, reduceIte, reduceCtorEq, reduceEqDiff, reduceAdd, reduceLT, reduceLeDiff, reduceToNat, reduceMul]; exact rfl) (by simp [go_sem, reduceIte, reduceCtorEq, reduceEqDiff, reduceAdd, reduceLT, reduceLeDiff, reduceToNat, reduceMul]) ?_
    refine CWops.done ?_
    refine CW.ret ?_
    refine retQ.ret (by simp only [f22, go_sem, reduceIte, reduceCtorEq, reduceEqDiff, reduceAdd, reduceLT, reduceLeDiff, reduceToNat, reduceMul]; exact rfl) (by simp only [go_sem, reduceIte, reduceCtorEq, reduceEqDiff, reduceAdd, reduceLT, reduceLeDiff, reduceToNat, reduceMul]; exact rfl) ?_ -- ret1
    refine ⟨_, ?_, rfl⟩
    simp [leP, leL, gNew, ct16, eGraph]
  · simp only [Bool.not_eq_false'] at ct16
    have hm := (may_iff g).1 ct16
    have ho8 := hm.o
    refine CW.skip ?_
    refine CW.seq ?_
    refine CW.cut ⟨5, [(0, .agg (eGraph g)), (1, .int .i64 t), (2, .lv 0 [] 0), (4, .lv 1 [] 0), (5, .int .i64 0), (6, .int .i64 0), (7, .lv 4 [] 0), (27, .bool (decide (t < 0) || decide ((g.S.length : Int) ≤ t)))], [(0, ⟨true, eGraph g⟩), (1, ⟨true, [.nilsl, .nilsl, .nilsl]⟩), (2, ⟨true, OWN g⟩), (4, ⟨true, [.ref 2 [] 0, .ref 2 [] 1, .ref 2 [] 2]⟩)]⟩ ?_ ?_
    · refine CW.region (by kernel_rfl) (by kernel_rfl) ?_ -- r4
      refine CWops.run htt 3 (by simp only [go_sem, reduceIte, reduceCtorEq, reduceEqDiff, reduceAdd, reduceLT, reduceLeDiff, reduceToNat, reduceMul, eGraph]; exact rfl) (by simp [go_sem, reduceIte, reduceCtorEq, reduceEqDiff, reduceAdd, reduceLT, reduceLeDiff, reduceToNat, reduceMul, eGraph]) ?_
      all_goals (first | refine CWops.guard 20 (by simp only [go_sem, reduceIte, reduceCtorEq, reduceEqDiff, reduceAdd, reduceLT, reduceLeDiff, reduceToNat, reduceMul, eGraph]; exact rfl) (fun g20 => ?_) (fun g20 => ?_) | skip)
      all_goals (refine CWops.run htt 7 (by simp only [go_sem, reduceIte, reduceCtorEq, reduceEqDiff, reduceAdd, reduceLT, reduceLeDiff, reduceToNat, reduceMul, eGraph]; exact rfl) (by simp [go_sem, reduceIte, reduceCtorEq, reduceEqDiff, reduceAdd, reduceLT, reduceLeDiff, reduceToNat, reduceMul, eGraph]) ?_)
      all_goals (refine CWops.done ?_)
      all_goals (
        first | refine ⟨rfl, Sh.wk0 ?_⟩ | refine Sh.wk0 ?_
        simp_all [Wk, go_sem, reduceIte, reduceCtorEq, reduceEqDiff, reduceAdd, reduceLT, reduceLeDiff, reduceToNat, reduceMul, eGraph, OWN]
        try (intro h; omega))
    refine CW.cond (by simp only [go_sem, reduceIte, reduceCtorEq, reduceEqDiff, reduceAdd, reduceLT, reduceLeDiff, reduceToNat, reduceMul]; first | done | exact rfl) (fun ct27 => ?_) (fun ct27 => ?_)
    · refine CW.seq ?_
      try simp only [OWN]
      refine CW.sh (Sh.trans (Sh.frzC 2 0 4 0 (by decide) rfl rfl rfl) (Sh.trans (Sh.frzC 2 1 4 1 (by decide) rfl rfl rfl) (Sh.frzC 2 2 4 2 (by decide) rfl rfl rfl))) ?_
      simp only [go_sem, reduceIte, reduceCtorEq, reduceEqDiff, reduceAdd, reduceLT, reduceLeDiff, reduceToNat, reduceMul]
      refine CW.region (by kernel_rfl) (by kernel_rfl) ?_ -- r5
      refine CWops.run htt 4 (by simp only [go_sem, reduceIte, reduceCtorEq, reduceEqDiff, reduceAdd, reduceLT, reduceLeDiff, reduceToNat, reduceMul]; exact rfl) (by simp [go_sem, reduceIte, reduceCtorEq, reduceEqDiff, reduceAdd, reduceLT, reduceLeDiff, reduceToNat, reduceMul]) ?_
      refine CWops.done ?_
      refine CW.ret ?_
      refine retQ.ret (by simp only [f22, go_sem, reduceIte, reduceCtorEq, reduceEqDiff, reduceAdd, reduceLT, reduceLeDiff, reduceToNat, reduceMul]; exact rfl) (by simp only [go_sem, reduceIte, reduceCtorEq, reduceEqDiff, reduceAdd, reduceLT, reduceLeDiff, reduceToNat, reduceMul]; exact rfl) ?_ -- ret2
      refine ⟨_, ?_, rfl⟩
      simp [leP, leL, gNew, ct16, ct27, eGraph]
    · have hno := ct27
      simp only [Bool.or_eq_false_iff, decide_eq_false_iff_not] at hno
      obtain ⟨q, rfl⟩ := Int.eq_ofNat_of_zero_le (show 0 ≤ t by omega)
      have hql : q < g.S.length := by omega
      obtain ⟨ty, ht⟩ : ∃ x, g.S[q]? = some x := ⟨g.S[q], List.getElem?_eq_getElem hql⟩
      have htF : tyF g q = ty.F := by unfold tyF typeAt; simp [ht]
      have hf5 := hm.small.2.1 ty (List.mem_of_getElem? ht)
      refine CW.skip ?_
      refine CW.seq ?_
      refine CW.region (by kernel_rfl) (by kernel_rfl) ?_ -- r6
      refine CWops.run htt 4 (by simp only [go_sem, reduceIte, reduceCtorEq, reduceEqDiff, reduceAdd, reduceLT, reduceLeDiff, reduceToNat, reduceMul]; exact rfl) (by simp [go_sem, reduceIte, reduceCtorEq, reduceEqDiff, reduceAdd, reduceLT, reduceLeDiff, reduceToNat, reduceMul]) ?_
      refine CWops.done ?_
      refine CW.cut ⟨6, [(0, .agg (eGraph g)), (1, .int .i64 (q : Int)), (2, .lv 0 [] 0), (4, .lv 1 [] 0), (5, .int .i64 0), (6, .int .i64 0), (7, .lv 4 [] 0), (8, .lv 5 [] 0)], [(0, ⟨true, eGraph g⟩), (1, ⟨true, [.nilsl, .nilsl, .nilsl]⟩), (2, ⟨true, OWN g⟩), (4, ⟨true, [.ref 2 [] 0, .ref 2 [] 1, .ref 2 [] 2]⟩), (5, ⟨true, [.int .i64 (newId g), .int .i64 (q : Int), .nilsl]⟩)]⟩ ?_ ?_
      · refine CW.seq ?_
        refine CW.region (by kernel_rfl) (by kernel_rfl) ?_ -- r7
        refine CWops.run htt 4 (by simp only [go_sem, reduceIte, reduceCtorEq, reduceEqDiff, reduceAdd, reduceLT, reduceLeDiff, reduceToNat, reduceMul, eGraph]; exact rfl) (by simp [go_sem, reduceIte, reduceCtorEq, reduceEqDiff, reduceAdd, reduceLT, reduceLeDiff, reduceToNat, reduceMul, eGraph]) ?_
        refine CWops.done ?_
        refine CW.seq ?_
        refine CW.region (by kernel_rfl) (by kernel_rfl) ?_ -- r8
        refine CWops.run htt 2 (by simp only [go_sem, reduceIte, reduceCtorEq, reduceEqDiff, reduceAdd, reduceLT, reduceLeDiff, reduceToNat, reduceMul]; exact rfl) (by simp [go_sem, reduceIte, reduceCtorEq, reduceEqDiff, reduceAdd, reduceLT, reduceLeDiff, reduceToNat, reduceMul]) ?_
        refine CWops.done ?_
        refine CW.cond (by simp only [go_sem, reduceIte, reduceCtorEq, reduceEqDiff, reduceAdd, reduceLT, reduceLeDiff, reduceToNat, reduceMul]; first | done | exact rfl) (fun ct35 => ?_) (fun ct35 => ?_)
        · obtain ⟨m, hml'⟩ : ∃ m, g.O.length = m + 1 := ⟨g.O.length - 1, by simp at ct35; omega⟩
          have hml : m < g.O.length := by omega
          obtain ⟨z, hx⟩ : ∃ x, g.O[m]? = some x := ⟨g.O[m], List.getElem?_eq_getElem hml⟩
          have hw1 : IntKind.i64.wrap ((g.O.length : Int) - 1) = (m : Int) := by rw [wrap_id (by omega) (by omega)]; omega
          obtain ⟨_, _, _, hzo⟩ := hm.objT hx
          have hz1 := hzo.id
          have hz2 := (hm.ids m z hx).1
          have hw2 : IntKind.i64.wrap (z.Id + 1) = z.Id + 1 := wrap_id (by omega) (by omega)
          have hnid : newId g = z.Id + 1 := by unfold newId; rw [hml']; simp [prevId, hx]
          refine CW.region (by kernel_rfl) (by kernel_rfl) ?_ -- r9
          refine CWops.run htt 10 (by simp only [go_sem, reduceIte, reduceCtorEq, reduceEqDiff, reduceAdd, reduceLT, reduceLeDiff, reduceToNat, reduceMul, eGraph, hx, eObj, hml, hw1, hw2]; exact rfl) (by simp [go_sem, reduceIte, reduceCtorEq, reduceEqDiff, reduceAdd, reduceLT, reduceLeDiff, reduceToNat, reduceMul, eGraph, hx, eObj, hml, hw1, hw2]) ?_
          refine CWops.done ?_
          first | refine ⟨rfl, Sh.wk0 ?_⟩ | refine Sh.wk0 ?_
          first | (simp [Wk, go_sem, reduceIte, reduceCtorEq, reduceEqDiff, reduceAdd, reduceLT, reduceLeDiff, reduceToNat, reduceMul, eGraph, OWN, hnid]; done) | (simp [Wk, go_sem, reduceIte, reduceCtorEq, reduceEqDiff, reduceAdd, reduceLT, reduceLeDiff, reduceToNat, reduceMul, eGraph, OWN, newId, hn0, prevId]; done) | skip
        · have hn0 : g.O = [] := by
            simpa using ct35
          refine CW.skip ?_
          first | refine ⟨rfl, Sh.wk0 ?_⟩ | refine Sh.wk0 ?_
          first | (simp [Wk, go_sem, reduceIte, reduceCtorEq, reduceEqDiff, reduceAdd, reduceLT, reduceLeDiff, reduceToNat, reduceMul, eGraph, OWN, hnid]; done) | (simp [Wk, go_sem, reduceIte, reduceCtorEq, reduceEqDiff, reduceAdd, reduceLT, reduceLeDiff, reduceToNat, reduceMul, eGraph, OWN, newId, hn0, prevId]; done) | skip
      refine CW.seq ?_
      refine CW.cut ⟨6, [(0, .agg (eGraph g)), (1, .int .i64 (q : Int)), (2, .lv 0 [] 0), (4, .lv 1 [] 0), (5, .int .i64 0), (6, .int .i64 0), (7, .lv 4 [] 0), (8, .lv 5 [] 0), (53, .bool (newBad g))], [(0, ⟨true, eGraph g⟩), (1, ⟨true, [.nilsl, .nilsl, .nilsl]⟩), (2, ⟨true, OWN g⟩), (4, ⟨true, [.ref 2 [] 0, .ref 2 [] 1, .ref 2 [] 2]⟩), (5, ⟨true, [.int .i64 (newId g), .int .i64 (q : Int), .nilsl]⟩)]⟩ ?_ ?_
      · refine CW.region (by kernel_rfl) (by kernel_rfl) ?_ -- r10
        refine CWops.run htt 5 (by simp only [go_sem, reduceIte, reduceCtorEq, reduceEqDiff, reduceAdd, reduceLT, reduceLeDiff, reduceToNat, reduceMul, eGraph]; exact rfl) (by simp [go_sem, reduceIte, reduceCtorEq, reduceEqDiff, reduceAdd, reduceLT, reduceLeDiff, reduceToNat, reduceMul, eGraph]) ?_
        all_goals (first | refine CWops.guard 49 (by simp only [go_sem, reduceIte, reduceCtorEq, reduceEqDiff, reduceAdd, reduceLT, reduceLeDiff, reduceToNat, reduceMul, eGraph]; exact rfl) (fun g49 => ?_) (fun g49 => ?_) | skip)
        all_goals (refine CWops.run htt 4 (by simp only [go_sem, reduceIte, reduceCtorEq, reduceEqDiff, reduceAdd, reduceLT, reduceLeDiff, reduceToNat, reduceMul, eGraph]; exact rfl) (by simp [go_sem, reduceIte, reduceCtorEq, reduceEqDiff, reduceAdd, reduceLT, reduceLeDiff, reduceToNat, reduceMul, eGraph]) ?_)
        all_goals (refine CWops.done ?_)
        all_goals (
          first | refine ⟨rfl, Sh.wk0 ?_⟩ | refine Sh.wk0 ?_
          unfold newBad
          by_cases h8 : g.O.length = 8 <;> by_cases hb : 1073741824 < newId g <;> simp_all [Wk, go_sem, reduceIte, reduceCtorEq, reduceEqDiff, reduceAdd, reduceLT, reduceLeDiff, reduceToNat, reduceMul, eGraph, OWN] <;> omega)
      refine CW.cond (by simp only [go_sem, reduceIte, reduceCtorEq, reduceEqDiff, reduceAdd, reduceLT, reduceLeDiff, reduceToNat, reduceMul]; first | done | exact rfl) (fun ct53 => ?_) (fun ct53 => ?_)
      · refine CW.seq ?_
        try simp only [OWN]
        refine CW.sh (Sh.trans (Sh.frzC 2 0 4 0 (by decide) rfl rfl rfl) (Sh.trans (Sh.frzC 2 1 4 1 (by decide) rfl rfl rfl) (Sh.frzC 2 2 4 2 (by decide) rfl rfl rfl))) ?_
        simp only [go_sem, reduceIte, reduceCtorEq, reduceEqDiff, reduceAdd, reduceLT, reduceLeDiff, reduceToNat, reduceMul]
        refine CW.region (by kernel_rfl) (by kernel_rfl) ?_ -- r11
        refine CWops.run htt 4 (by simp only [go_sem, reduceIte, reduceCtorEq, reduceEqDiff, reduceAdd, reduceLT, reduceLeDiff, reduceToNat, reduceMul]; exact rfl) (by simp [go_sem, reduceIte, reduceCtorEq, reduceEqDiff, reduceAdd, reduceLT, reduceLeDiff, reduceToNat, reduceMul]) ?_
        refine CWops.done ?_
        refine CW.ret ?_
        refine retQ.ret (by simp only [f22, go_sem, reduceIte, reduceCtorEq, reduceEqDiff, reduceAdd, reduceLT, reduceLeDiff, reduceToNat, reduceMul]; exact rfl) (by simp only [go_sem, reduceIte, reduceCtorEq, reduceEqDiff, reduceAdd, reduceLT, reduceLeDiff, reduceToNat, reduceMul]; exact rfl) ?_ -- ret3
        refine ⟨_, ?_, rfl⟩
        simp [leP, leL, gNew, ct16, show ¬ ((q : Int) < 0) by omega, Nat.not_le.2 hql, ct53, eGraph]
      · refine CW.skip ?_
        refine CW.seq ?_
        refine CW.seq ?_
        refine CW.region (by kernel_rfl) (by kernel_rfl) ?_ -- r12
        refine CWops.run htt 9 (by simp only [go_sem, reduceIte, reduceCtorEq, reduceEqDiff, reduceAdd, reduceLT, reduceLeDiff, reduceToNat, reduceMul, eGraph, ht, eType, hql]; exact rfl) (by simp [go_sem, reduceIte, reduceCtorEq, reduceEqDiff, reduceAdd, reduceLT, reduceLeDiff, reduceToNat, reduceMul, eGraph, ht, eType, hql]) ?_
        refine CWops.done ?_
        refine CW.block ?_
        refine CW.loop (S := Nat) (fun i => ⟨6, [(0, .agg (eGraph g)), (1, .int .i64 (q : Int)), (2, .lv 0 [] 0), (4, .lv 1 [] 0), (5, .int .i64 0), (6, .int .i64 0), (7, .lv 4 [] 0), (8, .lv 5 [] 0), (61, .sl 3 (ty.F.map eField)), (62, .int .i64 ty.F.length), (63, .int .i64 i)], [(0, ⟨true, eGraph g⟩), (1, ⟨true, [.nilsl, .nilsl, .nilsl]⟩), (2, ⟨true, OWN g⟩), (4, ⟨true, [.ref 2 [] 0, .ref 2 [] 1, .ref 2 [] 2]⟩), (5, ⟨true, [.int .i64 (newId g), .int .i64 (q : Int), .own 3 (((ty.F.take i).map zeroV).map eVal)]⟩)]⟩) (fun i => i ≤ ty.F.length) (fun i => ty.F.length - i) (0) ?_ (Nat.zero_le _) (fun i h1 => ?_)
        · refine Sh.trans (Sh.nilCell 5 [] 2 3 (by simp [go_sem, reduceIte, reduceCtorEq, reduceEqDiff, reduceAdd, reduceLT, reduceLeDiff, reduceToNat, reduceMul]) rfl) (Sh.wk0 ?_); simp [Wk, go_sem, reduceIte, reduceCtorEq, reduceEqDiff, reduceAdd, reduceLT, reduceLeDiff, reduceToNat, reduceMul, eGraph, OWN]
        refine CW.seq ?_
        refine CW.region (by kernel_rfl) (by kernel_rfl) ?_ -- r13
        refine CWops.run htt 1 (by simp only [go_sem, reduceIte, reduceCtorEq, reduceEqDiff, reduceAdd, reduceLT, reduceLeDiff, reduceToNat, reduceMul]; exact rfl) (by simp [go_sem, reduceIte, reduceCtorEq, reduceEqDiff, reduceAdd, reduceLT, reduceLeDiff, reduceToNat, reduceMul]) ?_
        refine CWops.done ?_
        refine CW.seq ?_
        refine CW.cond (by simp only [go_sem, reduceIte, reduceCtorEq, reduceEqDiff, reduceAdd, reduceLT, reduceLeDiff, reduceToNat, reduceMul]; first | done | exact rfl) (fun ct64 => ?_) (fun ct64 => ?_)
        · have hi : i < ty.F.length := by simpa using ct64
          obtain ⟨f, hf⟩ : ∃ x, ty.F[i]? = some x := ⟨ty.F[i], List.getElem?_eq_getElem hi⟩
          refine CW.skip ?_
          refine CW.seq ?_
          refine CW.block ?_
          refine CW.seq ?_
          refine CW.region (by kernel_rfl) (by kernel_rfl) ?_ -- r14
          refine CWops.run htt 4 (by simp only [go_sem, reduceIte, reduceCtorEq, reduceEqDiff, reduceAdd, reduceLT, reduceLeDiff, reduceToNat, reduceMul, hi, hf, eField]; exact rfl) (by simp [go_sem, reduceIte, reduceCtorEq, reduceEqDiff, reduceAdd, reduceLT, reduceLeDiff, reduceToNat, reduceMul, hi, hf, eField]) ?_
          refine CWops.done ?_
          refine CW.drawn mixed 5 (by decide) (by kernel_rfl) (by kernel_rfl) (by kernel_rfl) ?_ -- r15
          refine Seg.run htt 3 (by simp only [go_sem, reduceIte, reduceCtorEq, reduceEqDiff, reduceAdd, reduceLT, reduceLeDiff, reduceToNat, reduceMul, eField, eVal, List.replicate]; exact rfl) ?_
          refine Seg.callA (value_Zero up f) (by simp only [go_sem, reduceIte, reduceCtorEq, reduceEqDiff, reduceAdd, reduceLT, reduceLeDiff, reduceToNat, reduceMul, eField, eVal, List.replicate]) (by simp only [go_sem, reduceIte, reduceCtorEq, reduceEqDiff, reduceAdd, reduceLT, reduceLeDiff, reduceToNat, reduceMul, eField, eVal, List.replicate]; first | done | exact rfl) (by simp only [go_sem, reduceIte, reduceCtorEq, reduceEqDiff, reduceAdd, reduceLT, reduceLeDiff, reduceToNat, reduceMul, eField, eVal, List.replicate]) (by simp only [go_sem, reduceIte, reduceCtorEq, reduceEqDiff, reduceAdd, reduceLT, reduceLeDiff, reduceToNat, reduceMul, eField, eVal, List.replicate]) ?_
          refine Seg.run htt 1 (by simp only [go_sem, reduceIte, reduceCtorEq, reduceEqDiff, reduceAdd, reduceLT, reduceLeDiff, reduceToNat, reduceMul, eField, eVal, List.replicate]; exact rfl) ?_
          refine Seg.done ?_
          refine CWops.run htt 3 (by simp only [go_sem, reduceIte, reduceCtorEq, reduceEqDiff, reduceAdd, reduceLT, reduceLeDiff, reduceToNat, reduceMul, eField, eVal, List.replicate]; exact rfl) (by unfold zeroV; split <;> simp [AV.cell, AV.tree, eVal, MX] <;> omega) ?_
          refine CWops.done ?_
          refine CW.region (by kernel_rfl) (by kernel_rfl) ?_ -- r16
          refine CWops.run htt 2 (by simp only [go_sem, reduceIte, reduceCtorEq, reduceEqDiff, reduceAdd, reduceLT, reduceLeDiff, reduceToNat, reduceMul, wrap_succ (show i < MX by unfold MX; omega)]; exact rfl) (by simp [go_sem, reduceIte, reduceCtorEq, reduceEqDiff, reduceAdd, reduceLT, reduceLeDiff, reduceToNat, reduceMul, wrap_succ (show i < MX by unfold MX; omega)]) ?_
          refine CWops.done ?_
          refine ⟨i + 1, ?_, ?_, ?_⟩
          · refine Sh.wk0 ?_
            dsimp only
            simp [Wk, go_sem, reduceIte, reduceCtorEq, reduceEqDiff, reduceAdd, reduceLT, reduceLeDiff, reduceToNat, reduceMul, eGraph, OWN, List.take_add_one, hf, eVal]
          · exact hi
          · simp only; omega
        · have hi : i = ty.F.length := by simp at ct64; omega
          rw [hi, List.take_length]
          refine CW.exit ?_
          refine CW.seq ?_
          refine CW.sh (Sh.frz 5 2 rfl rfl) ?_
          simp only [go_sem, reduceIte, reduceCtorEq, reduceEqDiff, reduceAdd, reduceLT, reduceLeDiff, reduceToNat, reduceMul, OWN]
          refine CW.region (by kernel_rfl) (by kernel_rfl) ?_ -- r17
          refine CWops.run htt 7 (by simp only [go_sem, reduceIte, reduceCtorEq, reduceEqDiff, reduceAdd, reduceLT, reduceLeDiff, reduceToNat, reduceMul, OWN, List.replicate]; exact rfl) (by simp [AV.cell, AV.tree, MX] <;> omega) ?_
          refine CWops.done ?_
          refine CW.seq ?_
          refine CW.sh (Sh.trans (Sh.frzC 2 0 4 0 (by decide) rfl rfl rfl) (Sh.frzC 2 2 4 2 (by decide) rfl rfl rfl)) ?_
          simp only [go_sem, reduceIte, reduceCtorEq, reduceEqDiff, reduceAdd, reduceLT, reduceLeDiff, reduceToNat, reduceMul, OWN]
          refine CW.sh (Sh.frz 4 1 rfl rfl) ?_
          rw [show ([.int .i64 (newId g), .int .i64 (q : Int), .sl 3 ((List.map zeroV ty.F).map eVal)] : List AV) = [.int .i64 (newObj g q).Id, .int .i64 (newObj g q).T, .sl 3 ((newObj g q).F.map eVal)] by unfold newObj; rw [htF], frz_ObjA]
          simp only [go_sem, reduceIte, reduceCtorEq, reduceEqDiff, reduceAdd, reduceLT, reduceLeDiff, reduceToNat, reduceMul]
          refine CW.drawnF mixed 3 4 [1, 2] (D := [82, 83]) (by decide) (by decide) (by kernel_rfl) (by kernel_rfl) rfl (by kernel_rfl) (by kernel_rfl) ?_ -- r18
          refine Seg.run htt 3 (by simp only [go_sem, reduceIte, reduceCtorEq, reduceEqDiff, reduceAdd, reduceLT, reduceLeDiff, reduceToNat, reduceMul]; exact rfl) ?_
          refine Seg.done ?_
          refine Mid.sto htt (Flo.cons htt rfl rfl (by simp only [go_sem, reduceIte, reduceCtorEq, reduceEqDiff, reduceAdd, reduceLT, reduceLeDiff, reduceToNat, reduceMul]; first | done | exact rfl) (Flo.cons htt rfl rfl (by simp only [go_sem, reduceIte, reduceCtorEq, reduceEqDiff, reduceAdd, reduceLT, reduceLeDiff, reduceToNat, reduceMul]; first | done | exact rfl) (Flo.nil))) (fun u => by simp only [go_sem, reduceIte, reduceCtorEq, reduceEqDiff, reduceAdd, reduceLT, reduceLeDiff, reduceToNat, reduceMul]; exact rfl) ?_
          refine Mid.done (Flo.cons htt rfl rfl (by simp only [go_sem, reduceIte, reduceCtorEq, reduceEqDiff, reduceAdd, reduceLT, reduceLeDiff, reduceToNat, reduceMul]; first | done | exact rfl) (Flo.cons htt rfl rfl (by simp only [go_sem, reduceIte, reduceCtorEq, reduceEqDiff, reduceAdd, reduceLT, reduceLeDiff, reduceToNat, reduceMul]; first | done | exact rfl) (Flo.nil))) ?_
          refine CWops.run htt 2 (by simp only [go_sem, reduceIte, reduceCtorEq, reduceEqDiff, reduceAdd, reduceLT, reduceLeDiff, reduceToNat, reduceMul]; exact rfl) (by simp [go_sem, reduceIte, reduceCtorEq, reduceEqDiff, reduceAdd, reduceLT, reduceLeDiff, reduceToNat, reduceMul]) ?_
          refine CWops.done ?_
          refine CW.ret ?_
          refine retQ.ret (by simp only [f22, go_sem, reduceIte, reduceCtorEq, reduceEqDiff, reduceAdd, reduceLT, reduceLeDiff, reduceToNat, reduceMul]; exact rfl) (by simp only [go_sem, reduceIte, reduceCtorEq, reduceEqDiff, reduceAdd, reduceLT, reduceLeDiff, reduceToNat, reduceMul]; exact rfl) ?_ -- ret4
          refine ⟨_, ?_, rfl⟩
          simp [leP, leL, gNew, ct16, show ¬ ((q : Int) < 0) by omega, Nat.not_le.2 hql, ct53, eGraph, newObj]
end Go.Ab

namespace Go.Ab
open Go Go.Proofs.Try
open Nat (reduceEqDiff reduceAdd reduceLT reduceLeDiff reduceBEq reduceSub reduceMul)
open Int (reduceToNat)
set_option maxRecDepth 100000
set_option linter.unusedSimpArgs false
set_option linter.unusedVariables false


theorem graph_Root (up : Bool) (g : Graph) (i id : Int) (hz : GSz g) : PCall prog up 24 [.agg (eGraph g), .int .i64 i, .int .i64 id] (· = .tup [.agg (eGraph (gRoot g i id).1), .int .i64 (gRoot g i id).2]) := by
  refine PCall.intro htt func24 (by kernel_rfl) rfl (Nat.le_of_ble_eq_true rfl) fun hl => ?_

  simp only [tmps0, Nat.reduceAdd]
  refine CW.seq ?_
  refine CW.region (by kernel_rfl) (by kernel_rfl) ?_ -- r0
  refine CWops.run htt 3 (by simp only [go_sem, reduceIte, reduceCtorEq, reduceEqDiff, reduceAdd, reduceLT, reduceLeDiff, reduceToNat, reduceMul, eGraph]; exact rfl) (by simp [go_sem, reduceIte, reduceCtorEq, reduceEqDiff, reduceAdd, reduceLT, reduceLeDiff, reduceToNat, reduceMul, eGraph]) ?_
  refine CWops.done ?_
  refine CW.cut ⟨5, [(0, .agg (eGraph g)), (1, .int .i64 i), (2, .int .i64 id), (3, .lv 0 [] 0), (6, .lv 1 [] 0), (7, .int .i64 0), (8, .lv 4 [] 0)], [(0, ⟨true, eGraph g⟩), (1, ⟨true, [.nilsl, .nilsl, .nilsl]⟩), (2, ⟨true, OWN g⟩), (4, ⟨true, [.ref 2 [] 0, .ref 2 [] 1, .ref 2 [] 2]⟩)]⟩ ?_ ?_
  · refine CW.region (by kernel_rfl) (by kernel_rfl) ?_ -- r1
    refine CWops.run htt 1 (by simp only [go_sem, reduceIte, reduceCtorEq, reduceEqDiff, reduceAdd, reduceLT, reduceLeDiff, reduceToNat, reduceMul, eGraph, OWN]; exact rfl) (by simp [go_sem, reduceIte, reduceCtorEq, reduceEqDiff, reduceAdd, reduceLT, reduceLeDiff, reduceToNat, reduceMul, eGraph, OWN]) ?_
    refine CWops.callG [] rfl (graph_own up g hz) (by simp only [go_sem, reduceIte, reduceCtorEq, reduceEqDiff, reduceAdd, reduceLT, reduceLeDiff, reduceToNat, reduceMul]) (by simp only [go_sem, reduceIte, reduceCtorEq, reduceEqDiff, reduceAdd, reduceLT, reduceLeDiff, reduceToNat, reduceMul]; first | done | exact rfl) (by decide) (by simp [go_sem, reduceIte, reduceCtorEq, reduceEqDiff, reduceAdd, reduceLT, reduceLeDiff, reduceToNat, reduceMul, mName, memB]) (by simp [go_sem, reduceIte, reduceCtorEq, reduceEqDiff, reduceAdd, reduceLT, reduceLeDiff, reduceToNat, reduceMul, mName]) (by simp [go_sem, reduceIte, reduceCtorEq, reduceEqDiff, reduceAdd, reduceLT, reduceLeDiff, reduceToNat, reduceMul]) (by simp [go_sem, reduceIte, reduceCtorEq, reduceEqDiff, reduceAdd, reduceLT, reduceLeDiff, reduceToNat, reduceMul]) (by simp [go_sem, reduceIte, reduceCtorEq, reduceEqDiff, reduceAdd, reduceLT, reduceLeDiff, reduceToNat, reduceMul, mName, eGraph]) (fun r σ' hσ => ?_)
    obtain ⟨σn, σt, σs⟩ := σ'
    simp only at hσ
    obtain ⟨rfl, rfl, rfl⟩ := hσ
    simp only [aftS, renS, delAll, memB, mName, List.getD_nil, killR, ren, go_sem, reduceIte, reduceCtorEq, reduceEqDiff, reduceAdd, reduceLT, reduceLeDiff, reduceToNat, reduceMul]
    refine CWops.run htt 2 (by simp only [go_sem, reduceIte, reduceCtorEq, reduceEqDiff, reduceAdd, reduceLT, reduceLeDiff, reduceToNat, reduceMul, eGraph, OWN]; exact rfl) (by simp [go_sem, reduceIte, reduceCtorEq, reduceEqDiff, reduceAdd, reduceLT, reduceLeDiff, reduceToNat, reduceMul, eGraph, OWN]) ?_
    refine CWops.done ?_
    first | refine ⟨rfl, Sh.wk0 ?_⟩ | refine Sh.wk0 ?_
    simp [Wk, go_sem, reduceIte, reduceCtorEq, reduceEqDiff, reduceAdd, reduceLT, reduceLeDiff, reduceToNat, reduceMul, eGraph, OWN]
  refine CW.seq ?_
  refine CW.block ?_
  refine CW.seq ?_
  refine CW.region (by kernel_rfl) (by kernel_rfl) ?_ -- r2
  refine CWops.run htt 1 (by simp only [go_sem, reduceIte, reduceCtorEq, reduceEqDiff, reduceAdd, reduceLT, reduceLeDiff, reduceToNat, reduceMul, eGraph]; exact rfl) (by simp [go_sem, reduceIte, reduceCtorEq, reduceEqDiff, reduceAdd, reduceLT, reduceLeDiff, reduceToNat, reduceMul, eGraph]) ?_
  refine CWops.call (graph_May up g) (by simp only [go_sem, reduceIte, reduceCtorEq, reduceEqDiff, reduceAdd, reduceLT, reduceLeDiff, reduceToNat, reduceMul, eGraph]) (by simp only [go_sem, reduceIte, reduceCtorEq, reduceEqDiff, reduceAdd, reduceLT, reduceLeDiff, reduceToNat, reduceMul, eGraph]; first | done | exact rfl) (by simp only [go_sem, reduceIte, reduceCtorEq, reduceEqDiff, reduceAdd, reduceLT, reduceLeDiff, reduceToNat, reduceMul, eGraph]) (fun rt13 hrt13 => ?_)
  subst hrt13; refine ⟨rfl, ?_⟩
  refine CWops.run htt 2 (by simp only [go_sem, reduceIte, reduceCtorEq, reduceEqDiff, reduceAdd, reduceLT, reduceLeDiff, reduceToNat, reduceMul, eGraph]; exact rfl) (by simp [go_sem, reduceIte, reduceCtorEq, reduceEqDiff, reduceAdd, reduceLT, reduceLeDiff, reduceToNat, reduceMul, eGraph]) ?_
  refine CWops.done ?_
  refine CW.cond (by simp only [go_sem, reduceIte, reduceCtorEq, reduceEqDiff, reduceAdd, reduceLT, reduceLeDiff, reduceToNat, reduceMul]; first | done | exact rfl) (fun ct11 => ?_) (fun ct11 => ?_)
  · have ct16' : gMay g = false := by simpa using ct11
    refine CW.seq ?_
    try simp only [OWN]
    refine CW.sh (Sh.trans (Sh.frzC 2 0 4 0 (by decide) rfl rfl rfl) (Sh.trans (Sh.frzC 2 1 4 1 (by decide) rfl rfl rfl) (Sh.frzC 2 2 4 2 (by decide) rfl rfl rfl))) ?_
    simp only [go_sem, reduceIte, reduceCtorEq, reduceEqDiff, reduceAdd, reduceLT, reduceLeDiff, reduceToNat, reduceMul]
    refine CW.region (by kernel_rfl) (by kernel_rfl) ?_ -- r3
    refine CWops.run htt 3 (by simp only [go_sem, reduceIte, reduceCtorEq, reduceEqDiff, reduceAdd, reduceLT, reduceLeDiff, reduceToNat, reduceMul]; exact rfl) (by simp [go_sem, reduceIte, reduceCtorEq, reduceEqDiff, reduceAdd, reduceLT, reduceLeDiff, reduceToNat, reduceMul]) ?_
    refine CWops.done ?_
    refine CW.ret ?_
    refine retQ.ret (by simp only [f24, go_sem, reduceIte, reduceCtorEq, reduceEqDiff, reduceAdd, reduceLT, reduceLeDiff, reduceToNat, reduceMul]; exact rfl) (by simp only [go_sem, reduceIte, reduceCtorEq, reduceEqDiff, reduceAdd, reduceLT, reduceLeDiff, reduceToNat, reduceMul]; exact rfl) ?_ -- ret1
    refine ⟨_, ?_, rfl⟩
    simp [leP, leL, gRoot, ct16', eGraph]
  · have hmm : gMay g = true := by simpa using ct11
    have hm := (may_iff g).1 hmm
    have hr3 := hm.r
    refine CW.cut ⟨5, [(0, .agg (eGraph g)), (1, .int .i64 i), (2, .int .i64 id), (3, .lv 0 [] 0), (6, .lv 1 [] 0), (7, .int .i64 0), (8, .lv 4 [] 0), (16, .bool (rootBad g i id))], [(0, ⟨true, eGraph g⟩), (1, ⟨true, [.nilsl, .nilsl, .nilsl]⟩), (2, ⟨true, OWN g⟩), (4, ⟨true, [.ref 2 [] 0, .ref 2 [] 1, .ref 2 [] 2]⟩)]⟩ ?_ ?_
    · refine CW.seq ?_
      refine CW.region (by kernel_rfl) (by kernel_rfl) ?_ -- r4
      refine CWops.run htt 3 (by simp only [go_sem, reduceIte, reduceCtorEq, reduceEqDiff, reduceAdd, reduceLT, reduceLeDiff, reduceToNat, reduceMul]; exact rfl) (by simp [go_sem, reduceIte, reduceCtorEq, reduceEqDiff, reduceAdd, reduceLT, reduceLeDiff, reduceToNat, reduceMul]) ?_
      refine CWops.done ?_
      refine CW.cond (by simp only [go_sem, reduceIte, reduceCtorEq, reduceEqDiff, reduceAdd, reduceLT, reduceLeDiff, reduceToNat, reduceMul]; first | done | exact rfl) (fun ct16 => ?_) (fun ct16 => ?_)
      · refine CW.skip ?_
        first | refine ⟨rfl, Sh.wk0 ?_⟩ | refine Sh.wk0 ?_
        unfold rootBad
        by_cases b1 : i < 0 <;> by_cases b2 : 3 ≤ i <;> by_cases b3 : (g.Roots.length : Int) < i <;> by_cases b4 : id = -1 <;> by_cases b5 : fnd (fun o => decide (o.Id = id)) g.O = -1 <;> simp_all [Wk, go_sem, reduceIte, reduceCtorEq, reduceEqDiff, reduceAdd, reduceLT, reduceLeDiff, reduceToNat, reduceMul, eGraph, OWN] <;> omega
      · refine CW.seq ?_
        refine CW.region (by kernel_rfl) (by kernel_rfl) ?_ -- r5
        refine CWops.run htt 3 (by simp only [go_sem, reduceIte, reduceCtorEq, reduceEqDiff, reduceAdd, reduceLT, reduceLeDiff, reduceToNat, reduceMul]; exact rfl) (by simp [go_sem, reduceIte, reduceCtorEq, reduceEqDiff, reduceAdd, reduceLT, reduceLeDiff, reduceToNat, reduceMul]) ?_
        refine CWops.done ?_
        refine CW.cond (by simp only [go_sem, reduceIte, reduceCtorEq, reduceEqDiff, reduceAdd, reduceLT, reduceLeDiff, reduceToNat, reduceMul]; first | done | exact rfl) (fun ct16 => ?_) (fun ct16 => ?_)
        · refine CW.skip ?_
          first | refine ⟨rfl, Sh.wk0 ?_⟩ | refine Sh.wk0 ?_
          unfold rootBad
          by_cases b1 : i < 0 <;> by_cases b2 : 3 ≤ i <;> by_cases b3 : (g.Roots.length : Int) < i <;> by_cases b4 : id = -1 <;> by_cases b5 : fnd (fun o => decide (o.Id = id)) g.O = -1 <;> simp_all [Wk, go_sem, reduceIte, reduceCtorEq, reduceEqDiff, reduceAdd, reduceLT, reduceLeDiff, reduceToNat, reduceMul, eGraph, OWN] <;> omega
        · refine CW.seq ?_
          refine CW.region (by kernel_rfl) (by kernel_rfl) ?_ -- r6
          refine CWops.run htt 6 (by simp only [go_sem, reduceIte, reduceCtorEq, reduceEqDiff, reduceAdd, reduceLT, reduceLeDiff, reduceToNat, reduceMul, eGraph]; exact rfl) (by simp [go_sem, reduceIte, reduceCtorEq, reduceEqDiff, reduceAdd, reduceLT, reduceLeDiff, reduceToNat, reduceMul, eGraph]) ?_
          refine CWops.done ?_
          refine CW.cond (by simp only [go_sem, reduceIte, reduceCtorEq, reduceEqDiff, reduceAdd, reduceLT, reduceLeDiff, reduceToNat, reduceMul]; first | done | exact rfl) (fun ct16 => ?_) (fun ct16 => ?_)
          · refine CW.skip ?_
            first | refine ⟨rfl, Sh.wk0 ?_⟩ | refine Sh.wk0 ?_
            unfold rootBad
            by_cases b1 : i < 0 <;> by_cases b2 : 3 ≤ i <;> by_cases b3 : (g.Roots.length : Int) < i <;> by_cases b4 : id = -1 <;> by_cases b5 : fnd (fun o => decide (o.Id = id)) g.O = -1 <;> simp_all [Wk, go_sem, reduceIte, reduceCtorEq, reduceEqDiff, reduceAdd, reduceLT, reduceLeDiff, reduceToNat, reduceMul, eGraph, OWN] <;> omega
          · refine CW.region (by kernel_rfl) (by kernel_rfl) ?_ -- r7
            refine CWops.run htt 3 (by simp only [go_sem, reduceIte, reduceCtorEq, reduceEqDiff, reduceAdd, reduceLT, reduceLeDiff, reduceToNat, reduceMul, eGraph]; exact rfl) (by simp [go_sem, reduceIte, reduceCtorEq, reduceEqDiff, reduceAdd, reduceLT, reduceLeDiff, reduceToNat, reduceMul, eGraph]) ?_
            all_goals (first | refine CWops.guard 28 (by simp only [go_sem, reduceIte, reduceCtorEq, reduceEqDiff, reduceAdd, reduceLT, reduceLeDiff, reduceToNat, reduceMul, eGraph]; exact rfl) (fun g28 => ?_) (fun g28 => ?_) | skip)
            all_goals (refine CWops.run htt 2 (by simp only [go_sem, reduceIte, reduceCtorEq, reduceEqDiff, reduceAdd, reduceLT, reduceLeDiff, reduceToNat, reduceMul, eGraph]; exact rfl) (by simp [go_sem, reduceIte, reduceCtorEq, reduceEqDiff, reduceAdd, reduceLT, reduceLeDiff, reduceToNat, reduceMul, eGraph]) ?_)
            all_goals (first | (refine CWops.skip ?_ ?_; next => (simp only [go_sem, reduceIte, reduceCtorEq, reduceEqDiff, reduceAdd, reduceLT, reduceLeDiff, reduceToNat, reduceMul]; done)) | (refine CWops.call (graph_Find up g id) (by simp only [go_sem, reduceIte, reduceCtorEq, reduceEqDiff, reduceAdd, reduceLT, reduceLeDiff, reduceToNat, reduceMul, eGraph]) (by simp only [go_sem, reduceIte, reduceCtorEq, reduceEqDiff, reduceAdd, reduceLT, reduceLeDiff, reduceToNat, reduceMul, eGraph]; first | done | exact rfl) (by simp only [go_sem, reduceIte, reduceCtorEq, reduceEqDiff, reduceAdd, reduceLT, reduceLeDiff, reduceToNat, reduceMul, eGraph]) (fun rt31 hrt31 => ?_); subst hrt31; refine ⟨rfl, ?_⟩))
            all_goals (refine CWops.run htt 3 (by simp only [go_sem, reduceIte, reduceCtorEq, reduceEqDiff, reduceAdd, reduceLT, reduceLeDiff, reduceToNat, reduceMul, eGraph]; exact rfl) (by simp [go_sem, reduceIte, reduceCtorEq, reduceEqDiff, reduceAdd, reduceLT, reduceLeDiff, reduceToNat, reduceMul, eGraph]) ?_)
            all_goals (refine CWops.done ?_)
            all_goals (
              first | refine ⟨rfl, Sh.wk0 ?_⟩ | refine Sh.wk0 ?_
              unfold rootBad
              by_cases b1 : i < 0 <;> by_cases b2 : 3 ≤ i <;> by_cases b3 : (g.Roots.length : Int) < i <;> by_cases b4 : id = -1 <;> by_cases b5 : fnd (fun o => decide (o.Id = id)) g.O = -1 <;> simp_all [Wk, go_sem, reduceIte, reduceCtorEq, reduceEqDiff, reduceAdd, reduceLT, reduceLeDiff, reduceToNat, reduceMul, eGraph, OWN] <;> omega)
    refine CW.cond (by simp only [go_sem, reduceIte, reduceCtorEq, reduceEqDiff, reduceAdd, reduceLT, reduceLeDiff, reduceToNat, reduceMul]; first | done | exact rfl) (fun ct16 => ?_) (fun ct16 => ?_)
    · refine CW.seq ?_
      try simp only [OWN]
      refine CW.sh (Sh.trans (Sh.frzC 2 0 4 0 (by decide) rfl rfl rfl) (Sh.trans (Sh.frzC 2 1 4 1 (by decide) rfl rfl rfl) (Sh.frzC 2 2 4 2 (by decide) rfl rfl rfl))) ?_
      simp only [go_sem, reduceIte, reduceCtorEq, reduceEqDiff, reduceAdd, reduceLT, reduceLeDiff, reduceToNat, reduceMul]
      refine CW.region (by kernel_rfl) (by kernel_rfl) ?_ -- r8
      refine CWops.run htt 3 (by simp only [go_sem, reduceIte, reduceCtorEq, reduceEqDiff, reduceAdd, reduceLT, reduceLeDiff, reduceToNat, reduceMul]; exact rfl) (by simp [go_sem, reduceIte, reduceCtorEq, reduceEqDiff, reduceAdd, reduceLT, reduceLeDiff, reduceToNat, reduceMul]) ?_
      refine CWops.done ?_
      refine CW.ret ?_
      refine retQ.ret (by simp only [f24, go_sem, reduceIte, reduceCtorEq, reduceEqDiff, reduceAdd, reduceLT, reduceLeDiff, reduceToNat, reduceMul]; exact rfl) (by simp only [go_sem, reduceIte, reduceCtorEq, reduceEqDiff, reduceAdd, reduceLT, reduceLeDiff, reduceToNat, reduceMul]; exact rfl) ?_ -- ret2
      refine ⟨_, ?_, rfl⟩
      simp [leP, leL, gRoot, hmm, ct16, eGraph]
    · have hb := ct16
      unfold rootBad at hb
      simp only [Bool.or_eq_false_iff, decide_eq_false_iff_not] at hb
      obtain ⟨j, rfl⟩ := Int.eq_ofNat_of_zero_le (show 0 ≤ i by omega)
      have hj : j ≤ g.Roots.length := by omega
      refine CW.seq ?_
      refine CW.region (by kernel_rfl) (by kernel_rfl) ?_ -- r9
      refine CWops.run htt 6 (by simp only [go_sem, reduceIte, reduceCtorEq, reduceEqDiff, reduceAdd, reduceLT, reduceLeDiff, reduceToNat, reduceMul, eGraph]; exact rfl) (by simp [go_sem, reduceIte, reduceCtorEq, reduceEqDiff, reduceAdd, reduceLT, reduceLeDiff, reduceToNat, reduceMul, eGraph]) ?_
      refine CWops.done ?_
      refine CW.cond (by simp only [go_sem, reduceIte, reduceCtorEq, reduceEqDiff, reduceAdd, reduceLT, reduceLeDiff, reduceToNat, reduceMul]; first | done | exact rfl) (fun ct35 => ?_) (fun ct35 => ?_)
      · have hje : j = g.Roots.length := by simp at ct35; omega
        refine CW.region (by kernel_rfl) (by kernel_rfl) ?_ -- r10
        refine CWops.run htt 7 (by simp only [go_sem, reduceIte, reduceCtorEq, reduceEqDiff, reduceAdd, reduceLT, reduceLeDiff, reduceToNat, reduceMul, List.replicate, OWN]; exact rfl) (by simp [AV.cell, AV.tree, MX] <;> omega) ?_
        refine CWops.done ?_
        rw [show (List.map eI g.Roots ++ [[AV.int .i64 id]]) = (g.Roots ++ [id]).map eI by simp [eI]]
        generalize hl2 : g.Roots ++ [id] = l2
        have hkl : j < l2.length := by rw [← hl2]; simp; omega
        obtain ⟨w, hw⟩ : ∃ x, l2[j]? = some x := ⟨l2[j], List.getElem?_eq_getElem hkl⟩
        refine CW.seq ?_
        refine CW.region (by kernel_rfl) (by kernel_rfl) ?_ -- r11
        refine CWops.run htt 6 (by simp only [go_sem, reduceIte, reduceCtorEq, reduceEqDiff, reduceAdd, reduceLT, reduceLeDiff, reduceToNat, reduceMul, OWN, List.getElem?_set_self, List.length_map, hkl, hw, eI]; exact rfl) (by simp [go_sem, reduceIte, reduceCtorEq, reduceEqDiff, reduceAdd, reduceLT, reduceLeDiff, reduceToNat, reduceMul, OWN, List.getElem?_set_self, List.length_map, hkl, hw, eI]) ?_
        refine CWops.done ?_
        first | rw [show (List.map eI l2).set j [AV.int .i64 id] = (setRoot g.Roots j id).map eI by rw [← hl2, hje, List.map_append]; exact set_app g.Roots id] | rw [set_root (Nat.ne_of_lt hkl) id]
        refine CW.seq ?_
        first | (refine CW.sh (Sh.trans (Sh.frzC 2 0 4 0 (by decide) rfl rfl rfl) (Sh.trans (Sh.frzC 2 1 4 1 (by decide) rfl rfl rfl) (Sh.frzC 2 2 4 2 (by decide) rfl rfl rfl))) ?_; simp only [go_sem, reduceIte, reduceCtorEq, reduceEqDiff, reduceAdd, reduceLT, reduceLeDiff, reduceToNat, reduceMul]) | (refine CW.sh (Sh.trans (Sh.frzC 2 0 4 0 (by decide) rfl rfl rfl) (Sh.trans (Sh.frzC 2 1 4 1 (by decide) rfl rfl rfl) (Sh.frz 4 2 rfl rfl))) ?_; simp only [go_sem, reduceIte, reduceCtorEq, reduceEqDiff, reduceAdd, reduceLT, reduceLeDiff, reduceToNat, reduceMul])
        refine CW.region (by kernel_rfl) (by kernel_rfl) ?_ -- r12
        refine CWops.run htt 3 (by simp only [go_sem, reduceIte, reduceCtorEq, reduceEqDiff, reduceAdd, reduceLT, reduceLeDiff, reduceToNat, reduceMul]; exact rfl) (by simp [go_sem, reduceIte, reduceCtorEq, reduceEqDiff, reduceAdd, reduceLT, reduceLeDiff, reduceToNat, reduceMul]) ?_
        refine CWops.done ?_
        refine CW.ret ?_
        refine retQ.ret (by simp only [f24, go_sem, reduceIte, reduceCtorEq, reduceEqDiff, reduceAdd, reduceLT, reduceLeDiff, reduceToNat, reduceMul]; exact rfl) (by simp only [go_sem, reduceIte, reduceCtorEq, reduceEqDiff, reduceAdd, reduceLT, reduceLeDiff, reduceToNat, reduceMul]; exact rfl) ?_ -- ret3
        refine ⟨_, ?_, rfl⟩
        simp [leP, leL, gRoot, hmm, ct16, eGraph]
      · have hkl : j < g.Roots.length := by simp at ct35; omega
        obtain ⟨w, hw⟩ : ∃ x, g.Roots[j]? = some x := ⟨g.Roots[j], List.getElem?_eq_getElem hkl⟩
        refine CW.skip ?_
        refine CW.seq ?_
        refine CW.region (by kernel_rfl) (by kernel_rfl) ?_ -- r11
        refine CWops.run htt 6 (by simp only [go_sem, reduceIte, reduceCtorEq, reduceEqDiff, reduceAdd, reduceLT, reduceLeDiff, reduceToNat, reduceMul, OWN, List.getElem?_set_self, List.length_map, hkl, hw, eI]; exact rfl) (by simp [go_sem, reduceIte, reduceCtorEq, reduceEqDiff, reduceAdd, reduceLT, reduceLeDiff, reduceToNat, reduceMul, OWN, List.getElem?_set_self, List.length_map, hkl, hw, eI]) ?_
        refine CWops.done ?_
        first | rw [show (List.map eI l2).set j [AV.int .i64 id] = (setRoot g.Roots j id).map eI by rw [← hl2, hje, List.map_append]; exact set_app g.Roots id] | rw [set_root (Nat.ne_of_lt hkl) id]
        refine CW.seq ?_
        first | (refine CW.sh (Sh.trans (Sh.frzC 2 0 4 0 (by decide) rfl rfl rfl) (Sh.trans (Sh.frzC 2 1 4 1 (by decide) rfl rfl rfl) (Sh.frzC 2 2 4 2 (by decide) rfl rfl rfl))) ?_; simp only [go_sem, reduceIte, reduceCtorEq, reduceEqDiff, reduceAdd, reduceLT, reduceLeDiff, reduceToNat, reduceMul]) | (refine CW.sh (Sh.trans (Sh.frzC 2 0 4 0 (by decide) rfl rfl rfl) (Sh.trans (Sh.frzC 2 1 4 1 (by decide) rfl rfl rfl) (Sh.frz 4 2 rfl rfl))) ?_; simp only [go_sem, reduceIte, reduceCtorEq, reduceEqDiff, reduceAdd, reduceLT, reduceLeDiff, reduceToNat, reduceMul])
        refine CW.region (by kernel_rfl) (by kernel_rfl) ?_ -- r12
        refine CWops.run htt 3 (by simp only [go_sem, reduceIte, reduceCtorEq, reduceEqDiff, reduceAdd, reduceLT, reduceLeDiff, reduceToNat, reduceMul]; exact rfl) (by simp [go_sem, reduceIte, reduceCtorEq, reduceEqDiff, reduceAdd, reduceLT, reduceLeDiff, reduceToNat, reduceMul]) ?_
        refine CWops.done ?_
        refine CW.ret ?_
        refine retQ.ret (by simp only [f24, go_sem, reduceIte, reduceCtorEq, reduceEqDiff, reduceAdd, reduceLT, reduceLeDiff, reduceToNat, reduceMul]; exact rfl) (by simp only [go_sem, reduceIte, reduceCtorEq, reduceEqDiff, reduceAdd, reduceLT, reduceLeDiff, reduceToNat, reduceMul]; exact rfl) ?_ -- ret4
        refine ⟨_, ?_, rfl⟩
        simp [leP, leL, gRoot, hmm, ct16, eGraph]
end Go.Ab

