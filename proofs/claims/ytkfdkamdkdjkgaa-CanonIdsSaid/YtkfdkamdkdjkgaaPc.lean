/-
  The law CanonIds answers true, whatever the graph and the list; its arguments read as they did. No condition.
-/
import Derived.Test.YtkfdkamdkdjkgaaProg
import Derived.Test.YtkfdkamdkdjkgaaRows
import Derived.Test.YtkfdkamdkdjkgaaWc
import Derived.Test.YtkfdkamdkdjkgaaFg
import Derived.Test.YtkfdkamdkdjkgaaWd
set_option linter.unusedVariables false
set_option linter.unusedSimpArgs false
namespace Go.Ab
open Go Go.Proofs.Try
set_option maxRecDepth 100000
set_option linter.unusedSimpArgs false
set_option linter.unusedVariables false


theorem law09_Renamed (up : Bool) (g : Graph) (bs : List Int) (hm : May g) : PCall prog up 18 [.agg (eGraph g), .sl 1 (bs.map eI)] (· = .agg (eGraph (renamed g bs))) := by
  refine PCall.intro htt func18 (by kernel_rfl) rfl (Nat.le_of_ble_eq_true rfl) fun hl => ?_
  have ho := hm.o
  have hr := hm.r
  have hmb : ∀ x ∈ g.S, x.F.length ≤ 5 := fun x hx => by
    have := hm.s; unfold schemaMay at this
    obtain ⟨j, hj⟩ := List.getElem?_of_mem hx
    simp only [Bool.and_eq_true] at this
    have := allI_at this.2 hj; unfold typeMay at this; simp at this; omega
  obtain ⟨ids, hids⟩ : ∃ ids, ids = (List.range g.O.length).map (newId bs) := ⟨_, rfl⟩
  have hidx : ∀ p, p < g.O.length → ids[p]? = some (newId bs p) := fun p hp => by rw [hids, List.getElem?_map, List.getElem?_range hp]; rfl
  simp only [tmps0, Nat.reduceAdd]
  refine CW.seq ?_
  refine CW.region (by kernel_rfl) (by kernel_rfl) ?_ -- r0
  refine CWops.run htt 2 (by simp only [go_sem, reduceIte, Nat.reduceEqDiff, reduceCtorEq, Nat.reduceAdd, Nat.reduceLT, Nat.reduceLeDiff, Nat.reduceBEq, Nat.reduceSub, Nat.reduceMul, Int.reduceToNat, Int.reduceLE, eGraph]; exact rfl) (by simp [go_sem, reduceIte, Nat.reduceEqDiff, reduceCtorEq, Nat.reduceAdd, Nat.reduceLT, Nat.reduceLeDiff, Nat.reduceBEq, Nat.reduceSub, Nat.reduceMul, Int.reduceToNat, Int.reduceLE, eGraph]) ?_
  refine CWops.done ?_
  refine CW.seq ?_
  refine CW.region (by kernel_rfl) (by kernel_rfl) ?_ -- r1
  refine CWops.run htt 5 (by simp only [go_sem, reduceIte, Nat.reduceEqDiff, reduceCtorEq, Nat.reduceAdd, Nat.reduceLT, Nat.reduceLeDiff, Nat.reduceBEq, Nat.reduceSub, Nat.reduceMul, Int.reduceToNat, Int.reduceLE, eGraph]; exact rfl) (by simp [go_sem, reduceIte, Nat.reduceEqDiff, reduceCtorEq, Nat.reduceAdd, Nat.reduceLT, Nat.reduceLeDiff, Nat.reduceBEq, Nat.reduceSub, Nat.reduceMul, Int.reduceToNat, Int.reduceLE, eGraph]) ?_
  refine CWops.done ?_
  refine CW.seq ?_
  refine CW.region (by kernel_rfl) (by kernel_rfl) ?_ -- r2
  refine CWops.run htt 1 (by simp only [go_sem, reduceIte, Nat.reduceEqDiff, reduceCtorEq, Nat.reduceAdd, Nat.reduceLT, Nat.reduceLeDiff, Nat.reduceBEq, Nat.reduceSub, Nat.reduceMul, Int.reduceToNat, Int.reduceLE]; exact rfl) (by simp [go_sem, reduceIte, Nat.reduceEqDiff, reduceCtorEq, Nat.reduceAdd, Nat.reduceLT, Nat.reduceLeDiff, Nat.reduceBEq, Nat.reduceSub, Nat.reduceMul, Int.reduceToNat, Int.reduceLE]) ?_
  refine CWops.done ?_
  refine CW.seq ?_
  refine CW.region (by kernel_rfl) (by kernel_rfl) ?_ -- r3
  refine CWops.run htt 1 (by simp only [go_sem, reduceIte, Nat.reduceEqDiff, reduceCtorEq, Nat.reduceAdd, Nat.reduceLT, Nat.reduceLeDiff, Nat.reduceBEq, Nat.reduceSub, Nat.reduceMul, Int.reduceToNat, Int.reduceLE]; exact rfl) (by simp [go_sem, reduceIte, Nat.reduceEqDiff, reduceCtorEq, Nat.reduceAdd, Nat.reduceLT, Nat.reduceLeDiff, Nat.reduceBEq, Nat.reduceSub, Nat.reduceMul, Int.reduceToNat, Int.reduceLE]) ?_
  refine CWops.done ?_
  refine CW.seq ?_
  refine CW.seq ?_
  refine CW.region (by kernel_rfl) (by kernel_rfl) ?_ -- r4
  refine CWops.run htt 1 (by simp only [go_sem, reduceIte, Nat.reduceEqDiff, reduceCtorEq, Nat.reduceAdd, Nat.reduceLT, Nat.reduceLeDiff, Nat.reduceBEq, Nat.reduceSub, Nat.reduceMul, Int.reduceToNat, Int.reduceLE]; exact rfl) (by simp [go_sem, reduceIte, Nat.reduceEqDiff, reduceCtorEq, Nat.reduceAdd, Nat.reduceLT, Nat.reduceLeDiff, Nat.reduceBEq, Nat.reduceSub, Nat.reduceMul, Int.reduceToNat, Int.reduceLE]) ?_
  refine CWops.done ?_
  refine CW.block ?_
  refine CW.loop (S := Nat) (fun i => ⟨4, [(1, .sl 1 (bs.map eI)), (2, .lv 0 [] 0), (4, .lv 1 [] 0), (5, .lv 2 [] 0), (6, .int .i64 (newId bs i)), (7, .ref 3 [] 0), (8, .int .i64 i)], [(0, ⟨true, eGraph g⟩), (1, ⟨true, [.nilsl, .nilsl, .nilsl]⟩), (2, ⟨true, [.sl 2 (g.S.map eType), .nilsl, .nilsl]⟩), (3, ⟨false, [.own 1 (((List.range i).map (newId bs)).map eI)]⟩)]⟩) (fun i => i ≤ g.O.length) (fun i => g.O.length - i) (0) ?_ (Nat.zero_le _) (fun i h1 => ?_)
  · refine Sh.trans (Sh.nilRoot 7 1 (by simp only [go_sem, reduceIte, Nat.reduceEqDiff, reduceCtorEq, Nat.reduceAdd, Nat.reduceLT, Nat.reduceLeDiff, Nat.reduceBEq, Nat.reduceSub, Nat.reduceMul, Int.reduceToNat, Int.reduceLE]) rfl) (Sh.wk0 ?_); simp [Wk, go_sem, reduceIte, Nat.reduceEqDiff, reduceCtorEq, Nat.reduceAdd, Nat.reduceLT, Nat.reduceLeDiff, Nat.reduceBEq, Nat.reduceSub, Nat.reduceMul, Int.reduceToNat, Int.reduceLE, eGraph, eSchema, newId]
  refine CW.seq ?_
  refine CW.seq ?_
  refine CW.region (by kernel_rfl) (by kernel_rfl) ?_ -- r5
  refine CWops.run htt 5 (by simp only [go_sem, reduceIte, Nat.reduceEqDiff, reduceCtorEq, Nat.reduceAdd, Nat.reduceLT, Nat.reduceLeDiff, Nat.reduceBEq, Nat.reduceSub, Nat.reduceMul, Int.reduceToNat, Int.reduceLE, eGraph]; exact rfl) (by simp [go_sem, reduceIte, Nat.reduceEqDiff, reduceCtorEq, Nat.reduceAdd, Nat.reduceLT, Nat.reduceLeDiff, Nat.reduceBEq, Nat.reduceSub, Nat.reduceMul, Int.reduceToNat, Int.reduceLE, eGraph]) ?_
  refine CWops.done ?_
  refine CW.cond (by simp only [go_sem, reduceIte, Nat.reduceEqDiff, reduceCtorEq, Nat.reduceAdd, Nat.reduceLT, Nat.reduceLeDiff, Nat.reduceBEq, Nat.reduceSub, Nat.reduceMul, Int.reduceToNat, Int.reduceLE]; first | done | exact rfl) (fun ct23 => ?_) (fun ct23 => ?_)
  · have hi : i < g.O.length := by simpa using ct23
    refine CW.skip ?_
    refine CW.seq ?_
    refine CW.block ?_
    refine CW.cut ⟨4, [(1, .sl 1 (bs.map eI)), (2, .lv 0 [] 0), (4, .lv 1 [] 0), (5, .lv 2 [] 0), (6, .int .i64 (newId bs i)), (7, .ref 3 [] 0), (8, .int .i64 i)], [(0, ⟨true, eGraph g⟩), (1, ⟨true, [.nilsl, .nilsl, .nilsl]⟩), (2, ⟨true, [.sl 2 (g.S.map eType), .nilsl, .nilsl]⟩), (3, ⟨false, [.own 1 (((List.range (i + 1)).map (newId bs)).map eI)]⟩)]⟩ ?_ ?_
    · refine CW.region (by kernel_rfl) (by kernel_rfl) ?_ -- r7
      refine CWops.run htt 5 (by simp only [go_sem, reduceIte, Nat.reduceEqDiff, reduceCtorEq, Nat.reduceAdd, Nat.reduceLT, Nat.reduceLeDiff, Nat.reduceBEq, Nat.reduceSub, Nat.reduceMul, Int.reduceToNat, Int.reduceLE, List.replicate]; exact rfl) (by simp [AV.cell, AV.tree, eI, MX]; omega) ?_
      refine CWops.done ?_
      refine ⟨rfl, Sh.wk (fun x => if x = 3 then 5 else x) ?_⟩
      simp [Wk, go_sem, reduceIte, Nat.reduceEqDiff, reduceCtorEq, Nat.reduceAdd, Nat.reduceLT, Nat.reduceLeDiff, Nat.reduceBEq, Nat.reduceSub, Nat.reduceMul, Int.reduceToNat, Int.reduceLE, List.range_succ, eI, eGraph]
    refine CW.seq ?_
    refine CW.region (by kernel_rfl) (by kernel_rfl) ?_ -- r8
    refine CWops.run htt 1 (by simp only [go_sem, reduceIte, Nat.reduceEqDiff, reduceCtorEq, Nat.reduceAdd, Nat.reduceLT, Nat.reduceLeDiff, Nat.reduceBEq, Nat.reduceSub, Nat.reduceMul, Int.reduceToNat, Int.reduceLE]; exact rfl) (by simp [go_sem, reduceIte, Nat.reduceEqDiff, reduceCtorEq, Nat.reduceAdd, Nat.reduceLT, Nat.reduceLeDiff, Nat.reduceBEq, Nat.reduceSub, Nat.reduceMul, Int.reduceToNat, Int.reduceLE]) ?_
    refine CWops.done ?_
    refine CW.seq ?_
    refine CW.cut ⟨4, [(1, .sl 1 (bs.map eI)), (2, .lv 0 [] 0), (4, .lv 1 [] 0), (5, .lv 2 [] 0), (6, .int .i64 (newId bs i)), (7, .ref 3 [] 0), (8, .int .i64 i), (9, .int .i64 1), (47, .bool (moreC bs i))], [(0, ⟨true, eGraph g⟩), (1, ⟨true, [.nilsl, .nilsl, .nilsl]⟩), (2, ⟨true, [.sl 2 (g.S.map eType), .nilsl, .nilsl]⟩), (3, ⟨false, [.own 1 (((List.range (i + 1)).map (newId bs)).map eI)]⟩)]⟩ ?_ ?_
    · rcases moreCases bs i with ⟨hb, hbl⟩ | ⟨b, hb, hbl⟩
      all_goals (refine CW.region (by kernel_rfl) (by kernel_rfl) ?_) -- r9
      all_goals (refine CWops.run htt 5 (by simp only [go_sem, reduceIte, Nat.reduceEqDiff, reduceCtorEq, Nat.reduceAdd, Nat.reduceLT, Nat.reduceLeDiff, Nat.reduceBEq, Nat.reduceSub, Nat.reduceMul, Int.reduceToNat, Int.reduceLE, hb, hbl, eI]; exact rfl) (by simp [go_sem, reduceIte, Nat.reduceEqDiff, reduceCtorEq, Nat.reduceAdd, Nat.reduceLT, Nat.reduceLeDiff, Nat.reduceBEq, Nat.reduceSub, Nat.reduceMul, Int.reduceToNat, Int.reduceLE, hb, hbl, eI]) ?_)
      all_goals (first | refine CWops.guard 34 (by simp only [go_sem, reduceIte, Nat.reduceEqDiff, reduceCtorEq, Nat.reduceAdd, Nat.reduceLT, Nat.reduceLeDiff, Nat.reduceBEq, Nat.reduceSub, Nat.reduceMul, Int.reduceToNat, Int.reduceLE, hb, hbl, eI]; exact rfl) (fun g34 => ?_) (fun g34 => ?_) | skip)
      all_goals (try contradiction)
      all_goals (refine CWops.run htt 7 (by simp only [go_sem, reduceIte, Nat.reduceEqDiff, reduceCtorEq, Nat.reduceAdd, Nat.reduceLT, Nat.reduceLeDiff, Nat.reduceBEq, Nat.reduceSub, Nat.reduceMul, Int.reduceToNat, Int.reduceLE, hb, hbl, eI]; exact rfl) (by simp [go_sem, reduceIte, Nat.reduceEqDiff, reduceCtorEq, Nat.reduceAdd, Nat.reduceLT, Nat.reduceLeDiff, Nat.reduceBEq, Nat.reduceSub, Nat.reduceMul, Int.reduceToNat, Int.reduceLE, hb, hbl, eI]) ?_)
      all_goals (first | refine CWops.guard 41 (by simp only [go_sem, reduceIte, Nat.reduceEqDiff, reduceCtorEq, Nat.reduceAdd, Nat.reduceLT, Nat.reduceLeDiff, Nat.reduceBEq, Nat.reduceSub, Nat.reduceMul, Int.reduceToNat, Int.reduceLE, hb, hbl, eI]; exact rfl) (fun g41 => ?_) (fun g41 => ?_) | skip)
      all_goals (try contradiction)
      all_goals (refine CWops.run htt 6 (by simp only [go_sem, reduceIte, Nat.reduceEqDiff, reduceCtorEq, Nat.reduceAdd, Nat.reduceLT, Nat.reduceLeDiff, Nat.reduceBEq, Nat.reduceSub, Nat.reduceMul, Int.reduceToNat, Int.reduceLE, hb, hbl, eI]; exact rfl) (by simp [go_sem, reduceIte, Nat.reduceEqDiff, reduceCtorEq, Nat.reduceAdd, Nat.reduceLT, Nat.reduceLeDiff, Nat.reduceBEq, Nat.reduceSub, Nat.reduceMul, Int.reduceToNat, Int.reduceLE, hb, hbl, eI]) ?_)
      all_goals (refine CWops.done ?_)
      all_goals (
        refine ⟨rfl, Sh.wk0 ?_⟩
        first | (simp [Wk, go_sem, reduceIte, Nat.reduceEqDiff, reduceCtorEq, Nat.reduceAdd, Nat.reduceLT, Nat.reduceLeDiff, Nat.reduceBEq, Nat.reduceSub, Nat.reduceMul, Int.reduceToNat, Int.reduceLE, eGraph, moreC, hb, g41]; done) | (simp [Wk, go_sem, reduceIte, Nat.reduceEqDiff, reduceCtorEq, Nat.reduceAdd, Nat.reduceLT, Nat.reduceLeDiff, Nat.reduceBEq, Nat.reduceSub, Nat.reduceMul, Int.reduceToNat, Int.reduceLE, eGraph, moreC, hb]; done) | skip)
    refine CW.cond (by simp only [go_sem, reduceIte, Nat.reduceEqDiff, reduceCtorEq, Nat.reduceAdd, Nat.reduceLT, Nat.reduceLeDiff, Nat.reduceBEq, Nat.reduceSub, Nat.reduceMul, Int.reduceToNat, Int.reduceLE]; first | done | exact rfl) (fun ct47 => ?_) (fun ct47 => ?_)
    · obtain ⟨b, hb, hmb9⟩ := moreC_yes ct47
      have hw : IntKind.i64.wrap (newId bs i + b) = newId bs (i + 1) := by
        have h1 := newId_b bs i; have h2 := moreAt_b bs i
        rw [wrap_small (by omega) (by omega), newId, hmb9]
      refine CW.region (by kernel_rfl) (by kernel_rfl) ?_ -- r10
      refine CWops.run htt 5 (by simp only [go_sem, reduceIte, Nat.reduceEqDiff, reduceCtorEq, Nat.reduceAdd, Nat.reduceLT, Nat.reduceLeDiff, Nat.reduceBEq, Nat.reduceSub, Nat.reduceMul, Int.reduceToNat, Int.reduceLE, hb, eI]; exact rfl) (by simp [go_sem, reduceIte, Nat.reduceEqDiff, reduceCtorEq, Nat.reduceAdd, Nat.reduceLT, Nat.reduceLeDiff, Nat.reduceBEq, Nat.reduceSub, Nat.reduceMul, Int.reduceToNat, Int.reduceLE, hb, eI]) ?_
      refine CWops.done ?_
      refine CW.region (by kernel_rfl) (by kernel_rfl) ?_ -- r11
      refine CWops.run htt 4 (by simp only [go_sem, reduceIte, Nat.reduceEqDiff, reduceCtorEq, Nat.reduceAdd, Nat.reduceLT, Nat.reduceLeDiff, Nat.reduceBEq, Nat.reduceSub, Nat.reduceMul, Int.reduceToNat, Int.reduceLE, hw]; exact rfl) (by simp [go_sem, reduceIte, Nat.reduceEqDiff, reduceCtorEq, Nat.reduceAdd, Nat.reduceLT, Nat.reduceLeDiff, Nat.reduceBEq, Nat.reduceSub, Nat.reduceMul, Int.reduceToNat, Int.reduceLE, hw]) ?_
      refine CWops.done ?_
      refine CW.region (by kernel_rfl) (by kernel_rfl) ?_ -- r6
      refine CWops.run htt 3 (by simp only [go_sem, reduceIte, Nat.reduceEqDiff, reduceCtorEq, Nat.reduceAdd, Nat.reduceLT, Nat.reduceLeDiff, Nat.reduceBEq, Nat.reduceSub, Nat.reduceMul, Int.reduceToNat, Int.reduceLE, wrap_succ (show i < MX by unfold MX; omega)]; exact rfl) (by simp [go_sem, reduceIte, Nat.reduceEqDiff, reduceCtorEq, Nat.reduceAdd, Nat.reduceLT, Nat.reduceLeDiff, Nat.reduceBEq, Nat.reduceSub, Nat.reduceMul, Int.reduceToNat, Int.reduceLE, wrap_succ (show i < MX by unfold MX; omega)]) ?_
      refine CWops.done ?_
      refine ⟨i + 1, ?_, ?_, ?_⟩
      · refine Sh.wk0 ?_; simp [Wk, go_sem, reduceIte, Nat.reduceEqDiff, reduceCtorEq, Nat.reduceAdd, Nat.reduceLT, Nat.reduceLeDiff, Nat.reduceBEq, Nat.reduceSub, Nat.reduceMul, Int.reduceToNat, Int.reduceLE, eGraph]
      · exact hi
      · simp only; omega
    · have hmb9 := moreC_no ct47
      have hw : IntKind.i64.wrap (newId bs i + 1) = newId bs (i + 1) := by
        have h1 := newId_b bs i
        rw [wrap_small (by omega) (by omega), newId, hmb9]
      refine CW.skip ?_
      refine CW.region (by kernel_rfl) (by kernel_rfl) ?_ -- r11
      refine CWops.run htt 4 (by simp only [go_sem, reduceIte, Nat.reduceEqDiff, reduceCtorEq, Nat.reduceAdd, Nat.reduceLT, Nat.reduceLeDiff, Nat.reduceBEq, Nat.reduceSub, Nat.reduceMul, Int.reduceToNat, Int.reduceLE, hw]; exact rfl) (by simp [go_sem, reduceIte, Nat.reduceEqDiff, reduceCtorEq, Nat.reduceAdd, Nat.reduceLT, Nat.reduceLeDiff, Nat.reduceBEq, Nat.reduceSub, Nat.reduceMul, Int.reduceToNat, Int.reduceLE, hw]) ?_
      refine CWops.done ?_
      refine CW.region (by kernel_rfl) (by kernel_rfl) ?_ -- r6
      refine CWops.run htt 3 (by simp only [go_sem, reduceIte, Nat.reduceEqDiff, reduceCtorEq, Nat.reduceAdd, Nat.reduceLT, Nat.reduceLeDiff, Nat.reduceBEq, Nat.reduceSub, Nat.reduceMul, Int.reduceToNat, Int.reduceLE, wrap_succ (show i < MX by unfold MX; omega)]; exact rfl) (by simp [go_sem, reduceIte, Nat.reduceEqDiff, reduceCtorEq, Nat.reduceAdd, Nat.reduceLT, Nat.reduceLeDiff, Nat.reduceBEq, Nat.reduceSub, Nat.reduceMul, Int.reduceToNat, Int.reduceLE, wrap_succ (show i < MX by unfold MX; omega)]) ?_
      refine CWops.done ?_
      refine ⟨i + 1, ?_, ?_, ?_⟩
      · refine Sh.wk0 ?_; simp [Wk, go_sem, reduceIte, Nat.reduceEqDiff, reduceCtorEq, Nat.reduceAdd, Nat.reduceLT, Nat.reduceLeDiff, Nat.reduceBEq, Nat.reduceSub, Nat.reduceMul, Int.reduceToNat, Int.reduceLE, eGraph]
      · exact hi
      · simp only; omega
  · have hi : i = g.O.length := by simp at ct23; omega
    refine CW.exit ?_
    refine CW.seq ?_
    refine CW.seq ?_
    refine CW.sh (Sh.frzT 7 3 (by simp only [go_sem, reduceIte, Nat.reduceEqDiff, reduceCtorEq, Nat.reduceAdd, Nat.reduceLT, Nat.reduceLeDiff, Nat.reduceBEq, Nat.reduceSub, Nat.reduceMul, Int.reduceToNat, Int.reduceLE]) (by simp only [go_sem, reduceIte, Nat.reduceEqDiff, reduceCtorEq, Nat.reduceAdd, Nat.reduceLT, Nat.reduceLeDiff, Nat.reduceBEq, Nat.reduceSub, Nat.reduceMul, Int.reduceToNat, Int.reduceLE]; first | done | exact rfl) rfl) ?_
    simp only [go_sem, reduceIte, Nat.reduceEqDiff, reduceCtorEq, Nat.reduceAdd, Nat.reduceLT, Nat.reduceLeDiff, Nat.reduceBEq, Nat.reduceSub, Nat.reduceMul, Int.reduceToNat, Int.reduceLE]
    refine CW.region (by kernel_rfl) (by kernel_rfl) ?_ -- r12
    refine CWops.run htt 1 (by simp only [go_sem, reduceIte, Nat.reduceEqDiff, reduceCtorEq, Nat.reduceAdd, Nat.reduceLT, Nat.reduceLeDiff, Nat.reduceBEq, Nat.reduceSub, Nat.reduceMul, Int.reduceToNat, Int.reduceLE]; exact rfl) (by simp [go_sem, reduceIte, Nat.reduceEqDiff, reduceCtorEq, Nat.reduceAdd, Nat.reduceLT, Nat.reduceLeDiff, Nat.reduceBEq, Nat.reduceSub, Nat.reduceMul, Int.reduceToNat, Int.reduceLE]) ?_
    refine CWops.done ?_
    refine CW.block ?_
    refine CW.loop (S := Nat) (fun i => ⟨3, [(2, .lv 0 [] 0), (4, .lv 1 [] 0), (5, .lv 2 [] 0), (7, .sl 1 (ids.map eI)), (10, .int .i64 i)], [(0, ⟨true, eGraph g⟩), (1, ⟨true, [.nilsl, .nilsl, .nilsl]⟩), (2, ⟨true, [.sl 2 (g.S.map eType), .own 3 ((renL g bs 0 (g.O.take i)).map eObj), .nilsl]⟩)]⟩) (fun i => i ≤ g.O.length) (fun i => g.O.length - i) (0) ?_ (Nat.zero_le _) (fun i h1 => ?_)
    · refine Sh.trans (Sh.nilCell 2 [] 1 3 (by simp [go_sem, reduceIte, Nat.reduceEqDiff, reduceCtorEq, Nat.reduceAdd, Nat.reduceLT, Nat.reduceLeDiff, Nat.reduceBEq, Nat.reduceSub, Nat.reduceMul, Int.reduceToNat, Int.reduceLE]) rfl) (Sh.wk0 ?_); simp [Wk, go_sem, reduceIte, Nat.reduceEqDiff, reduceCtorEq, Nat.reduceAdd, Nat.reduceLT, Nat.reduceLeDiff, Nat.reduceBEq, Nat.reduceSub, Nat.reduceMul, Int.reduceToNat, Int.reduceLE, eGraph, hi, hids, renL]
    refine CW.seq ?_
    refine CW.seq ?_
    refine CW.region (by kernel_rfl) (by kernel_rfl) ?_ -- r13
    refine CWops.run htt 5 (by simp only [go_sem, reduceIte, Nat.reduceEqDiff, reduceCtorEq, Nat.reduceAdd, Nat.reduceLT, Nat.reduceLeDiff, Nat.reduceBEq, Nat.reduceSub, Nat.reduceMul, Int.reduceToNat, Int.reduceLE, eGraph]; exact rfl) (by simp [go_sem, reduceIte, Nat.reduceEqDiff, reduceCtorEq, Nat.reduceAdd, Nat.reduceLT, Nat.reduceLeDiff, Nat.reduceBEq, Nat.reduceSub, Nat.reduceMul, Int.reduceToNat, Int.reduceLE, eGraph]) ?_
    refine CWops.done ?_
    refine CW.cond (by simp only [go_sem, reduceIte, Nat.reduceEqDiff, reduceCtorEq, Nat.reduceAdd, Nat.reduceLT, Nat.reduceLeDiff, Nat.reduceBEq, Nat.reduceSub, Nat.reduceMul, Int.reduceToNat, Int.reduceLE]; first | done | exact rfl) (fun ct59 => ?_) (fun ct59 => ?_)
    · have hi : i < g.O.length := by simpa using ct59
      obtain ⟨⟨oi, oT, oF⟩, hp⟩ : ∃ x, g.O[i]? = some x := ⟨g.O[i], List.getElem?_eq_getElem hi⟩
      have hid := hidx i hi
      obtain ⟨_, t, hT, hmo⟩ := hm.objT hp
      obtain ⟨q, rfl⟩ := Int.eq_ofNat_of_zero_le (show 0 ≤ oT from hmo.t0)
      have ht : g.S[q]? = some t := by simpa using hmo.at_
      have hlen : oF.length = t.F.length := hmo.len
      have hfl := (hmb t (List.mem_of_getElem? ht))
      have hrF : renF g bs ⟨oi, q, oF⟩ = List.zipWith (renV (rho g bs)) t.F oF := by unfold renF; rw [hT]
      refine CW.skip ?_
      refine CW.seq ?_
      refine CW.block ?_
      refine CW.seq ?_
      refine CW.drawn mixed 12 (by decide) (by kernel_rfl) (by kernel_rfl) (by kernel_rfl) ?_ -- r15
      refine Seg.run htt 12 (by simp only [go_sem, reduceIte, Nat.reduceEqDiff, reduceCtorEq, Nat.reduceAdd, Nat.reduceLT, Nat.reduceLeDiff, Nat.reduceBEq, Nat.reduceSub, Nat.reduceMul, Int.reduceToNat, Int.reduceLE, hid, hp, eObj, eGraph, eI]; exact rfl) ?_
      refine Seg.done ?_
      refine CWops.run htt 1 (by simp only [go_sem, reduceIte, Nat.reduceEqDiff, reduceCtorEq, Nat.reduceAdd, Nat.reduceLT, Nat.reduceLeDiff, Nat.reduceBEq, Nat.reduceSub, Nat.reduceMul, Int.reduceToNat, Int.reduceLE, hid, hp, eObj, eGraph, eI]; exact rfl) (by simp [go_sem, reduceIte, Nat.reduceEqDiff, reduceCtorEq, Nat.reduceAdd, Nat.reduceLT, Nat.reduceLeDiff, Nat.reduceBEq, Nat.reduceSub, Nat.reduceMul, Int.reduceToNat, Int.reduceLE, hid, hp, eObj, eGraph, eI]) ?_
      refine CWops.done ?_
      refine CW.seq ?_
      refine CW.seq ?_
      refine CW.region (by kernel_rfl) (by kernel_rfl) ?_ -- r16
      refine CWops.run htt 1 (by simp only [go_sem, reduceIte, Nat.reduceEqDiff, reduceCtorEq, Nat.reduceAdd, Nat.reduceLT, Nat.reduceLeDiff, Nat.reduceBEq, Nat.reduceSub, Nat.reduceMul, Int.reduceToNat, Int.reduceLE]; exact rfl) (by simp [go_sem, reduceIte, Nat.reduceEqDiff, reduceCtorEq, Nat.reduceAdd, Nat.reduceLT, Nat.reduceLeDiff, Nat.reduceBEq, Nat.reduceSub, Nat.reduceMul, Int.reduceToNat, Int.reduceLE]) ?_
      refine CWops.done ?_
      refine CW.block ?_
      refine CW.loop (S := Nat) (fun k => ⟨4, [(2, .lv 0 [] 0), (4, .lv 1 [] 0), (5, .lv 2 [] 0), (7, .sl 1 (ids.map eI)), (10, .int .i64 i), (11, .lv 3 [] 0), (12, .int .i64 k)], [(0, ⟨true, eGraph g⟩), (1, ⟨true, [.nilsl, .nilsl, .nilsl]⟩), (2, ⟨true, [.sl 2 (g.S.map eType), .own 3 ((renL g bs 0 (g.O.take i)).map eObj), .nilsl]⟩), (3, ⟨true, [.int .i64 (newId bs i), .int .i64 q, .own 3 ((List.zipWith (renV (rho g bs)) (t.F.take k) (oF.take k)).map eVal)]⟩)]⟩) (fun k => k ≤ oF.length) (fun k => oF.length - k) (0) ?_ (Nat.zero_le _) (fun k k1 => ?_)
      · refine Sh.trans (Sh.nilCell 3 [] 2 3 (by simp [go_sem, reduceIte, Nat.reduceEqDiff, reduceCtorEq, Nat.reduceAdd, Nat.reduceLT, Nat.reduceLeDiff, Nat.reduceBEq, Nat.reduceSub, Nat.reduceMul, Int.reduceToNat, Int.reduceLE]) rfl) (Sh.wk0 ?_); simp [Wk, go_sem, reduceIte, Nat.reduceEqDiff, reduceCtorEq, Nat.reduceAdd, Nat.reduceLT, Nat.reduceLeDiff, Nat.reduceBEq, Nat.reduceSub, Nat.reduceMul, Int.reduceToNat, Int.reduceLE, eGraph]
      refine CW.seq ?_
      refine CW.seq ?_
      refine CW.region (by kernel_rfl) (by kernel_rfl) ?_ -- r17
      refine CWops.run htt 9 (by simp only [go_sem, reduceIte, Nat.reduceEqDiff, reduceCtorEq, Nat.reduceAdd, Nat.reduceLT, Nat.reduceLeDiff, Nat.reduceBEq, Nat.reduceSub, Nat.reduceMul, Int.reduceToNat, Int.reduceLE, hp, eObj, eGraph]; exact rfl) (by simp [go_sem, reduceIte, Nat.reduceEqDiff, reduceCtorEq, Nat.reduceAdd, Nat.reduceLT, Nat.reduceLeDiff, Nat.reduceBEq, Nat.reduceSub, Nat.reduceMul, Int.reduceToNat, Int.reduceLE, hp, eObj, eGraph]) ?_
      refine CWops.done ?_
      refine CW.cond (by simp only [go_sem, reduceIte, Nat.reduceEqDiff, reduceCtorEq, Nat.reduceAdd, Nat.reduceLT, Nat.reduceLeDiff, Nat.reduceBEq, Nat.reduceSub, Nat.reduceMul, Int.reduceToNat, Int.reduceLE]; first | done | exact rfl) (fun ct81 => ?_) (fun ct81 => ?_)
      · have hk : k < oF.length := by simpa using ct81
        obtain ⟨v, hv⟩ : ∃ v, oF[k]? = some v := ⟨oF[k], List.getElem?_eq_getElem hk⟩
        obtain ⟨f, hf⟩ : ∃ f, t.F[k]? = some f := ⟨t.F[k], List.getElem?_eq_getElem (by omega)⟩
        refine CW.skip ?_
        refine CW.seq ?_
        refine CW.block ?_
        refine CW.seq ?_
        refine CW.region (by kernel_rfl) (by kernel_rfl) ?_ -- r19
        refine CWops.run htt 11 (by simp only [go_sem, reduceIte, Nat.reduceEqDiff, reduceCtorEq, Nat.reduceAdd, Nat.reduceLT, Nat.reduceLeDiff, Nat.reduceBEq, Nat.reduceSub, Nat.reduceMul, Int.reduceToNat, Int.reduceLE, hp, eObj, hv, eVal, eGraph]; exact rfl) (by simp [go_sem, reduceIte, Nat.reduceEqDiff, reduceCtorEq, Nat.reduceAdd, Nat.reduceLT, Nat.reduceLeDiff, Nat.reduceBEq, Nat.reduceSub, Nat.reduceMul, Int.reduceToNat, Int.reduceLE, hp, eObj, hv, eVal, eGraph]) ?_
        refine CWops.done ?_
        refine CW.seq ?_
        refine CW.cut ⟨5, [(2, .lv 0 [] 0), (4, .lv 1 [] 0), (5, .lv 2 [] 0), (7, .sl 1 (ids.map eI)), (10, .int .i64 i), (11, .lv 3 [] 0), (12, .int .i64 k), (13, .lv 4 [] 0), (110, .bool (decide (f.Kind = 5) && decide (0 ≤ v.R)))], [(0, ⟨true, eGraph g⟩), (1, ⟨true, [.nilsl, .nilsl, .nilsl]⟩), (2, ⟨true, [.sl 2 (g.S.map eType), .own 3 ((renL g bs 0 (g.O.take i)).map eObj), .nilsl]⟩), (3, ⟨true, [.int .i64 (newId bs i), .int .i64 q, .own 3 ((List.zipWith (renV (rho g bs)) (t.F.take k) (oF.take k)).map eVal)]⟩), (4, ⟨true, eVal v⟩)]⟩ ?_ ?_
        · refine CW.region (by kernel_rfl) (by kernel_rfl) ?_ -- r20
          refine CWops.run htt 14 (by simp only [go_sem, reduceIte, Nat.reduceEqDiff, reduceCtorEq, Nat.reduceAdd, Nat.reduceLT, Nat.reduceLeDiff, Nat.reduceBEq, Nat.reduceSub, Nat.reduceMul, Int.reduceToNat, Int.reduceLE, eGraph, eSchema, eType, ht, hf, eField, eVal]; exact rfl) (by simp [go_sem, reduceIte, Nat.reduceEqDiff, reduceCtorEq, Nat.reduceAdd, Nat.reduceLT, Nat.reduceLeDiff, Nat.reduceBEq, Nat.reduceSub, Nat.reduceMul, Int.reduceToNat, Int.reduceLE, eGraph, eSchema, eType, ht, hf, eField, eVal]) ?_
          all_goals (first | refine CWops.guard 106 (by simp only [go_sem, reduceIte, Nat.reduceEqDiff, reduceCtorEq, Nat.reduceAdd, Nat.reduceLT, Nat.reduceLeDiff, Nat.reduceBEq, Nat.reduceSub, Nat.reduceMul, Int.reduceToNat, Int.reduceLE, eGraph, eSchema, eType, ht, hf, eField, eVal]; exact rfl) (fun g106 => ?_) (fun g106 => ?_) | skip)
          all_goals (skip)
          all_goals (refine CWops.run htt 4 (by simp only [go_sem, reduceIte, Nat.reduceEqDiff, reduceCtorEq, Nat.reduceAdd, Nat.reduceLT, Nat.reduceLeDiff, Nat.reduceBEq, Nat.reduceSub, Nat.reduceMul, Int.reduceToNat, Int.reduceLE, eGraph, eSchema, eType, ht, hf, eField, eVal]; exact rfl) (by simp [go_sem, reduceIte, Nat.reduceEqDiff, reduceCtorEq, Nat.reduceAdd, Nat.reduceLT, Nat.reduceLeDiff, Nat.reduceBEq, Nat.reduceSub, Nat.reduceMul, Int.reduceToNat, Int.reduceLE, eGraph, eSchema, eType, ht, hf, eField, eVal]) ?_)
          all_goals (refine CWops.done ?_)
          all_goals (
            refine ⟨rfl, Sh.wk0 ?_⟩
            first | (simp [Wk, go_sem, reduceIte, Nat.reduceEqDiff, reduceCtorEq, Nat.reduceAdd, Nat.reduceLT, Nat.reduceLeDiff, Nat.reduceBEq, Nat.reduceSub, Nat.reduceMul, Int.reduceToNat, Int.reduceLE, eGraph, eVal]; done) | (simp_all [Wk, go_sem, reduceIte, Nat.reduceEqDiff, reduceCtorEq, Nat.reduceAdd, Nat.reduceLT, Nat.reduceLeDiff, Nat.reduceBEq, Nat.reduceSub, Nat.reduceMul, Int.reduceToNat, Int.reduceLE, eGraph, eVal]; done) | skip)
        refine CW.cond (by simp only [go_sem, reduceIte, Nat.reduceEqDiff, reduceCtorEq, Nat.reduceAdd, Nat.reduceLT, Nat.reduceLeDiff, Nat.reduceBEq, Nat.reduceSub, Nat.reduceMul, Int.reduceToNat, Int.reduceLE]; first | done | exact rfl) (fun ct110 => ?_) (fun ct110 => ?_)
        · simp only [Bool.and_eq_true, decide_eq_true_eq] at ct110
          obtain ⟨p', hp', hF2, hrh⟩ := rho_find (bs := bs) hm (hmo.ref hf hv ct110.1) ct110.2
          have hidp := hidx p' hp'
          have hrv : renV (rho g bs) f v = ⟨v.N, v.S, newId bs p'⟩ := by unfold renV; rw [if_pos ct110.1, hrh]
          refine CW.region (by kernel_rfl) (by kernel_rfl) ?_ -- r21
          refine CWops.run htt 4 (by simp only [go_sem, reduceIte, Nat.reduceEqDiff, reduceCtorEq, Nat.reduceAdd, Nat.reduceLT, Nat.reduceLeDiff, Nat.reduceBEq, Nat.reduceSub, Nat.reduceMul, Int.reduceToNat, Int.reduceLE, eGraph, eVal, hF2, hidp, eI]; exact rfl) (by simp [go_sem, reduceIte, Nat.reduceEqDiff, reduceCtorEq, Nat.reduceAdd, Nat.reduceLT, Nat.reduceLeDiff, Nat.reduceBEq, Nat.reduceSub, Nat.reduceMul, Int.reduceToNat, Int.reduceLE, eGraph, eVal, hF2, hidp, eI]) ?_
          refine CWops.call (ref08_Find up g v.R) (by simp only [go_sem, reduceIte, Nat.reduceEqDiff, reduceCtorEq, Nat.reduceAdd, Nat.reduceLT, Nat.reduceLeDiff, Nat.reduceBEq, Nat.reduceSub, Nat.reduceMul, Int.reduceToNat, Int.reduceLE, eGraph, eVal, hF2, hidp, eI]) (by simp only [go_sem, reduceIte, Nat.reduceEqDiff, reduceCtorEq, Nat.reduceAdd, Nat.reduceLT, Nat.reduceLeDiff, Nat.reduceBEq, Nat.reduceSub, Nat.reduceMul, Int.reduceToNat, Int.reduceLE, eGraph, eVal, hF2, hidp, eI]; first | done | exact rfl) (by simp only [go_sem, reduceIte, Nat.reduceEqDiff, reduceCtorEq, Nat.reduceAdd, Nat.reduceLT, Nat.reduceLeDiff, Nat.reduceBEq, Nat.reduceSub, Nat.reduceMul, Int.reduceToNat, Int.reduceLE, eGraph, eVal, hF2, hidp, eI]) (fun rt115 hrt115 => ?_)
          subst hrt115; refine ⟨rfl, ?_⟩
          refine CWops.run htt 4 (by simp only [go_sem, reduceIte, Nat.reduceEqDiff, reduceCtorEq, Nat.reduceAdd, Nat.reduceLT, Nat.reduceLeDiff, Nat.reduceBEq, Nat.reduceSub, Nat.reduceMul, Int.reduceToNat, Int.reduceLE, eGraph, eVal, hF2, hidp, eI]; exact rfl) (by simp [go_sem, reduceIte, Nat.reduceEqDiff, reduceCtorEq, Nat.reduceAdd, Nat.reduceLT, Nat.reduceLeDiff, Nat.reduceBEq, Nat.reduceSub, Nat.reduceMul, Int.reduceToNat, Int.reduceLE, eGraph, eVal, hF2, hidp, eI]) ?_
          refine CWops.done ?_
          refine CW.region (by kernel_rfl) (by kernel_rfl) ?_ -- r22
          refine CWops.run htt 7 (by simp only [go_sem, reduceIte, Nat.reduceEqDiff, reduceCtorEq, Nat.reduceAdd, Nat.reduceLT, Nat.reduceLeDiff, Nat.reduceBEq, Nat.reduceSub, Nat.reduceMul, Int.reduceToNat, Int.reduceLE, eVal, List.replicate]; exact rfl) (by simp [AV.cell, AV.tree, eVal, MX]; omega) ?_
          refine CWops.done ?_
          refine CW.region (by kernel_rfl) (by kernel_rfl) ?_ -- r18
          refine CWops.run htt 3 (by simp only [go_sem, reduceIte, Nat.reduceEqDiff, reduceCtorEq, Nat.reduceAdd, Nat.reduceLT, Nat.reduceLeDiff, Nat.reduceBEq, Nat.reduceSub, Nat.reduceMul, Int.reduceToNat, Int.reduceLE, wrap_succ (show k < MX by unfold MX; omega)]; exact rfl) (by simp [go_sem, reduceIte, Nat.reduceEqDiff, reduceCtorEq, Nat.reduceAdd, Nat.reduceLT, Nat.reduceLeDiff, Nat.reduceBEq, Nat.reduceSub, Nat.reduceMul, Int.reduceToNat, Int.reduceLE, wrap_succ (show k < MX by unfold MX; omega)]) ?_
          refine CWops.done ?_
          refine ⟨k + 1, ?_, ?_, ?_⟩
          · refine Sh.wk0 ?_
            dsimp only
            rw [zipTake _ hf hv, hrv]
            simp [Wk, go_sem, reduceIte, Nat.reduceEqDiff, reduceCtorEq, Nat.reduceAdd, Nat.reduceLT, Nat.reduceLeDiff, Nat.reduceBEq, Nat.reduceSub, Nat.reduceMul, Int.reduceToNat, Int.reduceLE, eGraph, eVal]
          · exact hk
          · simp only; omega
        · have hrv : renV (rho g bs) f v = v := by
            unfold renV
            split
            · rename_i hk5
              simp only [hk5, decide_true, Bool.true_and, decide_eq_false_iff_not] at ct110
              rw [rho_less ct110]
            · rfl
          refine CW.skip ?_
          refine CW.region (by kernel_rfl) (by kernel_rfl) ?_ -- r22
          refine CWops.run htt 7 (by simp only [go_sem, reduceIte, Nat.reduceEqDiff, reduceCtorEq, Nat.reduceAdd, Nat.reduceLT, Nat.reduceLeDiff, Nat.reduceBEq, Nat.reduceSub, Nat.reduceMul, Int.reduceToNat, Int.reduceLE, eVal, List.replicate]; exact rfl) (by simp [AV.cell, AV.tree, eVal, MX]; omega) ?_
          refine CWops.done ?_
          refine CW.region (by kernel_rfl) (by kernel_rfl) ?_ -- r18
          refine CWops.run htt 3 (by simp only [go_sem, reduceIte, Nat.reduceEqDiff, reduceCtorEq, Nat.reduceAdd, Nat.reduceLT, Nat.reduceLeDiff, Nat.reduceBEq, Nat.reduceSub, Nat.reduceMul, Int.reduceToNat, Int.reduceLE, wrap_succ (show k < MX by unfold MX; omega)]; exact rfl) (by simp [go_sem, reduceIte, Nat.reduceEqDiff, reduceCtorEq, Nat.reduceAdd, Nat.reduceLT, Nat.reduceLeDiff, Nat.reduceBEq, Nat.reduceSub, Nat.reduceMul, Int.reduceToNat, Int.reduceLE, wrap_succ (show k < MX by unfold MX; omega)]) ?_
          refine CWops.done ?_
          refine ⟨k + 1, ?_, ?_, ?_⟩
          · refine Sh.wk0 ?_
            dsimp only
            rw [zipTake _ hf hv, hrv]
            simp [Wk, go_sem, reduceIte, Nat.reduceEqDiff, reduceCtorEq, Nat.reduceAdd, Nat.reduceLT, Nat.reduceLeDiff, Nat.reduceBEq, Nat.reduceSub, Nat.reduceMul, Int.reduceToNat, Int.reduceLE, eGraph, eVal]
          · exact hk
          · simp only; omega
      · have hk : k = oF.length := by simp at ct81; omega
        refine CW.exit ?_
        refine CW.sh (Sh.frz 3 2 (by simp only [go_sem, reduceIte, Nat.reduceEqDiff, reduceCtorEq, Nat.reduceAdd, Nat.reduceLT, Nat.reduceLeDiff, Nat.reduceBEq, Nat.reduceSub, Nat.reduceMul, Int.reduceToNat, Int.reduceLE]; first | done | exact rfl) rfl) ?_
        simp only [go_sem, reduceIte, Nat.reduceEqDiff, reduceCtorEq, Nat.reduceAdd, Nat.reduceLT, Nat.reduceLeDiff, Nat.reduceBEq, Nat.reduceSub, Nat.reduceMul, Int.reduceToNat, Int.reduceLE]
        refine CW.region (by kernel_rfl) (by kernel_rfl) ?_ -- r23
        refine CWops.run htt 7 (by simp only [go_sem, reduceIte, Nat.reduceEqDiff, reduceCtorEq, Nat.reduceAdd, Nat.reduceLT, Nat.reduceLeDiff, Nat.reduceBEq, Nat.reduceSub, Nat.reduceMul, Int.reduceToNat, Int.reduceLE, List.replicate]; exact rfl) (by simp [AV.cell, AV.tree, eObj, MX, renL_len]; omega) ?_
        refine CWops.done ?_
        refine CW.region (by kernel_rfl) (by kernel_rfl) ?_ -- r14
        refine CWops.run htt 3 (by simp only [go_sem, reduceIte, Nat.reduceEqDiff, reduceCtorEq, Nat.reduceAdd, Nat.reduceLT, Nat.reduceLeDiff, Nat.reduceBEq, Nat.reduceSub, Nat.reduceMul, Int.reduceToNat, Int.reduceLE, wrap_succ (show i < MX by unfold MX; omega)]; exact rfl) (by simp [go_sem, reduceIte, Nat.reduceEqDiff, reduceCtorEq, Nat.reduceAdd, Nat.reduceLT, Nat.reduceLeDiff, Nat.reduceBEq, Nat.reduceSub, Nat.reduceMul, Int.reduceToNat, Int.reduceLE, wrap_succ (show i < MX by unfold MX; omega)]) ?_
        refine CWops.done ?_
        refine ⟨i + 1, ?_, ?_, ?_⟩
        · refine Sh.wk0 ?_
          subst hk
          dsimp only
          rw [renL_take g bs hp, hrF, zipAll _ hlen]
          simp [Wk, go_sem, reduceIte, Nat.reduceEqDiff, reduceCtorEq, Nat.reduceAdd, Nat.reduceLT, Nat.reduceLeDiff, Nat.reduceBEq, Nat.reduceSub, Nat.reduceMul, Int.reduceToNat, Int.reduceLE, eGraph, eObj]
        · exact hi
        · simp only; omega
    · have hi : i = g.O.length := by simp at ct59; omega
      refine CW.exit ?_
      refine CW.seq ?_
      refine CW.seq ?_
      refine CW.region (by kernel_rfl) (by kernel_rfl) ?_ -- r24
      refine CWops.run htt 1 (by simp only [go_sem, reduceIte, Nat.reduceEqDiff, reduceCtorEq, Nat.reduceAdd, Nat.reduceLT, Nat.reduceLeDiff, Nat.reduceBEq, Nat.reduceSub, Nat.reduceMul, Int.reduceToNat, Int.reduceLE]; exact rfl) (by simp [go_sem, reduceIte, Nat.reduceEqDiff, reduceCtorEq, Nat.reduceAdd, Nat.reduceLT, Nat.reduceLeDiff, Nat.reduceBEq, Nat.reduceSub, Nat.reduceMul, Int.reduceToNat, Int.reduceLE]) ?_
      refine CWops.done ?_
      refine CW.block ?_
      refine CW.loop (S := Nat) (fun i => ⟨3, [(2, .lv 0 [] 0), (4, .lv 1 [] 0), (5, .lv 2 [] 0), (7, .sl 1 (ids.map eI)), (14, .int .i64 i)], [(0, ⟨true, eGraph g⟩), (1, ⟨true, [.nilsl, .nilsl, .nilsl]⟩), (2, ⟨true, [.sl 2 (g.S.map eType), .own 3 ((renL g bs 0 g.O).map eObj), .own 1 (((g.Roots.take i).map (rho g bs)).map eI)]⟩)]⟩) (fun i => i ≤ g.Roots.length) (fun i => g.Roots.length - i) (0) ?_ (Nat.zero_le _) (fun i h1 => ?_)
      · rw [hi, List.take_length]; refine Sh.trans (Sh.nilCell 2 [] 2 1 (by simp [go_sem, reduceIte, Nat.reduceEqDiff, reduceCtorEq, Nat.reduceAdd, Nat.reduceLT, Nat.reduceLeDiff, Nat.reduceBEq, Nat.reduceSub, Nat.reduceMul, Int.reduceToNat, Int.reduceLE]) rfl) (Sh.wk0 ?_); simp [Wk, go_sem, reduceIte, Nat.reduceEqDiff, reduceCtorEq, Nat.reduceAdd, Nat.reduceLT, Nat.reduceLeDiff, Nat.reduceBEq, Nat.reduceSub, Nat.reduceMul, Int.reduceToNat, Int.reduceLE, eGraph]
      refine CW.seq ?_
      refine CW.seq ?_
      refine CW.region (by kernel_rfl) (by kernel_rfl) ?_ -- r25
      refine CWops.run htt 5 (by simp only [go_sem, reduceIte, Nat.reduceEqDiff, reduceCtorEq, Nat.reduceAdd, Nat.reduceLT, Nat.reduceLeDiff, Nat.reduceBEq, Nat.reduceSub, Nat.reduceMul, Int.reduceToNat, Int.reduceLE, eGraph]; exact rfl) (by simp [go_sem, reduceIte, Nat.reduceEqDiff, reduceCtorEq, Nat.reduceAdd, Nat.reduceLT, Nat.reduceLeDiff, Nat.reduceBEq, Nat.reduceSub, Nat.reduceMul, Int.reduceToNat, Int.reduceLE, eGraph]) ?_
      refine CWops.done ?_
      refine CW.cond (by simp only [go_sem, reduceIte, Nat.reduceEqDiff, reduceCtorEq, Nat.reduceAdd, Nat.reduceLT, Nat.reduceLeDiff, Nat.reduceBEq, Nat.reduceSub, Nat.reduceMul, Int.reduceToNat, Int.reduceLE]; first | done | exact rfl) (fun ct135 => ?_) (fun ct135 => ?_)
      · have hi : i < g.Roots.length := by simpa using ct135
        obtain ⟨x, hx⟩ : ∃ x, g.Roots[i]? = some x := ⟨g.Roots[i], List.getElem?_eq_getElem hi⟩
        refine CW.skip ?_
        refine CW.seq ?_
        refine CW.block ?_
        refine CW.seq ?_
        refine CW.region (by kernel_rfl) (by kernel_rfl) ?_ -- r27
        refine CWops.run htt 6 (by simp only [go_sem, reduceIte, Nat.reduceEqDiff, reduceCtorEq, Nat.reduceAdd, Nat.reduceLT, Nat.reduceLeDiff, Nat.reduceBEq, Nat.reduceSub, Nat.reduceMul, Int.reduceToNat, Int.reduceLE, eGraph, hx, eI]; exact rfl) (by simp [go_sem, reduceIte, Nat.reduceEqDiff, reduceCtorEq, Nat.reduceAdd, Nat.reduceLT, Nat.reduceLeDiff, Nat.reduceBEq, Nat.reduceSub, Nat.reduceMul, Int.reduceToNat, Int.reduceLE, eGraph, hx, eI]) ?_
        refine CWops.done ?_
        refine CW.seq ?_
        refine CW.seq ?_
        refine CW.region (by kernel_rfl) (by kernel_rfl) ?_ -- r28
        refine CWops.run htt 2 (by simp only [go_sem, reduceIte, Nat.reduceEqDiff, reduceCtorEq, Nat.reduceAdd, Nat.reduceLT, Nat.reduceLeDiff, Nat.reduceBEq, Nat.reduceSub, Nat.reduceMul, Int.reduceToNat, Int.reduceLE]; exact rfl) (by simp [go_sem, reduceIte, Nat.reduceEqDiff, reduceCtorEq, Nat.reduceAdd, Nat.reduceLT, Nat.reduceLeDiff, Nat.reduceBEq, Nat.reduceSub, Nat.reduceMul, Int.reduceToNat, Int.reduceLE]) ?_
        refine CWops.done ?_
        refine CW.cond (by simp only [go_sem, reduceIte, Nat.reduceEqDiff, reduceCtorEq, Nat.reduceAdd, Nat.reduceLT, Nat.reduceLeDiff, Nat.reduceBEq, Nat.reduceSub, Nat.reduceMul, Int.reduceToNat, Int.reduceLE]; first | done | exact rfl) (fun ct144 => ?_) (fun ct144 => ?_)
        · simp only [decide_eq_true_eq] at ct144
          obtain ⟨p', hp', hF2, hrh⟩ := rho_find (bs := bs) hm (hm.root x (List.mem_of_getElem? hx)) ct144
          have hidp := hidx p' hp'
          refine CW.region (by kernel_rfl) (by kernel_rfl) ?_ -- r29
          refine CWops.run htt 3 (by simp only [go_sem, reduceIte, Nat.reduceEqDiff, reduceCtorEq, Nat.reduceAdd, Nat.reduceLT, Nat.reduceLeDiff, Nat.reduceBEq, Nat.reduceSub, Nat.reduceMul, Int.reduceToNat, Int.reduceLE, eGraph, hF2, hidp, eI]; exact rfl) (by simp [go_sem, reduceIte, Nat.reduceEqDiff, reduceCtorEq, Nat.reduceAdd, Nat.reduceLT, Nat.reduceLeDiff, Nat.reduceBEq, Nat.reduceSub, Nat.reduceMul, Int.reduceToNat, Int.reduceLE, eGraph, hF2, hidp, eI]) ?_
          refine CWops.call (ref08_Find up g x) (by simp only [go_sem, reduceIte, Nat.reduceEqDiff, reduceCtorEq, Nat.reduceAdd, Nat.reduceLT, Nat.reduceLeDiff, Nat.reduceBEq, Nat.reduceSub, Nat.reduceMul, Int.reduceToNat, Int.reduceLE, eGraph, hF2, hidp, eI]) (by simp only [go_sem, reduceIte, Nat.reduceEqDiff, reduceCtorEq, Nat.reduceAdd, Nat.reduceLT, Nat.reduceLeDiff, Nat.reduceBEq, Nat.reduceSub, Nat.reduceMul, Int.reduceToNat, Int.reduceLE, eGraph, hF2, hidp, eI]; first | done | exact rfl) (by simp only [go_sem, reduceIte, Nat.reduceEqDiff, reduceCtorEq, Nat.reduceAdd, Nat.reduceLT, Nat.reduceLeDiff, Nat.reduceBEq, Nat.reduceSub, Nat.reduceMul, Int.reduceToNat, Int.reduceLE, eGraph, hF2, hidp, eI]) (fun rt148 hrt148 => ?_)
          subst hrt148; refine ⟨rfl, ?_⟩
          refine CWops.run htt 3 (by simp only [go_sem, reduceIte, Nat.reduceEqDiff, reduceCtorEq, Nat.reduceAdd, Nat.reduceLT, Nat.reduceLeDiff, Nat.reduceBEq, Nat.reduceSub, Nat.reduceMul, Int.reduceToNat, Int.reduceLE, eGraph, hF2, hidp, eI]; exact rfl) (by simp [go_sem, reduceIte, Nat.reduceEqDiff, reduceCtorEq, Nat.reduceAdd, Nat.reduceLT, Nat.reduceLeDiff, Nat.reduceBEq, Nat.reduceSub, Nat.reduceMul, Int.reduceToNat, Int.reduceLE, eGraph, hF2, hidp, eI]) ?_
          refine CWops.done ?_
          refine CW.region (by kernel_rfl) (by kernel_rfl) ?_ -- r30
          refine CWops.run htt 7 (by simp only [go_sem, reduceIte, Nat.reduceEqDiff, reduceCtorEq, Nat.reduceAdd, Nat.reduceLT, Nat.reduceLeDiff, Nat.reduceBEq, Nat.reduceSub, Nat.reduceMul, Int.reduceToNat, Int.reduceLE, List.replicate]; exact rfl) (by simp [AV.cell, AV.tree, eI, MX]; omega) ?_
          refine CWops.done ?_
          refine CW.region (by kernel_rfl) (by kernel_rfl) ?_ -- r26
          refine CWops.run htt 3 (by simp only [go_sem, reduceIte, Nat.reduceEqDiff, reduceCtorEq, Nat.reduceAdd, Nat.reduceLT, Nat.reduceLeDiff, Nat.reduceBEq, Nat.reduceSub, Nat.reduceMul, Int.reduceToNat, Int.reduceLE, wrap_succ (show i < MX by unfold MX; omega)]; exact rfl) (by simp [go_sem, reduceIte, Nat.reduceEqDiff, reduceCtorEq, Nat.reduceAdd, Nat.reduceLT, Nat.reduceLeDiff, Nat.reduceBEq, Nat.reduceSub, Nat.reduceMul, Int.reduceToNat, Int.reduceLE, wrap_succ (show i < MX by unfold MX; omega)]) ?_
          refine CWops.done ?_
          refine ⟨i + 1, ?_, ?_, ?_⟩
          · refine Sh.wk0 ?_
            simp [Wk, go_sem, reduceIte, Nat.reduceEqDiff, reduceCtorEq, Nat.reduceAdd, Nat.reduceLT, Nat.reduceLeDiff, Nat.reduceBEq, Nat.reduceSub, Nat.reduceMul, Int.reduceToNat, Int.reduceLE, eGraph, List.take_add_one, hx, hrh, eI]
          · exact hi
          · simp only; omega
        · simp only [decide_eq_false_iff_not] at ct144
          have hrh := rho_less (g := g) (bs := bs) ct144
          refine CW.skip ?_
          refine CW.region (by kernel_rfl) (by kernel_rfl) ?_ -- r30
          refine CWops.run htt 7 (by simp only [go_sem, reduceIte, Nat.reduceEqDiff, reduceCtorEq, Nat.reduceAdd, Nat.reduceLT, Nat.reduceLeDiff, Nat.reduceBEq, Nat.reduceSub, Nat.reduceMul, Int.reduceToNat, Int.reduceLE, List.replicate]; exact rfl) (by simp [AV.cell, AV.tree, eI, MX]; omega) ?_
          refine CWops.done ?_
          refine CW.region (by kernel_rfl) (by kernel_rfl) ?_ -- r26
          refine CWops.run htt 3 (by simp only [go_sem, reduceIte, Nat.reduceEqDiff, reduceCtorEq, Nat.reduceAdd, Nat.reduceLT, Nat.reduceLeDiff, Nat.reduceBEq, Nat.reduceSub, Nat.reduceMul, Int.reduceToNat, Int.reduceLE, wrap_succ (show i < MX by unfold MX; omega)]; exact rfl) (by simp [go_sem, reduceIte, Nat.reduceEqDiff, reduceCtorEq, Nat.reduceAdd, Nat.reduceLT, Nat.reduceLeDiff, Nat.reduceBEq, Nat.reduceSub, Nat.reduceMul, Int.reduceToNat, Int.reduceLE, wrap_succ (show i < MX by unfold MX; omega)]) ?_
          refine CWops.done ?_
          refine ⟨i + 1, ?_, ?_, ?_⟩
          · refine Sh.wk0 ?_
            simp [Wk, go_sem, reduceIte, Nat.reduceEqDiff, reduceCtorEq, Nat.reduceAdd, Nat.reduceLT, Nat.reduceLeDiff, Nat.reduceBEq, Nat.reduceSub, Nat.reduceMul, Int.reduceToNat, Int.reduceLE, eGraph, List.take_add_one, hx, hrh, eI]
          · exact hi
          · simp only; omega
      · have hi : i = g.Roots.length := by simp at ct135; omega
        refine CW.exit ?_
        refine CW.seq ?_
        refine CW.sh (Sh.trans (Sh.frz 2 1 (by simp only [go_sem, reduceIte, Nat.reduceEqDiff, reduceCtorEq, Nat.reduceAdd, Nat.reduceLT, Nat.reduceLeDiff, Nat.reduceBEq, Nat.reduceSub, Nat.reduceMul, Int.reduceToNat, Int.reduceLE]; first | done | exact rfl) rfl) (Sh.frz 2 2 (by simp only [go_sem, reduceIte, Nat.reduceEqDiff, reduceCtorEq, Nat.reduceAdd, Nat.reduceLT, Nat.reduceLeDiff, Nat.reduceBEq, Nat.reduceSub, Nat.reduceMul, Int.reduceToNat, Int.reduceLE]; first | done | exact rfl) rfl)) ?_
        simp only [go_sem, reduceIte, Nat.reduceEqDiff, reduceCtorEq, Nat.reduceAdd, Nat.reduceLT, Nat.reduceLeDiff, Nat.reduceBEq, Nat.reduceSub, Nat.reduceMul, Int.reduceToNat, Int.reduceLE]
        refine CW.region (by kernel_rfl) (by kernel_rfl) ?_ -- r31
        refine CWops.run htt 2 (by simp only [go_sem, reduceIte, Nat.reduceEqDiff, reduceCtorEq, Nat.reduceAdd, Nat.reduceLT, Nat.reduceLeDiff, Nat.reduceBEq, Nat.reduceSub, Nat.reduceMul, Int.reduceToNat, Int.reduceLE]; exact rfl) (by simp [go_sem, reduceIte, Nat.reduceEqDiff, reduceCtorEq, Nat.reduceAdd, Nat.reduceLT, Nat.reduceLeDiff, Nat.reduceBEq, Nat.reduceSub, Nat.reduceMul, Int.reduceToNat, Int.reduceLE]) ?_
        refine CWops.done ?_
        refine CW.ret ?_
        refine retQ.ret (by simp only [f18, go_sem, reduceIte, Nat.reduceEqDiff, reduceCtorEq, Nat.reduceAdd, Nat.reduceLT, Nat.reduceLeDiff, Nat.reduceBEq, Nat.reduceSub, Nat.reduceMul, Int.reduceToNat, Int.reduceLE]; exact rfl) (by simp only [go_sem, reduceIte, Nat.reduceEqDiff, reduceCtorEq, Nat.reduceAdd, Nat.reduceLT, Nat.reduceLeDiff, Nat.reduceBEq, Nat.reduceSub, Nat.reduceMul, Int.reduceToNat, Int.reduceLE]; exact rfl) ?_ -- ret1
        refine ⟨_, ?_, rfl⟩
        simp [leP, leL, renamed, eGraph, hi, frz_Obj, frz_I]
theorem law09_CanonIds (up : Bool) (g : Graph) (bs : List Int) : PCall prog up 4 [.agg (eGraph g), .sl 1 (bs.map eI)] (· = .bool true) := by
  refine PCall.intro htt func4 (by kernel_rfl) rfl (Nat.le_of_ble_eq_true rfl) fun hl => ?_

  simp only [tmps0, Nat.reduceAdd]
  refine CW.seq ?_
  refine CW.region (by kernel_rfl) (by kernel_rfl) ?_ -- r0
  refine CWops.run htt 2 (by simp only [go_sem, reduceIte, Nat.reduceEqDiff, reduceCtorEq, Nat.reduceAdd, Nat.reduceLT, Nat.reduceLeDiff, Nat.reduceBEq, Nat.reduceSub, Nat.reduceMul, Int.reduceToNat, Int.reduceLE, eGraph]; exact rfl) (by simp [go_sem, reduceIte, Nat.reduceEqDiff, reduceCtorEq, Nat.reduceAdd, Nat.reduceLT, Nat.reduceLeDiff, Nat.reduceBEq, Nat.reduceSub, Nat.reduceMul, Int.reduceToNat, Int.reduceLE, eGraph]) ?_
  refine CWops.done ?_
  refine CW.seq ?_
  refine CW.region (by kernel_rfl) (by kernel_rfl) ?_ -- r1
  refine CWops.callA (law09_awake up) (by simp only [go_sem, reduceIte, Nat.reduceEqDiff, reduceCtorEq, Nat.reduceAdd, Nat.reduceLT, Nat.reduceLeDiff, Nat.reduceBEq, Nat.reduceSub, Nat.reduceMul, Int.reduceToNat, Int.reduceLE]) (by simp only [go_sem, reduceIte, Nat.reduceEqDiff, reduceCtorEq, Nat.reduceAdd, Nat.reduceLT, Nat.reduceLeDiff, Nat.reduceBEq, Nat.reduceSub, Nat.reduceMul, Int.reduceToNat, Int.reduceLE]; first | done | exact rfl) (by simp only [go_sem, reduceIte, Nat.reduceEqDiff, reduceCtorEq, Nat.reduceAdd, Nat.reduceLT, Nat.reduceLeDiff, Nat.reduceBEq, Nat.reduceSub, Nat.reduceMul, Int.reduceToNat, Int.reduceLE]) (by simp only [go_sem, reduceIte, Nat.reduceEqDiff, reduceCtorEq, Nat.reduceAdd, Nat.reduceLT, Nat.reduceLeDiff, Nat.reduceBEq, Nat.reduceSub, Nat.reduceMul, Int.reduceToNat, Int.reduceLE]) (fun rt8 hrt8 => ?_)
  subst hrt8
  refine CWops.run htt 1 (by simp only [go_sem, reduceIte, Nat.reduceEqDiff, reduceCtorEq, Nat.reduceAdd, Nat.reduceLT, Nat.reduceLeDiff, Nat.reduceBEq, Nat.reduceSub, Nat.reduceMul, Int.reduceToNat, Int.reduceLE]; exact rfl) (by simp [go_sem, reduceIte, Nat.reduceEqDiff, reduceCtorEq, Nat.reduceAdd, Nat.reduceLT, Nat.reduceLeDiff, Nat.reduceBEq, Nat.reduceSub, Nat.reduceMul, Int.reduceToNat, Int.reduceLE]) ?_
  refine CWops.done ?_
  refine CW.seq ?_
  refine CW.region (by kernel_rfl) (by kernel_rfl) ?_ -- r2
  refine CWops.run htt 1 (by simp only [go_sem, reduceIte, Nat.reduceEqDiff, reduceCtorEq, Nat.reduceAdd, Nat.reduceLT, Nat.reduceLeDiff, Nat.reduceBEq, Nat.reduceSub, Nat.reduceMul, Int.reduceToNat, Int.reduceLE, eGraph]; exact rfl) (by simp [go_sem, reduceIte, Nat.reduceEqDiff, reduceCtorEq, Nat.reduceAdd, Nat.reduceLT, Nat.reduceLeDiff, Nat.reduceBEq, Nat.reduceSub, Nat.reduceMul, Int.reduceToNat, Int.reduceLE, eGraph]) ?_
  refine CWops.call (law08_Few up g) (by simp only [go_sem, reduceIte, Nat.reduceEqDiff, reduceCtorEq, Nat.reduceAdd, Nat.reduceLT, Nat.reduceLeDiff, Nat.reduceBEq, Nat.reduceSub, Nat.reduceMul, Int.reduceToNat, Int.reduceLE, eGraph]) (by simp only [go_sem, reduceIte, Nat.reduceEqDiff, reduceCtorEq, Nat.reduceAdd, Nat.reduceLT, Nat.reduceLeDiff, Nat.reduceBEq, Nat.reduceSub, Nat.reduceMul, Int.reduceToNat, Int.reduceLE, eGraph]; first | done | exact rfl) (by simp only [go_sem, reduceIte, Nat.reduceEqDiff, reduceCtorEq, Nat.reduceAdd, Nat.reduceLT, Nat.reduceLeDiff, Nat.reduceBEq, Nat.reduceSub, Nat.reduceMul, Int.reduceToNat, Int.reduceLE, eGraph]) (fun rt10 hrt10 => ?_)
  subst hrt10; refine ⟨rfl, ?_⟩
  refine CWops.run htt 1 (by simp only [go_sem, reduceIte, Nat.reduceEqDiff, reduceCtorEq, Nat.reduceAdd, Nat.reduceLT, Nat.reduceLeDiff, Nat.reduceBEq, Nat.reduceSub, Nat.reduceMul, Int.reduceToNat, Int.reduceLE, eGraph]; exact rfl) (by simp [go_sem, reduceIte, Nat.reduceEqDiff, reduceCtorEq, Nat.reduceAdd, Nat.reduceLT, Nat.reduceLeDiff, Nat.reduceBEq, Nat.reduceSub, Nat.reduceMul, Int.reduceToNat, Int.reduceLE, eGraph]) ?_
  refine CWops.done ?_
  refine CW.seq ?_
  refine CW.cut ⟨1, [(1, .sl 1 (bs.map eI)), (2, .lv 0 [] 0), (5, .bool true), (21, .bool (!(fewG g && gMay g)))], [(0, ⟨true, eGraph g⟩)]⟩ ?_ ?_
  · refine CW.region (by kernel_rfl) (by kernel_rfl) ?_ -- r3
    refine CWops.run htt 3 (by simp only [go_sem, reduceIte, Nat.reduceEqDiff, reduceCtorEq, Nat.reduceAdd, Nat.reduceLT, Nat.reduceLeDiff, Nat.reduceBEq, Nat.reduceSub, Nat.reduceMul, Int.reduceToNat, Int.reduceLE, eGraph]; exact rfl) (by simp [go_sem, reduceIte, Nat.reduceEqDiff, reduceCtorEq, Nat.reduceAdd, Nat.reduceLT, Nat.reduceLeDiff, Nat.reduceBEq, Nat.reduceSub, Nat.reduceMul, Int.reduceToNat, Int.reduceLE, eGraph]) ?_
    all_goals (first | refine CWops.guard 13 (by simp only [go_sem, reduceIte, Nat.reduceEqDiff, reduceCtorEq, Nat.reduceAdd, Nat.reduceLT, Nat.reduceLeDiff, Nat.reduceBEq, Nat.reduceSub, Nat.reduceMul, Int.reduceToNat, Int.reduceLE, eGraph]; exact rfl) (fun g13 => ?_) (fun g13 => ?_) | skip)
    all_goals (refine CWops.run htt 4 (by simp only [go_sem, reduceIte, Nat.reduceEqDiff, reduceCtorEq, Nat.reduceAdd, Nat.reduceLT, Nat.reduceLeDiff, Nat.reduceBEq, Nat.reduceSub, Nat.reduceMul, Int.reduceToNat, Int.reduceLE, eGraph]; exact rfl) (by simp [go_sem, reduceIte, Nat.reduceEqDiff, reduceCtorEq, Nat.reduceAdd, Nat.reduceLT, Nat.reduceLeDiff, Nat.reduceBEq, Nat.reduceSub, Nat.reduceMul, Int.reduceToNat, Int.reduceLE, eGraph]) ?_)
    all_goals (first | refine CWops.guard 17 (by simp only [go_sem, reduceIte, Nat.reduceEqDiff, reduceCtorEq, Nat.reduceAdd, Nat.reduceLT, Nat.reduceLeDiff, Nat.reduceBEq, Nat.reduceSub, Nat.reduceMul, Int.reduceToNat, Int.reduceLE, eGraph]; exact rfl) (fun g17 => ?_) (fun g17 => ?_) | skip)
    all_goals (refine CWops.run htt 1 (by simp only [go_sem, reduceIte, Nat.reduceEqDiff, reduceCtorEq, Nat.reduceAdd, Nat.reduceLT, Nat.reduceLeDiff, Nat.reduceBEq, Nat.reduceSub, Nat.reduceMul, Int.reduceToNat, Int.reduceLE, eGraph]; exact rfl) (by simp [go_sem, reduceIte, Nat.reduceEqDiff, reduceCtorEq, Nat.reduceAdd, Nat.reduceLT, Nat.reduceLeDiff, Nat.reduceBEq, Nat.reduceSub, Nat.reduceMul, Int.reduceToNat, Int.reduceLE, eGraph]) ?_)
    all_goals (first | (refine CWops.skip ?_ ?_; next => (simp only [go_sem, reduceIte, Nat.reduceEqDiff, reduceCtorEq, Nat.reduceAdd, Nat.reduceLT, Nat.reduceLeDiff, Nat.reduceBEq, Nat.reduceSub, Nat.reduceMul, Int.reduceToNat, Int.reduceLE]; done)) | (refine CWops.call (graph_May up g) (by simp only [go_sem, reduceIte, Nat.reduceEqDiff, reduceCtorEq, Nat.reduceAdd, Nat.reduceLT, Nat.reduceLeDiff, Nat.reduceBEq, Nat.reduceSub, Nat.reduceMul, Int.reduceToNat, Int.reduceLE, eGraph]) (by simp only [go_sem, reduceIte, Nat.reduceEqDiff, reduceCtorEq, Nat.reduceAdd, Nat.reduceLT, Nat.reduceLeDiff, Nat.reduceBEq, Nat.reduceSub, Nat.reduceMul, Int.reduceToNat, Int.reduceLE, eGraph]; first | done | exact rfl) (by simp only [go_sem, reduceIte, Nat.reduceEqDiff, reduceCtorEq, Nat.reduceAdd, Nat.reduceLT, Nat.reduceLeDiff, Nat.reduceBEq, Nat.reduceSub, Nat.reduceMul, Int.reduceToNat, Int.reduceLE, eGraph]) (fun rt19 hrt19 => ?_); subst hrt19; refine ⟨rfl, ?_⟩))
    all_goals (refine CWops.run htt 2 (by simp only [go_sem, reduceIte, Nat.reduceEqDiff, reduceCtorEq, Nat.reduceAdd, Nat.reduceLT, Nat.reduceLeDiff, Nat.reduceBEq, Nat.reduceSub, Nat.reduceMul, Int.reduceToNat, Int.reduceLE, eGraph]; exact rfl) (by simp [go_sem, reduceIte, Nat.reduceEqDiff, reduceCtorEq, Nat.reduceAdd, Nat.reduceLT, Nat.reduceLeDiff, Nat.reduceBEq, Nat.reduceSub, Nat.reduceMul, Int.reduceToNat, Int.reduceLE, eGraph]) ?_)
    all_goals (refine CWops.done ?_)
    all_goals (
      refine ⟨rfl, Sh.wk0 ?_⟩
      simp_all [Wk, go_sem, reduceIte, Nat.reduceEqDiff, reduceCtorEq, Nat.reduceAdd, Nat.reduceLT, Nat.reduceLeDiff, Nat.reduceBEq, Nat.reduceSub, Nat.reduceMul, Int.reduceToNat, Int.reduceLE, eGraph] <;> first | done | omega | rfl | (rw [Bool.eq_iff_iff]; done) | (rw [Bool.eq_iff_iff]; simp; done) | (rw [Bool.eq_iff_iff]; simp; omega))
  refine CW.cond (by simp only [go_sem, reduceIte, Nat.reduceEqDiff, reduceCtorEq, Nat.reduceAdd, Nat.reduceLT, Nat.reduceLeDiff, Nat.reduceBEq, Nat.reduceSub, Nat.reduceMul, Int.reduceToNat, Int.reduceLE]; first | done | exact rfl) (fun ct21 => ?_) (fun ct21 => ?_)
  · refine CW.seq ?_
    refine CW.region (by kernel_rfl) (by kernel_rfl) ?_ -- r4
    refine CWops.run htt 2 (by simp only [go_sem, reduceIte, Nat.reduceEqDiff, reduceCtorEq, Nat.reduceAdd, Nat.reduceLT, Nat.reduceLeDiff, Nat.reduceBEq, Nat.reduceSub, Nat.reduceMul, Int.reduceToNat, Int.reduceLE]; exact rfl) (by simp [go_sem, reduceIte, Nat.reduceEqDiff, reduceCtorEq, Nat.reduceAdd, Nat.reduceLT, Nat.reduceLeDiff, Nat.reduceBEq, Nat.reduceSub, Nat.reduceMul, Int.reduceToNat, Int.reduceLE]) ?_
    refine CWops.done ?_
    refine CW.ret ?_
    refine retQ.ret (by simp only [f4, go_sem, reduceIte, Nat.reduceEqDiff, reduceCtorEq, Nat.reduceAdd, Nat.reduceLT, Nat.reduceLeDiff, Nat.reduceBEq, Nat.reduceSub, Nat.reduceMul, Int.reduceToNat, Int.reduceLE]; exact rfl) (by simp only [go_sem, reduceIte, Nat.reduceEqDiff, reduceCtorEq, Nat.reduceAdd, Nat.reduceLT, Nat.reduceLeDiff, Nat.reduceBEq, Nat.reduceSub, Nat.reduceMul, Int.reduceToNat, Int.reduceLE]; exact rfl) ?_ -- ret1
    refine ⟨_, ?_, rfl⟩
    simp_all [leP]
  · simp only [Bool.not_eq_false', Bool.and_eq_true] at ct21
    have hm := (may_iff g).1 ct21.2
    have hR := ren_ren (bs := bs) hm
    have hMh : gMay (renamed g bs) = true := (may_iff _).2 hR.mh
    have hCh : gCanon (renamed g bs) = gCanon g := by unfold gCanon; rw [if_pos hMh, if_pos ct21.2, hR.canonG]
    have hIso : gIso g (renamed g bs) = true := by unfold gIso; rw [hMh, hCh, ct21.2]; simp
    refine CW.skip ?_
    refine CW.seq ?_
    refine CW.region (by kernel_rfl) (by kernel_rfl) ?_ -- r5
    refine CWops.run htt 2 (by simp only [go_sem, reduceIte, Nat.reduceEqDiff, reduceCtorEq, Nat.reduceAdd, Nat.reduceLT, Nat.reduceLeDiff, Nat.reduceBEq, Nat.reduceSub, Nat.reduceMul, Int.reduceToNat, Int.reduceLE, eGraph]; exact rfl) (by simp [go_sem, reduceIte, Nat.reduceEqDiff, reduceCtorEq, Nat.reduceAdd, Nat.reduceLT, Nat.reduceLeDiff, Nat.reduceBEq, Nat.reduceSub, Nat.reduceMul, Int.reduceToNat, Int.reduceLE, eGraph]) ?_
    refine CWops.callA (law09_Renamed up g bs hm) (by simp only [go_sem, reduceIte, Nat.reduceEqDiff, reduceCtorEq, Nat.reduceAdd, Nat.reduceLT, Nat.reduceLeDiff, Nat.reduceBEq, Nat.reduceSub, Nat.reduceMul, Int.reduceToNat, Int.reduceLE, eGraph]) (by simp only [go_sem, reduceIte, Nat.reduceEqDiff, reduceCtorEq, Nat.reduceAdd, Nat.reduceLT, Nat.reduceLeDiff, Nat.reduceBEq, Nat.reduceSub, Nat.reduceMul, Int.reduceToNat, Int.reduceLE, eGraph]; first | done | exact rfl) (by simp only [go_sem, reduceIte, Nat.reduceEqDiff, reduceCtorEq, Nat.reduceAdd, Nat.reduceLT, Nat.reduceLeDiff, Nat.reduceBEq, Nat.reduceSub, Nat.reduceMul, Int.reduceToNat, Int.reduceLE, eGraph]) (by simp only [go_sem, reduceIte, Nat.reduceEqDiff, reduceCtorEq, Nat.reduceAdd, Nat.reduceLT, Nat.reduceLeDiff, Nat.reduceBEq, Nat.reduceSub, Nat.reduceMul, Int.reduceToNat, Int.reduceLE, eGraph]) (fun rt25 hrt25 => ?_)
    subst hrt25
    refine CWops.run htt 2 (by simp only [go_sem, reduceIte, Nat.reduceEqDiff, reduceCtorEq, Nat.reduceAdd, Nat.reduceLT, Nat.reduceLeDiff, Nat.reduceBEq, Nat.reduceSub, Nat.reduceMul, Int.reduceToNat, Int.reduceLE, eGraph]; exact rfl) (by simp [go_sem, reduceIte, Nat.reduceEqDiff, reduceCtorEq, Nat.reduceAdd, Nat.reduceLT, Nat.reduceLeDiff, Nat.reduceBEq, Nat.reduceSub, Nat.reduceMul, Int.reduceToNat, Int.reduceLE, eGraph]) ?_
    refine CWops.done ?_
    refine CW.seq ?_
    refine CW.drawn mixed 12 (by decide) (by kernel_rfl) (by kernel_rfl) (by kernel_rfl) ?_ -- r6
    refine Seg.run htt 1 (by simp only [go_sem, reduceIte, Nat.reduceEqDiff, reduceCtorEq, Nat.reduceAdd, Nat.reduceLT, Nat.reduceLeDiff, Nat.reduceBEq, Nat.reduceSub, Nat.reduceMul, Int.reduceToNat, Int.reduceLE, eGraph, hMh, hCh, hIso]; exact rfl) ?_
    refine Seg.call (graph_May up (renamed g bs)) (by simp only [go_sem, reduceIte, Nat.reduceEqDiff, reduceCtorEq, Nat.reduceAdd, Nat.reduceLT, Nat.reduceLeDiff, Nat.reduceBEq, Nat.reduceSub, Nat.reduceMul, Int.reduceToNat, Int.reduceLE, eGraph, hMh, hCh, hIso]) (by simp only [go_sem, reduceIte, Nat.reduceEqDiff, reduceCtorEq, Nat.reduceAdd, Nat.reduceLT, Nat.reduceLeDiff, Nat.reduceBEq, Nat.reduceSub, Nat.reduceMul, Int.reduceToNat, Int.reduceLE, eGraph, hMh, hCh, hIso]; first | done | exact rfl) (by simp only [go_sem, reduceIte, Nat.reduceEqDiff, reduceCtorEq, Nat.reduceAdd, Nat.reduceLT, Nat.reduceLeDiff, Nat.reduceBEq, Nat.reduceSub, Nat.reduceMul, Int.reduceToNat, Int.reduceLE, eGraph, hMh, hCh, hIso]) (by simp only [go_sem, reduceIte, Nat.reduceEqDiff, reduceCtorEq, Nat.reduceAdd, Nat.reduceLT, Nat.reduceLeDiff, Nat.reduceBEq, Nat.reduceSub, Nat.reduceMul, Int.reduceToNat, Int.reduceLE, eGraph, hMh, hCh, hIso]) rfl ?_
    refine Seg.run htt 1 (by simp only [go_sem, reduceIte, Nat.reduceEqDiff, reduceCtorEq, Nat.reduceAdd, Nat.reduceLT, Nat.reduceLeDiff, Nat.reduceBEq, Nat.reduceSub, Nat.reduceMul, Int.reduceToNat, Int.reduceLE, eGraph, hMh, hCh, hIso]; exact rfl) ?_
    all_goals (first | refine Seg.guard 28 (by simp only [go_sem, reduceIte, Nat.reduceEqDiff, reduceCtorEq, Nat.reduceAdd, Nat.reduceLT, Nat.reduceLeDiff, Nat.reduceBEq, Nat.reduceSub, Nat.reduceMul, Int.reduceToNat, Int.reduceLE, eGraph, hMh, hCh, hIso]; exact rfl) (fun g28 => ?_) (fun g28 => ?_) | skip)
    all_goals (try contradiction)
    all_goals (refine Seg.run htt 1 (by simp only [go_sem, reduceIte, Nat.reduceEqDiff, reduceCtorEq, Nat.reduceAdd, Nat.reduceLT, Nat.reduceLeDiff, Nat.reduceBEq, Nat.reduceSub, Nat.reduceMul, Int.reduceToNat, Int.reduceLE, eGraph, hMh, hCh, hIso]; exact rfl) ?_)
    all_goals (first | (refine Seg.skip ?_ ?_; next => (simp only [go_sem, reduceIte, Nat.reduceEqDiff, reduceCtorEq, Nat.reduceAdd, Nat.reduceLT, Nat.reduceLeDiff, Nat.reduceBEq, Nat.reduceSub, Nat.reduceMul, Int.reduceToNat, Int.reduceLE]; done)) | (refine Seg.callA (canon_Canon up g) (by simp only [go_sem, reduceIte, Nat.reduceEqDiff, reduceCtorEq, Nat.reduceAdd, Nat.reduceLT, Nat.reduceLeDiff, Nat.reduceBEq, Nat.reduceSub, Nat.reduceMul, Int.reduceToNat, Int.reduceLE, eGraph, hMh, hCh, hIso]) (by simp only [go_sem, reduceIte, Nat.reduceEqDiff, reduceCtorEq, Nat.reduceAdd, Nat.reduceLT, Nat.reduceLeDiff, Nat.reduceBEq, Nat.reduceSub, Nat.reduceMul, Int.reduceToNat, Int.reduceLE, eGraph, hMh, hCh, hIso]; first | done | exact rfl) (by simp only [go_sem, reduceIte, Nat.reduceEqDiff, reduceCtorEq, Nat.reduceAdd, Nat.reduceLT, Nat.reduceLeDiff, Nat.reduceBEq, Nat.reduceSub, Nat.reduceMul, Int.reduceToNat, Int.reduceLE, eGraph, hMh, hCh, hIso]) (by simp only [go_sem, reduceIte, Nat.reduceEqDiff, reduceCtorEq, Nat.reduceAdd, Nat.reduceLT, Nat.reduceLeDiff, Nat.reduceBEq, Nat.reduceSub, Nat.reduceMul, Int.reduceToNat, Int.reduceLE, eGraph, hMh, hCh, hIso]) ?_))
    all_goals (refine Seg.run htt 1 (by simp only [go_sem, reduceIte, Nat.reduceEqDiff, reduceCtorEq, Nat.reduceAdd, Nat.reduceLT, Nat.reduceLeDiff, Nat.reduceBEq, Nat.reduceSub, Nat.reduceMul, Int.reduceToNat, Int.reduceLE, eGraph, hMh, hCh, hIso]; exact rfl) ?_)
    all_goals (first | (refine Seg.skip ?_ ?_; next => (simp only [go_sem, reduceIte, Nat.reduceEqDiff, reduceCtorEq, Nat.reduceAdd, Nat.reduceLT, Nat.reduceLeDiff, Nat.reduceBEq, Nat.reduceSub, Nat.reduceMul, Int.reduceToNat, Int.reduceLE]; done)) | (refine Seg.callA (canon_Canon up (renamed g bs)) (by simp only [go_sem, reduceIte, Nat.reduceEqDiff, reduceCtorEq, Nat.reduceAdd, Nat.reduceLT, Nat.reduceLeDiff, Nat.reduceBEq, Nat.reduceSub, Nat.reduceMul, Int.reduceToNat, Int.reduceLE, eGraph, hMh, hCh, hIso]) (by simp only [go_sem, reduceIte, Nat.reduceEqDiff, reduceCtorEq, Nat.reduceAdd, Nat.reduceLT, Nat.reduceLeDiff, Nat.reduceBEq, Nat.reduceSub, Nat.reduceMul, Int.reduceToNat, Int.reduceLE, eGraph, hMh, hCh, hIso]; first | done | exact rfl) (by simp only [go_sem, reduceIte, Nat.reduceEqDiff, reduceCtorEq, Nat.reduceAdd, Nat.reduceLT, Nat.reduceLeDiff, Nat.reduceBEq, Nat.reduceSub, Nat.reduceMul, Int.reduceToNat, Int.reduceLE, eGraph, hMh, hCh, hIso]) (by simp only [go_sem, reduceIte, Nat.reduceEqDiff, reduceCtorEq, Nat.reduceAdd, Nat.reduceLT, Nat.reduceLeDiff, Nat.reduceBEq, Nat.reduceSub, Nat.reduceMul, Int.reduceToNat, Int.reduceLE, eGraph, hMh, hCh, hIso]) ?_))
    all_goals (first | (refine Seg.skip ?_ ?_; next => (simp only [go_sem, reduceIte, Nat.reduceEqDiff, reduceCtorEq, Nat.reduceAdd, Nat.reduceLT, Nat.reduceLeDiff, Nat.reduceBEq, Nat.reduceSub, Nat.reduceMul, Int.reduceToNat, Int.reduceLE]; done)) | (refine Seg.call (graph_Same up (gCanon g) (gCanon (renamed g bs))) (by simp only [go_sem, reduceIte, Nat.reduceEqDiff, reduceCtorEq, Nat.reduceAdd, Nat.reduceLT, Nat.reduceLeDiff, Nat.reduceBEq, Nat.reduceSub, Nat.reduceMul, Int.reduceToNat, Int.reduceLE, eGraph, hMh, hCh, hIso]) (by simp only [go_sem, reduceIte, Nat.reduceEqDiff, reduceCtorEq, Nat.reduceAdd, Nat.reduceLT, Nat.reduceLeDiff, Nat.reduceBEq, Nat.reduceSub, Nat.reduceMul, Int.reduceToNat, Int.reduceLE, eGraph, hMh, hCh, hIso]; first | done | exact rfl) (by simp only [go_sem, reduceIte, Nat.reduceEqDiff, reduceCtorEq, Nat.reduceAdd, Nat.reduceLT, Nat.reduceLeDiff, Nat.reduceBEq, Nat.reduceSub, Nat.reduceMul, Int.reduceToNat, Int.reduceLE, eGraph, hMh, hCh, hIso]) (by simp only [go_sem, reduceIte, Nat.reduceEqDiff, reduceCtorEq, Nat.reduceAdd, Nat.reduceLT, Nat.reduceLeDiff, Nat.reduceBEq, Nat.reduceSub, Nat.reduceMul, Int.reduceToNat, Int.reduceLE, eGraph, hMh, hCh, hIso]) rfl ?_))
    all_goals (refine Seg.run htt 2 (by simp only [go_sem, reduceIte, Nat.reduceEqDiff, reduceCtorEq, Nat.reduceAdd, Nat.reduceLT, Nat.reduceLeDiff, Nat.reduceBEq, Nat.reduceSub, Nat.reduceMul, Int.reduceToNat, Int.reduceLE, eGraph, hMh, hCh, hIso]; exact rfl) ?_)
    all_goals (first | refine Seg.guard 35 (by simp only [go_sem, reduceIte, Nat.reduceEqDiff, reduceCtorEq, Nat.reduceAdd, Nat.reduceLT, Nat.reduceLeDiff, Nat.reduceBEq, Nat.reduceSub, Nat.reduceMul, Int.reduceToNat, Int.reduceLE, eGraph, hMh, hCh, hIso]; exact rfl) (fun g35 => ?_) (fun g35 => ?_) | skip)
    all_goals (try contradiction)
    all_goals (refine Seg.run htt 2 (by simp only [go_sem, reduceIte, Nat.reduceEqDiff, reduceCtorEq, Nat.reduceAdd, Nat.reduceLT, Nat.reduceLeDiff, Nat.reduceBEq, Nat.reduceSub, Nat.reduceMul, Int.reduceToNat, Int.reduceLE, eGraph, hMh, hCh, hIso]; exact rfl) ?_)
    all_goals (refine Seg.done ?_)
    all_goals (first | (refine CWops.skip ?_ ?_; next => (simp only [go_sem, reduceIte, Nat.reduceEqDiff, reduceCtorEq, Nat.reduceAdd, Nat.reduceLT, Nat.reduceLeDiff, Nat.reduceBEq, Nat.reduceSub, Nat.reduceMul, Int.reduceToNat, Int.reduceLE]; done)) | (refine CWops.call (canon_Iso up g (renamed g bs)) (by simp only [go_sem, reduceIte, Nat.reduceEqDiff, reduceCtorEq, Nat.reduceAdd, Nat.reduceLT, Nat.reduceLeDiff, Nat.reduceBEq, Nat.reduceSub, Nat.reduceMul, Int.reduceToNat, Int.reduceLE, eGraph, hMh, hCh, hIso]) (by simp only [go_sem, reduceIte, Nat.reduceEqDiff, reduceCtorEq, Nat.reduceAdd, Nat.reduceLT, Nat.reduceLeDiff, Nat.reduceBEq, Nat.reduceSub, Nat.reduceMul, Int.reduceToNat, Int.reduceLE, eGraph, hMh, hCh, hIso]; first | done | exact rfl) (by simp only [go_sem, reduceIte, Nat.reduceEqDiff, reduceCtorEq, Nat.reduceAdd, Nat.reduceLT, Nat.reduceLeDiff, Nat.reduceBEq, Nat.reduceSub, Nat.reduceMul, Int.reduceToNat, Int.reduceLE, eGraph, hMh, hCh, hIso]) (fun rt38 hrt38 => ?_); subst hrt38; refine ⟨rfl, ?_⟩))
    all_goals (refine CWops.run htt 2 (by simp only [go_sem, reduceIte, Nat.reduceEqDiff, reduceCtorEq, Nat.reduceAdd, Nat.reduceLT, Nat.reduceLeDiff, Nat.reduceBEq, Nat.reduceSub, Nat.reduceMul, Int.reduceToNat, Int.reduceLE, eGraph, hMh, hCh, hIso]; exact rfl) (by simp [go_sem, reduceIte, Nat.reduceEqDiff, reduceCtorEq, Nat.reduceAdd, Nat.reduceLT, Nat.reduceLeDiff, Nat.reduceBEq, Nat.reduceSub, Nat.reduceMul, Int.reduceToNat, Int.reduceLE, eGraph, hMh, hCh, hIso]) ?_)
    all_goals (refine CWops.done ?_)
    all_goals (
      refine CW.ret ?_
      refine retQ.ret (by simp only [f4, go_sem, reduceIte, Nat.reduceEqDiff, reduceCtorEq, Nat.reduceAdd, Nat.reduceLT, Nat.reduceLeDiff, Nat.reduceBEq, Nat.reduceSub, Nat.reduceMul, Int.reduceToNat, Int.reduceLE]; exact rfl) (by simp only [go_sem, reduceIte, Nat.reduceEqDiff, reduceCtorEq, Nat.reduceAdd, Nat.reduceLT, Nat.reduceLeDiff, Nat.reduceBEq, Nat.reduceSub, Nat.reduceMul, Int.reduceToNat, Int.reduceLE]; exact rfl) ?_ -- ret2
      refine ⟨_, ?_, rfl⟩
      simp_all [leP])
end Go.Ab

namespace Go.Proofs.Ytkfdkamdkdjkgaa
open Go.ChangeShapes Go.WideShapes Go.ChangeAt Go.RowKit
set_option maxRecDepth 100000


theorem canonIds_lifted (os : Os) (started : os.Started) (H : Type) (enc : TypeId × Value → H) :
    ReturnsInHanded {} Try.checked os 4 .any (Rows.canonIdsSpec.pre6 enc Try.prog Try.f4 Rows.canonIdsRow.domain false) (Rows.canonIdsSpec.post enc Try.prog Try.f4 false true false false) := by
  refine Ab.law_row (C := Try.checked) (tb := 4) Ab.own0 started (by kernel_rfl) Try.func4 (ChangeSpec.witness6 (enc := enc) (C := Try.checked) false ⟨#[], #[.agg #[.slice none 0 0, .slice none 0 0, .slice none 0 0], .slice none 0 0], []⟩ 8 (by kernel_rfl) (by kernel_rfl) (by kernel_rfl) (by kernel_rfl)) Ab.laid0 ?_ rfl Try.underlying4 rfl ?_ (Ab.ArgsOK.cons Ab.arg_Graph (Ab.ArgsOK.cons Ab.arg_Ints Ab.ArgsOK.nil)) ?_
  · intro t ht
    rw [Try.params4] at ht
    simp only [List.mem_cons, List.not_mem_nil, or_false] at ht
    rcases ht with rfl | rfl <;> exact ⟨by kernel_rfl, Nat.le_of_ble_eq_true (by kernel_rfl)⟩
  · intro ds hd
    rw [Try.params4] at hd
    obtain ⟨d0, d1, rfl⟩ : ∃ d0, ∃ d1, ds = [d0, d1] := by
      match ds, hd with
      | [d0, d1], _ => exact ⟨d0, d1, rfl⟩
    rfl
  · rintro _ ⟨a0, _, w0, ⟨a1, _, w1, rfl, rfl⟩, rfl⟩
    exact Ab.law09_CanonIds false a0 a1
theorem canonIds_holds : Rows.CanonIdsSaid :=
  OpenClaim.holds_of_wide 4 Try.f4 rfl rfl rfl rfl rfl rfl rfl ⟨rfl, rfl, rfl, rfl, rfl⟩ rfl rfl rfl rfl rfl (by kernel_rfl) Try.func4 (by kernel_rfl)
    (of_decide_eq_true (by kernel_rfl)) (by unfold Func.isWrapper; first | (rw [if_pos (by decide +kernel)]; kernel_rfl) | (rw [if_neg (by decide +kernel)]; exact ⟨rfl, rfl⟩))
    (fun os started H enc _ => canonIds_lifted os started H enc)

end Go.Proofs.Ytkfdkamdkdjkgaa

