/-
  The law CanonFields answers true, whatever the graph and the two numbers; its arguments read as they did. No condition.
-/
import Derived.Test.YtkfdkamdkdjkgaaProg
import Derived.Test.YtkfdkamdkdjkgaaRows
import Derived.Test.YtkfdkamdkdjkgaaWc
import Derived.Test.YtkfdkamdkdjkgaaFd
import Derived.Test.YtkfdkamdkdjkgaaWd
set_option linter.unusedVariables false
set_option linter.unusedSimpArgs false
namespace Go.Ab
open Go Go.Proofs.Try
set_option maxRecDepth 100000
set_option linter.unusedSimpArgs false
set_option linter.unusedVariables false


theorem law09_CanonFields (up : Bool) (g : Graph) (i k : Int) : PCall prog up 6 [.agg (eGraph g), .int .i64 i, .int .i64 k] (· = .bool true) := by
  refine PCall.intro htt func6 (by kernel_rfl) rfl (Nat.le_of_ble_eq_true rfl) fun hl => ?_

  simp only [tmps0, Nat.reduceAdd]
  refine CW.seq ?_
  refine CW.region (by kernel_rfl) (by kernel_rfl) ?_ -- r0
  refine CWops.run htt 2 (by simp only [go_sem, reduceIte, Nat.reduceEqDiff, reduceCtorEq, Nat.reduceAdd, Nat.reduceLT, Nat.reduceLeDiff, Nat.reduceBEq, Nat.reduceSub, Nat.reduceMul, Int.reduceToNat, Int.reduceLE, eGraph]; exact rfl) (by simp [go_sem, reduceIte, Nat.reduceEqDiff, reduceCtorEq, Nat.reduceAdd, Nat.reduceLT, Nat.reduceLeDiff, Nat.reduceBEq, Nat.reduceSub, Nat.reduceMul, Int.reduceToNat, Int.reduceLE, eGraph]) ?_
  refine CWops.done ?_
  refine CW.seq ?_
  refine CW.region (by kernel_rfl) (by kernel_rfl) ?_ -- r1
  refine CWops.callA (law09_awake up) (by simp only [go_sem, reduceIte, Nat.reduceEqDiff, reduceCtorEq, Nat.reduceAdd, Nat.reduceLT, Nat.reduceLeDiff, Nat.reduceBEq, Nat.reduceSub, Nat.reduceMul, Int.reduceToNat, Int.reduceLE]) (by simp only [go_sem, reduceIte, Nat.reduceEqDiff, reduceCtorEq, Nat.reduceAdd, Nat.reduceLT, Nat.reduceLeDiff, Nat.reduceBEq, Nat.reduceSub, Nat.reduceMul, Int.reduceToNat, Int.reduceLE]; first | done | exact rfl) (by simp only [go_sem, reduceIte, Nat.reduceEqDiff, reduceCtorEq, Nat.reduceAdd, Nat.reduceLT, Nat.reduceLeDiff, Nat.reduceBEq, Nat.reduceSub, Nat.reduceMul, Int.reduceToNat, Int.reduceLE]) (by simp only [go_sem, reduceIte, Nat.reduceEqDiff, reduceCtorEq, Nat.reduceAdd, Nat.reduceLT, Nat.reduceLeDiff, Nat.reduceBEq, Nat.reduceSub, Nat.reduceMul, Int.reduceToNat, Int.reduceLE]) (fun rt14 hrt14 => ?_)
  subst hrt14
  refine CWops.run htt 1 (by simp only [go_sem, reduceIte, Nat.reduceEqDiff, reduceCtorEq, Nat.reduceAdd, Nat.reduceLT, Nat.reduceLeDiff, Nat.reduceBEq, Nat.reduceSub, Nat.reduceMul, Int.reduceToNat, Int.reduceLE]; exact rfl) (by simp [go_sem, reduceIte, Nat.reduceEqDiff, reduceCtorEq, Nat.reduceAdd, Nat.reduceLT, Nat.reduceLeDiff, Nat.reduceBEq, Nat.reduceSub, Nat.reduceMul, Int.reduceToNat, Int.reduceLE]) ?_
  refine CWops.done ?_
  refine CW.seq ?_
  refine CW.region (by kernel_rfl) (by kernel_rfl) ?_ -- r2
  refine CWops.run htt 1 (by simp only [go_sem, reduceIte, Nat.reduceEqDiff, reduceCtorEq, Nat.reduceAdd, Nat.reduceLT, Nat.reduceLeDiff, Nat.reduceBEq, Nat.reduceSub, Nat.reduceMul, Int.reduceToNat, Int.reduceLE, eGraph]; exact rfl) (by simp [go_sem, reduceIte, Nat.reduceEqDiff, reduceCtorEq, Nat.reduceAdd, Nat.reduceLT, Nat.reduceLeDiff, Nat.reduceBEq, Nat.reduceSub, Nat.reduceMul, Int.reduceToNat, Int.reduceLE, eGraph]) ?_
  refine CWops.call (law08_Few up g) (by simp only [go_sem, reduceIte, Nat.reduceEqDiff, reduceCtorEq, Nat.reduceAdd, Nat.reduceLT, Nat.reduceLeDiff, Nat.reduceBEq, Nat.reduceSub, Nat.reduceMul, Int.reduceToNat, Int.reduceLE, eGraph]) (by simp only [go_sem, reduceIte, Nat.reduceEqDiff, reduceCtorEq, Nat.reduceAdd, Nat.reduceLT, Nat.reduceLeDiff, Nat.reduceBEq, Nat.reduceSub, Nat.reduceMul, Int.reduceToNat, Int.reduceLE, eGraph]; first | done | exact rfl) (by simp only [go_sem, reduceIte, Nat.reduceEqDiff, reduceCtorEq, Nat.reduceAdd, Nat.reduceLT, Nat.reduceLeDiff, Nat.reduceBEq, Nat.reduceSub, Nat.reduceMul, Int.reduceToNat, Int.reduceLE, eGraph]) (fun rt16 hrt16 => ?_)
  subst hrt16; refine ⟨rfl, ?_⟩
  refine CWops.run htt 1 (by simp only [go_sem, reduceIte, Nat.reduceEqDiff, reduceCtorEq, Nat.reduceAdd, Nat.reduceLT, Nat.reduceLeDiff, Nat.reduceBEq, Nat.reduceSub, Nat.reduceMul, Int.reduceToNat, Int.reduceLE, eGraph]; exact rfl) (by simp [go_sem, reduceIte, Nat.reduceEqDiff, reduceCtorEq, Nat.reduceAdd, Nat.reduceLT, Nat.reduceLeDiff, Nat.reduceBEq, Nat.reduceSub, Nat.reduceMul, Int.reduceToNat, Int.reduceLE, eGraph]) ?_
  refine CWops.done ?_
  refine CW.seq ?_
  refine CW.cut ⟨1, [(1, .int .i64 i), (2, .int .i64 k), (3, .lv 0 [] 0), (7, .bool true), (27, .bool (!(fewG g && gMay g)))], [(0, ⟨true, eGraph g⟩)]⟩ ?_ ?_
  · refine CW.region (by kernel_rfl) (by kernel_rfl) ?_ -- r3
    refine CWops.run htt 3 (by simp only [go_sem, reduceIte, Nat.reduceEqDiff, reduceCtorEq, Nat.reduceAdd, Nat.reduceLT, Nat.reduceLeDiff, Nat.reduceBEq, Nat.reduceSub, Nat.reduceMul, Int.reduceToNat, Int.reduceLE, eGraph]; exact rfl) (by simp [go_sem, reduceIte, Nat.reduceEqDiff, reduceCtorEq, Nat.reduceAdd, Nat.reduceLT, Nat.reduceLeDiff, Nat.reduceBEq, Nat.reduceSub, Nat.reduceMul, Int.reduceToNat, Int.reduceLE, eGraph]) ?_
    all_goals (first | refine CWops.guard 19 (by simp only [go_sem, reduceIte, Nat.reduceEqDiff, reduceCtorEq, Nat.reduceAdd, Nat.reduceLT, Nat.reduceLeDiff, Nat.reduceBEq, Nat.reduceSub, Nat.reduceMul, Int.reduceToNat, Int.reduceLE, eGraph]; exact rfl) (fun g19 => ?_) (fun g19 => ?_) | skip)
    all_goals (refine CWops.run htt 4 (by simp only [go_sem, reduceIte, Nat.reduceEqDiff, reduceCtorEq, Nat.reduceAdd, Nat.reduceLT, Nat.reduceLeDiff, Nat.reduceBEq, Nat.reduceSub, Nat.reduceMul, Int.reduceToNat, Int.reduceLE, eGraph]; exact rfl) (by simp [go_sem, reduceIte, Nat.reduceEqDiff, reduceCtorEq, Nat.reduceAdd, Nat.reduceLT, Nat.reduceLeDiff, Nat.reduceBEq, Nat.reduceSub, Nat.reduceMul, Int.reduceToNat, Int.reduceLE, eGraph]) ?_)
    all_goals (first | refine CWops.guard 23 (by simp only [go_sem, reduceIte, Nat.reduceEqDiff, reduceCtorEq, Nat.reduceAdd, Nat.reduceLT, Nat.reduceLeDiff, Nat.reduceBEq, Nat.reduceSub, Nat.reduceMul, Int.reduceToNat, Int.reduceLE, eGraph]; exact rfl) (fun g23 => ?_) (fun g23 => ?_) | skip)
    all_goals (refine CWops.run htt 1 (by simp only [go_sem, reduceIte, Nat.reduceEqDiff, reduceCtorEq, Nat.reduceAdd, Nat.reduceLT, Nat.reduceLeDiff, Nat.reduceBEq, Nat.reduceSub, Nat.reduceMul, Int.reduceToNat, Int.reduceLE, eGraph]; exact rfl) (by simp [go_sem, reduceIte, Nat.reduceEqDiff, reduceCtorEq, Nat.reduceAdd, Nat.reduceLT, Nat.reduceLeDiff, Nat.reduceBEq, Nat.reduceSub, Nat.reduceMul, Int.reduceToNat, Int.reduceLE, eGraph]) ?_)
    all_goals (first | (refine CWops.skip ?_ ?_; next => (simp only [go_sem, reduceIte, Nat.reduceEqDiff, reduceCtorEq, Nat.reduceAdd, Nat.reduceLT, Nat.reduceLeDiff, Nat.reduceBEq, Nat.reduceSub, Nat.reduceMul, Int.reduceToNat, Int.reduceLE]; done)) | (refine CWops.call (graph_May up g) (by simp only [go_sem, reduceIte, Nat.reduceEqDiff, reduceCtorEq, Nat.reduceAdd, Nat.reduceLT, Nat.reduceLeDiff, Nat.reduceBEq, Nat.reduceSub, Nat.reduceMul, Int.reduceToNat, Int.reduceLE, eGraph]) (by simp only [go_sem, reduceIte, Nat.reduceEqDiff, reduceCtorEq, Nat.reduceAdd, Nat.reduceLT, Nat.reduceLeDiff, Nat.reduceBEq, Nat.reduceSub, Nat.reduceMul, Int.reduceToNat, Int.reduceLE, eGraph]; first | done | exact rfl) (by simp only [go_sem, reduceIte, Nat.reduceEqDiff, reduceCtorEq, Nat.reduceAdd, Nat.reduceLT, Nat.reduceLeDiff, Nat.reduceBEq, Nat.reduceSub, Nat.reduceMul, Int.reduceToNat, Int.reduceLE, eGraph]) (fun rt25 hrt25 => ?_); subst hrt25; refine ⟨rfl, ?_⟩))
    all_goals (refine CWops.run htt 2 (by simp only [go_sem, reduceIte, Nat.reduceEqDiff, reduceCtorEq, Nat.reduceAdd, Nat.reduceLT, Nat.reduceLeDiff, Nat.reduceBEq, Nat.reduceSub, Nat.reduceMul, Int.reduceToNat, Int.reduceLE, eGraph]; exact rfl) (by simp [go_sem, reduceIte, Nat.reduceEqDiff, reduceCtorEq, Nat.reduceAdd, Nat.reduceLT, Nat.reduceLeDiff, Nat.reduceBEq, Nat.reduceSub, Nat.reduceMul, Int.reduceToNat, Int.reduceLE, eGraph]) ?_)
    all_goals (refine CWops.done ?_)
    all_goals (
      refine ⟨rfl, Sh.wk0 ?_⟩
      simp_all [Wk, go_sem, reduceIte, Nat.reduceEqDiff, reduceCtorEq, Nat.reduceAdd, Nat.reduceLT, Nat.reduceLeDiff, Nat.reduceBEq, Nat.reduceSub, Nat.reduceMul, Int.reduceToNat, Int.reduceLE, eGraph] <;> first | done | omega | rfl | (rw [Bool.eq_iff_iff]; done) | (rw [Bool.eq_iff_iff]; simp; done) | (rw [Bool.eq_iff_iff]; simp; omega))
  refine CW.cond (by simp only [go_sem, reduceIte, Nat.reduceEqDiff, reduceCtorEq, Nat.reduceAdd, Nat.reduceLT, Nat.reduceLeDiff, Nat.reduceBEq, Nat.reduceSub, Nat.reduceMul, Int.reduceToNat, Int.reduceLE]; first | done | exact rfl) (fun ct27 => ?_) (fun ct27 => ?_)
  · refine CW.seq ?_
    refine CW.region (by kernel_rfl) (by kernel_rfl) ?_ -- r4
    refine CWops.run htt 2 (by simp only [go_sem, reduceIte, Nat.reduceEqDiff, reduceCtorEq, Nat.reduceAdd, Nat.reduceLT, Nat.reduceLeDiff, Nat.reduceBEq, Nat.reduceSub, Nat.reduceMul, Int.reduceToNat, Int.reduceLE]; exact rfl) (by simp [go_sem, reduceIte, Nat.reduceEqDiff, reduceCtorEq, Nat.reduceAdd, Nat.reduceLT, Nat.reduceLeDiff, Nat.reduceBEq, Nat.reduceSub, Nat.reduceMul, Int.reduceToNat, Int.reduceLE]) ?_
    refine CWops.done ?_
    refine CW.ret ?_
    refine retQ.ret (by simp only [f6, go_sem, reduceIte, Nat.reduceEqDiff, reduceCtorEq, Nat.reduceAdd, Nat.reduceLT, Nat.reduceLeDiff, Nat.reduceBEq, Nat.reduceSub, Nat.reduceMul, Int.reduceToNat, Int.reduceLE]; exact rfl) (by simp only [go_sem, reduceIte, Nat.reduceEqDiff, reduceCtorEq, Nat.reduceAdd, Nat.reduceLT, Nat.reduceLeDiff, Nat.reduceBEq, Nat.reduceSub, Nat.reduceMul, Int.reduceToNat, Int.reduceLE]; exact rfl) ?_ -- ret1
    refine ⟨_, ?_, rfl⟩
    simp [leP]
  · simp only [Bool.not_eq_false', Bool.and_eq_true] at ct27
    have hm := (may_iff g).1 ct27.2
    have hO : gOrder g = order g := by unfold gOrder; rw [if_pos ct27.2]
    have hC : gCanon g = canonG g := by unfold gCanon; rw [if_pos ct27.2]
    have hG := hm.order
    refine CW.skip ?_
    refine CW.seq ?_
    refine CW.region (by kernel_rfl) (by kernel_rfl) ?_ -- r5
    refine CWops.run htt 1 (by simp only [go_sem, reduceIte, Nat.reduceEqDiff, reduceCtorEq, Nat.reduceAdd, Nat.reduceLT, Nat.reduceLeDiff, Nat.reduceBEq, Nat.reduceSub, Nat.reduceMul, Int.reduceToNat, Int.reduceLE, eGraph, hO]; exact rfl) (by simp [go_sem, reduceIte, Nat.reduceEqDiff, reduceCtorEq, Nat.reduceAdd, Nat.reduceLT, Nat.reduceLeDiff, Nat.reduceBEq, Nat.reduceSub, Nat.reduceMul, Int.reduceToNat, Int.reduceLE, eGraph, hO]) ?_
    refine CWops.callA (canon_Order up g) (by simp only [go_sem, reduceIte, Nat.reduceEqDiff, reduceCtorEq, Nat.reduceAdd, Nat.reduceLT, Nat.reduceLeDiff, Nat.reduceBEq, Nat.reduceSub, Nat.reduceMul, Int.reduceToNat, Int.reduceLE, eGraph, hO]) (by simp only [go_sem, reduceIte, Nat.reduceEqDiff, reduceCtorEq, Nat.reduceAdd, Nat.reduceLT, Nat.reduceLeDiff, Nat.reduceBEq, Nat.reduceSub, Nat.reduceMul, Int.reduceToNat, Int.reduceLE, eGraph, hO]; first | done | exact rfl) (by simp only [go_sem, reduceIte, Nat.reduceEqDiff, reduceCtorEq, Nat.reduceAdd, Nat.reduceLT, Nat.reduceLeDiff, Nat.reduceBEq, Nat.reduceSub, Nat.reduceMul, Int.reduceToNat, Int.reduceLE, eGraph, hO]) (by simp only [go_sem, reduceIte, Nat.reduceEqDiff, reduceCtorEq, Nat.reduceAdd, Nat.reduceLT, Nat.reduceLeDiff, Nat.reduceBEq, Nat.reduceSub, Nat.reduceMul, Int.reduceToNat, Int.reduceLE, eGraph, hO]) (fun rt30 hrt30 => ?_)
    subst hrt30
    refine CWops.run htt 1 (by simp only [go_sem, reduceIte, Nat.reduceEqDiff, reduceCtorEq, Nat.reduceAdd, Nat.reduceLT, Nat.reduceLeDiff, Nat.reduceBEq, Nat.reduceSub, Nat.reduceMul, Int.reduceToNat, Int.reduceLE, eGraph, hO]; exact rfl) (by simp [go_sem, reduceIte, Nat.reduceEqDiff, reduceCtorEq, Nat.reduceAdd, Nat.reduceLT, Nat.reduceLeDiff, Nat.reduceBEq, Nat.reduceSub, Nat.reduceMul, Int.reduceToNat, Int.reduceLE, eGraph, hO]) ?_
    refine CWops.done ?_
    refine CW.seq ?_
    refine CW.region (by kernel_rfl) (by kernel_rfl) ?_ -- r6
    refine CWops.run htt 1 (by simp only [go_sem, reduceIte, Nat.reduceEqDiff, reduceCtorEq, Nat.reduceAdd, Nat.reduceLT, Nat.reduceLeDiff, Nat.reduceBEq, Nat.reduceSub, Nat.reduceMul, Int.reduceToNat, Int.reduceLE, eGraph, hC]; exact rfl) (by simp [go_sem, reduceIte, Nat.reduceEqDiff, reduceCtorEq, Nat.reduceAdd, Nat.reduceLT, Nat.reduceLeDiff, Nat.reduceBEq, Nat.reduceSub, Nat.reduceMul, Int.reduceToNat, Int.reduceLE, eGraph, hC]) ?_
    refine CWops.callA (canon_Canon up g) (by simp only [go_sem, reduceIte, Nat.reduceEqDiff, reduceCtorEq, Nat.reduceAdd, Nat.reduceLT, Nat.reduceLeDiff, Nat.reduceBEq, Nat.reduceSub, Nat.reduceMul, Int.reduceToNat, Int.reduceLE, eGraph, hC]) (by simp only [go_sem, reduceIte, Nat.reduceEqDiff, reduceCtorEq, Nat.reduceAdd, Nat.reduceLT, Nat.reduceLeDiff, Nat.reduceBEq, Nat.reduceSub, Nat.reduceMul, Int.reduceToNat, Int.reduceLE, eGraph, hC]; first | done | exact rfl) (by simp only [go_sem, reduceIte, Nat.reduceEqDiff, reduceCtorEq, Nat.reduceAdd, Nat.reduceLT, Nat.reduceLeDiff, Nat.reduceBEq, Nat.reduceSub, Nat.reduceMul, Int.reduceToNat, Int.reduceLE, eGraph, hC]) (by simp only [go_sem, reduceIte, Nat.reduceEqDiff, reduceCtorEq, Nat.reduceAdd, Nat.reduceLT, Nat.reduceLeDiff, Nat.reduceBEq, Nat.reduceSub, Nat.reduceMul, Int.reduceToNat, Int.reduceLE, eGraph, hC]) (fun rt32 hrt32 => ?_)
    subst hrt32
    refine CWops.run htt 2 (by simp only [go_sem, reduceIte, Nat.reduceEqDiff, reduceCtorEq, Nat.reduceAdd, Nat.reduceLT, Nat.reduceLeDiff, Nat.reduceBEq, Nat.reduceSub, Nat.reduceMul, Int.reduceToNat, Int.reduceLE, eGraph, hC]; exact rfl) (by simp [go_sem, reduceIte, Nat.reduceEqDiff, reduceCtorEq, Nat.reduceAdd, Nat.reduceLT, Nat.reduceLeDiff, Nat.reduceBEq, Nat.reduceSub, Nat.reduceMul, Int.reduceToNat, Int.reduceLE, eGraph, hC]) ?_
    refine CWops.done ?_
    refine CW.seq ?_
    refine CW.cut ⟨2, [(1, .int .i64 i), (2, .int .i64 k), (3, .lv 0 [] 0), (9, .sl 1 ((order g).map eI)), (10, .lv 1 [] 0), (48, .bool (!(decide (0 ≤ i) && decide (i < (order g).length))))], [(0, ⟨true, eGraph g⟩), (1, ⟨true, eGraph (canonG g)⟩)]⟩ ?_ ?_
    · refine CW.region (by kernel_rfl) (by kernel_rfl) ?_ -- r7
      refine CWops.run htt 7 (by simp only [go_sem, reduceIte, Nat.reduceEqDiff, reduceCtorEq, Nat.reduceAdd, Nat.reduceLT, Nat.reduceLeDiff, Nat.reduceBEq, Nat.reduceSub, Nat.reduceMul, Int.reduceToNat, Int.reduceLE, eGraph, canonG, List.length_map, canonL_len]; exact rfl) (by simp [go_sem, reduceIte, Nat.reduceEqDiff, reduceCtorEq, Nat.reduceAdd, Nat.reduceLT, Nat.reduceLeDiff, Nat.reduceBEq, Nat.reduceSub, Nat.reduceMul, Int.reduceToNat, Int.reduceLE, eGraph, canonG, List.length_map, canonL_len]) ?_
      all_goals (first | refine CWops.guard 39 (by simp only [go_sem, reduceIte, Nat.reduceEqDiff, reduceCtorEq, Nat.reduceAdd, Nat.reduceLT, Nat.reduceLeDiff, Nat.reduceBEq, Nat.reduceSub, Nat.reduceMul, Int.reduceToNat, Int.reduceLE, eGraph, canonG, List.length_map, canonL_len]; exact rfl) (fun g39 => ?_) (fun g39 => ?_) | skip)
      all_goals (try (exfalso; simp at g39 <;> omega))
      all_goals (refine CWops.run htt 4 (by simp only [go_sem, reduceIte, Nat.reduceEqDiff, reduceCtorEq, Nat.reduceAdd, Nat.reduceLT, Nat.reduceLeDiff, Nat.reduceBEq, Nat.reduceSub, Nat.reduceMul, Int.reduceToNat, Int.reduceLE, eGraph, canonG, List.length_map, canonL_len]; exact rfl) (by simp [go_sem, reduceIte, Nat.reduceEqDiff, reduceCtorEq, Nat.reduceAdd, Nat.reduceLT, Nat.reduceLeDiff, Nat.reduceBEq, Nat.reduceSub, Nat.reduceMul, Int.reduceToNat, Int.reduceLE, eGraph, canonG, List.length_map, canonL_len]) ?_)
      all_goals (first | refine CWops.guard 43 (by simp only [go_sem, reduceIte, Nat.reduceEqDiff, reduceCtorEq, Nat.reduceAdd, Nat.reduceLT, Nat.reduceLeDiff, Nat.reduceBEq, Nat.reduceSub, Nat.reduceMul, Int.reduceToNat, Int.reduceLE, eGraph, canonG, List.length_map, canonL_len]; exact rfl) (fun g43 => ?_) (fun g43 => ?_) | skip)
      all_goals (skip)
      all_goals (refine CWops.run htt 5 (by simp only [go_sem, reduceIte, Nat.reduceEqDiff, reduceCtorEq, Nat.reduceAdd, Nat.reduceLT, Nat.reduceLeDiff, Nat.reduceBEq, Nat.reduceSub, Nat.reduceMul, Int.reduceToNat, Int.reduceLE, eGraph, canonG, List.length_map, canonL_len]; exact rfl) (by simp [go_sem, reduceIte, Nat.reduceEqDiff, reduceCtorEq, Nat.reduceAdd, Nat.reduceLT, Nat.reduceLeDiff, Nat.reduceBEq, Nat.reduceSub, Nat.reduceMul, Int.reduceToNat, Int.reduceLE, eGraph, canonG, List.length_map, canonL_len]) ?_)
      all_goals (refine CWops.done ?_)
      all_goals (
        refine ⟨rfl, Sh.wk0 ?_⟩
        simp_all [Wk, go_sem, reduceIte, Nat.reduceEqDiff, reduceCtorEq, Nat.reduceAdd, Nat.reduceLT, Nat.reduceLeDiff, Nat.reduceBEq, Nat.reduceSub, Nat.reduceMul, Int.reduceToNat, Int.reduceLE, eGraph, canonG] <;> first | done | omega | rfl | (rw [Bool.eq_iff_iff]; done) | (rw [Bool.eq_iff_iff]; simp; done) | (rw [Bool.eq_iff_iff]; simp; omega))
    refine CW.cond (by simp only [go_sem, reduceIte, Nat.reduceEqDiff, reduceCtorEq, Nat.reduceAdd, Nat.reduceLT, Nat.reduceLeDiff, Nat.reduceBEq, Nat.reduceSub, Nat.reduceMul, Int.reduceToNat, Int.reduceLE]; first | done | exact rfl) (fun ct48 => ?_) (fun ct48 => ?_)
    · refine CW.seq ?_
      refine CW.region (by kernel_rfl) (by kernel_rfl) ?_ -- r8
      refine CWops.run htt 7 (by simp only [go_sem, reduceIte, Nat.reduceEqDiff, reduceCtorEq, Nat.reduceAdd, Nat.reduceLT, Nat.reduceLeDiff, Nat.reduceBEq, Nat.reduceSub, Nat.reduceMul, Int.reduceToNat, Int.reduceLE, eGraph, canonG, List.length_map, canonL_len]; exact rfl) (by simp [go_sem, reduceIte, Nat.reduceEqDiff, reduceCtorEq, Nat.reduceAdd, Nat.reduceLT, Nat.reduceLeDiff, Nat.reduceBEq, Nat.reduceSub, Nat.reduceMul, Int.reduceToNat, Int.reduceLE, eGraph, canonG, List.length_map, canonL_len]) ?_
      refine CWops.done ?_
      refine CW.ret ?_
      refine retQ.ret (by simp only [f6, go_sem, reduceIte, Nat.reduceEqDiff, reduceCtorEq, Nat.reduceAdd, Nat.reduceLT, Nat.reduceLeDiff, Nat.reduceBEq, Nat.reduceSub, Nat.reduceMul, Int.reduceToNat, Int.reduceLE]; exact rfl) (by simp only [go_sem, reduceIte, Nat.reduceEqDiff, reduceCtorEq, Nat.reduceAdd, Nat.reduceLT, Nat.reduceLeDiff, Nat.reduceBEq, Nat.reduceSub, Nat.reduceMul, Int.reduceToNat, Int.reduceLE]; exact rfl) ?_ -- ret2
      refine ⟨_, ?_, rfl⟩
      simp [leP, canonL_len]
    · simp only [Bool.not_eq_false', Bool.and_eq_true, decide_eq_true_eq] at ct48
      obtain ⟨n, rfl⟩ := Int.eq_ofNat_of_zero_le ct48.1
      have hi : n < (order g).length := by have := ct48.2; omega
      obtain ⟨id, hid⟩ : ∃ x, (order g)[n]? = some x := ⟨(order g)[n], List.getElem?_eq_getElem hi⟩
      obtain ⟨p, ⟨oi, oT, oF⟩, hp, e1, hF1, hA, _⟩ := hm.find (hG.ids id (List.mem_of_getElem? hid))
      unfold gFind at hF1
      obtain ⟨_, t, hT, hmo⟩ := hm.objT hp
      obtain ⟨q, rfl⟩ := Int.eq_ofNat_of_zero_le (show 0 ≤ oT from hmo.t0)
      have ht : g.S[q]? = some t := by simpa using hmo.at_
      have hlen : oF.length = t.F.length := hmo.len
      have hpl := (List.getElem?_eq_some_iff.1 hp).1
      have hcg : (canonL g (order g) 0 (order g))[n]? = some ⟨n, q, List.zipWith (canonV (order g)) t.F oF⟩ := by rw [canonL_get g (order g) (order g) 0 n id hid, Nat.zero_add, canonO_of hA hT]
      have hzl : (List.zipWith (canonV (order g)) t.F oF).length = oF.length := by rw [List.length_zipWith]; omega
      refine CW.skip ?_
      refine CW.seq ?_
      refine CW.drawn mixed 5 (by decide) (by kernel_rfl) (by kernel_rfl) (by kernel_rfl) ?_ -- r9
      refine Seg.run htt 5 (by simp only [go_sem, reduceIte, Nat.reduceEqDiff, reduceCtorEq, Nat.reduceAdd, Nat.reduceLT, Nat.reduceLeDiff, Nat.reduceBEq, Nat.reduceSub, Nat.reduceMul, Int.reduceToNat, Int.reduceLE, eGraph, hO, hid, eI, hF1]; exact rfl) ?_
      refine Seg.done ?_
      refine CWops.call (graph_Find up g id) (by simp only [go_sem, reduceIte, Nat.reduceEqDiff, reduceCtorEq, Nat.reduceAdd, Nat.reduceLT, Nat.reduceLeDiff, Nat.reduceBEq, Nat.reduceSub, Nat.reduceMul, Int.reduceToNat, Int.reduceLE, eGraph, hO, hid, eI, hF1]) (by simp only [go_sem, reduceIte, Nat.reduceEqDiff, reduceCtorEq, Nat.reduceAdd, Nat.reduceLT, Nat.reduceLeDiff, Nat.reduceBEq, Nat.reduceSub, Nat.reduceMul, Int.reduceToNat, Int.reduceLE, eGraph, hO, hid, eI, hF1]; first | done | exact rfl) (by simp only [go_sem, reduceIte, Nat.reduceEqDiff, reduceCtorEq, Nat.reduceAdd, Nat.reduceLT, Nat.reduceLeDiff, Nat.reduceBEq, Nat.reduceSub, Nat.reduceMul, Int.reduceToNat, Int.reduceLE, eGraph, hO, hid, eI, hF1]) (fun rt60 hrt60 => ?_)
      subst hrt60; refine ⟨rfl, ?_⟩
      refine CWops.run htt 1 (by simp only [go_sem, reduceIte, Nat.reduceEqDiff, reduceCtorEq, Nat.reduceAdd, Nat.reduceLT, Nat.reduceLeDiff, Nat.reduceBEq, Nat.reduceSub, Nat.reduceMul, Int.reduceToNat, Int.reduceLE, eGraph, hO, hid, eI, hF1]; exact rfl) (by simp [go_sem, reduceIte, Nat.reduceEqDiff, reduceCtorEq, Nat.reduceAdd, Nat.reduceLT, Nat.reduceLeDiff, Nat.reduceBEq, Nat.reduceSub, Nat.reduceMul, Int.reduceToNat, Int.reduceLE, eGraph, hO, hid, eI, hF1]) ?_
      refine CWops.done ?_
      refine CW.seq ?_
      refine CW.cut ⟨2, [(1, .int .i64 n), (2, .int .i64 k), (3, .lv 0 [] 0), (9, .sl 1 ((order g).map eI)), (10, .lv 1 [] 0), (11, .int .i64 p), (101, .bool false)], [(0, ⟨true, eGraph g⟩), (1, ⟨true, eGraph (canonG g)⟩)]⟩ ?_ ?_
      · refine CW.drawn mixed 39 (by decide) (by kernel_rfl) (by kernel_rfl) (by kernel_rfl) ?_ -- r10
        refine Seg.run htt 3 (by simp only [go_sem, reduceIte, Nat.reduceEqDiff, reduceCtorEq, Nat.reduceAdd, Nat.reduceLT, Nat.reduceLeDiff, Nat.reduceBEq, Nat.reduceSub, Nat.reduceMul, Int.reduceToNat, Int.reduceLE, eGraph, canonG, hp, hcg, eObj, List.length_map, hzl]; exact rfl) ?_
        all_goals (first | refine Seg.guard 63 (by simp only [go_sem, reduceIte, Nat.reduceEqDiff, reduceCtorEq, Nat.reduceAdd, Nat.reduceLT, Nat.reduceLeDiff, Nat.reduceBEq, Nat.reduceSub, Nat.reduceMul, Int.reduceToNat, Int.reduceLE, eGraph, canonG, hp, hcg, eObj, List.length_map, hzl]; exact rfl) (fun g63 => ?_) (fun g63 => ?_) | skip)
        all_goals (try (exfalso; simp at g63 <;> omega))
        all_goals (refine Seg.run htt 7 (by simp only [go_sem, reduceIte, Nat.reduceEqDiff, reduceCtorEq, Nat.reduceAdd, Nat.reduceLT, Nat.reduceLeDiff, Nat.reduceBEq, Nat.reduceSub, Nat.reduceMul, Int.reduceToNat, Int.reduceLE, eGraph, canonG, hp, hcg, eObj, List.length_map, hzl]; exact rfl) ?_)
        all_goals (first | refine Seg.guard 70 (by simp only [go_sem, reduceIte, Nat.reduceEqDiff, reduceCtorEq, Nat.reduceAdd, Nat.reduceLT, Nat.reduceLeDiff, Nat.reduceBEq, Nat.reduceSub, Nat.reduceMul, Int.reduceToNat, Int.reduceLE, eGraph, canonG, hp, hcg, eObj, List.length_map, hzl]; exact rfl) (fun g70 => ?_) (fun g70 => ?_) | skip)
        all_goals (try (exfalso; simp at g70 <;> omega))
        all_goals (refine Seg.run htt 15 (by simp only [go_sem, reduceIte, Nat.reduceEqDiff, reduceCtorEq, Nat.reduceAdd, Nat.reduceLT, Nat.reduceLeDiff, Nat.reduceBEq, Nat.reduceSub, Nat.reduceMul, Int.reduceToNat, Int.reduceLE, eGraph, canonG, hp, hcg, eObj, List.length_map, hzl]; exact rfl) ?_)
        all_goals (first | refine Seg.guard 85 (by simp only [go_sem, reduceIte, Nat.reduceEqDiff, reduceCtorEq, Nat.reduceAdd, Nat.reduceLT, Nat.reduceLeDiff, Nat.reduceBEq, Nat.reduceSub, Nat.reduceMul, Int.reduceToNat, Int.reduceLE, eGraph, canonG, hp, hcg, eObj, List.length_map, hzl]; exact rfl) (fun g85 => ?_) (fun g85 => ?_) | skip)
        all_goals (try (exfalso; simp at g85 <;> omega))
        all_goals (refine Seg.run htt 14 (by simp only [go_sem, reduceIte, Nat.reduceEqDiff, reduceCtorEq, Nat.reduceAdd, Nat.reduceLT, Nat.reduceLeDiff, Nat.reduceBEq, Nat.reduceSub, Nat.reduceMul, Int.reduceToNat, Int.reduceLE, eGraph, canonG, hp, hcg, eObj, List.length_map, hzl]; exact rfl) ?_)
        all_goals (refine Seg.done ?_)
        all_goals (refine CWops.run htt 2 (by simp only [go_sem, reduceIte, Nat.reduceEqDiff, reduceCtorEq, Nat.reduceAdd, Nat.reduceLT, Nat.reduceLeDiff, Nat.reduceBEq, Nat.reduceSub, Nat.reduceMul, Int.reduceToNat, Int.reduceLE, eGraph, canonG, hp, hcg, eObj, List.length_map, hzl]; exact rfl) (by simp [go_sem, reduceIte, Nat.reduceEqDiff, reduceCtorEq, Nat.reduceAdd, Nat.reduceLT, Nat.reduceLeDiff, Nat.reduceBEq, Nat.reduceSub, Nat.reduceMul, Int.reduceToNat, Int.reduceLE, eGraph, canonG, hp, hcg, eObj, List.length_map, hzl]) ?_)
        all_goals (refine CWops.done ?_)
        all_goals (
          refine ⟨rfl, Sh.wk0 ?_⟩
          simp [Wk, go_sem, reduceIte, Nat.reduceEqDiff, reduceCtorEq, Nat.reduceAdd, Nat.reduceLT, Nat.reduceLeDiff, Nat.reduceBEq, Nat.reduceSub, Nat.reduceMul, Int.reduceToNat, Int.reduceLE, eGraph, canonG])
      refine CW.cond (by simp only [go_sem, reduceIte, Nat.reduceEqDiff, reduceCtorEq, Nat.reduceAdd, Nat.reduceLT, Nat.reduceLeDiff, Nat.reduceBEq, Nat.reduceSub, Nat.reduceMul, Int.reduceToNat, Int.reduceLE]; first | done | exact rfl) (fun ct101 => ?_) (fun ct101 => ?_)
      · cases ct101 
      · refine CW.skip ?_
        refine CW.seq ?_
        refine CW.cut ⟨2, [(1, .int .i64 n), (2, .int .i64 k), (3, .lv 0 [] 0), (9, .sl 1 ((order g).map eI)), (10, .lv 1 [] 0), (11, .int .i64 p), (114, .bool (!(decide (0 ≤ k) && decide (k < oF.length))))], [(0, ⟨true, eGraph g⟩), (1, ⟨true, eGraph (canonG g)⟩)]⟩ ?_ ?_
        · refine CW.region (by kernel_rfl) (by kernel_rfl) ?_ -- r12
          refine CWops.run htt 3 (by simp only [go_sem, reduceIte, Nat.reduceEqDiff, reduceCtorEq, Nat.reduceAdd, Nat.reduceLT, Nat.reduceLeDiff, Nat.reduceBEq, Nat.reduceSub, Nat.reduceMul, Int.reduceToNat, Int.reduceLE, eGraph, canonG, hcg, eObj, List.length_map, hzl]; exact rfl) (by simp [go_sem, reduceIte, Nat.reduceEqDiff, reduceCtorEq, Nat.reduceAdd, Nat.reduceLT, Nat.reduceLeDiff, Nat.reduceBEq, Nat.reduceSub, Nat.reduceMul, Int.reduceToNat, Int.reduceLE, eGraph, canonG, hcg, eObj, List.length_map, hzl]) ?_
          all_goals (first | refine CWops.guard 104 (by simp only [go_sem, reduceIte, Nat.reduceEqDiff, reduceCtorEq, Nat.reduceAdd, Nat.reduceLT, Nat.reduceLeDiff, Nat.reduceBEq, Nat.reduceSub, Nat.reduceMul, Int.reduceToNat, Int.reduceLE, eGraph, canonG, hcg, eObj, List.length_map, hzl]; exact rfl) (fun g104 => ?_) (fun g104 => ?_) | skip)
          all_goals (skip)
          all_goals (refine CWops.run htt 10 (by simp only [go_sem, reduceIte, Nat.reduceEqDiff, reduceCtorEq, Nat.reduceAdd, Nat.reduceLT, Nat.reduceLeDiff, Nat.reduceBEq, Nat.reduceSub, Nat.reduceMul, Int.reduceToNat, Int.reduceLE, eGraph, canonG, hcg, eObj, List.length_map, hzl]; exact rfl) (by simp [go_sem, reduceIte, Nat.reduceEqDiff, reduceCtorEq, Nat.reduceAdd, Nat.reduceLT, Nat.reduceLeDiff, Nat.reduceBEq, Nat.reduceSub, Nat.reduceMul, Int.reduceToNat, Int.reduceLE, eGraph, canonG, hcg, eObj, List.length_map, hzl]) ?_)
          all_goals (refine CWops.done ?_)
          all_goals (
            refine ⟨rfl, Sh.wk0 ?_⟩
            clear hm hO hC hG hcg hmo hT
            simp_all [Wk, go_sem, reduceIte, Nat.reduceEqDiff, reduceCtorEq, Nat.reduceAdd, Nat.reduceLT, Nat.reduceLeDiff, Nat.reduceBEq, Nat.reduceSub, Nat.reduceMul, Int.reduceToNat, Int.reduceLE, eGraph, canonG] <;> first | done | omega | rfl | (rw [Bool.eq_iff_iff]; done) | (rw [Bool.eq_iff_iff]; simp; done) | (rw [Bool.eq_iff_iff]; simp; omega))
        refine CW.cond (by simp only [go_sem, reduceIte, Nat.reduceEqDiff, reduceCtorEq, Nat.reduceAdd, Nat.reduceLT, Nat.reduceLeDiff, Nat.reduceBEq, Nat.reduceSub, Nat.reduceMul, Int.reduceToNat, Int.reduceLE]; first | done | exact rfl) (fun ct114 => ?_) (fun ct114 => ?_)
        · refine CW.seq ?_
          refine CW.region (by kernel_rfl) (by kernel_rfl) ?_ -- r13
          refine CWops.run htt 1 (by simp only [go_sem, reduceIte, Nat.reduceEqDiff, reduceCtorEq, Nat.reduceAdd, Nat.reduceLT, Nat.reduceLeDiff, Nat.reduceBEq, Nat.reduceSub, Nat.reduceMul, Int.reduceToNat, Int.reduceLE]; exact rfl) (by simp [go_sem, reduceIte, Nat.reduceEqDiff, reduceCtorEq, Nat.reduceAdd, Nat.reduceLT, Nat.reduceLeDiff, Nat.reduceBEq, Nat.reduceSub, Nat.reduceMul, Int.reduceToNat, Int.reduceLE]) ?_
          refine CWops.done ?_
          refine CW.ret ?_
          refine retQ.ret (by simp only [f6, go_sem, reduceIte, Nat.reduceEqDiff, reduceCtorEq, Nat.reduceAdd, Nat.reduceLT, Nat.reduceLeDiff, Nat.reduceBEq, Nat.reduceSub, Nat.reduceMul, Int.reduceToNat, Int.reduceLE]; exact rfl) (by simp only [go_sem, reduceIte, Nat.reduceEqDiff, reduceCtorEq, Nat.reduceAdd, Nat.reduceLT, Nat.reduceLeDiff, Nat.reduceBEq, Nat.reduceSub, Nat.reduceMul, Int.reduceToNat, Int.reduceLE]; exact rfl) ?_ -- ret3
          refine ⟨_, ?_, rfl⟩
          simp [leP]
        · simp only [Bool.not_eq_false', Bool.and_eq_true, decide_eq_true_eq] at ct114
          obtain ⟨m, rfl⟩ := Int.eq_ofNat_of_zero_le ct114.1
          have hk : m < oF.length := by have := ct114.2; omega
          obtain ⟨v, hv⟩ : ∃ v, oF[m]? = some v := ⟨oF[m], List.getElem?_eq_getElem hk⟩
          obtain ⟨f, hf⟩ : ∃ f, t.F[m]? = some f := ⟨t.F[m], List.getElem?_eq_getElem (by omega)⟩
          obtain ⟨hw1, hw2⟩ := hm.canonV (List.mem_of_getElem? hid) hA hT hf hv
          have hcw : (List.zipWith (canonV (order g)) t.F oF)[m]? = some (canonV (order g) f v) := by rw [List.getElem?_zipWith, hf, hv]
          generalize canonV (order g) f v = w at hw1 hw2 hcw
          refine CW.skip ?_
          refine CW.seq ?_
          refine CW.region (by kernel_rfl) (by kernel_rfl) ?_ -- r14
          refine CWops.run htt 11 (by simp only [go_sem, reduceIte, Nat.reduceEqDiff, reduceCtorEq, Nat.reduceAdd, Nat.reduceLT, Nat.reduceLeDiff, Nat.reduceBEq, Nat.reduceSub, Nat.reduceMul, Int.reduceToNat, Int.reduceLE, eGraph, hp, eObj, hv, eVal]; exact rfl) (by simp [go_sem, reduceIte, Nat.reduceEqDiff, reduceCtorEq, Nat.reduceAdd, Nat.reduceLT, Nat.reduceLeDiff, Nat.reduceBEq, Nat.reduceSub, Nat.reduceMul, Int.reduceToNat, Int.reduceLE, eGraph, hp, eObj, hv, eVal]) ?_
          refine CWops.done ?_
          refine CW.seq ?_
          refine CW.region (by kernel_rfl) (by kernel_rfl) ?_ -- r15
          refine CWops.run htt 11 (by simp only [go_sem, reduceIte, Nat.reduceEqDiff, reduceCtorEq, Nat.reduceAdd, Nat.reduceLT, Nat.reduceLeDiff, Nat.reduceBEq, Nat.reduceSub, Nat.reduceMul, Int.reduceToNat, Int.reduceLE, eGraph, canonG, hcg, eObj, hcw, eVal]; exact rfl) (by simp [go_sem, reduceIte, Nat.reduceEqDiff, reduceCtorEq, Nat.reduceAdd, Nat.reduceLT, Nat.reduceLeDiff, Nat.reduceBEq, Nat.reduceSub, Nat.reduceMul, Int.reduceToNat, Int.reduceLE, eGraph, canonG, hcg, eObj, hcw, eVal]) ?_
          refine CWops.done ?_
          refine CW.seq ?_
          refine CW.cut ⟨4, [(9, .sl 1 ((order g).map eI)), (12, .lv 2 [] 0), (13, .lv 3 [] 0), (154, .bool (!decide (f.Kind = 5) || decide (v.R < 0)))], [(2, ⟨true, eVal v⟩), (3, ⟨true, eVal w⟩)]⟩ ?_ ?_
          · refine CW.drawn mixed 13 (by decide) (by kernel_rfl) (by kernel_rfl) (by kernel_rfl) ?_ -- r16
            refine Seg.run htt 13 (by simp only [go_sem, reduceIte, Nat.reduceEqDiff, reduceCtorEq, Nat.reduceAdd, Nat.reduceLT, Nat.reduceLeDiff, Nat.reduceBEq, Nat.reduceSub, Nat.reduceMul, Int.reduceToNat, Int.reduceLE, eGraph, eSchema, hp, eObj, ht, eType, hf, eField, eVal]; exact rfl) ?_
            refine Seg.done ?_
            refine CWops.run htt 5 (by simp only [go_sem, reduceIte, Nat.reduceEqDiff, reduceCtorEq, Nat.reduceAdd, Nat.reduceLT, Nat.reduceLeDiff, Nat.reduceBEq, Nat.reduceSub, Nat.reduceMul, Int.reduceToNat, Int.reduceLE, eGraph, eSchema, hp, eObj, ht, eType, hf, eField, eVal]; exact rfl) (by simp [go_sem, reduceIte, Nat.reduceEqDiff, reduceCtorEq, Nat.reduceAdd, Nat.reduceLT, Nat.reduceLeDiff, Nat.reduceBEq, Nat.reduceSub, Nat.reduceMul, Int.reduceToNat, Int.reduceLE, eGraph, eSchema, hp, eObj, ht, eType, hf, eField, eVal]) ?_
            all_goals (first | refine CWops.guard 150 (by simp only [go_sem, reduceIte, Nat.reduceEqDiff, reduceCtorEq, Nat.reduceAdd, Nat.reduceLT, Nat.reduceLeDiff, Nat.reduceBEq, Nat.reduceSub, Nat.reduceMul, Int.reduceToNat, Int.reduceLE, eGraph, eSchema, hp, eObj, ht, eType, hf, eField, eVal]; exact rfl) (fun g150 => ?_) (fun g150 => ?_) | skip)
            all_goals (skip)
            all_goals (refine CWops.run htt 4 (by simp only [go_sem, reduceIte, Nat.reduceEqDiff, reduceCtorEq, Nat.reduceAdd, Nat.reduceLT, Nat.reduceLeDiff, Nat.reduceBEq, Nat.reduceSub, Nat.reduceMul, Int.reduceToNat, Int.reduceLE, eGraph, eSchema, hp, eObj, ht, eType, hf, eField, eVal]; exact rfl) (by simp [go_sem, reduceIte, Nat.reduceEqDiff, reduceCtorEq, Nat.reduceAdd, Nat.reduceLT, Nat.reduceLeDiff, Nat.reduceBEq, Nat.reduceSub, Nat.reduceMul, Int.reduceToNat, Int.reduceLE, eGraph, eSchema, hp, eObj, ht, eType, hf, eField, eVal]) ?_)
            all_goals (refine CWops.done ?_)
            all_goals (
              refine ⟨rfl, Sh.wk0 ?_⟩
              clear hm hO hC hG hcg hmo hT hw1 hw2
              first | (simp only [Wk, go_sem, reduceIte, Nat.reduceEqDiff, reduceCtorEq, Nat.reduceAdd, Nat.reduceLT, Nat.reduceLeDiff, Nat.reduceBEq, Nat.reduceSub, Nat.reduceMul, Int.reduceToNat, Int.reduceLE, eVal]; simp [g150]; done) | (simp_all [Wk, go_sem, reduceIte, Nat.reduceEqDiff, reduceCtorEq, Nat.reduceAdd, Nat.reduceLT, Nat.reduceLeDiff, Nat.reduceBEq, Nat.reduceSub, Nat.reduceMul, Int.reduceToNat, Int.reduceLE, eVal]; done) | skip)
          refine CW.cond (by simp only [go_sem, reduceIte, Nat.reduceEqDiff, reduceCtorEq, Nat.reduceAdd, Nat.reduceLT, Nat.reduceLeDiff, Nat.reduceBEq, Nat.reduceSub, Nat.reduceMul, Int.reduceToNat, Int.reduceLE]; first | done | exact rfl) (fun ct154 => ?_) (fun ct154 => ?_)
          · simp only [Bool.or_eq_true, Bool.not_eq_true', decide_eq_false_iff_not, decide_eq_true_eq] at ct154
            have hwv := hw1 ct154
            subst hwv
            refine CW.seq ?_
            refine CW.region (by kernel_rfl) (by kernel_rfl) ?_ -- r17
            refine CWops.run htt 4 (by simp only [go_sem, reduceIte, Nat.reduceEqDiff, reduceCtorEq, Nat.reduceAdd, Nat.reduceLT, Nat.reduceLeDiff, Nat.reduceBEq, Nat.reduceSub, Nat.reduceMul, Int.reduceToNat, Int.reduceLE, eVal]; exact rfl) (by simp [go_sem, reduceIte, Nat.reduceEqDiff, reduceCtorEq, Nat.reduceAdd, Nat.reduceLT, Nat.reduceLeDiff, Nat.reduceBEq, Nat.reduceSub, Nat.reduceMul, Int.reduceToNat, Int.reduceLE, eVal]) ?_
            refine CWops.done ?_
            refine CW.ret ?_
            refine retQ.ret (by simp only [f6, go_sem, reduceIte, Nat.reduceEqDiff, reduceCtorEq, Nat.reduceAdd, Nat.reduceLT, Nat.reduceLeDiff, Nat.reduceBEq, Nat.reduceSub, Nat.reduceMul, Int.reduceToNat, Int.reduceLE]; exact rfl) (by simp only [go_sem, reduceIte, Nat.reduceEqDiff, reduceCtorEq, Nat.reduceAdd, Nat.reduceLT, Nat.reduceLeDiff, Nat.reduceBEq, Nat.reduceSub, Nat.reduceMul, Int.reduceToNat, Int.reduceLE]; exact rfl) ?_ -- ret4
            refine ⟨_, ?_, rfl⟩
            simp [leP]
          · simp only [Bool.or_eq_false_iff, Bool.not_eq_false', decide_eq_false_iff_not, decide_eq_true_eq] at ct154
            obtain ⟨n2, hwR, hL2⟩ := hw2 ct154.1 (by omega)
            refine CW.skip ?_
            refine CW.seq ?_
            refine CW.drawn mixed 18 (by decide) (by kernel_rfl) (by kernel_rfl) (by kernel_rfl) ?_ -- r18
            refine Seg.run htt 4 (by simp only [go_sem, reduceIte, Nat.reduceEqDiff, reduceCtorEq, Nat.reduceAdd, Nat.reduceLT, Nat.reduceLeDiff, Nat.reduceBEq, Nat.reduceSub, Nat.reduceMul, Int.reduceToNat, Int.reduceLE, eVal, hwR, hL2, eI, List.length_map]; exact rfl) ?_
            all_goals (first | refine Seg.guard 161 (by simp only [go_sem, reduceIte, Nat.reduceEqDiff, reduceCtorEq, Nat.reduceAdd, Nat.reduceLT, Nat.reduceLeDiff, Nat.reduceBEq, Nat.reduceSub, Nat.reduceMul, Int.reduceToNat, Int.reduceLE, eVal, hwR, hL2, eI, List.length_map]; exact rfl) (fun g161 => ?_) (fun g161 => ?_) | skip)
            all_goals (try (exfalso; simp at g161 <;> omega))
            all_goals (refine Seg.run htt 7 (by simp only [go_sem, reduceIte, Nat.reduceEqDiff, reduceCtorEq, Nat.reduceAdd, Nat.reduceLT, Nat.reduceLeDiff, Nat.reduceBEq, Nat.reduceSub, Nat.reduceMul, Int.reduceToNat, Int.reduceLE, eVal, hwR, hL2, eI, List.length_map]; exact rfl) ?_)
            all_goals (first | refine Seg.guard 168 (by simp only [go_sem, reduceIte, Nat.reduceEqDiff, reduceCtorEq, Nat.reduceAdd, Nat.reduceLT, Nat.reduceLeDiff, Nat.reduceBEq, Nat.reduceSub, Nat.reduceMul, Int.reduceToNat, Int.reduceLE, eVal, hwR, hL2, eI, List.length_map]; exact rfl) (fun g168 => ?_) (fun g168 => ?_) | skip)
            all_goals (first | (have := (List.getElem?_eq_some_iff.1 hL2).1; exfalso; simp at g168 <;> omega) | skip)
            all_goals (refine Seg.run htt 7 (by simp only [go_sem, reduceIte, Nat.reduceEqDiff, reduceCtorEq, Nat.reduceAdd, Nat.reduceLT, Nat.reduceLeDiff, Nat.reduceBEq, Nat.reduceSub, Nat.reduceMul, Int.reduceToNat, Int.reduceLE, eVal, hwR, hL2, eI, List.length_map]; exact rfl) ?_)
            all_goals (refine Seg.done ?_)
            all_goals (refine CWops.run htt 3 (by simp only [go_sem, reduceIte, Nat.reduceEqDiff, reduceCtorEq, Nat.reduceAdd, Nat.reduceLT, Nat.reduceLeDiff, Nat.reduceBEq, Nat.reduceSub, Nat.reduceMul, Int.reduceToNat, Int.reduceLE, eVal, hwR, hL2, eI, List.length_map]; exact rfl) (by simp [go_sem, reduceIte, Nat.reduceEqDiff, reduceCtorEq, Nat.reduceAdd, Nat.reduceLT, Nat.reduceLeDiff, Nat.reduceBEq, Nat.reduceSub, Nat.reduceMul, Int.reduceToNat, Int.reduceLE, eVal, hwR, hL2, eI, List.length_map]) ?_)
            all_goals (refine CWops.done ?_)
            all_goals (
              refine CW.ret ?_
              refine retQ.ret (by simp only [f6, go_sem, reduceIte, Nat.reduceEqDiff, reduceCtorEq, Nat.reduceAdd, Nat.reduceLT, Nat.reduceLeDiff, Nat.reduceBEq, Nat.reduceSub, Nat.reduceMul, Int.reduceToNat, Int.reduceLE]; exact rfl) (by simp only [go_sem, reduceIte, Nat.reduceEqDiff, reduceCtorEq, Nat.reduceAdd, Nat.reduceLT, Nat.reduceLeDiff, Nat.reduceBEq, Nat.reduceSub, Nat.reduceMul, Int.reduceToNat, Int.reduceLE]; exact rfl) ?_ -- ret5
              refine ⟨_, ?_, rfl⟩
              simp [leP])
end Go.Ab

namespace Go.Proofs.Ytkfdkamdkdjkgaa
open Go.ChangeShapes Go.WideShapes Go.ChangeAt Go.RowKit
set_option maxRecDepth 100000


theorem canonFields_lifted (os : Os) (started : os.Started) (H : Type) (enc : TypeId × Value → H) :
    ReturnsInHanded {} Try.checked os 6 .any (Rows.canonFieldsSpec.pre6 enc Try.prog Try.f6 Rows.canonFieldsRow.domain false) (Rows.canonFieldsSpec.post enc Try.prog Try.f6 false true false false) := by
  refine Ab.law_row (C := Try.checked) (tb := 4) Ab.own0 started (by kernel_rfl) Try.func6 (ChangeSpec.witness6 (enc := enc) (C := Try.checked) false ⟨#[], #[.agg #[.slice none 0 0, .slice none 0 0, .slice none 0 0], .int .i64 0, .int .i64 0], []⟩ 8 (by kernel_rfl) (by kernel_rfl) (by kernel_rfl) (by kernel_rfl)) Ab.laid0 ?_ rfl Try.underlying4 rfl ?_ (Ab.ArgsOK.cons Ab.arg_Graph (Ab.ArgsOK.cons Ab.arg_int (Ab.ArgsOK.cons Ab.arg_int Ab.ArgsOK.nil))) ?_
  · intro t ht
    rw [Try.params6] at ht
    simp only [List.mem_cons, List.not_mem_nil, or_false] at ht
    rcases ht with rfl | rfl | rfl <;> exact ⟨by kernel_rfl, Nat.le_of_ble_eq_true (by kernel_rfl)⟩
  · intro ds hd
    rw [Try.params6] at hd
    obtain ⟨d0, d1, d2, rfl⟩ : ∃ d0, ∃ d1, ∃ d2, ds = [d0, d1, d2] := by
      match ds, hd with
      | [d0, d1, d2], _ => exact ⟨d0, d1, d2, rfl⟩
    rfl
  · rintro _ ⟨a0, _, w0, ⟨a1, _, w1, ⟨a2, _, w2, rfl, rfl⟩, rfl⟩, rfl⟩
    exact Ab.law09_CanonFields false a0 a1 a2
theorem canonFields_holds : Rows.CanonFieldsSaid :=
  OpenClaim.holds_of_wide 6 Try.f6 rfl rfl rfl rfl rfl rfl rfl ⟨rfl, rfl, rfl, rfl, rfl⟩ rfl rfl rfl rfl rfl (by kernel_rfl) Try.func6 (by kernel_rfl)
    (of_decide_eq_true (by kernel_rfl)) (by unfold Func.isWrapper; first | (rw [if_pos (by decide +kernel)]; kernel_rfl) | (rw [if_neg (by decide +kernel)]; exact ⟨rfl, rfl⟩))
    (fun os started H enc _ => canonFields_lifted os started H enc)

end Go.Proofs.Ytkfdkamdkdjkgaa

