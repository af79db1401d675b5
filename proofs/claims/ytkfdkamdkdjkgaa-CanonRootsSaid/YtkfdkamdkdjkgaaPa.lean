/-
  The law CanonRoots answers true, whatever the graph; its argument reads as it did. No condition.
-/
import Derived.Test.YtkfdkamdkdjkgaaProg
import Derived.Test.YtkfdkamdkdjkgaaRows
import Derived.Test.YtkfdkamdkdjkgaaWc
import Derived.Test.YtkfdkamdkdjkgaaFd
import Derived.Test.YtkfdkamdkdjkgaaWd
set_option linter.unusedVariables false
set_option linter.unusedSimpArgs false
namespace Go.Ab
open Go Go.Proofs.Try
set_option maxRecDepth 100000
set_option linter.unusedSimpArgs false
set_option linter.unusedVariables false


theorem law09_CanonRoots (up : Bool) (g : Graph) : PCall prog up 5 [.agg (eGraph g)] (· = .bool true) := by
  refine PCall.intro htt func5 (by kernel_rfl) rfl (Nat.le_of_ble_eq_true rfl) fun hl => ?_

  simp only [tmps0, Nat.reduceAdd]
  refine CW.seq ?_
  refine CW.region (by kernel_rfl) (by kernel_rfl) ?_ -- r0
  refine CWops.run htt 2 (by simp only [go_sem, reduceIte, Nat.reduceEqDiff, reduceCtorEq, Nat.reduceAdd, Nat.reduceLT, Nat.reduceLeDiff, Nat.reduceBEq, Nat.reduceSub, Nat.reduceMul, Int.reduceToNat, Int.reduceLE, eGraph]; exact rfl) (by simp [go_sem, reduceIte, Nat.reduceEqDiff, reduceCtorEq, Nat.reduceAdd, Nat.reduceLT, Nat.reduceLeDiff, Nat.reduceBEq, Nat.reduceSub, Nat.reduceMul, Int.reduceToNat, Int.reduceLE, eGraph]) ?_
  refine CWops.done ?_
  refine CW.seq ?_
  refine CW.region (by kernel_rfl) (by kernel_rfl) ?_ -- r1
  refine CWops.callA (law09_awake up) (by simp only [go_sem, reduceIte, Nat.reduceEqDiff, reduceCtorEq, Nat.reduceAdd, Nat.reduceLT, Nat.reduceLeDiff, Nat.reduceBEq, Nat.reduceSub, Nat.reduceMul, Int.reduceToNat, Int.reduceLE]) (by simp only [go_sem, reduceIte, Nat.reduceEqDiff, reduceCtorEq, Nat.reduceAdd, Nat.reduceLT, Nat.reduceLeDiff, Nat.reduceBEq, Nat.reduceSub, Nat.reduceMul, Int.reduceToNat, Int.reduceLE]; first | done | exact rfl) (by simp only [go_sem, reduceIte, Nat.reduceEqDiff, reduceCtorEq, Nat.reduceAdd, Nat.reduceLT, Nat.reduceLeDiff, Nat.reduceBEq, Nat.reduceSub, Nat.reduceMul, Int.reduceToNat, Int.reduceLE]) (by simp only [go_sem, reduceIte, Nat.reduceEqDiff, reduceCtorEq, Nat.reduceAdd, Nat.reduceLT, Nat.reduceLeDiff, Nat.reduceBEq, Nat.reduceSub, Nat.reduceMul, Int.reduceToNat, Int.reduceLE]) (fun rt10 hrt10 => ?_)
  subst hrt10
  refine CWops.run htt 1 (by simp only [go_sem, reduceIte, Nat.reduceEqDiff, reduceCtorEq, Nat.reduceAdd, Nat.reduceLT, Nat.reduceLeDiff, Nat.reduceBEq, Nat.reduceSub, Nat.reduceMul, Int.reduceToNat, Int.reduceLE]; exact rfl) (by simp [go_sem, reduceIte, Nat.reduceEqDiff, reduceCtorEq, Nat.reduceAdd, Nat.reduceLT, Nat.reduceLeDiff, Nat.reduceBEq, Nat.reduceSub, Nat.reduceMul, Int.reduceToNat, Int.reduceLE]) ?_
  refine CWops.done ?_
  refine CW.seq ?_
  refine CW.region (by kernel_rfl) (by kernel_rfl) ?_ -- r2
  refine CWops.run htt 1 (by simp only [go_sem, reduceIte, Nat.reduceEqDiff, reduceCtorEq, Nat.reduceAdd, Nat.reduceLT, Nat.reduceLeDiff, Nat.reduceBEq, Nat.reduceSub, Nat.reduceMul, Int.reduceToNat, Int.reduceLE, eGraph]; exact rfl) (by simp [go_sem, reduceIte, Nat.reduceEqDiff, reduceCtorEq, Nat.reduceAdd, Nat.reduceLT, Nat.reduceLeDiff, Nat.reduceBEq, Nat.reduceSub, Nat.reduceMul, Int.reduceToNat, Int.reduceLE, eGraph]) ?_
  refine CWops.call (law08_Few up g) (by simp only [go_sem, reduceIte, Nat.reduceEqDiff, reduceCtorEq, Nat.reduceAdd, Nat.reduceLT, Nat.reduceLeDiff, Nat.reduceBEq, Nat.reduceSub, Nat.reduceMul, Int.reduceToNat, Int.reduceLE, eGraph]) (by simp only [go_sem, reduceIte, Nat.reduceEqDiff, reduceCtorEq, Nat.reduceAdd, Nat.reduceLT, Nat.reduceLeDiff, Nat.reduceBEq, Nat.reduceSub, Nat.reduceMul, Int.reduceToNat, Int.reduceLE, eGraph]; first | done | exact rfl) (by simp only [go_sem, reduceIte, Nat.reduceEqDiff, reduceCtorEq, Nat.reduceAdd, Nat.reduceLT, Nat.reduceLeDiff, Nat.reduceBEq, Nat.reduceSub, Nat.reduceMul, Int.reduceToNat, Int.reduceLE, eGraph]) (fun rt12 hrt12 => ?_)
  subst hrt12; refine ⟨rfl, ?_⟩
  refine CWops.run htt 1 (by simp only [go_sem, reduceIte, Nat.reduceEqDiff, reduceCtorEq, Nat.reduceAdd, Nat.reduceLT, Nat.reduceLeDiff, Nat.reduceBEq, Nat.reduceSub, Nat.reduceMul, Int.reduceToNat, Int.reduceLE, eGraph]; exact rfl) (by simp [go_sem, reduceIte, Nat.reduceEqDiff, reduceCtorEq, Nat.reduceAdd, Nat.reduceLT, Nat.reduceLeDiff, Nat.reduceBEq, Nat.reduceSub, Nat.reduceMul, Int.reduceToNat, Int.reduceLE, eGraph]) ?_
  refine CWops.done ?_
  refine CW.seq ?_
  refine CW.cut ⟨1, [(1, .lv 0 [] 0), (3, .bool true), (23, .bool (!(fewG g && gMay g)))], [(0, ⟨true, eGraph g⟩)]⟩ ?_ ?_
  · refine CW.region (by kernel_rfl) (by kernel_rfl) ?_ -- r3
    refine CWops.run htt 3 (by simp only [go_sem, reduceIte, Nat.reduceEqDiff, reduceCtorEq, Nat.reduceAdd, Nat.reduceLT, Nat.reduceLeDiff, Nat.reduceBEq, Nat.reduceSub, Nat.reduceMul, Int.reduceToNat, Int.reduceLE, eGraph]; exact rfl) (by simp [go_sem, reduceIte, Nat.reduceEqDiff, reduceCtorEq, Nat.reduceAdd, Nat.reduceLT, Nat.reduceLeDiff, Nat.reduceBEq, Nat.reduceSub, Nat.reduceMul, Int.reduceToNat, Int.reduceLE, eGraph]) ?_
    all_goals (first | refine CWops.guard 15 (by simp only [go_sem, reduceIte, Nat.reduceEqDiff, reduceCtorEq, Nat.reduceAdd, Nat.reduceLT, Nat.reduceLeDiff, Nat.reduceBEq, Nat.reduceSub, Nat.reduceMul, Int.reduceToNat, Int.reduceLE, eGraph]; exact rfl) (fun g15 => ?_) (fun g15 => ?_) | skip)
    all_goals (refine CWops.run htt 4 (by simp only [go_sem, reduceIte, Nat.reduceEqDiff, reduceCtorEq, Nat.reduceAdd, Nat.reduceLT, Nat.reduceLeDiff, Nat.reduceBEq, Nat.reduceSub, Nat.reduceMul, Int.reduceToNat, Int.reduceLE, eGraph]; exact rfl) (by simp [go_sem, reduceIte, Nat.reduceEqDiff, reduceCtorEq, Nat.reduceAdd, Nat.reduceLT, Nat.reduceLeDiff, Nat.reduceBEq, Nat.reduceSub, Nat.reduceMul, Int.reduceToNat, Int.reduceLE, eGraph]) ?_)
    all_goals (first | refine CWops.guard 19 (by simp only [go_sem, reduceIte, Nat.reduceEqDiff, reduceCtorEq, Nat.reduceAdd, Nat.reduceLT, Nat.reduceLeDiff, Nat.reduceBEq, Nat.reduceSub, Nat.reduceMul, Int.reduceToNat, Int.reduceLE, eGraph]; exact rfl) (fun g19 => ?_) (fun g19 => ?_) | skip)
    all_goals (refine CWops.run htt 1 (by simp only [go_sem, reduceIte, Nat.reduceEqDiff, reduceCtorEq, Nat.reduceAdd, Nat.reduceLT, Nat.reduceLeDiff, Nat.reduceBEq, Nat.reduceSub, Nat.reduceMul, Int.reduceToNat, Int.reduceLE, eGraph]; exact rfl) (by simp [go_sem, reduceIte, Nat.reduceEqDiff, reduceCtorEq, Nat.reduceAdd, Nat.reduceLT, Nat.reduceLeDiff, Nat.reduceBEq, Nat.reduceSub, Nat.reduceMul, Int.reduceToNat, Int.reduceLE, eGraph]) ?_)
    all_goals (first | (refine CWops.skip ?_ ?_; next => (simp only [go_sem, reduceIte, Nat.reduceEqDiff, reduceCtorEq, Nat.reduceAdd, Nat.reduceLT, Nat.reduceLeDiff, Nat.reduceBEq, Nat.reduceSub, Nat.reduceMul, Int.reduceToNat, Int.reduceLE]; done)) | (refine CWops.call (graph_May up g) (by simp only [go_sem, reduceIte, Nat.reduceEqDiff, reduceCtorEq, Nat.reduceAdd, Nat.reduceLT, Nat.reduceLeDiff, Nat.reduceBEq, Nat.reduceSub, Nat.reduceMul, Int.reduceToNat, Int.reduceLE, eGraph]) (by simp only [go_sem, reduceIte, Nat.reduceEqDiff, reduceCtorEq, Nat.reduceAdd, Nat.reduceLT, Nat.reduceLeDiff, Nat.reduceBEq, Nat.reduceSub, Nat.reduceMul, Int.reduceToNat, Int.reduceLE, eGraph]; first | done | exact rfl) (by simp only [go_sem, reduceIte, Nat.reduceEqDiff, reduceCtorEq, Nat.reduceAdd, Nat.reduceLT, Nat.reduceLeDiff, Nat.reduceBEq, Nat.reduceSub, Nat.reduceMul, Int.reduceToNat, Int.reduceLE, eGraph]) (fun rt21 hrt21 => ?_); subst hrt21; refine ⟨rfl, ?_⟩))
    all_goals (refine CWops.run htt 2 (by simp only [go_sem, reduceIte, Nat.reduceEqDiff, reduceCtorEq, Nat.reduceAdd, Nat.reduceLT, Nat.reduceLeDiff, Nat.reduceBEq, Nat.reduceSub, Nat.reduceMul, Int.reduceToNat, Int.reduceLE, eGraph]; exact rfl) (by simp [go_sem, reduceIte, Nat.reduceEqDiff, reduceCtorEq, Nat.reduceAdd, Nat.reduceLT, Nat.reduceLeDiff, Nat.reduceBEq, Nat.reduceSub, Nat.reduceMul, Int.reduceToNat, Int.reduceLE, eGraph]) ?_)
    all_goals (refine CWops.done ?_)
    all_goals (
      refine ⟨rfl, Sh.wk0 ?_⟩
      simp_all [Wk, go_sem, reduceIte, Nat.reduceEqDiff, reduceCtorEq, Nat.reduceAdd, Nat.reduceLT, Nat.reduceLeDiff, Nat.reduceBEq, Nat.reduceSub, Nat.reduceMul, Int.reduceToNat, Int.reduceLE, eGraph] <;> first | done | omega | rfl | (rw [Bool.eq_iff_iff]; done) | (rw [Bool.eq_iff_iff]; simp; done) | (rw [Bool.eq_iff_iff]; simp; omega))
  refine CW.cond (by simp only [go_sem, reduceIte, Nat.reduceEqDiff, reduceCtorEq, Nat.reduceAdd, Nat.reduceLT, Nat.reduceLeDiff, Nat.reduceBEq, Nat.reduceSub, Nat.reduceMul, Int.reduceToNat, Int.reduceLE]; first | done | exact rfl) (fun ct23 => ?_) (fun ct23 => ?_)
  · refine CW.seq ?_
    refine CW.region (by kernel_rfl) (by kernel_rfl) ?_ -- r4
    refine CWops.run htt 2 (by simp only [go_sem, reduceIte, Nat.reduceEqDiff, reduceCtorEq, Nat.reduceAdd, Nat.reduceLT, Nat.reduceLeDiff, Nat.reduceBEq, Nat.reduceSub, Nat.reduceMul, Int.reduceToNat, Int.reduceLE]; exact rfl) (by simp [go_sem, reduceIte, Nat.reduceEqDiff, reduceCtorEq, Nat.reduceAdd, Nat.reduceLT, Nat.reduceLeDiff, Nat.reduceBEq, Nat.reduceSub, Nat.reduceMul, Int.reduceToNat, Int.reduceLE]) ?_
    refine CWops.done ?_
    refine CW.ret ?_
    refine retQ.ret (by simp only [f5, go_sem, reduceIte, Nat.reduceEqDiff, reduceCtorEq, Nat.reduceAdd, Nat.reduceLT, Nat.reduceLeDiff, Nat.reduceBEq, Nat.reduceSub, Nat.reduceMul, Int.reduceToNat, Int.reduceLE]; exact rfl) (by simp only [go_sem, reduceIte, Nat.reduceEqDiff, reduceCtorEq, Nat.reduceAdd, Nat.reduceLT, Nat.reduceLeDiff, Nat.reduceBEq, Nat.reduceSub, Nat.reduceMul, Int.reduceToNat, Int.reduceLE]; exact rfl) ?_ -- ret1
    refine ⟨_, ?_, rfl⟩
    simp [leP]
  · simp only [Bool.not_eq_false', Bool.and_eq_true] at ct23
    have hm := (may_iff g).1 ct23.2
    have hO : gOrder g = order g := by unfold gOrder; rw [if_pos ct23.2]
    have hC : gCanon g = canonG g := by unfold gCanon; rw [if_pos ct23.2]
    have hr := hm.r
    have hlo := hm.order.len
    have ho := hm.o
    refine CW.skip ?_
    refine CW.seq ?_
    refine CW.region (by kernel_rfl) (by kernel_rfl) ?_ -- r5
    refine CWops.run htt 1 (by simp only [go_sem, reduceIte, Nat.reduceEqDiff, reduceCtorEq, Nat.reduceAdd, Nat.reduceLT, Nat.reduceLeDiff, Nat.reduceBEq, Nat.reduceSub, Nat.reduceMul, Int.reduceToNat, Int.reduceLE, eGraph]; exact rfl) (by simp [go_sem, reduceIte, Nat.reduceEqDiff, reduceCtorEq, Nat.reduceAdd, Nat.reduceLT, Nat.reduceLeDiff, Nat.reduceBEq, Nat.reduceSub, Nat.reduceMul, Int.reduceToNat, Int.reduceLE, eGraph]) ?_
    refine CWops.callA (canon_Order up g) (by simp only [go_sem, reduceIte, Nat.reduceEqDiff, reduceCtorEq, Nat.reduceAdd, Nat.reduceLT, Nat.reduceLeDiff, Nat.reduceBEq, Nat.reduceSub, Nat.reduceMul, Int.reduceToNat, Int.reduceLE, eGraph]) (by simp only [go_sem, reduceIte, Nat.reduceEqDiff, reduceCtorEq, Nat.reduceAdd, Nat.reduceLT, Nat.reduceLeDiff, Nat.reduceBEq, Nat.reduceSub, Nat.reduceMul, Int.reduceToNat, Int.reduceLE, eGraph]; first | done | exact rfl) (by simp only [go_sem, reduceIte, Nat.reduceEqDiff, reduceCtorEq, Nat.reduceAdd, Nat.reduceLT, Nat.reduceLeDiff, Nat.reduceBEq, Nat.reduceSub, Nat.reduceMul, Int.reduceToNat, Int.reduceLE, eGraph]) (by simp only [go_sem, reduceIte, Nat.reduceEqDiff, reduceCtorEq, Nat.reduceAdd, Nat.reduceLT, Nat.reduceLeDiff, Nat.reduceBEq, Nat.reduceSub, Nat.reduceMul, Int.reduceToNat, Int.reduceLE, eGraph]) (fun rt26 hrt26 => ?_)
    subst hrt26
    refine CWops.run htt 1 (by simp only [go_sem, reduceIte, Nat.reduceEqDiff, reduceCtorEq, Nat.reduceAdd, Nat.reduceLT, Nat.reduceLeDiff, Nat.reduceBEq, Nat.reduceSub, Nat.reduceMul, Int.reduceToNat, Int.reduceLE, eGraph]; exact rfl) (by simp [go_sem, reduceIte, Nat.reduceEqDiff, reduceCtorEq, Nat.reduceAdd, Nat.reduceLT, Nat.reduceLeDiff, Nat.reduceBEq, Nat.reduceSub, Nat.reduceMul, Int.reduceToNat, Int.reduceLE, eGraph]) ?_
    refine CWops.done ?_
    refine CW.seq ?_
    refine CW.region (by kernel_rfl) (by kernel_rfl) ?_ -- r6
    refine CWops.run htt 1 (by simp only [go_sem, reduceIte, Nat.reduceEqDiff, reduceCtorEq, Nat.reduceAdd, Nat.reduceLT, Nat.reduceLeDiff, Nat.reduceBEq, Nat.reduceSub, Nat.reduceMul, Int.reduceToNat, Int.reduceLE, eGraph]; exact rfl) (by simp [go_sem, reduceIte, Nat.reduceEqDiff, reduceCtorEq, Nat.reduceAdd, Nat.reduceLT, Nat.reduceLeDiff, Nat.reduceBEq, Nat.reduceSub, Nat.reduceMul, Int.reduceToNat, Int.reduceLE, eGraph]) ?_
    refine CWops.callA (canon_Canon up g) (by simp only [go_sem, reduceIte, Nat.reduceEqDiff, reduceCtorEq, Nat.reduceAdd, Nat.reduceLT, Nat.reduceLeDiff, Nat.reduceBEq, Nat.reduceSub, Nat.reduceMul, Int.reduceToNat, Int.reduceLE, eGraph]) (by simp only [go_sem, reduceIte, Nat.reduceEqDiff, reduceCtorEq, Nat.reduceAdd, Nat.reduceLT, Nat.reduceLeDiff, Nat.reduceBEq, Nat.reduceSub, Nat.reduceMul, Int.reduceToNat, Int.reduceLE, eGraph]; first | done | exact rfl) (by simp only [go_sem, reduceIte, Nat.reduceEqDiff, reduceCtorEq, Nat.reduceAdd, Nat.reduceLT, Nat.reduceLeDiff, Nat.reduceBEq, Nat.reduceSub, Nat.reduceMul, Int.reduceToNat, Int.reduceLE, eGraph]) (by simp only [go_sem, reduceIte, Nat.reduceEqDiff, reduceCtorEq, Nat.reduceAdd, Nat.reduceLT, Nat.reduceLeDiff, Nat.reduceBEq, Nat.reduceSub, Nat.reduceMul, Int.reduceToNat, Int.reduceLE, eGraph]) (fun rt28 hrt28 => ?_)
    subst hrt28
    refine CWops.run htt 2 (by simp only [go_sem, reduceIte, Nat.reduceEqDiff, reduceCtorEq, Nat.reduceAdd, Nat.reduceLT, Nat.reduceLeDiff, Nat.reduceBEq, Nat.reduceSub, Nat.reduceMul, Int.reduceToNat, Int.reduceLE, eGraph]; exact rfl) (by simp [go_sem, reduceIte, Nat.reduceEqDiff, reduceCtorEq, Nat.reduceAdd, Nat.reduceLT, Nat.reduceLeDiff, Nat.reduceBEq, Nat.reduceSub, Nat.reduceMul, Int.reduceToNat, Int.reduceLE, eGraph]) ?_
    refine CWops.done ?_
    refine CW.seq ?_
    refine CW.region (by kernel_rfl) (by kernel_rfl) ?_ -- r7
    refine CWops.run htt 1 (by simp only [go_sem, reduceIte, Nat.reduceEqDiff, reduceCtorEq, Nat.reduceAdd, Nat.reduceLT, Nat.reduceLeDiff, Nat.reduceBEq, Nat.reduceSub, Nat.reduceMul, Int.reduceToNat, Int.reduceLE]; exact rfl) (by simp [go_sem, reduceIte, Nat.reduceEqDiff, reduceCtorEq, Nat.reduceAdd, Nat.reduceLT, Nat.reduceLeDiff, Nat.reduceBEq, Nat.reduceSub, Nat.reduceMul, Int.reduceToNat, Int.reduceLE]) ?_
    refine CWops.done ?_
    refine CW.seq ?_
    refine CW.seq ?_
    refine CW.region (by kernel_rfl) (by kernel_rfl) ?_ -- r8
    refine CWops.run htt 7 (by simp only [go_sem, reduceIte, Nat.reduceEqDiff, reduceCtorEq, Nat.reduceAdd, Nat.reduceLT, Nat.reduceLeDiff, Nat.reduceBEq, Nat.reduceSub, Nat.reduceMul, Int.reduceToNat, Int.reduceLE, eGraph, hC, canonG, List.length_map]; exact rfl) (by simp [go_sem, reduceIte, Nat.reduceEqDiff, reduceCtorEq, Nat.reduceAdd, Nat.reduceLT, Nat.reduceLeDiff, Nat.reduceBEq, Nat.reduceSub, Nat.reduceMul, Int.reduceToNat, Int.reduceLE, eGraph, hC, canonG, List.length_map]) ?_
    refine CWops.done ?_
    refine CW.cond (by simp only [go_sem, reduceIte, Nat.reduceEqDiff, reduceCtorEq, Nat.reduceAdd, Nat.reduceLT, Nat.reduceLeDiff, Nat.reduceBEq, Nat.reduceSub, Nat.reduceMul, Int.reduceToNat, Int.reduceLE]; first | done | exact rfl) (fun ct35 => ?_) (fun ct35 => ?_)
    · exfalso; simp at ct35 
    · refine CW.skip ?_
      refine CW.seq ?_
      refine CW.seq ?_
      refine CW.region (by kernel_rfl) (by kernel_rfl) ?_ -- r10
      refine CWops.run htt 1 (by simp only [go_sem, reduceIte, Nat.reduceEqDiff, reduceCtorEq, Nat.reduceAdd, Nat.reduceLT, Nat.reduceLeDiff, Nat.reduceBEq, Nat.reduceSub, Nat.reduceMul, Int.reduceToNat, Int.reduceLE]; exact rfl) (by simp [go_sem, reduceIte, Nat.reduceEqDiff, reduceCtorEq, Nat.reduceAdd, Nat.reduceLT, Nat.reduceLeDiff, Nat.reduceBEq, Nat.reduceSub, Nat.reduceMul, Int.reduceToNat, Int.reduceLE]) ?_
      refine CWops.done ?_
      refine CW.block ?_
      refine CW.loop (S := Nat) (fun i => ⟨2, [(1, .lv 0 [] 0), (5, .sl 1 ((gOrder g).map eI)), (6, .lv 1 [] 0), (7, .int .i64 (mets [] (g.Roots.take i)).length), (8, .int .i64 i)], [(0, ⟨true, eGraph g⟩), (1, ⟨true, eGraph (gCanon g)⟩)]⟩) (fun i => i ≤ g.Roots.length) (fun i => g.Roots.length - i) (0) ?_ (Nat.zero_le _) (fun i h1 => ?_)
      · refine Sh.wk0 ?_; simp [Wk, go_sem, reduceIte, Nat.reduceEqDiff, reduceCtorEq, Nat.reduceAdd, Nat.reduceLT, Nat.reduceLeDiff, Nat.reduceBEq, Nat.reduceSub, Nat.reduceMul, Int.reduceToNat, Int.reduceLE, eGraph, mets, hC, canonG]
      refine CW.seq ?_
      refine CW.seq ?_
      refine CW.region (by kernel_rfl) (by kernel_rfl) ?_ -- r11
      refine CWops.run htt 5 (by simp only [go_sem, reduceIte, Nat.reduceEqDiff, reduceCtorEq, Nat.reduceAdd, Nat.reduceLT, Nat.reduceLeDiff, Nat.reduceBEq, Nat.reduceSub, Nat.reduceMul, Int.reduceToNat, Int.reduceLE, eGraph]; exact rfl) (by simp [go_sem, reduceIte, Nat.reduceEqDiff, reduceCtorEq, Nat.reduceAdd, Nat.reduceLT, Nat.reduceLeDiff, Nat.reduceBEq, Nat.reduceSub, Nat.reduceMul, Int.reduceToNat, Int.reduceLE, eGraph]) ?_
      refine CWops.done ?_
      refine CW.cond (by simp only [go_sem, reduceIte, Nat.reduceEqDiff, reduceCtorEq, Nat.reduceAdd, Nat.reduceLT, Nat.reduceLeDiff, Nat.reduceBEq, Nat.reduceSub, Nat.reduceMul, Int.reduceToNat, Int.reduceLE]; first | done | exact rfl) (fun ct40 => ?_) (fun ct40 => ?_)
      · have hi : i < g.Roots.length := by simpa using ct40
        obtain ⟨x, hx⟩ : ∃ x, g.Roots[i]? = some x := ⟨g.Roots[i], List.getElem?_eq_getElem hi⟩
        have hra := hm.rootAt hx
        have hpl : (mets [] (g.Roots.take i)).length ≤ 8 := by
          obtain ⟨s, hs⟩ := hm.pre i
          have := congrArg List.length hs
          simp at this; omega
        have hcnt : ((mets [] (g.Roots.take (i + 1))).length : Int) = if atD (order g) x = (mets [] (g.Roots.take i)).length then (mets [] (g.Roots.take i)).length + 1 else (mets [] (g.Roots.take i)).length := by
          rcases hra with ⟨_, a, b⟩ | ⟨n, a, _, _, _, b⟩ <;> rw [a, b]
          · rw [if_neg (by omega)]
          · split <;> split <;> omega
        refine CW.skip ?_
        refine CW.seq ?_
        refine CW.block ?_
        refine CW.seq ?_
        refine CW.region (by kernel_rfl) (by kernel_rfl) ?_ -- r13
        refine CWops.run htt 6 (by simp only [go_sem, reduceIte, Nat.reduceEqDiff, reduceCtorEq, Nat.reduceAdd, Nat.reduceLT, Nat.reduceLeDiff, Nat.reduceBEq, Nat.reduceSub, Nat.reduceMul, Int.reduceToNat, Int.reduceLE, eGraph, hC, canonG, hx, eI]; exact rfl) (by simp [go_sem, reduceIte, Nat.reduceEqDiff, reduceCtorEq, Nat.reduceAdd, Nat.reduceLT, Nat.reduceLeDiff, Nat.reduceBEq, Nat.reduceSub, Nat.reduceMul, Int.reduceToNat, Int.reduceLE, eGraph, hC, canonG, hx, eI]) ?_
        refine CWops.done ?_
        refine CW.seq ?_
        refine CW.cut ⟨2, [(1, .lv 0 [] 0), (5, .sl 1 ((gOrder g).map eI)), (6, .lv 1 [] 0), (7, .int .i64 (mets [] (g.Roots.take i)).length), (8, .int .i64 i), (9, .int .i64 (atD (order g) x)), (83, .bool false)], [(0, ⟨true, eGraph g⟩), (1, ⟨true, eGraph (gCanon g)⟩)]⟩ ?_ ?_
        · rcases hra with ⟨hx1, hrv, hln⟩ | ⟨n, hrv, hx0, hln, hnn, _⟩
          all_goals (refine CW.drawn mixed 33 (by decide) (by kernel_rfl) (by kernel_rfl) (by kernel_rfl) ?_) -- r14
          all_goals (refine Seg.run htt 4 (by simp only [go_sem, reduceIte, Nat.reduceEqDiff, reduceCtorEq, Nat.reduceAdd, Nat.reduceLT, Nat.reduceLeDiff, Nat.reduceBEq, Nat.reduceSub, Nat.reduceMul, Int.reduceToNat, Int.reduceLE, eGraph, hx, eI, hrv, hO, hln]; exact rfl) ?_)
          all_goals (first | refine Seg.guard 51 (by simp only [go_sem, reduceIte, Nat.reduceEqDiff, reduceCtorEq, Nat.reduceAdd, Nat.reduceLT, Nat.reduceLeDiff, Nat.reduceBEq, Nat.reduceSub, Nat.reduceMul, Int.reduceToNat, Int.reduceLE, eGraph, hx, eI, hrv, hO, hln]; exact rfl) (fun g51 => ?_) (fun g51 => ?_) | skip)
          all_goals (try (exfalso; simp at g51 <;> omega))
          all_goals (refine Seg.run htt 11 (by simp only [go_sem, reduceIte, Nat.reduceEqDiff, reduceCtorEq, Nat.reduceAdd, Nat.reduceLT, Nat.reduceLeDiff, Nat.reduceBEq, Nat.reduceSub, Nat.reduceMul, Int.reduceToNat, Int.reduceLE, eGraph, hx, eI, hrv, hO, hln]; exact rfl) ?_)
          all_goals (first | refine Seg.guard 62 (by simp only [go_sem, reduceIte, Nat.reduceEqDiff, reduceCtorEq, Nat.reduceAdd, Nat.reduceLT, Nat.reduceLeDiff, Nat.reduceBEq, Nat.reduceSub, Nat.reduceMul, Int.reduceToNat, Int.reduceLE, eGraph, hx, eI, hrv, hO, hln]; exact rfl) (fun g62 => ?_) (fun g62 => ?_) | skip)
          all_goals (try (exfalso; simp at g62 <;> omega))
          all_goals (refine Seg.run htt 6 (by simp only [go_sem, reduceIte, Nat.reduceEqDiff, reduceCtorEq, Nat.reduceAdd, Nat.reduceLT, Nat.reduceLeDiff, Nat.reduceBEq, Nat.reduceSub, Nat.reduceMul, Int.reduceToNat, Int.reduceLE, eGraph, hx, eI, hrv, hO, hln]; exact rfl) ?_)
          all_goals (first | refine Seg.guard 68 (by simp only [go_sem, reduceIte, Nat.reduceEqDiff, reduceCtorEq, Nat.reduceAdd, Nat.reduceLT, Nat.reduceLeDiff, Nat.reduceBEq, Nat.reduceSub, Nat.reduceMul, Int.reduceToNat, Int.reduceLE, eGraph, hx, eI, hrv, hO, hln]; exact rfl) (fun g68 => ?_) (fun g68 => ?_) | skip)
          all_goals (first | (have := (List.getElem?_eq_some_iff.1 hln).1; exfalso; simp at g68 <;> omega) | (exfalso; simp at g68 <;> omega) | skip)
          all_goals (refine Seg.run htt 3 (by simp only [go_sem, reduceIte, Nat.reduceEqDiff, reduceCtorEq, Nat.reduceAdd, Nat.reduceLT, Nat.reduceLeDiff, Nat.reduceBEq, Nat.reduceSub, Nat.reduceMul, Int.reduceToNat, Int.reduceLE, eGraph, hx, eI, hrv, hO, hln]; exact rfl) ?_)
          all_goals (first | refine Seg.guard 71 (by simp only [go_sem, reduceIte, Nat.reduceEqDiff, reduceCtorEq, Nat.reduceAdd, Nat.reduceLT, Nat.reduceLeDiff, Nat.reduceBEq, Nat.reduceSub, Nat.reduceMul, Int.reduceToNat, Int.reduceLE, eGraph, hx, eI, hrv, hO, hln]; exact rfl) (fun g71 => ?_) (fun g71 => ?_) | skip)
          all_goals (try (exfalso; simp at g71 <;> omega))
          all_goals (refine Seg.run htt 9 (by simp only [go_sem, reduceIte, Nat.reduceEqDiff, reduceCtorEq, Nat.reduceAdd, Nat.reduceLT, Nat.reduceLeDiff, Nat.reduceBEq, Nat.reduceSub, Nat.reduceMul, Int.reduceToNat, Int.reduceLE, eGraph, hx, eI, hrv, hO, hln]; exact rfl) ?_)
          all_goals (refine Seg.done ?_)
          all_goals (refine CWops.run htt 3 (by simp only [go_sem, reduceIte, Nat.reduceEqDiff, reduceCtorEq, Nat.reduceAdd, Nat.reduceLT, Nat.reduceLeDiff, Nat.reduceBEq, Nat.reduceSub, Nat.reduceMul, Int.reduceToNat, Int.reduceLE, eGraph, hx, eI, hrv, hO, hln]; exact rfl) (by simp [go_sem, reduceIte, Nat.reduceEqDiff, reduceCtorEq, Nat.reduceAdd, Nat.reduceLT, Nat.reduceLeDiff, Nat.reduceBEq, Nat.reduceSub, Nat.reduceMul, Int.reduceToNat, Int.reduceLE, eGraph, hx, eI, hrv, hO, hln]) ?_)
          all_goals (refine CWops.done ?_)
          all_goals (
            refine ⟨rfl, Sh.wk0 ?_⟩
            first | (simp [Wk, go_sem, reduceIte, Nat.reduceEqDiff, reduceCtorEq, Nat.reduceAdd, Nat.reduceLT, Nat.reduceLeDiff, Nat.reduceBEq, Nat.reduceSub, Nat.reduceMul, Int.reduceToNat, Int.reduceLE, eGraph, hrv, hO, hC, canonG]; done) | (exfalso; simp at *; omega) | skip)
        refine CW.cond (by simp only [go_sem, reduceIte, Nat.reduceEqDiff, reduceCtorEq, Nat.reduceAdd, Nat.reduceLT, Nat.reduceLeDiff, Nat.reduceBEq, Nat.reduceSub, Nat.reduceMul, Int.reduceToNat, Int.reduceLE]; first | done | exact rfl) (fun ct83 => ?_) (fun ct83 => ?_)
        · cases ct83 
        · refine CW.skip ?_
          refine CW.seq ?_
          refine CW.region (by kernel_rfl) (by kernel_rfl) ?_ -- r16
          refine CWops.run htt 3 (by simp only [go_sem, reduceIte, Nat.reduceEqDiff, reduceCtorEq, Nat.reduceAdd, Nat.reduceLT, Nat.reduceLeDiff, Nat.reduceBEq, Nat.reduceSub, Nat.reduceMul, Int.reduceToNat, Int.reduceLE]; exact rfl) (by simp [go_sem, reduceIte, Nat.reduceEqDiff, reduceCtorEq, Nat.reduceAdd, Nat.reduceLT, Nat.reduceLeDiff, Nat.reduceBEq, Nat.reduceSub, Nat.reduceMul, Int.reduceToNat, Int.reduceLE]) ?_
          refine CWops.done ?_
          refine CW.cond (by simp only [go_sem, reduceIte, Nat.reduceEqDiff, reduceCtorEq, Nat.reduceAdd, Nat.reduceLT, Nat.reduceLeDiff, Nat.reduceBEq, Nat.reduceSub, Nat.reduceMul, Int.reduceToNat, Int.reduceLE]; first | done | exact rfl) (fun ct86 => ?_) (fun ct86 => ?_)
          · rw [if_pos (by simpa using ct86)] at hcnt
            refine CW.region (by kernel_rfl) (by kernel_rfl) ?_ -- r17
            refine CWops.run htt 3 (by simp only [go_sem, reduceIte, Nat.reduceEqDiff, reduceCtorEq, Nat.reduceAdd, Nat.reduceLT, Nat.reduceLeDiff, Nat.reduceBEq, Nat.reduceSub, Nat.reduceMul, Int.reduceToNat, Int.reduceLE, wrap_succ (show (mets [] (g.Roots.take i)).length < MX by unfold MX; omega)]; exact rfl) (by simp [go_sem, reduceIte, Nat.reduceEqDiff, reduceCtorEq, Nat.reduceAdd, Nat.reduceLT, Nat.reduceLeDiff, Nat.reduceBEq, Nat.reduceSub, Nat.reduceMul, Int.reduceToNat, Int.reduceLE, wrap_succ (show (mets [] (g.Roots.take i)).length < MX by unfold MX; omega)]) ?_
            refine CWops.done ?_
            refine CW.region (by kernel_rfl) (by kernel_rfl) ?_ -- r12
            refine CWops.run htt 3 (by simp only [go_sem, reduceIte, Nat.reduceEqDiff, reduceCtorEq, Nat.reduceAdd, Nat.reduceLT, Nat.reduceLeDiff, Nat.reduceBEq, Nat.reduceSub, Nat.reduceMul, Int.reduceToNat, Int.reduceLE, wrap_succ (show i < MX by unfold MX; omega)]; exact rfl) (by simp [go_sem, reduceIte, Nat.reduceEqDiff, reduceCtorEq, Nat.reduceAdd, Nat.reduceLT, Nat.reduceLeDiff, Nat.reduceBEq, Nat.reduceSub, Nat.reduceMul, Int.reduceToNat, Int.reduceLE, wrap_succ (show i < MX by unfold MX; omega)]) ?_
            refine CWops.done ?_
            refine ⟨i + 1, ?_, ?_, ?_⟩
            · refine Sh.wk0 ?_; simp [Wk, go_sem, reduceIte, Nat.reduceEqDiff, reduceCtorEq, Nat.reduceAdd, Nat.reduceLT, Nat.reduceLeDiff, Nat.reduceBEq, Nat.reduceSub, Nat.reduceMul, Int.reduceToNat, Int.reduceLE, eGraph, hcnt]
            · exact hi
            · simp only; omega
          · rw [if_neg (by simpa using ct86)] at hcnt
            refine CW.skip ?_
            refine CW.region (by kernel_rfl) (by kernel_rfl) ?_ -- r12
            refine CWops.run htt 3 (by simp only [go_sem, reduceIte, Nat.reduceEqDiff, reduceCtorEq, Nat.reduceAdd, Nat.reduceLT, Nat.reduceLeDiff, Nat.reduceBEq, Nat.reduceSub, Nat.reduceMul, Int.reduceToNat, Int.reduceLE, wrap_succ (show i < MX by unfold MX; omega)]; exact rfl) (by simp [go_sem, reduceIte, Nat.reduceEqDiff, reduceCtorEq, Nat.reduceAdd, Nat.reduceLT, Nat.reduceLeDiff, Nat.reduceBEq, Nat.reduceSub, Nat.reduceMul, Int.reduceToNat, Int.reduceLE, wrap_succ (show i < MX by unfold MX; omega)]) ?_
            refine CWops.done ?_
            refine ⟨i + 1, ?_, ?_, ?_⟩
            · refine Sh.wk0 ?_; simp [Wk, go_sem, reduceIte, Nat.reduceEqDiff, reduceCtorEq, Nat.reduceAdd, Nat.reduceLT, Nat.reduceLeDiff, Nat.reduceBEq, Nat.reduceSub, Nat.reduceMul, Int.reduceToNat, Int.reduceLE, eGraph, hcnt]
            · exact hi
            · simp only; omega
      · have hi : i = g.Roots.length := by simp at ct40; omega
        refine CW.exit ?_
        refine CW.seq ?_
        refine CW.region (by kernel_rfl) (by kernel_rfl) ?_ -- r18
        refine CWops.run htt 1 (by simp only [go_sem, reduceIte, Nat.reduceEqDiff, reduceCtorEq, Nat.reduceAdd, Nat.reduceLT, Nat.reduceLeDiff, Nat.reduceBEq, Nat.reduceSub, Nat.reduceMul, Int.reduceToNat, Int.reduceLE]; exact rfl) (by simp [go_sem, reduceIte, Nat.reduceEqDiff, reduceCtorEq, Nat.reduceAdd, Nat.reduceLT, Nat.reduceLeDiff, Nat.reduceBEq, Nat.reduceSub, Nat.reduceMul, Int.reduceToNat, Int.reduceLE]) ?_
        refine CWops.done ?_
        refine CW.ret ?_
        refine retQ.ret (by simp only [f5, go_sem, reduceIte, Nat.reduceEqDiff, reduceCtorEq, Nat.reduceAdd, Nat.reduceLT, Nat.reduceLeDiff, Nat.reduceBEq, Nat.reduceSub, Nat.reduceMul, Int.reduceToNat, Int.reduceLE]; exact rfl) (by simp only [go_sem, reduceIte, Nat.reduceEqDiff, reduceCtorEq, Nat.reduceAdd, Nat.reduceLT, Nat.reduceLeDiff, Nat.reduceBEq, Nat.reduceSub, Nat.reduceMul, Int.reduceToNat, Int.reduceLE]; exact rfl) ?_ -- ret2
        refine ⟨_, ?_, rfl⟩
        simp [leP]
end Go.Ab

namespace Go.Proofs.Ytkfdkamdkdjkgaa
open Go.ChangeShapes Go.WideShapes Go.ChangeAt Go.RowKit
set_option maxRecDepth 100000


theorem canonRoots_lifted (os : Os) (started : os.Started) (H : Type) (enc : TypeId × Value → H) :
    ReturnsInHanded {} Try.checked os 5 .any (Rows.canonRootsSpec.pre6 enc Try.prog Try.f5 Rows.canonRootsRow.domain false) (Rows.canonRootsSpec.post enc Try.prog Try.f5 false true false false) := by
  refine Ab.law_row (C := Try.checked) (tb := 4) Ab.own0 started (by kernel_rfl) Try.func5 (ChangeSpec.witness6 (enc := enc) (C := Try.checked) false ⟨#[], #[.agg #[.slice none 0 0, .slice none 0 0, .slice none 0 0]], []⟩ 8 (by kernel_rfl) (by kernel_rfl) (by kernel_rfl) (by kernel_rfl)) Ab.laid0 ?_ rfl Try.underlying4 rfl ?_ (Ab.ArgsOK.cons Ab.arg_Graph Ab.ArgsOK.nil) ?_
  · intro t ht
    rw [Try.params5] at ht
    simp only [List.mem_cons, List.not_mem_nil, or_false] at ht
    rcases ht with rfl <;> exact ⟨by kernel_rfl, Nat.le_of_ble_eq_true (by kernel_rfl)⟩
  · intro ds hd
    rw [Try.params5] at hd
    obtain ⟨d0, rfl⟩ : ∃ d0, ds = [d0] := by
      match ds, hd with
      | [d0], _ => exact ⟨d0, rfl⟩
    rfl
  · rintro _ ⟨a0, _, w0, rfl, rfl⟩
    exact Ab.law09_CanonRoots false a0
theorem canonRoots_holds : Rows.CanonRootsSaid :=
  OpenClaim.holds_of_wide 5 Try.f5 rfl rfl rfl rfl rfl rfl rfl ⟨rfl, rfl, rfl, rfl, rfl⟩ rfl rfl rfl rfl rfl (by kernel_rfl) Try.func5 (by kernel_rfl)
    (of_decide_eq_true (by kernel_rfl)) (by unfold Func.isWrapper; first | (rw [if_pos (by decide +kernel)]; kernel_rfl) | (rw [if_neg (by decide +kernel)]; exact ⟨rfl, rfl⟩))
    (fun os started H enc _ => canonRoots_lifted os started H enc)

end Go.Proofs.Ytkfdkamdkdjkgaa

