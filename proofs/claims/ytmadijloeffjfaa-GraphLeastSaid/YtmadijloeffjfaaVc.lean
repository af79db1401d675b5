/-
  What functions of the program answer: each by its contract. No condition but those of each theorem.
-/
import Derived.Test.YtmadijloeffjfaaProg
import Derived.WalkKit
import Derived.Below
import Derived.Scope
import Derived.Orders
import Derived.Test.YtmadijloeffjfaaFa
import Derived.Test.YtmadijloeffjfaaFb
import Derived.Test.YtmadijloeffjfaaFc
import Derived.Test.YtmadijloeffjfaaFd
import Derived.Test.YtmadijloeffjfaaFe
import Derived.Test.YtmadijloeffjfaaDa
import Derived.Test.YtmadijloeffjfaaVa
import Derived.Test.YtmadijloeffjfaaVb
set_option linter.unusedVariables false
set_option linter.unusedSimpArgs false
namespace Go.Ab
open Go Go.Proofs.Try
open Nat (reduceEqDiff reduceAdd reduceLT reduceLeDiff reduceBEq reduceSub reduceMul)
open Int (reduceToNat)
set_option maxRecDepth 100000
set_option linter.unusedSimpArgs false
set_option linter.unusedVariables false
theorem graph_Reach (up : Bool) (g : Graph) : PCall prog up 29 [.agg (eGraph g)] (· = .sl 1 ((gReach g).map eI)) := by
  refine PCall.intro htt func29 (by kernel_rfl) rfl (Nat.le_of_ble_eq_true rfl) fun hl => ?_

  simp only [tmps0, Nat.reduceAdd]
  refine CW.seq ?_
  refine CW.region (by kernel_rfl) (by kernel_rfl) ?_ -- r0
  refine CWops.run htt 2 (by simp only [go_sem, reduceIte, reduceCtorEq, reduceEqDiff, reduceAdd, reduceLT, reduceLeDiff, reduceToNat, eGraph]; exact rfl) (by simp [go_sem, reduceIte, reduceCtorEq, reduceEqDiff, reduceAdd, reduceLT, reduceLeDiff, reduceToNat, eGraph]) ?_
  refine CWops.done ?_
  refine CW.seq ?_
  refine CW.seq ?_
  refine CW.region (by kernel_rfl) (by kernel_rfl) ?_ -- r1
  refine CWops.run htt 1 (by simp only [go_sem, reduceIte, reduceCtorEq, reduceEqDiff, reduceAdd, reduceLT, reduceLeDiff, reduceToNat, eGraph]; exact rfl) (by simp [go_sem, reduceIte, reduceCtorEq, reduceEqDiff, reduceAdd, reduceLT, reduceLeDiff, reduceToNat, eGraph]) ?_
  refine CWops.call (graph_May up g) (by simp only [go_sem, reduceIte, reduceCtorEq, reduceEqDiff, reduceAdd, reduceLT, reduceLeDiff, reduceToNat, eGraph]) (by simp only [go_sem, reduceIte, reduceCtorEq, reduceEqDiff, reduceAdd, reduceLT, reduceLeDiff, reduceToNat, eGraph]; first | done | exact rfl) (by simp only [go_sem, reduceIte, reduceCtorEq, reduceEqDiff, reduceAdd, reduceLT, reduceLeDiff, reduceToNat, eGraph]) (fun rt9 hrt9 => ?_)
  subst hrt9; refine ⟨rfl, ?_⟩
  refine CWops.run htt 1 (by simp only [go_sem, reduceIte, reduceCtorEq, reduceEqDiff, reduceAdd, reduceLT, reduceLeDiff, reduceToNat, eGraph]; exact rfl) (by simp [go_sem, reduceIte, reduceCtorEq, reduceEqDiff, reduceAdd, reduceLT, reduceLeDiff, reduceToNat, eGraph]) ?_
  refine CWops.done ?_
  refine CW.cond (by simp only [go_sem, reduceIte, reduceCtorEq, reduceEqDiff, reduceAdd, reduceLT, reduceLeDiff, reduceToNat]; first | done | exact rfl) (fun ct10 => ?_) (fun ct10 => ?_)
  · simp only [Bool.not_eq_true'] at ct10
    refine CW.seq ?_
    refine CW.region (by kernel_rfl) (by kernel_rfl) ?_ -- r2
    refine CWops.run htt 1 (by simp only [go_sem, reduceIte, reduceCtorEq, reduceEqDiff, reduceAdd, reduceLT, reduceLeDiff, reduceToNat]; exact rfl) (by simp [go_sem, reduceIte, reduceCtorEq, reduceEqDiff, reduceAdd, reduceLT, reduceLeDiff, reduceToNat]) ?_
    refine CWops.done ?_
    refine CW.ret ?_
    refine retQ.ret (by simp only [f29, go_sem, reduceIte, reduceCtorEq, reduceEqDiff, reduceAdd, reduceLT, reduceLeDiff, reduceToNat]; exact rfl) (by simp only [go_sem, reduceIte, reduceCtorEq, reduceEqDiff, reduceAdd, reduceLT, reduceLeDiff, reduceToNat]; exact rfl) ?_ -- ret1
    refine ⟨_, ?_, rfl⟩
    have : gReach g = [] := by unfold gReach; rw [ct10]; rfl
    simp [leP, this]
  · simp only [Bool.not_eq_false'] at ct10
    have hm := (may_iff g).1 ct10
    have ho := hm.o
    have hr3 := hm.r
    refine CW.skip ?_
    refine CW.seq ?_
    refine CW.region (by kernel_rfl) (by kernel_rfl) ?_ -- r3
    refine CWops.run htt 5 (by simp only [go_sem, reduceIte, reduceCtorEq, reduceEqDiff, reduceAdd, reduceLT, reduceLeDiff, reduceToNat]; exact rfl) (by unfold MX; decide) ?_
    refine CWops.done ?_
    refine CW.seq ?_
    refine CW.region (by kernel_rfl) (by kernel_rfl) ?_ -- r4
    refine CWops.run htt 1 (by simp only [go_sem, reduceIte, reduceCtorEq, reduceEqDiff, reduceAdd, reduceLT, reduceLeDiff, reduceToNat]; exact rfl) (by simp [go_sem, reduceIte, reduceCtorEq, reduceEqDiff, reduceAdd, reduceLT, reduceLeDiff, reduceToNat]) ?_
    refine CWops.done ?_
    refine CW.seq ?_
    refine CW.region (by kernel_rfl) (by kernel_rfl) ?_ -- r5
    refine CWops.run htt 1 (by simp only [go_sem, reduceIte, reduceCtorEq, reduceEqDiff, reduceAdd, reduceLT, reduceLeDiff, reduceToNat]; exact rfl) (by simp [go_sem, reduceIte, reduceCtorEq, reduceEqDiff, reduceAdd, reduceLT, reduceLeDiff, reduceToNat]) ?_
    refine CWops.done ?_
    refine CW.seq ?_
    refine CW.region (by kernel_rfl) (by kernel_rfl) ?_ -- r6
    refine CWops.run htt 2 (by simp only [go_sem, reduceIte, reduceCtorEq, reduceEqDiff, reduceAdd, reduceLT, reduceLeDiff, reduceToNat]; exact rfl) (by simp [go_sem, reduceIte, reduceCtorEq, reduceEqDiff, reduceAdd, reduceLT, reduceLeDiff, reduceToNat]) ?_
    refine CWops.done ?_
    refine CW.seq ?_
    refine CW.seq ?_
    refine CW.region (by kernel_rfl) (by kernel_rfl) ?_ -- r7
    refine CWops.run htt 4 (by simp only [go_sem, reduceIte, reduceCtorEq, reduceEqDiff, reduceAdd, reduceLT, reduceLeDiff, reduceToNat, eGraph]; exact rfl) (by simp [go_sem, reduceIte, reduceCtorEq, reduceEqDiff, reduceAdd, reduceLT, reduceLeDiff, reduceToNat, eGraph]) ?_
    refine CWops.done ?_
    refine CW.block ?_
    refine CW.loop (S := Nat) (fun i => ⟨5, [(1, .lv 0 [] 0), (3, .lv 2 [] 0), (4, .lv 3 [] 0), (5, .lv 4 [] 0), (15, .sl 1 (g.Roots.map eI)), (16, .int .i64 g.Roots.length), (17, .int .i64 i)], [(0, ⟨true, eGraph g⟩), (2, ⟨true, [.omap (wasMap ((g.Roots.take i).foldl (dfs g (g.O.length + 1)) []))]⟩), (3, ⟨true, [.own 1 (List.map eI ((g.Roots.take i).foldl (dfs g (g.O.length + 1)) []))]⟩), (4, ⟨true, [.func (.func 60) [] [.lv 2 [] 0, .lv 3 [] 0, .lv 0 [] 0, .lv 4 [] 0]]⟩)]⟩) (fun i => i ≤ g.Roots.length ∧ Step g [] (g.Roots.take i) ((g.Roots.take i).foldl (dfs g (g.O.length + 1)) [])) (fun i => g.Roots.length - i) (0) ?_ ⟨Nat.zero_le _, by simpa using Step.nil (Good.nil g)⟩ (fun i ⟨h1, hs⟩ => ?_)
    · refine Sh.trans (Sh.nilCell 3 [] 0 1 (by simp [go_sem, reduceIte, reduceCtorEq, reduceEqDiff, reduceAdd, reduceLT, reduceLeDiff, reduceToNat]) rfl) (Sh.wk0 ?_); simp [Wk, go_sem, reduceIte, reduceCtorEq, reduceEqDiff, reduceAdd, reduceLT, reduceLeDiff, reduceToNat, ex_func, SubL, Sub, eGraph, wasMap]
    refine CW.seq ?_
    refine CW.region (by kernel_rfl) (by kernel_rfl) ?_ -- r8
    refine CWops.run htt 1 (by simp only [go_sem, reduceIte, reduceCtorEq, reduceEqDiff, reduceAdd, reduceLT, reduceLeDiff, reduceToNat]; exact rfl) (by simp [go_sem, reduceIte, reduceCtorEq, reduceEqDiff, reduceAdd, reduceLT, reduceLeDiff, reduceToNat]) ?_
    refine CWops.done ?_
    refine CW.seq ?_
    refine CW.cond (by simp only [go_sem, reduceIte, reduceCtorEq, reduceEqDiff, reduceAdd, reduceLT, reduceLeDiff, reduceToNat]; first | done | exact rfl) (fun ct18 => ?_) (fun ct18 => ?_)
    · have hi : i < g.Roots.length := by simpa using ct18
      obtain ⟨x, hx⟩ : ∃ x, g.Roots[i]? = some x := ⟨g.Roots[i], List.getElem?_eq_getElem hi⟩
      refine CW.skip ?_
      refine CW.seq ?_
      refine CW.block ?_
      refine CW.seq ?_
      refine CW.region (by kernel_rfl) (by kernel_rfl) ?_ -- r9
      refine CWops.run htt 3 (by simp only [go_sem, reduceIte, reduceCtorEq, reduceEqDiff, reduceAdd, reduceLT, reduceLeDiff, reduceToNat, hx, eI]; exact rfl) (by simp [go_sem, reduceIte, reduceCtorEq, reduceEqDiff, reduceAdd, reduceLT, reduceLeDiff, reduceToNat, hx, eI]) ?_
      refine CWops.done ?_
      refine CW.region (by kernel_rfl) (by kernel_rfl) ?_ -- r10
      refine CWops.run htt 2 (by simp only [go_sem, reduceIte, reduceCtorEq, reduceEqDiff, reduceAdd, reduceLT, reduceLeDiff, reduceToNat]; exact rfl) (by simp [go_sem, reduceIte, reduceCtorEq, reduceEqDiff, reduceAdd, reduceLT, reduceLeDiff, reduceToNat]) ?_
      refine CWops.callG [2, 3, 0, 4] rfl (come up g hm (g.O.length + 1) ((g.Roots.take i).foldl (dfs g (g.O.length + 1)) []) x hs.good (hm.root x (List.mem_of_getElem? hx)) (by omega)) (by simp only [go_sem, reduceIte, reduceCtorEq, reduceEqDiff, reduceAdd, reduceLT, reduceLeDiff, reduceToNat]) (by simp only [go_sem, reduceIte, reduceCtorEq, reduceEqDiff, reduceAdd, reduceLT, reduceLeDiff, reduceToNat]; first | done | exact rfl) (by decide) (by simp [go_sem, reduceIte, reduceCtorEq, reduceEqDiff, reduceAdd, reduceLT, reduceLeDiff, reduceToNat, mName, memB, ex_func, SubL, Sub, eGraph]) (by simp [go_sem, reduceIte, reduceCtorEq, reduceEqDiff, reduceAdd, reduceLT, reduceLeDiff, reduceToNat, mName, ex_func, SubL, Sub, eGraph]) (by simp [go_sem, reduceIte, reduceCtorEq, reduceEqDiff, reduceAdd, reduceLT, reduceLeDiff, reduceToNat, ex_func, SubL, Sub, eGraph]) (by intro x hx; rcases x with _ | _ | _ | _ | x <;> first | (simp [go_sem, reduceIte, reduceCtorEq, reduceEqDiff, reduceAdd, reduceLT, reduceLeDiff, reduceToNat]; done) | omega | (simp at hx; done) | (simp at hx; omega)) (by simp [go_sem, reduceIte, reduceCtorEq, reduceEqDiff, reduceAdd, reduceLT, reduceLeDiff, reduceToNat, mName, ex_func, SubL, Sub, eGraph]) (fun r σ' hσ => ?_)
      obtain ⟨t', rfl⟩ := hσ
      simp only [aftS, renS, delAll, memB, mName, List.getD_nil, killH, kref, ren, Nat.beq_eq, go_sem, reduceIte, reduceCtorEq, reduceEqDiff, reduceAdd, reduceLT, reduceLeDiff, reduceToNat]
      refine CWops.done ?_
      refine CW.region (by kernel_rfl) (by kernel_rfl) ?_ -- r11
      refine CWops.run htt 2 (by simp only [go_sem, reduceIte, reduceCtorEq, reduceEqDiff, reduceAdd, reduceLT, reduceLeDiff, reduceToNat, wrap_succ (show i < MX by unfold MX; omega)]; exact rfl) (by simp [go_sem, reduceIte, reduceCtorEq, reduceEqDiff, reduceAdd, reduceLT, reduceLeDiff, reduceToNat, wrap_succ (show i < MX by unfold MX; omega)]) ?_
      refine CWops.done ?_
      refine ⟨i + 1, ?_, ?_, ?_⟩
      · refine Sh.wk0 ?_; simp [Wk, go_sem, reduceIte, reduceCtorEq, reduceEqDiff, reduceAdd, reduceLT, reduceLeDiff, reduceToNat, ex_func, SubL, Sub, eGraph, List.take_add_one, hx]
      · refine ⟨hi, ?_⟩
        rw [List.take_add_one, hx, Option.toList_some, List.foldl_append]
        exact hs.app (dfs_step hm _ hs.good (hm.root x (List.mem_of_getElem? hx)) (by omega))
      · simp only; omega
    · have hi : i = g.Roots.length := by simp at ct18; omega
      have hdf : g.Roots.foldl (dfs g (g.O.length + 1)) [] = dfsL g := rfl
      rw [hi, List.take_length, hdf]
      refine CW.exit ?_
      refine CW.seq ?_
      refine CW.sh (Sh.out 3 0 rfl rfl rfl) ?_
      simp only [go_sem, reduceIte, reduceCtorEq, reduceEqDiff, reduceAdd, reduceLT, reduceLeDiff, reduceToNat, mapT, mapS, outF, List.map_cons, List.map_nil, putAt, List.set_cons_zero]
      refine CW.region (by kernel_rfl) (by kernel_rfl) ?_ -- r12
      refine CWops.run htt 1 (by simp only [go_sem, reduceIte, reduceCtorEq, reduceEqDiff, reduceAdd, reduceLT, reduceLeDiff, reduceToNat]; exact rfl) (by simp [go_sem, reduceIte, reduceCtorEq, reduceEqDiff, reduceAdd, reduceLT, reduceLeDiff, reduceToNat]) ?_
      refine CWops.callGH [5] rfl (slices_Sort up (dfsL g) (by have := (dfsL_step hm).good.len; omega)) (by decide) (by simp only [go_sem, reduceIte, reduceCtorEq, reduceEqDiff, reduceAdd, reduceLT, reduceLeDiff, reduceToNat]) (by simp only [go_sem, reduceIte, reduceCtorEq, reduceEqDiff, reduceAdd, reduceLT, reduceLeDiff, reduceToNat]; first | done | exact rfl) (by decide) (by simp [go_sem, reduceIte, reduceCtorEq, reduceEqDiff, reduceAdd, reduceLT, reduceLeDiff, reduceToNat, mName, memB]) (by simp [go_sem, reduceIte, reduceCtorEq, reduceEqDiff, reduceAdd, reduceLT, reduceLeDiff, reduceToNat, mName]) (by simp [go_sem, reduceIte, reduceCtorEq, reduceEqDiff, reduceAdd, reduceLT, reduceLeDiff, reduceToNat]) (by simp [go_sem, reduceIte, reduceCtorEq, reduceEqDiff, reduceAdd, reduceLT, reduceLeDiff, reduceToNat]) (by simp [go_sem, reduceIte, reduceCtorEq, reduceEqDiff, reduceAdd, reduceLT, reduceLeDiff, reduceToNat, mName]) (fun r σ' hσ => ?_)
      obtain ⟨σn, σt, σs⟩ := σ'
      simp only at hσ
      obtain ⟨m, rfl, rfl, hm2⟩ := hσ
      simp only [aftH, renS, List.map_cons, List.map_nil, delAll, memB, mName, List.getD_nil, killH, kref, ren, Nat.beq_eq, go_sem, reduceIte, reduceCtorEq, reduceEqDiff, reduceAdd, reduceLT, reduceLeDiff, reduceToNat]
      refine CWops.done ?_
      refine CW.seq ?_
      refine CW.region (by kernel_rfl) (by kernel_rfl) ?_ -- r13
      refine CWops.run htt 2 (by simp only [go_sem, reduceIte, reduceCtorEq, reduceEqDiff, reduceAdd, reduceLT, reduceLeDiff, reduceToNat]; exact rfl) (by simp [go_sem, reduceIte, reduceCtorEq, reduceEqDiff, reduceAdd, reduceLT, reduceLeDiff, reduceToNat]) ?_
      refine CWops.done ?_
      refine CW.ret ?_
      refine retQ.ret (by simp only [f29, go_sem, reduceIte, reduceCtorEq, reduceEqDiff, reduceAdd, reduceLT, reduceLeDiff, reduceToNat]; exact rfl) (by simp only [go_sem, reduceIte, reduceCtorEq, reduceEqDiff, reduceAdd, reduceLT, reduceLeDiff, reduceToNat]; exact rfl) ?_ -- ret2
      refine ⟨_, ?_, rfl⟩
      have : gReach g = m := (dfsL_sorted hm hm2).symm
      simp [go_sem, reduceIte, reduceCtorEq, reduceEqDiff, reduceAdd, reduceLT, reduceLeDiff, reduceToNat, leP, leL, AV.freeze, frz_I, this]
end Go.Ab
namespace Go.Ab
open Go Go.Proofs.Try
open Nat (reduceEqDiff reduceAdd reduceLT reduceLeDiff reduceBEq reduceSub reduceMul)
open Int (reduceToNat)
set_option maxRecDepth 100000
set_option linter.unusedSimpArgs false
set_option linter.unusedVariables false
theorem binarySearch (up : Bool) (l : List Int) (x : Int) (hs : l.Pairwise (· < ·)) (hl9 : l.length < 1000) : PCall prog up 64 [.sl 1 (l.map eI), .int .i64 x] (fun r => ∃ k : Int, r = .tup [.int .i64 k, .bool (decide (x ∈ l))]) := by
  refine PCall.intro htt func64 (by kernel_rfl) rfl (Nat.le_of_ble_eq_true rfl) fun hl => ?_

  simp only [tmps0, Nat.reduceAdd]
  refine CW.seq ?_
  refine CW.region (by kernel_rfl) (by kernel_rfl) ?_ -- r0
  refine CWops.run htt 2 (by simp only [go_sem, reduceIte, reduceCtorEq, reduceEqDiff, reduceAdd, reduceLT, reduceLeDiff, reduceToNat]; exact rfl) (by simp [go_sem, reduceIte, reduceCtorEq, reduceEqDiff, reduceAdd, reduceLT, reduceLeDiff, reduceToNat]) ?_
  refine CWops.done ?_
  refine CW.seq ?_
  refine CW.region (by kernel_rfl) (by kernel_rfl) ?_ -- r1
  refine CWops.run htt 3 (by simp only [go_sem, reduceIte, reduceCtorEq, reduceEqDiff, reduceAdd, reduceLT, reduceLeDiff, reduceToNat]; exact rfl) (by simp [go_sem, reduceIte, reduceCtorEq, reduceEqDiff, reduceAdd, reduceLT, reduceLeDiff, reduceToNat]) ?_
  refine CWops.done ?_
  refine CW.seq ?_
  refine CW.region (by kernel_rfl) (by kernel_rfl) ?_ -- r2
  refine CWops.run htt 3 (by simp only [go_sem, reduceIte, reduceCtorEq, reduceEqDiff, reduceAdd, reduceLT, reduceLeDiff, reduceToNat]; exact rfl) (by simp [go_sem, reduceIte, reduceCtorEq, reduceEqDiff, reduceAdd, reduceLT, reduceLeDiff, reduceToNat]) ?_
  refine CWops.done ?_
  refine CW.seq ?_
  refine CW.block ?_
  refine CW.loop (S := Nat × Nat) (fun p => ⟨0, [(0, .sl 1 (l.map eI)), (1, .int .i64 x), (4, .int .i64 0), (5, .bool false), (6, .int .i64 l.length), (7, .int .i64 p.1), (8, .int .i64 p.2)], []⟩) (fun p => BS l x p.1 p.2) (fun p => p.2 - p.1) ((0, l.length)) ?_ (BS.start l x) (fun ⟨i, j⟩ hb => ?_)
  · refine Sh.wk0 ?_; simp [Wk, go_sem, reduceIte, reduceCtorEq, reduceEqDiff, reduceAdd, reduceLT, reduceLeDiff, reduceToNat]
  simp only at hb
  refine CW.seq ?_
  refine CW.seq ?_
  refine CW.region (by kernel_rfl) (by kernel_rfl) ?_ -- r3
  refine CWops.run htt 3 (by simp only [go_sem, reduceIte, reduceCtorEq, reduceEqDiff, reduceAdd, reduceLT, reduceLeDiff, reduceToNat]; exact rfl) (by simp [go_sem, reduceIte, reduceCtorEq, reduceEqDiff, reduceAdd, reduceLT, reduceLeDiff, reduceToNat]) ?_
  refine CWops.done ?_
  refine CW.cond (by simp only [go_sem, reduceIte, reduceCtorEq, reduceEqDiff, reduceAdd, reduceLT, reduceLeDiff, reduceToNat]; first | done | exact rfl) (fun ct15 => ?_) (fun ct15 => ?_)
  · have hij : i < j := by simpa using ct15
    have hjl := hb.jl
    have hadd : IntKind.i64.wrap ((i : Int) + (j : Int)) = ((i + j : Nat) : Int) := wrap_add (by unfold MX; omega)
    have hdiv : ((i + j : Nat) : Int).fdiv (2 ^ min 1 64) = (((i + j) / 2 : Nat) : Int) := by rw [show ((2 : Int) ^ min 1 64) = 2 by decide]; exact fdiv2 _
    have hhl : (i + j) / 2 < l.length := by omega
    obtain ⟨y, hy⟩ : ∃ y, l[(i + j) / 2]? = some y := ⟨l[(i + j) / 2], List.getElem?_eq_getElem hhl⟩
    refine CW.skip ?_
    refine CW.block ?_
    refine CW.seq ?_
    refine CW.region (by kernel_rfl) (by kernel_rfl) ?_ -- r4
    refine CWops.run htt 3 (by simp only [go_sem, reduceIte, reduceCtorEq, reduceEqDiff, reduceAdd, reduceLT, reduceLeDiff, reduceToNat]; exact rfl) (by simp [go_sem, reduceIte, reduceCtorEq, reduceEqDiff, reduceAdd, reduceLT, reduceLeDiff, reduceToNat]) ?_
    refine CWops.conv (n := ((i + j : Nat) : Int)) (k := .i64) (k' := .u64) htt (by simp only [go_sem, reduceIte, reduceCtorEq, reduceEqDiff, reduceAdd, reduceLT, reduceLeDiff, reduceToNat]) tt_3 rfl tt_115 rfl (by simp only [go_sem, reduceIte, reduceCtorEq, reduceEqDiff, reduceAdd, reduceLT, reduceLeDiff, reduceToNat, hadd, hdiv]; first | done | exact rfl) ?_
    rw [show IntKind.u64.wrap (((i + j : Nat) : Int)) = ((i + j : Nat) : Int) by simp only [IntKind.wrap, IntKind.bits, IntKind.signed]; simp; omega]
    refine CWops.run htt 1 (by simp only [go_sem, reduceIte, reduceCtorEq, reduceEqDiff, reduceAdd, reduceLT, reduceLeDiff, reduceToNat]; exact rfl) (by simp [go_sem, reduceIte, reduceCtorEq, reduceEqDiff, reduceAdd, reduceLT, reduceLeDiff, reduceToNat]) ?_
    refine CWops.conv (n := (((i + j) / 2 : Nat) : Int)) (k := .u64) (k' := .i64) htt (by simp only [go_sem, reduceIte, reduceCtorEq, reduceEqDiff, reduceAdd, reduceLT, reduceLeDiff, reduceToNat]) tt_115 rfl tt_3 rfl (by simp only [go_sem, reduceIte, reduceCtorEq, reduceEqDiff, reduceAdd, reduceLT, reduceLeDiff, reduceToNat, hadd, hdiv]; first | done | exact rfl) ?_
    rw [show IntKind.i64.wrap ((((i + j) / 2 : Nat) : Int)) = (((i + j) / 2 : Nat) : Int) by simp only [IntKind.wrap, IntKind.bits, IntKind.signed]; simp; omega]
    refine CWops.run htt 1 (by simp only [go_sem, reduceIte, reduceCtorEq, reduceEqDiff, reduceAdd, reduceLT, reduceLeDiff, reduceToNat]; exact rfl) (by simp [go_sem, reduceIte, reduceCtorEq, reduceEqDiff, reduceAdd, reduceLT, reduceLeDiff, reduceToNat]) ?_
    refine CWops.done ?_
    refine CW.seq ?_
    refine CW.region (by kernel_rfl) (by kernel_rfl) ?_ -- r5
    refine CWops.run htt 5 (by simp only [go_sem, reduceIte, reduceCtorEq, reduceEqDiff, reduceAdd, reduceLT, reduceLeDiff, reduceToNat, hy, eI, hhl]; exact rfl) (by simp [go_sem, reduceIte, reduceCtorEq, reduceEqDiff, reduceAdd, reduceLT, reduceLeDiff, reduceToNat, hy, eI, hhl]) ?_
    refine CWops.callA (cmp_Less up y x) (by simp only [go_sem, reduceIte, reduceCtorEq, reduceEqDiff, reduceAdd, reduceLT, reduceLeDiff, reduceToNat, hy, eI, hhl]) (by simp only [go_sem, reduceIte, reduceCtorEq, reduceEqDiff, reduceAdd, reduceLT, reduceLeDiff, reduceToNat, hy, eI, hhl]; first | done | exact rfl) (by simp only [go_sem, reduceIte, reduceCtorEq, reduceEqDiff, reduceAdd, reduceLT, reduceLeDiff, reduceToNat, hy, eI, hhl]) (by simp only [go_sem, reduceIte, reduceCtorEq, reduceEqDiff, reduceAdd, reduceLT, reduceLeDiff, reduceToNat, hy, eI, hhl]) (fun rt27 hrt27 => ?_)
    subst hrt27
    refine CWops.done ?_
    refine CW.cond (by simp only [go_sem, reduceIte, reduceCtorEq, reduceEqDiff, reduceAdd, reduceLT, reduceLeDiff, reduceToNat]; first | done | exact rfl) (fun ct27 => ?_) (fun ct27 => ?_)
    · have hlt : y < x := by simpa using ct27
      obtain ⟨p', hp'⟩ : ∃ p' : Nat × Nat, p' = ((i + j) / 2 + 1, j) := ⟨_, rfl⟩
      refine CW.region (by kernel_rfl) (by kernel_rfl) ?_ -- r6
      refine CWops.run htt 3 (by simp only [go_sem, reduceIte, reduceCtorEq, reduceEqDiff, reduceAdd, reduceLT, reduceLeDiff, reduceToNat, wrap_succ (show (i + j) / 2 < MX by unfold MX; omega)]; exact rfl) (by simp [go_sem, reduceIte, reduceCtorEq, reduceEqDiff, reduceAdd, reduceLT, reduceLeDiff, reduceToNat, wrap_succ (show (i + j) / 2 < MX by unfold MX; omega)]) ?_
      refine CWops.done ?_
      refine ⟨p', ?_, ?_, ?_⟩
      · subst hp'; refine Sh.wk0 ?_; simp [Wk, go_sem, reduceIte, reduceCtorEq, reduceEqDiff, reduceAdd, reduceLT, reduceLeDiff, reduceToNat]
      · subst hp'; first | exact hb.left hs hy hlt (by omega) | exact hb.right hs hy hlt (by omega) (by omega)
      · subst hp'; simp only; omega
    · have hlt : ¬ y < x := by simpa using ct27
      obtain ⟨p', hp'⟩ : ∃ p' : Nat × Nat, p' = (i, (i + j) / 2) := ⟨_, rfl⟩
      refine CW.region (by kernel_rfl) (by kernel_rfl) ?_ -- r7
      refine CWops.run htt 2 (by simp only [go_sem, reduceIte, reduceCtorEq, reduceEqDiff, reduceAdd, reduceLT, reduceLeDiff, reduceToNat]; exact rfl) (by simp [go_sem, reduceIte, reduceCtorEq, reduceEqDiff, reduceAdd, reduceLT, reduceLeDiff, reduceToNat]) ?_
      refine CWops.done ?_
      refine ⟨p', ?_, ?_, ?_⟩
      · subst hp'; refine Sh.wk0 ?_; simp [Wk, go_sem, reduceIte, reduceCtorEq, reduceEqDiff, reduceAdd, reduceLT, reduceLeDiff, reduceToNat]
      · subst hp'; first | exact hb.left hs hy hlt (by omega) | exact hb.right hs hy hlt (by omega) (by omega)
      · subst hp'; simp only; omega
  · have hij : i = j := by have := hb.ij; simp at ct15; omega
    subst hij
    have hjl := hb.jl
    refine CW.exit ?_
    refine CW.seq ?_
    obtain ⟨y, hcase⟩ : ∃ y, (i = l.length ∧ True ∧ True) ∨ (i ≠ l.length ∧ l[i]? = some y ∧ i < l.length) := by
      by_cases e : i = l.length
      · exact ⟨0, .inl ⟨e, trivial, trivial⟩⟩
      · exact ⟨l[i], .inr ⟨e, List.getElem?_eq_getElem (by omega), by omega⟩⟩
    rcases hcase with ⟨hil, hy, hyl⟩ | ⟨hil, hy, hyl⟩
    all_goals (refine CW.region (by kernel_rfl) (by kernel_rfl) ?_) -- r8
    all_goals (refine CWops.run htt 5 (by simp only [go_sem, reduceIte, reduceCtorEq, reduceEqDiff, reduceAdd, reduceLT, reduceLeDiff, reduceToNat, hy, eI, hyl]; exact rfl) (by simp [go_sem, reduceIte, reduceCtorEq, reduceEqDiff, reduceAdd, reduceLT, reduceLeDiff, reduceToNat, hy, eI, hyl]) ?_)
    all_goals (first | refine CWops.guard 35 (by simp only [go_sem, reduceIte, reduceCtorEq, reduceEqDiff, reduceAdd, reduceLT, reduceLeDiff, reduceToNat, hy, eI, hyl]; exact rfl) (fun g35 => ?_) (fun g35 => ?_) | skip)
    all_goals (first | (exfalso; simp at g35 <;> omega) | skip)
    all_goals (refine CWops.run htt 7 (by simp only [go_sem, reduceIte, reduceCtorEq, reduceEqDiff, reduceAdd, reduceLT, reduceLeDiff, reduceToNat, hy, eI, hyl]; exact rfl) (by simp [go_sem, reduceIte, reduceCtorEq, reduceEqDiff, reduceAdd, reduceLT, reduceLeDiff, reduceToNat, hy, eI, hyl]) ?_)
    all_goals (first | refine CWops.guard 42 (by simp only [go_sem, reduceIte, reduceCtorEq, reduceEqDiff, reduceAdd, reduceLT, reduceLeDiff, reduceToNat, hy, eI, hyl]; exact rfl) (fun g42 => ?_) (fun g42 => ?_) | skip)
    all_goals (skip)
    all_goals (refine CWops.run htt 4 (by simp only [go_sem, reduceIte, reduceCtorEq, reduceEqDiff, reduceAdd, reduceLT, reduceLeDiff, reduceToNat, hy, eI, hyl]; exact rfl) (by simp [go_sem, reduceIte, reduceCtorEq, reduceEqDiff, reduceAdd, reduceLT, reduceLeDiff, reduceToNat, hy, eI, hyl]) ?_)
    all_goals (first | (refine CWops.skip ?_ ?_; next => (simp only [go_sem, reduceIte, reduceCtorEq, reduceEqDiff, reduceAdd, reduceLT, reduceLeDiff, reduceToNat]; done)) | (refine CWops.callA (slices_isNaN up y) (by simp only [go_sem, reduceIte, reduceCtorEq, reduceEqDiff, reduceAdd, reduceLT, reduceLeDiff, reduceToNat, hy, eI, hyl]) (by simp only [go_sem, reduceIte, reduceCtorEq, reduceEqDiff, reduceAdd, reduceLT, reduceLeDiff, reduceToNat, hy, eI, hyl]; first | done | exact rfl) (by simp only [go_sem, reduceIte, reduceCtorEq, reduceEqDiff, reduceAdd, reduceLT, reduceLeDiff, reduceToNat, hy, eI, hyl]) (by simp only [go_sem, reduceIte, reduceCtorEq, reduceEqDiff, reduceAdd, reduceLT, reduceLeDiff, reduceToNat, hy, eI, hyl]) (fun rt47 hrt47 => ?_); subst hrt47))
    all_goals (refine CWops.run htt 1 (by simp only [go_sem, reduceIte, reduceCtorEq, reduceEqDiff, reduceAdd, reduceLT, reduceLeDiff, reduceToNat, hy, eI, hyl]; exact rfl) (by simp [go_sem, reduceIte, reduceCtorEq, reduceEqDiff, reduceAdd, reduceLT, reduceLeDiff, reduceToNat, hy, eI, hyl]) ?_)
    all_goals (first | refine CWops.guard 48 (by simp only [go_sem, reduceIte, reduceCtorEq, reduceEqDiff, reduceAdd, reduceLT, reduceLeDiff, reduceToNat, hy, eI, hyl]; exact rfl) (fun g48 => ?_) (fun g48 => ?_) | skip)
    all_goals (first | (cases g48; done) | skip)
    all_goals (refine CWops.run htt 1 (by simp only [go_sem, reduceIte, reduceCtorEq, reduceEqDiff, reduceAdd, reduceLT, reduceLeDiff, reduceToNat, hy, eI, hyl]; exact rfl) (by simp [go_sem, reduceIte, reduceCtorEq, reduceEqDiff, reduceAdd, reduceLT, reduceLeDiff, reduceToNat, hy, eI, hyl]) ?_)
    all_goals (first | (refine CWops.skip ?_ ?_; next => (simp only [go_sem, reduceIte, reduceCtorEq, reduceEqDiff, reduceAdd, reduceLT, reduceLeDiff, reduceToNat]; done)) | (refine CWops.callA (slices_isNaN up x) (by simp only [go_sem, reduceIte, reduceCtorEq, reduceEqDiff, reduceAdd, reduceLT, reduceLeDiff, reduceToNat, hy, eI, hyl]) (by simp only [go_sem, reduceIte, reduceCtorEq, reduceEqDiff, reduceAdd, reduceLT, reduceLeDiff, reduceToNat, hy, eI, hyl]; first | done | exact rfl) (by simp only [go_sem, reduceIte, reduceCtorEq, reduceEqDiff, reduceAdd, reduceLT, reduceLeDiff, reduceToNat, hy, eI, hyl]) (by simp only [go_sem, reduceIte, reduceCtorEq, reduceEqDiff, reduceAdd, reduceLT, reduceLeDiff, reduceToNat, hy, eI, hyl]) (fun rt50 hrt50 => ?_); subst hrt50))
    all_goals (refine CWops.run htt 5 (by simp only [go_sem, reduceIte, reduceCtorEq, reduceEqDiff, reduceAdd, reduceLT, reduceLeDiff, reduceToNat, hy, eI, hyl]; exact rfl) (by simp [go_sem, reduceIte, reduceCtorEq, reduceEqDiff, reduceAdd, reduceLT, reduceLeDiff, reduceToNat, hy, eI, hyl]) ?_)
    all_goals (refine CWops.done ?_)
    all_goals (
      refine CW.ret ?_
      refine retQ.ret (by simp only [f64, go_sem, reduceIte, reduceCtorEq, reduceEqDiff, reduceAdd, reduceLT, reduceLeDiff, reduceToNat]; exact rfl) (by simp only [go_sem, reduceIte, reduceCtorEq, reduceEqDiff, reduceAdd, reduceLT, reduceLeDiff, reduceToNat]; exact rfl) ?_ -- ret1
      refine ⟨_, leP_refl _, (i : Int), ?_⟩
      first | (rw [hb.some hs hy, g42]; done) | (have h0 := hb; rw [hil] at h0; rw [h0.none]; done))
theorem sweep_1 (up : Bool) (l : List Int) (o : GObj) (hs : l.Pairwise (· < ·)) (hl9 : l.length < 1000) : PCall prog up 63 [.agg (eObj o), .fp [.sl 1 (l.map eI)]] (· = .bool (!decide (o.Id ∈ l))) := by
  refine PCall.intro htt func63 (by kernel_rfl) rfl (Nat.le_of_ble_eq_true rfl) fun hl => ?_

  simp only [tmps0, Nat.reduceAdd]
  refine CW.seq ?_
  refine CW.region (by kernel_rfl) (by kernel_rfl) ?_ -- r0
  refine CWops.run htt 2 (by simp only [go_sem, reduceIte, reduceCtorEq, reduceEqDiff, reduceAdd, reduceLT, reduceLeDiff, reduceToNat, eObj]; exact rfl) (by simp [go_sem, reduceIte, reduceCtorEq, reduceEqDiff, reduceAdd, reduceLT, reduceLeDiff, reduceToNat, eObj]) ?_
  refine CWops.done ?_
  refine CW.seq ?_
  refine CW.region (by kernel_rfl) (by kernel_rfl) ?_ -- r1
  refine CWops.run htt 3 (by simp only [go_sem, reduceIte, reduceCtorEq, reduceEqDiff, reduceAdd, reduceLT, reduceLeDiff, reduceToNat, eObj]; exact rfl) (by simp [go_sem, reduceIte, reduceCtorEq, reduceEqDiff, reduceAdd, reduceLT, reduceLeDiff, reduceToNat, eObj]) ?_
  refine CWops.callA (binarySearch up l o.Id hs hl9) (by simp only [go_sem, reduceIte, reduceCtorEq, reduceEqDiff, reduceAdd, reduceLT, reduceLeDiff, reduceToNat, eObj]) (by simp only [go_sem, reduceIte, reduceCtorEq, reduceEqDiff, reduceAdd, reduceLT, reduceLeDiff, reduceToNat, eObj]; first | done | exact rfl) (by simp only [go_sem, reduceIte, reduceCtorEq, reduceEqDiff, reduceAdd, reduceLT, reduceLeDiff, reduceToNat, eObj]) (by simp only [go_sem, reduceIte, reduceCtorEq, reduceEqDiff, reduceAdd, reduceLT, reduceLeDiff, reduceToNat, eObj]) (fun rt10 hrt10 => ?_)
  obtain ⟨k10, rfl⟩ := hrt10
  refine CWops.run htt 5 (by simp only [go_sem, reduceIte, reduceCtorEq, reduceEqDiff, reduceAdd, reduceLT, reduceLeDiff, reduceToNat, eObj]; exact rfl) (by simp [go_sem, reduceIte, reduceCtorEq, reduceEqDiff, reduceAdd, reduceLT, reduceLeDiff, reduceToNat, eObj]) ?_
  refine CWops.done ?_
  refine CW.seq ?_
  refine CW.region (by kernel_rfl) (by kernel_rfl) ?_ -- r2
  refine CWops.run htt 3 (by simp only [go_sem, reduceIte, reduceCtorEq, reduceEqDiff, reduceAdd, reduceLT, reduceLeDiff, reduceToNat]; exact rfl) (by simp [go_sem, reduceIte, reduceCtorEq, reduceEqDiff, reduceAdd, reduceLT, reduceLeDiff, reduceToNat]) ?_
  refine CWops.done ?_
  refine CW.ret ?_
  refine retQ.ret (by simp only [f63, go_sem, reduceIte, reduceCtorEq, reduceEqDiff, reduceAdd, reduceLT, reduceLeDiff, reduceToNat]; exact rfl) (by simp only [go_sem, reduceIte, reduceCtorEq, reduceEqDiff, reduceAdd, reduceLT, reduceLeDiff, reduceToNat]; exact rfl) ?_ -- ret1
  refine ⟨_, ?_, rfl⟩
  simp [leP]
theorem deleteFunc_none (up : Bool) (xs : List GObj) (p : GObj → Bool) (fn : FuncId) (caps : List AV) (hc : pureL caps = true) (hcv : ∀ σ, caps.map (view 8 σ) = caps) (hx8 : xs.length < 1000) (hp : ∀ x ∈ xs, PCall prog up fn (.agg (eObj x) :: caps) (· = .bool (p x))) (f1 : fnd p xs = -1) (f3 : del p xs = xs) : GCall prog up 62 [.ref 0 [] 0, .func (.func fn) [] caps] 1 [(0, ⟨false, [.own 3 (List.map eObj xs)]⟩)] (fun r σ' => r = .ref 1 [] 0 ∧ σ'.n = 2 ∧ σ'.s = [(1, ⟨false, [.own 3 ((del p xs).map eObj)]⟩)]) := by
  refine GCall.intro htt 0 func62 (by kernel_rfl) rfl (Nat.le_of_ble_eq_true rfl) (CW.told ?_)

  simp only [tmps0, Nat.reduceAdd]
  refine CW.seq ?_
  refine CW.region (by kernel_rfl) (by kernel_rfl) ?_ -- r0
  refine CWops.run htt 1 (by simp only [go_sem, reduceIte, reduceCtorEq, reduceEqDiff, reduceAdd, reduceLT, reduceLeDiff, reduceToNat]; exact rfl) (by simp [go_sem, reduceIte, reduceCtorEq, reduceEqDiff, reduceAdd, reduceLT, reduceLeDiff, reduceToNat]) ?_
  refine CWops.done ?_
  refine CW.seq ?_
  refine CW.region (by kernel_rfl) (by kernel_rfl) ?_ -- r1
  refine CWops.run htt 2 (by simp only [go_sem, reduceIte, reduceCtorEq, reduceEqDiff, reduceAdd, reduceLT, reduceLeDiff, reduceToNat, hcv]; exact rfl) (by simp [go_sem, reduceIte, reduceCtorEq, reduceEqDiff, reduceAdd, reduceLT, reduceLeDiff, reduceToNat, hcv]) ?_
  refine CWops.call (index_Obj up xs p fn caps hc hp) (by simp only [go_sem, reduceIte, reduceCtorEq, reduceEqDiff, reduceAdd, reduceLT, reduceLeDiff, reduceToNat, hcv]) (by simp only [go_sem, reduceIte, reduceCtorEq, reduceEqDiff, reduceAdd, reduceLT, reduceLeDiff, reduceToNat, hcv]; first | done | exact rfl) (by simp only [go_sem, reduceIte, reduceCtorEq, reduceEqDiff, reduceAdd, reduceLT, reduceLeDiff, reduceToNat, hcv]) (fun rt10 hrt10 => ?_)
  subst hrt10; refine ⟨rfl, ?_⟩
  refine CWops.run htt 1 (by simp only [go_sem, reduceIte, reduceCtorEq, reduceEqDiff, reduceAdd, reduceLT, reduceLeDiff, reduceToNat, hcv]; exact rfl) (by simp [go_sem, reduceIte, reduceCtorEq, reduceEqDiff, reduceAdd, reduceLT, reduceLeDiff, reduceToNat, hcv]) ?_
  refine CWops.done ?_
  refine CW.seq ?_
  refine CW.seq ?_
  refine CW.region (by kernel_rfl) (by kernel_rfl) ?_ -- r2
  refine CWops.run htt 2 (by simp only [go_sem, reduceIte, reduceCtorEq, reduceEqDiff, reduceAdd, reduceLT, reduceLeDiff, reduceToNat, f1]; exact rfl) (by simp [go_sem, reduceIte, reduceCtorEq, reduceEqDiff, reduceAdd, reduceLT, reduceLeDiff, reduceToNat, f1]) ?_
  refine CWops.done ?_
  refine CW.cond (by simp only [go_sem, reduceIte, reduceCtorEq, reduceEqDiff, reduceAdd, reduceLT, reduceLeDiff, reduceToNat]; first | done | exact rfl) (fun ct12 => ?_) (fun ct12 => ?_)
  · refine CW.seq ?_
    refine CW.region (by kernel_rfl) (by kernel_rfl) ?_ -- r3
    refine CWops.run htt 2 (by simp only [go_sem, reduceIte, reduceCtorEq, reduceEqDiff, reduceAdd, reduceLT, reduceLeDiff, reduceToNat]; exact rfl) (by simp [go_sem, reduceIte, reduceCtorEq, reduceEqDiff, reduceAdd, reduceLT, reduceLeDiff, reduceToNat]) ?_
    refine CWops.done ?_
    refine CW.ret ?_
    refine ⟨⟨2, [(4, .ref 1 [] 0)], [(1, ⟨false, [.own 3 (List.map eObj (del p xs))]⟩)]⟩, ?_, .inr rfl, by simp [ptrOK, go_sem, reduceIte, reduceCtorEq, reduceEqDiff, reduceAdd, reduceLT, reduceLeDiff, reduceToNat], _, by simp only [f62, go_sem, reduceIte, reduceCtorEq, reduceEqDiff, reduceAdd, reduceLT, reduceLeDiff, reduceToNat]; exact rfl, ?_⟩ -- ret1
    · refine Sh.wk (fun x => if x = 1 then 0 else x) ?_
      rw [f3]
      simp [Wk, go_sem, reduceIte, reduceCtorEq, reduceEqDiff, reduceAdd, reduceLT, reduceLeDiff, reduceToNat]
    · exact ⟨rfl, rfl, rfl⟩
  · exfalso; revert ct12; simp [f1]
theorem deleteFunc_some (up : Bool) (xs : List GObj) (p : GObj → Bool) (fn : FuncId) (caps : List AV) (hc : pureL caps = true) (hcv : ∀ σ, caps.map (view 8 σ) = caps) (hx8 : xs.length < 1000) (hp : ∀ x ∈ xs, PCall prog up fn (.agg (eObj x) :: caps) (· = .bool (p x))) (i0 : Nat) (x0 : GObj) (f1 : fnd p xs = i0) (hx0 : xs[i0]? = some x0) (hp0 : p x0 = true) (hb0 : ∀ (j : Nat) (y : GObj), j < i0 → xs[j]? = some y → p y = false) : GCall prog up 62 [.ref 0 [] 0, .func (.func fn) [] caps] 1 [(0, ⟨false, [.own 3 (List.map eObj xs)]⟩)] (fun r σ' => r = .ref 1 [] 0 ∧ σ'.n = 2 ∧ σ'.s = [(1, ⟨false, [.own 3 ((del p xs).map eObj)]⟩)]) := by
  refine GCall.intro htt 0 func62 (by kernel_rfl) rfl (Nat.le_of_ble_eq_true rfl) (CW.told ?_)

  simp only [tmps0, Nat.reduceAdd]
  refine CW.seq ?_
  refine CW.region (by kernel_rfl) (by kernel_rfl) ?_ -- r0
  refine CWops.run htt 1 (by simp only [go_sem, reduceIte, reduceCtorEq, reduceEqDiff, reduceAdd, reduceLT, reduceLeDiff, reduceToNat]; exact rfl) (by simp [go_sem, reduceIte, reduceCtorEq, reduceEqDiff, reduceAdd, reduceLT, reduceLeDiff, reduceToNat]) ?_
  refine CWops.done ?_
  refine CW.seq ?_
  refine CW.region (by kernel_rfl) (by kernel_rfl) ?_ -- r1
  refine CWops.run htt 2 (by simp only [go_sem, reduceIte, reduceCtorEq, reduceEqDiff, reduceAdd, reduceLT, reduceLeDiff, reduceToNat, hcv]; exact rfl) (by simp [go_sem, reduceIte, reduceCtorEq, reduceEqDiff, reduceAdd, reduceLT, reduceLeDiff, reduceToNat, hcv]) ?_
  refine CWops.call (index_Obj up xs p fn caps hc hp) (by simp only [go_sem, reduceIte, reduceCtorEq, reduceEqDiff, reduceAdd, reduceLT, reduceLeDiff, reduceToNat, hcv]) (by simp only [go_sem, reduceIte, reduceCtorEq, reduceEqDiff, reduceAdd, reduceLT, reduceLeDiff, reduceToNat, hcv]; first | done | exact rfl) (by simp only [go_sem, reduceIte, reduceCtorEq, reduceEqDiff, reduceAdd, reduceLT, reduceLeDiff, reduceToNat, hcv]) (fun rt10 hrt10 => ?_)
  subst hrt10; refine ⟨rfl, ?_⟩
  refine CWops.run htt 1 (by simp only [go_sem, reduceIte, reduceCtorEq, reduceEqDiff, reduceAdd, reduceLT, reduceLeDiff, reduceToNat, hcv]; exact rfl) (by simp [go_sem, reduceIte, reduceCtorEq, reduceEqDiff, reduceAdd, reduceLT, reduceLeDiff, reduceToNat, hcv]) ?_
  refine CWops.done ?_
  refine CW.seq ?_
  refine CW.seq ?_
  refine CW.region (by kernel_rfl) (by kernel_rfl) ?_ -- r2
  refine CWops.run htt 2 (by simp only [go_sem, reduceIte, reduceCtorEq, reduceEqDiff, reduceAdd, reduceLT, reduceLeDiff, reduceToNat, f1]; exact rfl) (by simp [go_sem, reduceIte, reduceCtorEq, reduceEqDiff, reduceAdd, reduceLT, reduceLeDiff, reduceToNat, f1]) ?_
  refine CWops.done ?_
  refine CW.cond (by simp only [go_sem, reduceIte, reduceCtorEq, reduceEqDiff, reduceAdd, reduceLT, reduceLeDiff, reduceToNat]; first | done | exact rfl) (fun ct12 => ?_) (fun ct12 => ?_)
  · exfalso; revert ct12; simp [f1] <;> omega 
  · refine CW.skip ?_
    refine CW.seq ?_
    refine CW.seq ?_
    refine CW.region (by kernel_rfl) (by kernel_rfl) ?_ -- r4
    refine CWops.run htt 3 (by simp only [go_sem, reduceIte, reduceCtorEq, reduceEqDiff, reduceAdd, reduceLT, reduceLeDiff, reduceToNat, f1, wrap_succ (show i0 < MX by have := (List.getElem?_eq_some_iff.1 hx0).1; unfold MX; omega)]; exact rfl) (by simp [go_sem, reduceIte, reduceCtorEq, reduceEqDiff, reduceAdd, reduceLT, reduceLeDiff, reduceToNat, f1, wrap_succ (show i0 < MX by have := (List.getElem?_eq_some_iff.1 hx0).1; unfold MX; omega)]) ?_
    refine CWops.done ?_
    refine CW.block ?_
    refine CW.loop (S := Nat × Nat × List GObj) (fun q => ⟨1, [(0, .ref 0 [] 0), (1, .func (.func fn) [] caps), (5, .int .i64 q.1), (6, .int .i64 q.2.1)], [(0, ⟨false, [.own 3 (List.map eObj q.2.2)]⟩)]⟩) (fun q => Swp p xs q.2.2 q.1 q.2.1 ∧ q.1 < q.2.1) (fun q => xs.length - q.2.1) ((i0, i0 + 1, xs)) ?_ ⟨Swp.start hx0 hp0 hb0, by simp⟩ (fun ⟨i, j, m⟩ ⟨hw, hij⟩ => ?_)
    · refine Sh.wk0 ?_; simp [Wk, go_sem, reduceIte, reduceCtorEq, reduceEqDiff, reduceAdd, reduceLT, reduceLeDiff, reduceToNat, f1, SubL_refl hc, ex_func, SubL, Sub]
    simp only at hw hij
    have hml : m.length = xs.length := hw.len
    refine CW.seq ?_
    refine CW.seq ?_
    refine CW.region (by kernel_rfl) (by kernel_rfl) ?_ -- r5
    refine CWops.run htt 4 (by simp only [go_sem, reduceIte, reduceCtorEq, reduceEqDiff, reduceAdd, reduceLT, reduceLeDiff, reduceToNat, hml]; exact rfl) (by simp [go_sem, reduceIte, reduceCtorEq, reduceEqDiff, reduceAdd, reduceLT, reduceLeDiff, reduceToNat, hml]) ?_
    refine CWops.done ?_
    refine CW.cond (by simp only [go_sem, reduceIte, reduceCtorEq, reduceEqDiff, reduceAdd, reduceLT, reduceLeDiff, reduceToNat]; first | done | exact rfl) (fun ct19 => ?_) (fun ct19 => ?_)
    · have hj : j < xs.length := by simpa using ct19
      obtain ⟨x, hx⟩ : ∃ x, xs[j]? = some x := ⟨xs[j], List.getElem?_eq_getElem hj⟩
      have hmj := hw.at hx
      have hjm : j < m.length := by omega
      have him : i < m.length := by omega
      obtain ⟨z, hmi⟩ : ∃ z, m[i]? = some z := ⟨m[i], List.getElem?_eq_getElem him⟩
      refine CW.skip ?_
      refine CW.seq ?_
      refine CW.block ?_
      refine CW.seq ?_
      refine CW.region (by kernel_rfl) (by kernel_rfl) ?_ -- r7
      refine CWops.run htt 6 (by simp only [go_sem, reduceIte, reduceCtorEq, reduceEqDiff, reduceAdd, reduceLT, reduceLeDiff, reduceToNat, hmj, eObj, hjm, hc]; exact rfl) (by simp [go_sem, reduceIte, reduceCtorEq, reduceEqDiff, reduceAdd, reduceLT, reduceLeDiff, reduceToNat, hmj, eObj, hjm, hc]) ?_
      refine CWops.done ?_
      refine CW.seq ?_
      refine CW.region (by kernel_rfl) (by kernel_rfl) ?_ -- r8
      refine CWops.run htt 2 (by simp only [go_sem, reduceIte, reduceCtorEq, reduceEqDiff, reduceAdd, reduceLT, reduceLeDiff, reduceToNat, eObj, hc]; exact rfl) (by simp [go_sem, reduceIte, reduceCtorEq, reduceEqDiff, reduceAdd, reduceLT, reduceLeDiff, reduceToNat, eObj, hc]) ?_
      refine CWops.callA (hp x (List.mem_of_getElem? hx)) (by simp only [go_sem, reduceIte, reduceCtorEq, reduceEqDiff, reduceAdd, reduceLT, reduceLeDiff, reduceToNat, eObj, hc]) (by simp only [go_sem, reduceIte, reduceCtorEq, reduceEqDiff, reduceAdd, reduceLT, reduceLeDiff, reduceToNat, eObj, hc]; first | done | exact rfl) (by simp only [go_sem, reduceIte, reduceCtorEq, reduceEqDiff, reduceAdd, reduceLT, reduceLeDiff, reduceToNat, eObj, hc]) (by simp only [go_sem, reduceIte, reduceCtorEq, reduceEqDiff, reduceAdd, reduceLT, reduceLeDiff, reduceToNat, eObj, hc]) (fun rt28 hrt28 => ?_)
      subst hrt28
      refine CWops.run htt 1 (by simp only [go_sem, reduceIte, reduceCtorEq, reduceEqDiff, reduceAdd, reduceLT, reduceLeDiff, reduceToNat, eObj, hc]; exact rfl) (by simp [go_sem, reduceIte, reduceCtorEq, reduceEqDiff, reduceAdd, reduceLT, reduceLeDiff, reduceToNat, eObj, hc]) ?_
      refine CWops.done ?_
      refine CW.cond (by simp only [go_sem, reduceIte, reduceCtorEq, reduceEqDiff, reduceAdd, reduceLT, reduceLeDiff, reduceToNat]; first | done | exact rfl) (fun ct29 => ?_) (fun ct29 => ?_)
      · have hpx : p x = false := by simpa using ct29
        obtain ⟨q', hq'⟩ : ∃ q' : Nat × Nat × List GObj, q' = (i + 1, j + 1, m.set i x) := ⟨_, rfl⟩
        refine CW.seq ?_
        refine CW.region (by kernel_rfl) (by kernel_rfl) ?_ -- r9
        refine CWops.run htt 5 (by simp only [go_sem, reduceIte, reduceCtorEq, reduceEqDiff, reduceAdd, reduceLT, reduceLeDiff, reduceToNat, eObj, him, hmi, List.getElem?_set_self, List.length_map, List.length_set, List.set_set]; exact rfl) (by simp [go_sem, reduceIte, reduceCtorEq, reduceEqDiff, reduceAdd, reduceLT, reduceLeDiff, reduceToNat, eObj, him, hmi, List.getElem?_set_self, List.length_map, List.length_set, List.set_set]) ?_
        refine CWops.done ?_
        rw [show (List.map eObj m).set i [.int .i64 x.Id, .int .i64 x.T, .sl 3 (List.map eVal x.F)] = (m.set i x).map eObj by rw [List.map_set]; rfl]
        refine CW.region (by kernel_rfl) (by kernel_rfl) ?_ -- r10
        refine CWops.run htt 3 (by simp only [go_sem, reduceIte, reduceCtorEq, reduceEqDiff, reduceAdd, reduceLT, reduceLeDiff, reduceToNat, wrap_succ (show i < MX by unfold MX; omega)]; exact rfl) (by simp [go_sem, reduceIte, reduceCtorEq, reduceEqDiff, reduceAdd, reduceLT, reduceLeDiff, reduceToNat, wrap_succ (show i < MX by unfold MX; omega)]) ?_
        refine CWops.done ?_
        refine CW.region (by kernel_rfl) (by kernel_rfl) ?_ -- r6
        refine CWops.run htt 3 (by simp only [go_sem, reduceIte, reduceCtorEq, reduceEqDiff, reduceAdd, reduceLT, reduceLeDiff, reduceToNat, wrap_succ (show j < MX by unfold MX; omega)]; exact rfl) (by simp [go_sem, reduceIte, reduceCtorEq, reduceEqDiff, reduceAdd, reduceLT, reduceLeDiff, reduceToNat, wrap_succ (show j < MX by unfold MX; omega)]) ?_
        refine CWops.done ?_
        refine ⟨q', ?_, ?_, ?_⟩
        · subst hq'; refine Sh.wk0 ?_; simp [Wk, go_sem, reduceIte, reduceCtorEq, reduceEqDiff, reduceAdd, reduceLT, reduceLeDiff, reduceToNat, SubL_refl hc, ex_func, SubL, Sub]
        · subst hq'; first | exact ⟨hw.keep hij hx hpx, by simp only; omega⟩ | exact ⟨hw.skip hx hpx, by simp only; omega⟩
        · subst hq'; simp only; omega
      · have hpx : p x = true := by simpa using ct29
        obtain ⟨q', hq'⟩ : ∃ q' : Nat × Nat × List GObj, q' = (i, j + 1, m) := ⟨_, rfl⟩
        refine CW.skip ?_
        refine CW.region (by kernel_rfl) (by kernel_rfl) ?_ -- r6
        refine CWops.run htt 3 (by simp only [go_sem, reduceIte, reduceCtorEq, reduceEqDiff, reduceAdd, reduceLT, reduceLeDiff, reduceToNat, wrap_succ (show j < MX by unfold MX; omega)]; exact rfl) (by simp [go_sem, reduceIte, reduceCtorEq, reduceEqDiff, reduceAdd, reduceLT, reduceLeDiff, reduceToNat, wrap_succ (show j < MX by unfold MX; omega)]) ?_
        refine CWops.done ?_
        refine ⟨q', ?_, ?_, ?_⟩
        · subst hq'; refine Sh.wk0 ?_; simp [Wk, go_sem, reduceIte, reduceCtorEq, reduceEqDiff, reduceAdd, reduceLT, reduceLeDiff, reduceToNat, SubL_refl hc, ex_func, SubL, Sub]
        · subst hq'; first | exact ⟨hw.keep hij hx hpx, by simp only; omega⟩ | exact ⟨hw.skip hx hpx, by simp only; omega⟩
        · subst hq'; simp only; omega
    · have hj : j = xs.length := by have := hw.jl; simp at ct19; omega
      subst hj
      have him : i ≤ m.length := by omega
      have hcut : ∀ z, ((List.map eObj m).take i ++ z).take i = (del p xs).map eObj := fun z => by rw [List.take_left' (by simp; omega), ← List.map_take, hw.done]
      refine CW.exit ?_
      refine CW.seq ?_
      refine CW.region (by kernel_rfl) (by kernel_rfl) ?_ -- r11
      refine CWops.run htt 2 (by simp only [go_sem, reduceIte, reduceCtorEq, reduceEqDiff, reduceAdd, reduceLT, reduceLeDiff, reduceToNat]; exact rfl) (by simp [go_sem, reduceIte, reduceCtorEq, reduceEqDiff, reduceAdd, reduceLT, reduceLeDiff, reduceToNat]) ?_
      refine CWops.clearFrom (y := 0) (q := i) (k := .i64) (es := m.map eObj) htt (by simp only [go_sem, reduceIte, reduceCtorEq, reduceEqDiff, reduceAdd, reduceLT, reduceLeDiff, reduceToNat]) (by simp only [go_sem, reduceIte, reduceCtorEq, reduceEqDiff, reduceAdd, reduceLT, reduceLeDiff, reduceToNat]) tt_25 rfl tt_55 rfl (by simp only [go_sem, reduceIte, reduceCtorEq, reduceEqDiff, reduceAdd, reduceLT, reduceLeDiff, reduceToNat]) (by simp only [go_sem, reduceIte, reduceCtorEq, reduceEqDiff, reduceAdd, reduceLT, reduceLeDiff, reduceToNat]; first | done | exact rfl) (by simp only [go_sem, reduceIte, reduceCtorEq, reduceEqDiff, reduceAdd, reduceLT, reduceLeDiff, reduceToNat]) (by rw [List.length_map]; exact him) ?_
      simp only [go_sem, reduceIte, reduceCtorEq, reduceEqDiff, reduceAdd, reduceLT, reduceLeDiff, reduceToNat]
      refine CWops.done ?_
      refine CW.seq ?_
      refine CW.region (by kernel_rfl) (by kernel_rfl) ?_ -- r12
      refine CWops.run htt 2 (by simp only [go_sem, reduceIte, reduceCtorEq, reduceEqDiff, reduceAdd, reduceLT, reduceLeDiff, reduceToNat]; exact rfl) (by simp [go_sem, reduceIte, reduceCtorEq, reduceEqDiff, reduceAdd, reduceLT, reduceLeDiff, reduceToNat]) ?_
      refine CWops.cutTo (y := 0) (q := i) (k := .i64) htt (by simp only [go_sem, reduceIte, reduceCtorEq, reduceEqDiff, reduceAdd, reduceLT, reduceLeDiff, reduceToNat]) tt_25 rfl tt_55 (by simp only [go_sem, reduceIte, reduceCtorEq, reduceEqDiff, reduceAdd, reduceLT, reduceLeDiff, reduceToNat]) (by simp only [go_sem, reduceIte, reduceCtorEq, reduceEqDiff, reduceAdd, reduceLT, reduceLeDiff, reduceToNat]; first | done | exact rfl) (by simp only [go_sem, reduceIte, reduceCtorEq, reduceEqDiff, reduceAdd, reduceLT, reduceLeDiff, reduceToNat]) (by simp; omega) ?_
      simp only [go_sem, reduceIte, reduceCtorEq, reduceEqDiff, reduceAdd, reduceLT, reduceLeDiff, reduceToNat, hcut]
      refine CWops.run htt 1 (by simp only [go_sem, reduceIte, reduceCtorEq, reduceEqDiff, reduceAdd, reduceLT, reduceLeDiff, reduceToNat]; exact rfl) (by simp [go_sem, reduceIte, reduceCtorEq, reduceEqDiff, reduceAdd, reduceLT, reduceLeDiff, reduceToNat]) ?_
      refine CWops.done ?_
      refine CW.ret ?_
      refine ⟨⟨2, [(4, .ref 1 [] 0)], [(1, ⟨false, [.own 3 (List.map eObj (del p xs))]⟩)]⟩, ?_, .inr rfl, by simp [ptrOK, go_sem, reduceIte, reduceCtorEq, reduceEqDiff, reduceAdd, reduceLT, reduceLeDiff, reduceToNat], _, by simp only [f62, go_sem, reduceIte, reduceCtorEq, reduceEqDiff, reduceAdd, reduceLT, reduceLeDiff, reduceToNat]; exact rfl, ?_⟩ -- ret1
      · refine Sh.wk0 ?_
        simp [Wk, go_sem, reduceIte, reduceCtorEq, reduceEqDiff, reduceAdd, reduceLT, reduceLeDiff, reduceToNat]
      · exact ⟨rfl, rfl, rfl⟩
theorem deleteFunc (up : Bool) (xs : List GObj) (p : GObj → Bool) (fn : FuncId) (caps : List AV) (hc : pureL caps = true) (hcv : ∀ σ, caps.map (view 8 σ) = caps) (hx8 : xs.length < 1000) (hp : ∀ x ∈ xs, PCall prog up fn (.agg (eObj x) :: caps) (· = .bool (p x))) : GCall prog up 62 [.ref 0 [] 0, .func (.func fn) [] caps] 1 [(0, ⟨false, [.own 3 (List.map eObj xs)]⟩)] (fun r σ' => r = .ref 1 [] 0 ∧ σ'.n = 2 ∧ σ'.s = [(1, ⟨false, [.own 3 ((del p xs).map eObj)]⟩)]) := by
  cases h : xs.findIdx? p with
  | none =>
    have h1 := List.findIdx?_eq_none_iff.1 h
    exact deleteFunc_none up xs p fn caps hc hcv hx8 hp (by unfold fnd; rw [h]) (del_none fun j y hy => h1 y (List.mem_of_getElem? hy))
  | some i =>
    obtain ⟨h1, h2, h3⟩ := List.findIdx?_eq_some_iff_getElem.1 h
    exact deleteFunc_some up xs p fn caps hc hcv hx8 hp i xs[i] (by unfold fnd; rw [h]) (List.getElem?_eq_getElem h1) h2 fun j y hj hy => by
      obtain ⟨h4, h5⟩ := List.getElem?_eq_some_iff.1 hy
      have := h3 j hj
      rw [h5] at this; simpa using this
end Go.Ab
namespace Go.Ab
open Go Go.Proofs.Try
open Nat (reduceEqDiff reduceAdd reduceLT reduceLeDiff reduceBEq reduceSub reduceMul)
open Int (reduceToNat)
set_option maxRecDepth 100000
set_option linter.unusedSimpArgs false
set_option linter.unusedVariables false
theorem May.sz {g : Graph} (h : May g) : GSz g := by
  obtain ⟨h1, h2, h3⟩ := h.small
  have h4 := h.o
  have h5 := h.r
  exact ⟨by unfold MX; omega, fun x hx => by have := h2 x hx; unfold MX; omega, by unfold MX; omega, fun x hx => by have := h3 x hx; unfold MX; omega, by unfold MX; omega⟩
theorem gReach_len {g : Graph} (h : May g) : (gReach g).length ≤ 8 := by
  have := h.o
  unfold gReach
  rw [if_pos ((may_iff g).2 h), List.length_map]
  exact Nat.le_trans (List.length_filter_le _ _) this
theorem graph_Sweep (up : Bool) (g : Graph) : PCall prog up 33 [.agg (eGraph g)] (· = .agg (eGraph (gSweep g))) := by
  refine PCall.intro htt func33 (by kernel_rfl) rfl (Nat.le_of_ble_eq_true rfl) fun hl => ?_

  simp only [tmps0, Nat.reduceAdd]
  refine CW.seq ?_
  refine CW.region (by kernel_rfl) (by kernel_rfl) ?_ -- r0
  refine CWops.run htt 2 (by simp only [go_sem, reduceIte, reduceCtorEq, reduceEqDiff, reduceAdd, reduceLT, reduceLeDiff, reduceToNat, eGraph]; exact rfl) (by simp [go_sem, reduceIte, reduceCtorEq, reduceEqDiff, reduceAdd, reduceLT, reduceLeDiff, reduceToNat, eGraph]) ?_
  refine CWops.done ?_
  refine CW.seq ?_
  refine CW.seq ?_
  refine CW.region (by kernel_rfl) (by kernel_rfl) ?_ -- r1
  refine CWops.run htt 1 (by simp only [go_sem, reduceIte, reduceCtorEq, reduceEqDiff, reduceAdd, reduceLT, reduceLeDiff, reduceToNat, eGraph]; exact rfl) (by simp [go_sem, reduceIte, reduceCtorEq, reduceEqDiff, reduceAdd, reduceLT, reduceLeDiff, reduceToNat, eGraph]) ?_
  refine CWops.call (graph_May up g) (by simp only [go_sem, reduceIte, reduceCtorEq, reduceEqDiff, reduceAdd, reduceLT, reduceLeDiff, reduceToNat, eGraph]) (by simp only [go_sem, reduceIte, reduceCtorEq, reduceEqDiff, reduceAdd, reduceLT, reduceLeDiff, reduceToNat, eGraph]; first | done | exact rfl) (by simp only [go_sem, reduceIte, reduceCtorEq, reduceEqDiff, reduceAdd, reduceLT, reduceLeDiff, reduceToNat, eGraph]) (fun rt6 hrt6 => ?_)
  subst hrt6; refine ⟨rfl, ?_⟩
  refine CWops.run htt 1 (by simp only [go_sem, reduceIte, reduceCtorEq, reduceEqDiff, reduceAdd, reduceLT, reduceLeDiff, reduceToNat, eGraph]; exact rfl) (by simp [go_sem, reduceIte, reduceCtorEq, reduceEqDiff, reduceAdd, reduceLT, reduceLeDiff, reduceToNat, eGraph]) ?_
  refine CWops.done ?_
  refine CW.cond (by simp only [go_sem, reduceIte, reduceCtorEq, reduceEqDiff, reduceAdd, reduceLT, reduceLeDiff, reduceToNat]; first | done | exact rfl) (fun ct7 => ?_) (fun ct7 => ?_)
  · simp only [Bool.not_eq_true'] at ct7
    refine CW.seq ?_
    refine CW.region (by kernel_rfl) (by kernel_rfl) ?_ -- r2
    refine CWops.run htt 2 (by simp only [go_sem, reduceIte, reduceCtorEq, reduceEqDiff, reduceAdd, reduceLT, reduceLeDiff, reduceToNat]; exact rfl) (by simp [go_sem, reduceIte, reduceCtorEq, reduceEqDiff, reduceAdd, reduceLT, reduceLeDiff, reduceToNat]) ?_
    refine CWops.done ?_
    refine CW.ret ?_
    refine retQ.ret (by simp only [f33, go_sem, reduceIte, reduceCtorEq, reduceEqDiff, reduceAdd, reduceLT, reduceLeDiff, reduceToNat]; exact rfl) (by simp only [go_sem, reduceIte, reduceCtorEq, reduceEqDiff, reduceAdd, reduceLT, reduceLeDiff, reduceToNat]; exact rfl) ?_ -- ret1
    refine ⟨_, ?_, rfl⟩
    have : gSweep g = ⟨[], [], []⟩ := by unfold gSweep; rw [ct7]; rfl
    simp [leP, leL, this, eGraph]
  · simp only [Bool.not_eq_false'] at ct7
    have hm := (may_iff g).1 ct7
    refine CW.skip ?_
    refine CW.seq ?_
    refine CW.region (by kernel_rfl) (by kernel_rfl) ?_ -- r3
    refine CWops.run htt 1 (by simp only [go_sem, reduceIte, reduceCtorEq, reduceEqDiff, reduceAdd, reduceLT, reduceLeDiff, reduceToNat, eGraph]; exact rfl) (by simp [go_sem, reduceIte, reduceCtorEq, reduceEqDiff, reduceAdd, reduceLT, reduceLeDiff, reduceToNat, eGraph]) ?_
    refine CWops.callA (graph_Reach up g) (by simp only [go_sem, reduceIte, reduceCtorEq, reduceEqDiff, reduceAdd, reduceLT, reduceLeDiff, reduceToNat, eGraph]) (by simp only [go_sem, reduceIte, reduceCtorEq, reduceEqDiff, reduceAdd, reduceLT, reduceLeDiff, reduceToNat, eGraph]; first | done | exact rfl) (by simp only [go_sem, reduceIte, reduceCtorEq, reduceEqDiff, reduceAdd, reduceLT, reduceLeDiff, reduceToNat, eGraph]) (by simp only [go_sem, reduceIte, reduceCtorEq, reduceEqDiff, reduceAdd, reduceLT, reduceLeDiff, reduceToNat, eGraph]) (fun rt10 hrt10 => ?_)
    subst hrt10
    refine CWops.run htt 2 (by simp only [go_sem, reduceIte, reduceCtorEq, reduceEqDiff, reduceAdd, reduceLT, reduceLeDiff, reduceToNat, eGraph]; exact rfl) (by simp [go_sem, reduceIte, reduceCtorEq, reduceEqDiff, reduceAdd, reduceLT, reduceLeDiff, reduceToNat, eGraph]) ?_
    refine CWops.done ?_
    refine CW.seq ?_
    refine CW.region (by kernel_rfl) (by kernel_rfl) ?_ -- r4
    refine CWops.run htt 1 (by simp only [go_sem, reduceIte, reduceCtorEq, reduceEqDiff, reduceAdd, reduceLT, reduceLeDiff, reduceToNat, eGraph, OWN]; exact rfl) (by simp [go_sem, reduceIte, reduceCtorEq, reduceEqDiff, reduceAdd, reduceLT, reduceLeDiff, reduceToNat, eGraph, OWN]) ?_
    refine CWops.callG [] rfl (graph_own up g hm.sz) (by simp only [go_sem, reduceIte, reduceCtorEq, reduceEqDiff, reduceAdd, reduceLT, reduceLeDiff, reduceToNat]) (by simp only [go_sem, reduceIte, reduceCtorEq, reduceEqDiff, reduceAdd, reduceLT, reduceLeDiff, reduceToNat]; first | done | exact rfl) (by decide) (by simp [go_sem, reduceIte, reduceCtorEq, reduceEqDiff, reduceAdd, reduceLT, reduceLeDiff, reduceToNat, mName, memB]) (by simp [go_sem, reduceIte, reduceCtorEq, reduceEqDiff, reduceAdd, reduceLT, reduceLeDiff, reduceToNat, mName]) (by simp [go_sem, reduceIte, reduceCtorEq, reduceEqDiff, reduceAdd, reduceLT, reduceLeDiff, reduceToNat]) (by simp [go_sem, reduceIte, reduceCtorEq, reduceEqDiff, reduceAdd, reduceLT, reduceLeDiff, reduceToNat]) (by simp [go_sem, reduceIte, reduceCtorEq, reduceEqDiff, reduceAdd, reduceLT, reduceLeDiff, reduceToNat, mName, eGraph]) (fun r σ' hσ => ?_)
    obtain ⟨σn, σt, σs⟩ := σ'
    simp only at hσ
    obtain ⟨rfl, rfl, rfl⟩ := hσ
    simp only [aftS, renS, delAll, memB, mName, List.getD_nil, killH, kref, ren, Nat.beq_eq, go_sem, reduceIte, reduceCtorEq, reduceEqDiff, reduceAdd, reduceLT, reduceLeDiff, reduceToNat]
    refine CWops.run htt 2 (by simp only [go_sem, reduceIte, reduceCtorEq, reduceEqDiff, reduceAdd, reduceLT, reduceLeDiff, reduceToNat, eGraph, OWN]; exact rfl) (by simp [go_sem, reduceIte, reduceCtorEq, reduceEqDiff, reduceAdd, reduceLT, reduceLeDiff, reduceToNat, eGraph, OWN]) ?_
    refine CWops.done ?_
    refine CW.seq ?_
    refine CW.sh (Sh.frzB 2 rfl rfl rfl) ?_
    simp only [go_sem, reduceIte, reduceCtorEq, reduceEqDiff, reduceAdd, reduceLT, reduceLeDiff, reduceToNat, mapT, mapS, frzF, List.map_cons, List.map_nil, delS, OWN]
    refine CW.sh (Sh.out 3 1 rfl rfl rfl) ?_
    simp only [go_sem, reduceIte, reduceCtorEq, reduceEqDiff, reduceAdd, reduceLT, reduceLeDiff, reduceToNat, mapT, mapS, outF, List.map_cons, List.map_nil, putAt, List.set_cons_zero, List.set_cons_succ]
    refine CW.sh (Sh.frzRows (x := 6) (n := 3) (m := 3) (c := 2) (b := false) (l := g.O) (e := eObjO) (f := eObj) (rs := fun o => o.F.map eVal) rfl (fun v _ => rfl) (fun v _ => by simp [eObj, eObjO, AV.freeze, eVal])) ?_
    simp only [go_sem, reduceIte, reduceCtorEq, reduceEqDiff, reduceAdd, reduceLT, reduceLeDiff, reduceToNat]
    refine CW.region (by kernel_rfl) (by kernel_rfl) ?_ -- r5
    refine CWops.run htt 3 (by simp only [go_sem, reduceIte, reduceCtorEq, reduceEqDiff, reduceAdd, reduceLT, reduceLeDiff, reduceToNat]; exact rfl) (by simp [go_sem, reduceIte, reduceCtorEq, reduceEqDiff, reduceAdd, reduceLT, reduceLeDiff, reduceToNat]) ?_
    refine CWops.callG [6] rfl (deleteFunc up g.O (fun o => !decide (o.Id ∈ gReach g)) 63 [.fp [.sl 1 ((gReach g).map eI)]] rfl (fun σ => by simp [view]) (by have := hm.o; omega) (fun x _ => sweep_1 up (gReach g) x (gReach_pw hm) (by have := gReach_len hm; omega))) (by simp only [go_sem, reduceIte, reduceCtorEq, reduceEqDiff, reduceAdd, reduceLT, reduceLeDiff, reduceToNat]) (by simp only [go_sem, reduceIte, reduceCtorEq, reduceEqDiff, reduceAdd, reduceLT, reduceLeDiff, reduceToNat]; first | done | exact rfl) (by decide) (by simp [go_sem, reduceIte, reduceCtorEq, reduceEqDiff, reduceAdd, reduceLT, reduceLeDiff, reduceToNat, mName, memB, ex_func, SubL, Sub, eGraph]) (by simp [go_sem, reduceIte, reduceCtorEq, reduceEqDiff, reduceAdd, reduceLT, reduceLeDiff, reduceToNat, mName, ex_func, SubL, Sub, eGraph]) (by simp [go_sem, reduceIte, reduceCtorEq, reduceEqDiff, reduceAdd, reduceLT, reduceLeDiff, reduceToNat, ex_func, SubL, Sub, eGraph]) (by intro x hx; rcases x with _ | _ | _ | _ | x <;> first | (simp [go_sem, reduceIte, reduceCtorEq, reduceEqDiff, reduceAdd, reduceLT, reduceLeDiff, reduceToNat]; done) | omega | (simp at hx; done) | (simp at hx; omega)) (by simp [go_sem, reduceIte, reduceCtorEq, reduceEqDiff, reduceAdd, reduceLT, reduceLeDiff, reduceToNat, mName, ex_func, SubL, Sub, eGraph]) (fun r σ' hσ => ?_)
    obtain ⟨σn, σt, σs⟩ := σ'
    simp only at hσ
    obtain ⟨rfl, rfl, rfl⟩ := hσ
    simp only [aftS, renS, delAll, memB, mName, List.getD_nil, killH, kref, ren, Nat.beq_eq, go_sem, reduceIte, reduceCtorEq, reduceEqDiff, reduceAdd, reduceLT, reduceLeDiff, reduceToNat]
    refine CWops.run htt 2 (by simp only [go_sem, reduceIte, reduceCtorEq, reduceEqDiff, reduceAdd, reduceLT, reduceLeDiff, reduceToNat]; exact rfl) (by simp [go_sem, reduceIte, reduceCtorEq, reduceEqDiff, reduceAdd, reduceLT, reduceLeDiff, reduceToNat]) ?_
    refine CWops.done ?_
    refine CW.seq ?_
    have hdel : del (fun o => !decide (o.Id ∈ gReach g)) g.O = (gSweep g).O := by unfold gSweep del; rw [if_pos ct7]; simp
    rw [hdel]
    refine CW.sh (Sh.frz 5 1 rfl rfl) ?_
    simp only [go_sem, reduceIte, reduceCtorEq, reduceEqDiff, reduceAdd, reduceLT, reduceLeDiff, reduceToNat]
    refine CW.sh (Sh.frzC 3 0 5 0 (by decide) rfl rfl rfl) ?_
    simp only [go_sem, reduceIte, reduceCtorEq, reduceEqDiff, reduceAdd, reduceLT, reduceLeDiff, reduceToNat]
    refine CW.sh (Sh.frzC 3 2 5 2 (by decide) rfl rfl rfl) ?_
    simp only [go_sem, reduceIte, reduceCtorEq, reduceEqDiff, reduceAdd, reduceLT, reduceLeDiff, reduceToNat]
    refine CW.region (by kernel_rfl) (by kernel_rfl) ?_ -- r6
    refine CWops.run htt 2 (by simp only [go_sem, reduceIte, reduceCtorEq, reduceEqDiff, reduceAdd, reduceLT, reduceLeDiff, reduceToNat]; exact rfl) (by simp [go_sem, reduceIte, reduceCtorEq, reduceEqDiff, reduceAdd, reduceLT, reduceLeDiff, reduceToNat]) ?_
    refine CWops.done ?_
    refine CW.ret ?_
    refine retQ.ret (by simp only [f33, go_sem, reduceIte, reduceCtorEq, reduceEqDiff, reduceAdd, reduceLT, reduceLeDiff, reduceToNat]; exact rfl) (by simp only [go_sem, reduceIte, reduceCtorEq, reduceEqDiff, reduceAdd, reduceLT, reduceLeDiff, reduceToNat]; exact rfl) ?_ -- ret2
    refine ⟨_, ?_, rfl⟩
    have h1 : (gSweep g).S = g.S := by unfold gSweep; rw [if_pos ct7]
    have h2 : (gSweep g).Roots = g.Roots := by unfold gSweep; rw [if_pos ct7]
    simp [leP, leL, eGraph, h1, h2]
end Go.Ab
namespace Go.Ab
open Go Go.Proofs.Try
open Nat (reduceEqDiff reduceAdd reduceLT reduceLeDiff reduceBEq reduceSub reduceMul)
open Int (reduceToNat)
set_option maxRecDepth 100000
set_option maxHeartbeats 1600000
set_option linter.unusedSimpArgs false
set_option linter.unusedVariables false
theorem aw08Reach (up : Bool) : PCall prog up 29 [.agg (eGraph twG)] (· = .sl 1 [[.int .i64 0]]) := by
  have h := graph_Reach up twG
  rw [twG_reach] at h
  exact h
theorem aw08Sweep (up : Bool) : PCall prog up 33 [.agg (eGraph twG)] (· = .agg (eGraph twW)) := by
  have h := graph_Sweep up twG
  rw [twG_sweep] at h
  exact h
theorem aw08New (up : Bool) : PCall prog up 22 [.agg (eGraph twG), .int .i64 0] (· = .tup [.agg (eGraph twN), .int .i64 6, .int .i64 0]) := by
  have h := graph_New up twG 0 twG_sz
  rw [twG_new] at h
  exact h
theorem aw08Find (up : Bool) : PCall prog up 35 [.agg (eGraph twN), .int .i64 5] (· = .int .i64 1) := by
  have h := graph_Find up twN 5
  rw [show fnd (fun o => decide (o.Id = 5)) twN.O = 1 by decide] at h
  exact h
theorem aw08May (up : Bool) : PCall prog up 19 [.agg (eGraph twG)] (· = .bool true) := by
  have h := graph_May up twG
  rw [twG_may] at h
  exact h
theorem twW_len : twW.O.length = 1 := rfl
theorem twN_len : twN.O.length = 3 := rfl
theorem law08_awake (up : Bool) : PCall prog up 32 [] (· = .bool true) := by
  refine PCall.intro htt func32 (by kernel_rfl) rfl (Nat.le_of_ble_eq_true rfl) fun hl => ?_

  simp only [tmps0, Nat.reduceAdd]
  refine CW.seq ?_
  refine CW.region (by kernel_rfl) (by kernel_rfl) ?_ -- r0
  refine CWops.run htt 1 (by simp only [go_sem, reduceIte, reduceCtorEq, reduceEqDiff, reduceAdd, reduceLT, reduceLeDiff, reduceToNat]; exact rfl) (by simp [go_sem, reduceIte, reduceCtorEq, reduceEqDiff, reduceAdd, reduceLT, reduceLeDiff, reduceToNat]) ?_
  refine CWops.done ?_
  refine CW.seq ?_
  refine CW.region (by kernel_rfl) (by kernel_rfl) ?_ -- r1
  refine CWops.callA (law08_Two up) (by simp only [go_sem, reduceIte, reduceCtorEq, reduceEqDiff, reduceAdd, reduceLT, reduceLeDiff, reduceToNat, eGraph]) (by simp only [go_sem, reduceIte, reduceCtorEq, reduceEqDiff, reduceAdd, reduceLT, reduceLeDiff, reduceToNat, eGraph]; first | done | exact rfl) (by simp only [go_sem, reduceIte, reduceCtorEq, reduceEqDiff, reduceAdd, reduceLT, reduceLeDiff, reduceToNat, eGraph]) (by simp only [go_sem, reduceIte, reduceCtorEq, reduceEqDiff, reduceAdd, reduceLT, reduceLeDiff, reduceToNat, eGraph]) (fun rt6 hrt6 => ?_)
  subst hrt6
  refine CWops.callA (aw08Reach up) (by simp only [go_sem, reduceIte, reduceCtorEq, reduceEqDiff, reduceAdd, reduceLT, reduceLeDiff, reduceToNat, eGraph]) (by simp only [go_sem, reduceIte, reduceCtorEq, reduceEqDiff, reduceAdd, reduceLT, reduceLeDiff, reduceToNat, eGraph]; first | done | exact rfl) (by simp only [go_sem, reduceIte, reduceCtorEq, reduceEqDiff, reduceAdd, reduceLT, reduceLeDiff, reduceToNat, eGraph]) (by simp only [go_sem, reduceIte, reduceCtorEq, reduceEqDiff, reduceAdd, reduceLT, reduceLeDiff, reduceToNat, eGraph]) (fun rt7 hrt7 => ?_)
  subst hrt7
  refine CWops.run htt 1 (by simp only [go_sem, reduceIte, reduceCtorEq, reduceEqDiff, reduceAdd, reduceLT, reduceLeDiff, reduceToNat, eGraph]; exact rfl) (by simp [go_sem, reduceIte, reduceCtorEq, reduceEqDiff, reduceAdd, reduceLT, reduceLeDiff, reduceToNat, eGraph]) ?_
  refine CWops.done ?_
  refine CW.seq ?_
  refine CW.region (by kernel_rfl) (by kernel_rfl) ?_ -- r2
  refine CWops.callA (law08_Two up) (by simp only [go_sem, reduceIte, reduceCtorEq, reduceEqDiff, reduceAdd, reduceLT, reduceLeDiff, reduceToNat, eGraph]) (by simp only [go_sem, reduceIte, reduceCtorEq, reduceEqDiff, reduceAdd, reduceLT, reduceLeDiff, reduceToNat, eGraph]; first | done | exact rfl) (by simp only [go_sem, reduceIte, reduceCtorEq, reduceEqDiff, reduceAdd, reduceLT, reduceLeDiff, reduceToNat, eGraph]) (by simp only [go_sem, reduceIte, reduceCtorEq, reduceEqDiff, reduceAdd, reduceLT, reduceLeDiff, reduceToNat, eGraph]) (fun rt8 hrt8 => ?_)
  subst hrt8
  refine CWops.callA (aw08Sweep up) (by simp only [go_sem, reduceIte, reduceCtorEq, reduceEqDiff, reduceAdd, reduceLT, reduceLeDiff, reduceToNat, eGraph]) (by simp only [go_sem, reduceIte, reduceCtorEq, reduceEqDiff, reduceAdd, reduceLT, reduceLeDiff, reduceToNat, eGraph]; first | done | exact rfl) (by simp only [go_sem, reduceIte, reduceCtorEq, reduceEqDiff, reduceAdd, reduceLT, reduceLeDiff, reduceToNat, eGraph]) (by simp only [go_sem, reduceIte, reduceCtorEq, reduceEqDiff, reduceAdd, reduceLT, reduceLeDiff, reduceToNat, eGraph]) (fun rt9 hrt9 => ?_)
  subst hrt9
  refine CWops.run htt 2 (by simp only [go_sem, reduceIte, reduceCtorEq, reduceEqDiff, reduceAdd, reduceLT, reduceLeDiff, reduceToNat, eGraph]; exact rfl) (by simp [go_sem, reduceIte, reduceCtorEq, reduceEqDiff, reduceAdd, reduceLT, reduceLeDiff, reduceToNat, eGraph]) ?_
  refine CWops.done ?_
  refine CW.seq ?_
  refine CW.region (by kernel_rfl) (by kernel_rfl) ?_ -- r3
  refine CWops.callA (law08_Two up) (by simp only [go_sem, reduceIte, reduceCtorEq, reduceEqDiff, reduceAdd, reduceLT, reduceLeDiff, reduceToNat, eGraph]) (by simp only [go_sem, reduceIte, reduceCtorEq, reduceEqDiff, reduceAdd, reduceLT, reduceLeDiff, reduceToNat, eGraph]; first | done | exact rfl) (by simp only [go_sem, reduceIte, reduceCtorEq, reduceEqDiff, reduceAdd, reduceLT, reduceLeDiff, reduceToNat, eGraph]) (by simp only [go_sem, reduceIte, reduceCtorEq, reduceEqDiff, reduceAdd, reduceLT, reduceLeDiff, reduceToNat, eGraph]) (fun rt11 hrt11 => ?_)
  subst hrt11
  refine CWops.callA (aw08New up) (by simp only [go_sem, reduceIte, reduceCtorEq, reduceEqDiff, reduceAdd, reduceLT, reduceLeDiff, reduceToNat, eGraph]) (by simp only [go_sem, reduceIte, reduceCtorEq, reduceEqDiff, reduceAdd, reduceLT, reduceLeDiff, reduceToNat, eGraph]; first | done | exact rfl) (by simp only [go_sem, reduceIte, reduceCtorEq, reduceEqDiff, reduceAdd, reduceLT, reduceLeDiff, reduceToNat, eGraph]) (by simp only [go_sem, reduceIte, reduceCtorEq, reduceEqDiff, reduceAdd, reduceLT, reduceLeDiff, reduceToNat, eGraph]) (fun rt12 hrt12 => ?_)
  subst hrt12
  refine CWops.run htt 8 (by simp only [go_sem, reduceIte, reduceCtorEq, reduceEqDiff, reduceAdd, reduceLT, reduceLeDiff, reduceToNat, eGraph]; exact rfl) (by simp [go_sem, reduceIte, reduceCtorEq, reduceEqDiff, reduceAdd, reduceLT, reduceLeDiff, reduceToNat, eGraph]) ?_
  refine CWops.done ?_
  refine CW.seq ?_
  refine CW.region (by kernel_rfl) (by kernel_rfl) ?_ -- r4
  refine CWops.callA (law08_Two up) (by simp only [go_sem, reduceIte, reduceCtorEq, reduceEqDiff, reduceAdd, reduceLT, reduceLeDiff, reduceToNat, eGraph, List.length_cons, List.length_nil, List.getElem?_cons_zero, List.length_map, twW_len, twN_len]) (by simp only [go_sem, reduceIte, reduceCtorEq, reduceEqDiff, reduceAdd, reduceLT, reduceLeDiff, reduceToNat, eGraph, List.length_cons, List.length_nil, List.getElem?_cons_zero, List.length_map, twW_len, twN_len]; first | done | exact rfl) (by simp only [go_sem, reduceIte, reduceCtorEq, reduceEqDiff, reduceAdd, reduceLT, reduceLeDiff, reduceToNat, eGraph, List.length_cons, List.length_nil, List.getElem?_cons_zero, List.length_map, twW_len, twN_len]) (by simp only [go_sem, reduceIte, reduceCtorEq, reduceEqDiff, reduceAdd, reduceLT, reduceLeDiff, reduceToNat, eGraph, List.length_cons, List.length_nil, List.getElem?_cons_zero, List.length_map, twW_len, twN_len]) (fun rt16 hrt16 => ?_)
  subst hrt16
  refine CWops.callA (aw08May up) (by simp only [go_sem, reduceIte, reduceCtorEq, reduceEqDiff, reduceAdd, reduceLT, reduceLeDiff, reduceToNat, eGraph, List.length_cons, List.length_nil, List.getElem?_cons_zero, List.length_map, twW_len, twN_len]) (by simp only [go_sem, reduceIte, reduceCtorEq, reduceEqDiff, reduceAdd, reduceLT, reduceLeDiff, reduceToNat, eGraph, List.length_cons, List.length_nil, List.getElem?_cons_zero, List.length_map, twW_len, twN_len]; first | done | exact rfl) (by simp only [go_sem, reduceIte, reduceCtorEq, reduceEqDiff, reduceAdd, reduceLT, reduceLeDiff, reduceToNat, eGraph, List.length_cons, List.length_nil, List.getElem?_cons_zero, List.length_map, twW_len, twN_len]) (by simp only [go_sem, reduceIte, reduceCtorEq, reduceEqDiff, reduceAdd, reduceLT, reduceLeDiff, reduceToNat, eGraph, List.length_cons, List.length_nil, List.getElem?_cons_zero, List.length_map, twW_len, twN_len]) (fun rt17 hrt17 => ?_)
  subst hrt17
  refine CWops.run htt 1 (by simp only [go_sem, reduceIte, reduceCtorEq, reduceEqDiff, reduceAdd, reduceLT, reduceLeDiff, reduceToNat, eGraph, List.length_cons, List.length_nil, List.getElem?_cons_zero, List.length_map, twW_len, twN_len]; exact rfl) (by simp [go_sem, reduceIte, reduceCtorEq, reduceEqDiff, reduceAdd, reduceLT, reduceLeDiff, reduceToNat, eGraph, List.length_cons, List.length_nil, List.getElem?_cons_zero, List.length_map, twW_len, twN_len]) ?_
  all_goals (first | refine CWops.guard 18 (by simp only [go_sem, reduceIte, reduceCtorEq, reduceEqDiff, reduceAdd, reduceLT, reduceLeDiff, reduceToNat, eGraph, List.length_cons, List.length_nil, List.getElem?_cons_zero, List.length_map, twW_len, twN_len]; exact rfl) (fun g18 => ?_) (fun g18 => ?_) | skip)
  all_goals (first | (simp at g18; done) | (cases g18; done) | skip)
  all_goals (refine CWops.run htt 5 (by simp only [go_sem, reduceIte, reduceCtorEq, reduceEqDiff, reduceAdd, reduceLT, reduceLeDiff, reduceToNat, eGraph, List.length_cons, List.length_nil, List.getElem?_cons_zero, List.length_map, twW_len, twN_len]; exact rfl) (by simp [go_sem, reduceIte, reduceCtorEq, reduceEqDiff, reduceAdd, reduceLT, reduceLeDiff, reduceToNat, eGraph, List.length_cons, List.length_nil, List.getElem?_cons_zero, List.length_map, twW_len, twN_len]) ?_)
  all_goals (first | refine CWops.guard 23 (by simp only [go_sem, reduceIte, reduceCtorEq, reduceEqDiff, reduceAdd, reduceLT, reduceLeDiff, reduceToNat, eGraph, List.length_cons, List.length_nil, List.getElem?_cons_zero, List.length_map, twW_len, twN_len]; exact rfl) (fun g23 => ?_) (fun g23 => ?_) | skip)
  all_goals (first | (simp at g23; done) | (cases g23; done) | skip)
  all_goals (refine CWops.run htt 6 (by simp only [go_sem, reduceIte, reduceCtorEq, reduceEqDiff, reduceAdd, reduceLT, reduceLeDiff, reduceToNat, eGraph, List.length_cons, List.length_nil, List.getElem?_cons_zero, List.length_map, twW_len, twN_len]; exact rfl) (by simp [go_sem, reduceIte, reduceCtorEq, reduceEqDiff, reduceAdd, reduceLT, reduceLeDiff, reduceToNat, eGraph, List.length_cons, List.length_nil, List.getElem?_cons_zero, List.length_map, twW_len, twN_len]) ?_)
  all_goals (first | refine CWops.guard 29 (by simp only [go_sem, reduceIte, reduceCtorEq, reduceEqDiff, reduceAdd, reduceLT, reduceLeDiff, reduceToNat, eGraph, List.length_cons, List.length_nil, List.getElem?_cons_zero, List.length_map, twW_len, twN_len]; exact rfl) (fun g29 => ?_) (fun g29 => ?_) | skip)
  all_goals (first | (simp at g29; done) | (cases g29; done) | skip)
  all_goals (refine CWops.run htt 6 (by simp only [go_sem, reduceIte, reduceCtorEq, reduceEqDiff, reduceAdd, reduceLT, reduceLeDiff, reduceToNat, eGraph, List.length_cons, List.length_nil, List.getElem?_cons_zero, List.length_map, twW_len, twN_len]; exact rfl) (by simp [go_sem, reduceIte, reduceCtorEq, reduceEqDiff, reduceAdd, reduceLT, reduceLeDiff, reduceToNat, eGraph, List.length_cons, List.length_nil, List.getElem?_cons_zero, List.length_map, twW_len, twN_len]) ?_)
  all_goals (first | refine CWops.guard 35 (by simp only [go_sem, reduceIte, reduceCtorEq, reduceEqDiff, reduceAdd, reduceLT, reduceLeDiff, reduceToNat, eGraph, List.length_cons, List.length_nil, List.getElem?_cons_zero, List.length_map, twW_len, twN_len]; exact rfl) (fun g35 => ?_) (fun g35 => ?_) | skip)
  all_goals (first | (simp at g35; done) | (cases g35; done) | skip)
  all_goals (refine CWops.run htt 4 (by simp only [go_sem, reduceIte, reduceCtorEq, reduceEqDiff, reduceAdd, reduceLT, reduceLeDiff, reduceToNat, eGraph, List.length_cons, List.length_nil, List.getElem?_cons_zero, List.length_map, twW_len, twN_len]; exact rfl) (by simp [go_sem, reduceIte, reduceCtorEq, reduceEqDiff, reduceAdd, reduceLT, reduceLeDiff, reduceToNat, eGraph, List.length_cons, List.length_nil, List.getElem?_cons_zero, List.length_map, twW_len, twN_len]) ?_)
  all_goals (first | refine CWops.guard 39 (by simp only [go_sem, reduceIte, reduceCtorEq, reduceEqDiff, reduceAdd, reduceLT, reduceLeDiff, reduceToNat, eGraph, List.length_cons, List.length_nil, List.getElem?_cons_zero, List.length_map, twW_len, twN_len]; exact rfl) (fun g39 => ?_) (fun g39 => ?_) | skip)
  all_goals (first | (simp at g39; done) | (cases g39; done) | skip)
  all_goals (refine CWops.run htt 4 (by simp only [go_sem, reduceIte, reduceCtorEq, reduceEqDiff, reduceAdd, reduceLT, reduceLeDiff, reduceToNat, eGraph, List.length_cons, List.length_nil, List.getElem?_cons_zero, List.length_map, twW_len, twN_len]; exact rfl) (by simp [go_sem, reduceIte, reduceCtorEq, reduceEqDiff, reduceAdd, reduceLT, reduceLeDiff, reduceToNat, eGraph, List.length_cons, List.length_nil, List.getElem?_cons_zero, List.length_map, twW_len, twN_len]) ?_)
  all_goals (first | refine CWops.guard 43 (by simp only [go_sem, reduceIte, reduceCtorEq, reduceEqDiff, reduceAdd, reduceLT, reduceLeDiff, reduceToNat, eGraph, List.length_cons, List.length_nil, List.getElem?_cons_zero, List.length_map, twW_len, twN_len]; exact rfl) (fun g43 => ?_) (fun g43 => ?_) | skip)
  all_goals (first | (simp at g43; done) | (cases g43; done) | skip)
  all_goals (refine CWops.run htt 6 (by simp only [go_sem, reduceIte, reduceCtorEq, reduceEqDiff, reduceAdd, reduceLT, reduceLeDiff, reduceToNat, eGraph, List.length_cons, List.length_nil, List.getElem?_cons_zero, List.length_map, twW_len, twN_len]; exact rfl) (by simp [go_sem, reduceIte, reduceCtorEq, reduceEqDiff, reduceAdd, reduceLT, reduceLeDiff, reduceToNat, eGraph, List.length_cons, List.length_nil, List.getElem?_cons_zero, List.length_map, twW_len, twN_len]) ?_)
  all_goals (first | refine CWops.guard 49 (by simp only [go_sem, reduceIte, reduceCtorEq, reduceEqDiff, reduceAdd, reduceLT, reduceLeDiff, reduceToNat, eGraph, List.length_cons, List.length_nil, List.getElem?_cons_zero, List.length_map, twW_len, twN_len]; exact rfl) (fun g49 => ?_) (fun g49 => ?_) | skip)
  all_goals (first | (simp at g49; done) | (cases g49; done) | skip)
  all_goals (refine CWops.run htt 1 (by simp only [go_sem, reduceIte, reduceCtorEq, reduceEqDiff, reduceAdd, reduceLT, reduceLeDiff, reduceToNat, eGraph, List.length_cons, List.length_nil, List.getElem?_cons_zero, List.length_map, twW_len, twN_len]; exact rfl) (by simp [go_sem, reduceIte, reduceCtorEq, reduceEqDiff, reduceAdd, reduceLT, reduceLeDiff, reduceToNat, eGraph, List.length_cons, List.length_nil, List.getElem?_cons_zero, List.length_map, twW_len, twN_len]) ?_)
  all_goals (first | (refine CWops.skip ?_ ?_; next => (simp only [go_sem, reduceIte, reduceCtorEq, reduceEqDiff, reduceAdd, reduceLT, reduceLeDiff, reduceToNat]; done)) | (refine CWops.call (aw08Find up) (by simp only [go_sem, reduceIte, reduceCtorEq, reduceEqDiff, reduceAdd, reduceLT, reduceLeDiff, reduceToNat, eGraph, List.length_cons, List.length_nil, List.getElem?_cons_zero, List.length_map, twW_len, twN_len]) (by simp only [go_sem, reduceIte, reduceCtorEq, reduceEqDiff, reduceAdd, reduceLT, reduceLeDiff, reduceToNat, eGraph, List.length_cons, List.length_nil, List.getElem?_cons_zero, List.length_map, twW_len, twN_len]; first | done | exact rfl) (by simp only [go_sem, reduceIte, reduceCtorEq, reduceEqDiff, reduceAdd, reduceLT, reduceLeDiff, reduceToNat, eGraph, List.length_cons, List.length_nil, List.getElem?_cons_zero, List.length_map, twW_len, twN_len]) (fun rt51 hrt51 => ?_); subst hrt51; refine ⟨rfl, ?_⟩))
  all_goals (refine CWops.run htt 3 (by simp only [go_sem, reduceIte, reduceCtorEq, reduceEqDiff, reduceAdd, reduceLT, reduceLeDiff, reduceToNat, eGraph, List.length_cons, List.length_nil, List.getElem?_cons_zero, List.length_map, twW_len, twN_len]; exact rfl) (by simp [go_sem, reduceIte, reduceCtorEq, reduceEqDiff, reduceAdd, reduceLT, reduceLeDiff, reduceToNat, eGraph, List.length_cons, List.length_nil, List.getElem?_cons_zero, List.length_map, twW_len, twN_len]) ?_)
  all_goals (first | refine CWops.guard 54 (by simp only [go_sem, reduceIte, reduceCtorEq, reduceEqDiff, reduceAdd, reduceLT, reduceLeDiff, reduceToNat, eGraph, List.length_cons, List.length_nil, List.getElem?_cons_zero, List.length_map, twW_len, twN_len]; exact rfl) (fun g54 => ?_) (fun g54 => ?_) | skip)
  all_goals (first | (simp at g54; done) | (cases g54; done) | skip)
  all_goals (refine CWops.run htt 2 (by simp only [go_sem, reduceIte, reduceCtorEq, reduceEqDiff, reduceAdd, reduceLT, reduceLeDiff, reduceToNat, eGraph, List.length_cons, List.length_nil, List.getElem?_cons_zero, List.length_map, twW_len, twN_len]; exact rfl) (by simp [go_sem, reduceIte, reduceCtorEq, reduceEqDiff, reduceAdd, reduceLT, reduceLeDiff, reduceToNat, eGraph, List.length_cons, List.length_nil, List.getElem?_cons_zero, List.length_map, twW_len, twN_len]) ?_)
  all_goals (first | (refine CWops.skip ?_ ?_; next => (simp only [go_sem, reduceIte, reduceCtorEq, reduceEqDiff, reduceAdd, reduceLT, reduceLeDiff, reduceToNat]; done)) | (refine CWops.call (graph_Same up twN twN) (by simp only [go_sem, reduceIte, reduceCtorEq, reduceEqDiff, reduceAdd, reduceLT, reduceLeDiff, reduceToNat, eGraph, List.length_cons, List.length_nil, List.getElem?_cons_zero, List.length_map, twW_len, twN_len]) (by simp only [go_sem, reduceIte, reduceCtorEq, reduceEqDiff, reduceAdd, reduceLT, reduceLeDiff, reduceToNat, eGraph, List.length_cons, List.length_nil, List.getElem?_cons_zero, List.length_map, twW_len, twN_len]; first | done | exact rfl) (by simp only [go_sem, reduceIte, reduceCtorEq, reduceEqDiff, reduceAdd, reduceLT, reduceLeDiff, reduceToNat, eGraph, List.length_cons, List.length_nil, List.getElem?_cons_zero, List.length_map, twW_len, twN_len]) (fun rt57 hrt57 => ?_); subst hrt57; refine ⟨rfl, ?_⟩))
  all_goals (refine CWops.run htt 2 (by simp only [go_sem, reduceIte, reduceCtorEq, reduceEqDiff, reduceAdd, reduceLT, reduceLeDiff, reduceToNat, eGraph, List.length_cons, List.length_nil, List.getElem?_cons_zero, List.length_map, twW_len, twN_len]; exact rfl) (by simp [go_sem, reduceIte, reduceCtorEq, reduceEqDiff, reduceAdd, reduceLT, reduceLeDiff, reduceToNat, eGraph, List.length_cons, List.length_nil, List.getElem?_cons_zero, List.length_map, twW_len, twN_len]) ?_)
  all_goals (refine CWops.done ?_)
  all_goals (
    refine CW.ret ?_
    refine retQ.ret (by simp only [f32, go_sem, reduceIte, reduceCtorEq, reduceEqDiff, reduceAdd, reduceLT, reduceLeDiff, reduceToNat]; exact rfl) (by simp only [go_sem, reduceIte, reduceCtorEq, reduceEqDiff, reduceAdd, reduceLT, reduceLeDiff, reduceToNat]; exact rfl) ?_ -- ret1
    refine ⟨_, ?_, rfl⟩
    first | (simp [leP]; done) | (simp_all [leP]; done))
end Go.Ab
namespace Go.Ab
open Go Go.Proofs.Try
open Nat (reduceEqDiff reduceAdd reduceLT reduceLeDiff reduceBEq reduceSub reduceMul)
open Int (reduceToNat)
set_option maxRecDepth 100000
set_option maxHeartbeats 1600000
set_option linter.unusedSimpArgs false
set_option linter.unusedVariables false
@[go_sem] theorem tt_62 : tiOf prog 62 = some ⟨.slice 4, 1, 24, [.nilsl], false⟩ := by kernel_rfl
end Go.Ab
namespace Go.Ab
open Go Go.Proofs.Try
open Nat (reduceEqDiff reduceAdd reduceLT reduceLeDiff reduceBEq reduceSub reduceMul)
open Int (reduceToNat)
set_option maxRecDepth 100000
set_option maxHeartbeats 1600000
set_option linter.unusedSimpArgs false
set_option linter.unusedVariables false
theorem law08_GraphLeast (up : Bool) (g : Graph) (sm : List Bool) : PCall prog up 8 [.agg (eGraph g), .sl 1 (sm.map eB)] (· = .bool true) := by
  refine PCall.intro htt func8 (by kernel_rfl) rfl (Nat.le_of_ble_eq_true rfl) fun hl => ?_

  simp only [tmps0, Nat.reduceAdd]
  refine CW.seq ?_
  refine CW.region (by kernel_rfl) (by kernel_rfl) ?_ -- r0
  refine CWops.run htt 2 (by simp only [go_sem, reduceIte, reduceCtorEq, reduceEqDiff, reduceAdd, reduceLT, reduceLeDiff, reduceToNat, eGraph]; exact rfl) (by simp [go_sem, reduceIte, reduceCtorEq, reduceEqDiff, reduceAdd, reduceLT, reduceLeDiff, reduceToNat, eGraph]) ?_
  refine CWops.done ?_
  refine CW.seq ?_
  refine CW.region (by kernel_rfl) (by kernel_rfl) ?_ -- r1
  refine CWops.callA (law08_awake up) (by simp only [go_sem, reduceIte, reduceCtorEq, reduceEqDiff, reduceAdd, reduceLT, reduceLeDiff, reduceToNat]) (by simp only [go_sem, reduceIte, reduceCtorEq, reduceEqDiff, reduceAdd, reduceLT, reduceLeDiff, reduceToNat]; first | done | exact rfl) (by simp only [go_sem, reduceIte, reduceCtorEq, reduceEqDiff, reduceAdd, reduceLT, reduceLeDiff, reduceToNat]) (by simp only [go_sem, reduceIte, reduceCtorEq, reduceEqDiff, reduceAdd, reduceLT, reduceLeDiff, reduceToNat]) (fun rt13 hrt13 => ?_)
  subst hrt13
  refine CWops.run htt 1 (by simp only [go_sem, reduceIte, reduceCtorEq, reduceEqDiff, reduceAdd, reduceLT, reduceLeDiff, reduceToNat]; exact rfl) (by simp [go_sem, reduceIte, reduceCtorEq, reduceEqDiff, reduceAdd, reduceLT, reduceLeDiff, reduceToNat]) ?_
  refine CWops.done ?_
  refine CW.seq ?_
  refine CW.region (by kernel_rfl) (by kernel_rfl) ?_ -- r2
  refine CWops.run htt 1 (by simp only [go_sem, reduceIte, reduceCtorEq, reduceEqDiff, reduceAdd, reduceLT, reduceLeDiff, reduceToNat, eGraph]; exact rfl) (by simp [go_sem, reduceIte, reduceCtorEq, reduceEqDiff, reduceAdd, reduceLT, reduceLeDiff, reduceToNat, eGraph]) ?_
  refine CWops.call (law08_Few up g) (by simp only [go_sem, reduceIte, reduceCtorEq, reduceEqDiff, reduceAdd, reduceLT, reduceLeDiff, reduceToNat, eGraph]) (by simp only [go_sem, reduceIte, reduceCtorEq, reduceEqDiff, reduceAdd, reduceLT, reduceLeDiff, reduceToNat, eGraph]; first | done | exact rfl) (by simp only [go_sem, reduceIte, reduceCtorEq, reduceEqDiff, reduceAdd, reduceLT, reduceLeDiff, reduceToNat, eGraph]) (fun rt15 hrt15 => ?_)
  subst hrt15; refine ⟨rfl, ?_⟩
  refine CWops.run htt 1 (by simp only [go_sem, reduceIte, reduceCtorEq, reduceEqDiff, reduceAdd, reduceLT, reduceLeDiff, reduceToNat, eGraph]; exact rfl) (by simp [go_sem, reduceIte, reduceCtorEq, reduceEqDiff, reduceAdd, reduceLT, reduceLeDiff, reduceToNat, eGraph]) ?_
  refine CWops.done ?_
  refine CW.seq ?_
  refine CW.cut ⟨1, [(1, .sl 1 (sm.map eB)), (2, .lv 0 [] 0), (5, .bool true), (34, .bool (!((fewG g && gMay g) && decide (sm.length = g.O.length))))], [(0, ⟨true, eGraph g⟩)]⟩ ?_ ?_
  · refine CW.region (by kernel_rfl) (by kernel_rfl) ?_ -- r3
    refine CWops.run htt 3 (by simp only [go_sem, reduceIte, reduceCtorEq, reduceEqDiff, reduceAdd, reduceLT, reduceLeDiff, reduceToNat, eGraph]; exact rfl) (by simp [go_sem, reduceIte, reduceCtorEq, reduceEqDiff, reduceAdd, reduceLT, reduceLeDiff, reduceToNat, eGraph]) ?_
    all_goals (first | refine CWops.guard 18 (by simp only [go_sem, reduceIte, reduceCtorEq, reduceEqDiff, reduceAdd, reduceLT, reduceLeDiff, reduceToNat, eGraph]; exact rfl) (fun g18 => ?_) (fun g18 => ?_) | skip)
    all_goals (refine CWops.run htt 4 (by simp only [go_sem, reduceIte, reduceCtorEq, reduceEqDiff, reduceAdd, reduceLT, reduceLeDiff, reduceToNat, eGraph]; exact rfl) (by simp [go_sem, reduceIte, reduceCtorEq, reduceEqDiff, reduceAdd, reduceLT, reduceLeDiff, reduceToNat, eGraph]) ?_)
    all_goals (first | refine CWops.guard 22 (by simp only [go_sem, reduceIte, reduceCtorEq, reduceEqDiff, reduceAdd, reduceLT, reduceLeDiff, reduceToNat, eGraph]; exact rfl) (fun g22 => ?_) (fun g22 => ?_) | skip)
    all_goals (refine CWops.run htt 1 (by simp only [go_sem, reduceIte, reduceCtorEq, reduceEqDiff, reduceAdd, reduceLT, reduceLeDiff, reduceToNat, eGraph]; exact rfl) (by simp [go_sem, reduceIte, reduceCtorEq, reduceEqDiff, reduceAdd, reduceLT, reduceLeDiff, reduceToNat, eGraph]) ?_)
    all_goals (first | (refine CWops.skip ?_ ?_; next => (simp only [go_sem, reduceIte, reduceCtorEq, reduceEqDiff, reduceAdd, reduceLT, reduceLeDiff, reduceToNat]; done)) | (refine CWops.call (graph_May up g) (by simp only [go_sem, reduceIte, reduceCtorEq, reduceEqDiff, reduceAdd, reduceLT, reduceLeDiff, reduceToNat, eGraph]) (by simp only [go_sem, reduceIte, reduceCtorEq, reduceEqDiff, reduceAdd, reduceLT, reduceLeDiff, reduceToNat, eGraph]; first | done | exact rfl) (by simp only [go_sem, reduceIte, reduceCtorEq, reduceEqDiff, reduceAdd, reduceLT, reduceLeDiff, reduceToNat, eGraph]) (fun rt24 hrt24 => ?_); subst hrt24; refine ⟨rfl, ?_⟩))
    all_goals (refine CWops.run htt 3 (by simp only [go_sem, reduceIte, reduceCtorEq, reduceEqDiff, reduceAdd, reduceLT, reduceLeDiff, reduceToNat, eGraph]; exact rfl) (by simp [go_sem, reduceIte, reduceCtorEq, reduceEqDiff, reduceAdd, reduceLT, reduceLeDiff, reduceToNat, eGraph]) ?_)
    all_goals (first | refine CWops.guard 27 (by simp only [go_sem, reduceIte, reduceCtorEq, reduceEqDiff, reduceAdd, reduceLT, reduceLeDiff, reduceToNat, eGraph]; exact rfl) (fun g27 => ?_) (fun g27 => ?_) | skip)
    all_goals (refine CWops.run htt 7 (by simp only [go_sem, reduceIte, reduceCtorEq, reduceEqDiff, reduceAdd, reduceLT, reduceLeDiff, reduceToNat, eGraph]; exact rfl) (by simp [go_sem, reduceIte, reduceCtorEq, reduceEqDiff, reduceAdd, reduceLT, reduceLeDiff, reduceToNat, eGraph]) ?_)
    all_goals (refine CWops.done ?_)
    all_goals (
      first | refine ⟨rfl, Sh.wk0 ?_⟩ | refine Sh.wk0 ?_
      simp_all [Wk, go_sem, reduceIte, reduceCtorEq, reduceEqDiff, reduceAdd, reduceLT, reduceLeDiff, reduceToNat, eGraph, eVal] <;> first | done | rfl | omega | (intro h; omega) | (rw [Bool.eq_iff_iff]; simp; done))
  refine CW.cond (by simp only [go_sem, reduceIte, reduceCtorEq, reduceEqDiff, reduceAdd, reduceLT, reduceLeDiff, reduceToNat]; first | done | exact rfl) (fun ct34 => ?_) (fun ct34 => ?_)
  · refine CW.seq ?_
    refine CW.region (by kernel_rfl) (by kernel_rfl) ?_ -- r4
    refine CWops.run htt 2 (by simp only [go_sem, reduceIte, reduceCtorEq, reduceEqDiff, reduceAdd, reduceLT, reduceLeDiff, reduceToNat]; exact rfl) (by simp [go_sem, reduceIte, reduceCtorEq, reduceEqDiff, reduceAdd, reduceLT, reduceLeDiff, reduceToNat]) ?_
    refine CWops.done ?_
    refine CW.ret ?_
    refine retQ.ret (by simp only [f8, go_sem, reduceIte, reduceCtorEq, reduceEqDiff, reduceAdd, reduceLT, reduceLeDiff, reduceToNat]; exact rfl) (by simp only [go_sem, reduceIte, reduceCtorEq, reduceEqDiff, reduceAdd, reduceLT, reduceLeDiff, reduceToNat]; exact rfl) ?_ -- ret1
    refine ⟨_, ?_, rfl⟩
    first | (simp [leP]; done) | (simp_all [leP]; done)
  · simp only [Bool.not_eq_false', Bool.and_eq_true, decide_eq_true_eq] at ct34
    obtain ⟨⟨hfew, hm⟩, hsl⟩ := ct34
    have hM := (may_iff g).1 hm
    have hr3 := hM.r
    have ho8 := hM.o
    have hfnd : ∀ {r : Int}, rootB g r = true → 0 ≤ r → ∃ p : Nat, fnd (fun o => decide (o.Id = r)) g.O = p ∧ p < g.O.length := fun {r} h1 h2 => by
      unfold rootB at h1
      simp only [Bool.or_eq_true, decide_eq_true_eq] at h1
      obtain ⟨p, o, h3, _, h4, _⟩ := hM.find (h1.resolve_left (by omega))
      exact ⟨p, h4, (List.getElem?_eq_some_iff.1 h3).1⟩
    refine CW.skip ?_
    refine CW.seq ?_
    refine CW.seq ?_
    refine CW.region (by kernel_rfl) (by kernel_rfl) ?_ -- r5
    refine CWops.run htt 1 (by simp only [go_sem, reduceIte, reduceCtorEq, reduceEqDiff, reduceAdd, reduceLT, reduceLeDiff, reduceToNat]; exact rfl) (by simp [go_sem, reduceIte, reduceCtorEq, reduceEqDiff, reduceAdd, reduceLT, reduceLeDiff, reduceToNat]) ?_
    refine CWops.done ?_
    refine CW.block ?_
    refine CW.loop (S := Nat) (fun n => ⟨1, [(1, .sl 1 (sm.map eB)), (2, .lv 0 [] 0), (5, .bool true), (7, .int .i64 n)], [(0, ⟨true, eGraph g⟩)]⟩) (fun n => n ≤ g.Roots.length ∧ ∀ (j : Nat) (r : Int), j < n → g.Roots[j]? = some r → 0 ≤ r → someAt sm (fnd (fun o => decide (o.Id = r)) g.O) = true) (fun n => g.Roots.length - n) (0) ?_ ⟨Nat.zero_le _, fun j r hj => by omega⟩ (fun n ⟨h1, g1⟩ => ?_)
    · refine Sh.wk0 ?_; simp [Wk, go_sem, reduceIte, reduceCtorEq, reduceEqDiff, reduceAdd, reduceLT, reduceLeDiff, reduceToNat, eGraph]
    refine CW.seq ?_
    refine CW.seq ?_
    refine CW.region (by kernel_rfl) (by kernel_rfl) ?_ -- r6
    refine CWops.run htt 5 (by simp only [go_sem, reduceIte, reduceCtorEq, reduceEqDiff, reduceAdd, reduceLT, reduceLeDiff, reduceToNat, eGraph]; exact rfl) (by simp [go_sem, reduceIte, reduceCtorEq, reduceEqDiff, reduceAdd, reduceLT, reduceLeDiff, reduceToNat, eGraph]) ?_
    refine CWops.done ?_
    refine CW.cond (by simp only [go_sem, reduceIte, reduceCtorEq, reduceEqDiff, reduceAdd, reduceLT, reduceLeDiff, reduceToNat]; first | done | exact rfl) (fun ct40 => ?_) (fun ct40 => ?_)
    · have hn : n < g.Roots.length := by simpa using ct40
      obtain ⟨x, hx⟩ : ∃ x, g.Roots[n]? = some x := ⟨g.Roots[n], List.getElem?_eq_getElem hn⟩
      refine CW.skip ?_
      refine CW.seq ?_
      refine CW.block ?_
      refine CW.cut ⟨1, [(1, .sl 1 (sm.map eB)), (2, .lv 0 [] 0), (5, .bool true), (7, .int .i64 n), (61, .bool (decide (0 ≤ x) && !someAt sm (fnd (fun o => decide (o.Id = x)) g.O)))], [(0, ⟨true, eGraph g⟩)]⟩ ?_ ?_
      · obtain ⟨p, b, hcase⟩ : ∃ (p : Nat) (b : Bool), (x < 0 ∧ True ∧ True ∧ True ∧ True) ∨ (0 ≤ x ∧ fnd (fun o => decide (o.Id = x)) g.O = p ∧ sm[p]? = some b ∧ p < sm.length ∧ someAt sm (fnd (fun o => decide (o.Id = x)) g.O) = b) := by
          by_cases h0 : 0 ≤ x
          · obtain ⟨p, h1, h2⟩ := (hfnd (hM.root x (List.mem_of_getElem? hx))) h0
            exact ⟨p, sm[p]'(by omega), .inr ⟨h0, h1, List.getElem?_eq_getElem _, by omega, by rw [h1]; unfold someAt; simp [show p < sm.length by omega]⟩⟩
          · exact ⟨0, false, .inl ⟨by omega, trivial, trivial, trivial, trivial⟩⟩
        rcases hcase with ⟨hx0, hF, hb, hpl, hsm⟩ | ⟨hx0, hF, hb, hpl, hsm⟩
        all_goals (refine CW.drawn mixed 15 (by decide) (by kernel_rfl) (by kernel_rfl) (by kernel_rfl) ?_) -- r8
        all_goals (refine Seg.run htt 7 (by simp only [go_sem, reduceIte, reduceCtorEq, reduceEqDiff, reduceAdd, reduceLT, reduceLeDiff, reduceToNat, eGraph, hx, eI, hn, hF, hb, hpl, eB]; exact rfl) ?_)
        all_goals (first | refine Seg.guard 49 (by simp only [go_sem, reduceIte, reduceCtorEq, reduceEqDiff, reduceAdd, reduceLT, reduceLeDiff, reduceToNat, eGraph, hx, eI, hn, hF, hb, hpl, eB]; exact rfl) (fun g49 => ?_) (fun g49 => ?_) | skip)
        all_goals (first | (exfalso; simp at g49; omega) | skip)
        all_goals (refine Seg.run htt 7 (by simp only [go_sem, reduceIte, reduceCtorEq, reduceEqDiff, reduceAdd, reduceLT, reduceLeDiff, reduceToNat, eGraph, hx, eI, hn, hF, hb, hpl, eB]; exact rfl) ?_)
        all_goals (first | (refine Seg.skip ?_ ?_; next => (simp only [go_sem, reduceIte, reduceCtorEq, reduceEqDiff, reduceAdd, reduceLT, reduceLeDiff, reduceToNat]; done)) | (refine Seg.call (ref08_Find up g x) (by simp only [go_sem, reduceIte, reduceCtorEq, reduceEqDiff, reduceAdd, reduceLT, reduceLeDiff, reduceToNat, eGraph, hx, eI, hn, hF, hb, hpl, eB]) (by simp only [go_sem, reduceIte, reduceCtorEq, reduceEqDiff, reduceAdd, reduceLT, reduceLeDiff, reduceToNat, eGraph, hx, eI, hn, hF, hb, hpl, eB]; first | done | exact rfl) (by simp only [go_sem, reduceIte, reduceCtorEq, reduceEqDiff, reduceAdd, reduceLT, reduceLeDiff, reduceToNat, eGraph, hx, eI, hn, hF, hb, hpl, eB]) (by simp only [go_sem, reduceIte, reduceCtorEq, reduceEqDiff, reduceAdd, reduceLT, reduceLeDiff, reduceToNat, eGraph, hx, eI, hn, hF, hb, hpl, eB]) rfl ?_))
        all_goals (refine Seg.done ?_)
        all_goals (refine CWops.run htt 4 (by simp only [go_sem, reduceIte, reduceCtorEq, reduceEqDiff, reduceAdd, reduceLT, reduceLeDiff, reduceToNat, eGraph, hx, eI, hn, hF, hb, hpl, eB]; exact rfl) (by simp [go_sem, reduceIte, reduceCtorEq, reduceEqDiff, reduceAdd, reduceLT, reduceLeDiff, reduceToNat, eGraph, hx, eI, hn, hF, hb, hpl, eB]) ?_)
        all_goals (refine CWops.done ?_)
        all_goals (
          first | refine ⟨rfl, Sh.wk0 ?_⟩ | refine Sh.wk0 ?_
          first | (have hx9 : (decide (0 ≤ x)) = false := (by simp; omega); simp [Wk, go_sem, reduceIte, reduceCtorEq, reduceEqDiff, reduceAdd, reduceLT, reduceLeDiff, reduceToNat, eGraph, hx9]; done) | (rw [hsm]; simp_all [Wk, go_sem, reduceIte, reduceCtorEq, reduceEqDiff, reduceAdd, reduceLT, reduceLeDiff, reduceToNat, eGraph]; done))
      refine CW.cond (by simp only [go_sem, reduceIte, reduceCtorEq, reduceEqDiff, reduceAdd, reduceLT, reduceLeDiff, reduceToNat]; first | done | exact rfl) (fun ct61 => ?_) (fun ct61 => ?_)
      · refine CW.seq ?_
        refine CW.region (by kernel_rfl) (by kernel_rfl) ?_ -- r9
        refine CWops.run htt 1 (by simp only [go_sem, reduceIte, reduceCtorEq, reduceEqDiff, reduceAdd, reduceLT, reduceLeDiff, reduceToNat]; exact rfl) (by simp [go_sem, reduceIte, reduceCtorEq, reduceEqDiff, reduceAdd, reduceLT, reduceLeDiff, reduceToNat]) ?_
        refine CWops.done ?_
        refine CW.ret ?_
        refine retQ.ret (by simp only [f8, go_sem, reduceIte, reduceCtorEq, reduceEqDiff, reduceAdd, reduceLT, reduceLeDiff, reduceToNat]; exact rfl) (by simp only [go_sem, reduceIte, reduceCtorEq, reduceEqDiff, reduceAdd, reduceLT, reduceLeDiff, reduceToNat]; exact rfl) ?_ -- ret2
        refine ⟨_, ?_, rfl⟩
        first | (simp [leP]; done) | (simp_all [leP]; done)
      · have hp : 0 ≤ x → someAt sm (fnd (fun o => decide (o.Id = x)) g.O) = true := fun h => by simpa [h] using ct61
        refine CW.skip ?_
        refine CW.region (by kernel_rfl) (by kernel_rfl) ?_ -- r7
        refine CWops.run htt 3 (by simp only [go_sem, reduceIte, reduceCtorEq, reduceEqDiff, reduceAdd, reduceLT, reduceLeDiff, reduceToNat, wrap_succ (show n < MX by unfold MX; omega)]; exact rfl) (by simp [go_sem, reduceIte, reduceCtorEq, reduceEqDiff, reduceAdd, reduceLT, reduceLeDiff, reduceToNat, wrap_succ (show n < MX by unfold MX; omega)]) ?_
        refine CWops.done ?_
        refine ⟨n + 1, ?_, ?_, ?_⟩
        · refine Sh.wk0 ?_; simp [Wk, go_sem, reduceIte, reduceCtorEq, reduceEqDiff, reduceAdd, reduceLT, reduceLeDiff, reduceToNat, eGraph]
        · refine ⟨hn, fun j r hj hr h0 => ?_⟩
          by_cases e : j = n
          · subst e; rw [hx] at hr; cases hr; exact hp h0
          · exact g1 j r (by omega) hr h0
        · simp only; omega
    · have hn : n = g.Roots.length := by simp at ct40; omega
      refine CW.exit ?_
      refine CW.seq ?_
      refine CW.seq ?_
      refine CW.region (by kernel_rfl) (by kernel_rfl) ?_ -- r10
      refine CWops.run htt 1 (by simp only [go_sem, reduceIte, reduceCtorEq, reduceEqDiff, reduceAdd, reduceLT, reduceLeDiff, reduceToNat]; exact rfl) (by simp [go_sem, reduceIte, reduceCtorEq, reduceEqDiff, reduceAdd, reduceLT, reduceLeDiff, reduceToNat]) ?_
      refine CWops.done ?_
      refine CW.block ?_
      refine CW.loop (S := Nat) (fun i => ⟨1, [(1, .sl 1 (sm.map eB)), (2, .lv 0 [] 0), (5, .bool true), (8, .int .i64 i)], [(0, ⟨true, eGraph g⟩)]⟩) (fun i => i ≤ g.O.length ∧ ∀ (j : Nat), j < i → ∀ (q : Nat) (o : GObj) (t : GType) (f : GField) (v : GVal), g.O[j]? = some o → typeAt g.S o.T = some t → t.F[q]? = some f → o.F[q]? = some v → sm.getD j false = true → f.Kind = 5 → 0 ≤ v.R → someAt sm (fnd (fun o => decide (o.Id = v.R)) g.O) = true) (fun i => g.O.length - i) (0) ?_ ⟨Nat.zero_le _, fun j hj => by omega⟩ (fun i ⟨h2, g2⟩ => ?_)
      · refine Sh.wk0 ?_; simp [Wk, go_sem, reduceIte, reduceCtorEq, reduceEqDiff, reduceAdd, reduceLT, reduceLeDiff, reduceToNat, eGraph]
      refine CW.seq ?_
      refine CW.seq ?_
      refine CW.region (by kernel_rfl) (by kernel_rfl) ?_ -- r11
      refine CWops.run htt 5 (by simp only [go_sem, reduceIte, reduceCtorEq, reduceEqDiff, reduceAdd, reduceLT, reduceLeDiff, reduceToNat, eGraph]; exact rfl) (by simp [go_sem, reduceIte, reduceCtorEq, reduceEqDiff, reduceAdd, reduceLT, reduceLeDiff, reduceToNat, eGraph]) ?_
      refine CWops.done ?_
      refine CW.cond (by simp only [go_sem, reduceIte, reduceCtorEq, reduceEqDiff, reduceAdd, reduceLT, reduceLeDiff, reduceToNat]; first | done | exact rfl) (fun ct66 => ?_) (fun ct66 => ?_)
      · have hil : i < g.O.length := by simpa using ct66
        obtain ⟨o, ho⟩ : ∃ x, g.O[i]? = some x := ⟨g.O[i], List.getElem?_eq_getElem hil⟩
        have hil2 : i < sm.length := by omega
        obtain ⟨b0, hb0⟩ : ∃ x, sm[i]? = some x := ⟨sm[i], List.getElem?_eq_getElem hil2⟩
        obtain ⟨_, t, ht, hmo⟩ := hM.objT ho
        obtain ⟨ti, hti⟩ := Int.eq_ofNat_of_zero_le hmo.t0
        have hS : g.S[ti]? = some t := by have := hmo.at_; rw [hti] at this; simpa using this
        have htl := (List.getElem?_eq_some_iff.1 hS).1
        have hlen : o.F.length = t.F.length := hmo.len
        have ho5 := hM.small.2.2 o (List.mem_of_getElem? ho)
        refine CW.skip ?_
        refine CW.seq ?_
        refine CW.block ?_
        refine CW.seq ?_
        refine CW.region (by kernel_rfl) (by kernel_rfl) ?_ -- r13
        refine CWops.run htt 1 (by simp only [go_sem, reduceIte, reduceCtorEq, reduceEqDiff, reduceAdd, reduceLT, reduceLeDiff, reduceToNat]; exact rfl) (by simp [go_sem, reduceIte, reduceCtorEq, reduceEqDiff, reduceAdd, reduceLT, reduceLeDiff, reduceToNat]) ?_
        refine CWops.done ?_
        refine CW.block ?_
        refine CW.loop (S := Nat) (fun k => ⟨1, [(1, .sl 1 (sm.map eB)), (2, .lv 0 [] 0), (5, .bool true), (8, .int .i64 i), (9, .int .i64 k)], [(0, ⟨true, eGraph g⟩)]⟩) (fun k => k ≤ o.F.length ∧ ∀ (q : Nat) (f : GField) (v : GVal), q < k → t.F[q]? = some f → o.F[q]? = some v → b0 = true → f.Kind = 5 → 0 ≤ v.R → someAt sm (fnd (fun o => decide (o.Id = v.R)) g.O) = true) (fun k => o.F.length - k) (0) ?_ ⟨Nat.zero_le _, fun q f v hq => by omega⟩ (fun k ⟨h3, g3⟩ => ?_)
        · refine Sh.wk0 ?_; simp [Wk, go_sem, reduceIte, reduceCtorEq, reduceEqDiff, reduceAdd, reduceLT, reduceLeDiff, reduceToNat, eGraph]
        refine CW.seq ?_
        refine CW.seq ?_
        refine CW.region (by kernel_rfl) (by kernel_rfl) ?_ -- r14
        refine CWops.run htt 9 (by simp only [go_sem, reduceIte, reduceCtorEq, reduceEqDiff, reduceAdd, reduceLT, reduceLeDiff, reduceToNat, eGraph, hil, ho, eObj]; exact rfl) (by simp [go_sem, reduceIte, reduceCtorEq, reduceEqDiff, reduceAdd, reduceLT, reduceLeDiff, reduceToNat, eGraph, hil, ho, eObj]) ?_
        refine CWops.done ?_
        refine CW.cond (by simp only [go_sem, reduceIte, reduceCtorEq, reduceEqDiff, reduceAdd, reduceLT, reduceLeDiff, reduceToNat]; first | done | exact rfl) (fun ct77 => ?_) (fun ct77 => ?_)
        · have hkl : k < o.F.length := by simpa using ct77
          have hkt : k < t.F.length := by omega
          obtain ⟨v, hv⟩ : ∃ x, o.F[k]? = some x := ⟨o.F[k], List.getElem?_eq_getElem hkl⟩
          obtain ⟨f, hf⟩ : ∃ x, t.F[k]? = some x := ⟨t.F[k], List.getElem?_eq_getElem hkt⟩
          refine CW.skip ?_
          refine CW.seq ?_
          refine CW.block ?_
          refine CW.cut ⟨1, [(1, .sl 1 (sm.map eB)), (2, .lv 0 [] 0), (5, .bool true), (8, .int .i64 i), (9, .int .i64 k), (133, .bool (b0 && (decide (f.Kind = 5) && (decide (0 ≤ v.R) && !someAt sm (fnd (fun o => decide (o.Id = v.R)) g.O)))))], [(0, ⟨true, eGraph g⟩)]⟩ ?_ ?_
          · obtain ⟨p, b, hcase⟩ : ∃ (p : Nat) (b : Bool), (¬ (f.Kind = 5 ∧ 0 ≤ v.R) ∧ True ∧ True ∧ True ∧ True) ∨ ((f.Kind = 5 ∧ 0 ≤ v.R) ∧ fnd (fun o => decide (o.Id = v.R)) g.O = p ∧ sm[p]? = some b ∧ p < sm.length ∧ someAt sm (fnd (fun o => decide (o.Id = v.R)) g.O) = b) := by
              by_cases h0 : f.Kind = 5 ∧ 0 ≤ v.R
              · obtain ⟨p, h1, h2⟩ := hfnd (hmo.ref hf hv h0.1) h0.2
                exact ⟨p, sm[p]'(by omega), .inr ⟨h0, h1, List.getElem?_eq_getElem _, by omega, by rw [h1]; unfold someAt; simp [show p < sm.length by omega]⟩⟩
              · exact ⟨0, false, .inl ⟨h0, trivial, trivial, trivial, trivial⟩⟩
            rcases hcase with ⟨hx0, hF, hb, hpl, hsm⟩ | ⟨hx0, hF, hb, hpl, hsm⟩
            all_goals (refine CW.drawn mixed 50 (by decide) (by kernel_rfl) (by kernel_rfl) (by kernel_rfl) ?_) -- r16
            all_goals (refine Seg.run htt 5 (by simp only [go_sem, reduceIte, reduceCtorEq, reduceEqDiff, reduceAdd, reduceLT, reduceLeDiff, reduceToNat, eGraph, hil, ho, eObj, hb0, hil2, eB, eSchema, hS, htl, hti, eType, hf, hkt, eField, hv, hkl, eVal, hF, hb, hpl]; exact rfl) ?_)
            all_goals (first | refine Seg.guard 84 (by simp only [go_sem, reduceIte, reduceCtorEq, reduceEqDiff, reduceAdd, reduceLT, reduceLeDiff, reduceToNat, eGraph, hil, ho, eObj, hb0, hil2, eB, eSchema, hS, htl, hti, eType, hf, hkt, eField, hv, hkl, eVal, hF, hb, hpl]; exact rfl) (fun g84 => ?_) (fun g84 => ?_) | skip)
            all_goals (skip)
            all_goals (refine Seg.run htt 19 (by simp only [go_sem, reduceIte, reduceCtorEq, reduceEqDiff, reduceAdd, reduceLT, reduceLeDiff, reduceToNat, eGraph, hil, ho, eObj, hb0, hil2, eB, eSchema, hS, htl, hti, eType, hf, hkt, eField, hv, hkl, eVal, hF, hb, hpl]; exact rfl) ?_)
            all_goals (first | refine Seg.guard 103 (by simp only [go_sem, reduceIte, reduceCtorEq, reduceEqDiff, reduceAdd, reduceLT, reduceLeDiff, reduceToNat, eGraph, hil, ho, eObj, hb0, hil2, eB, eSchema, hS, htl, hti, eType, hf, hkt, eField, hv, hkl, eVal, hF, hb, hpl]; exact rfl) (fun g103 => ?_) (fun g103 => ?_) | skip)
            all_goals (first | (simp at g103; done) | skip)
            all_goals (refine Seg.run htt 13 (by simp only [go_sem, reduceIte, reduceCtorEq, reduceEqDiff, reduceAdd, reduceLT, reduceLeDiff, reduceToNat, eGraph, hil, ho, eObj, hb0, hil2, eB, eSchema, hS, htl, hti, eType, hf, hkt, eField, hv, hkl, eVal, hF, hb, hpl]; exact rfl) ?_)
            all_goals (first | refine Seg.guard 116 (by simp only [go_sem, reduceIte, reduceCtorEq, reduceEqDiff, reduceAdd, reduceLT, reduceLeDiff, reduceToNat, eGraph, hil, ho, eObj, hb0, hil2, eB, eSchema, hS, htl, hti, eType, hf, hkt, eField, hv, hkl, eVal, hF, hb, hpl]; exact rfl) (fun g116 => ?_) (fun g116 => ?_) | skip)
            all_goals (first | (exfalso; exact hx0 ⟨by simpa using g103, by simpa using g116⟩) | (simp at g116; done) | skip)
            all_goals (refine Seg.run htt 12 (by simp only [go_sem, reduceIte, reduceCtorEq, reduceEqDiff, reduceAdd, reduceLT, reduceLeDiff, reduceToNat, eGraph, hil, ho, eObj, hb0, hil2, eB, eSchema, hS, htl, hti, eType, hf, hkt, eField, hv, hkl, eVal, hF, hb, hpl]; exact rfl) ?_)
            all_goals (first | (refine Seg.skip ?_ ?_; next => (simp only [go_sem, reduceIte, reduceCtorEq, reduceEqDiff, reduceAdd, reduceLT, reduceLeDiff, reduceToNat]; done)) | (refine Seg.call (ref08_Find up g v.R) (by simp only [go_sem, reduceIte, reduceCtorEq, reduceEqDiff, reduceAdd, reduceLT, reduceLeDiff, reduceToNat, eGraph, hil, ho, eObj, hb0, hil2, eB, eSchema, hS, htl, hti, eType, hf, hkt, eField, hv, hkl, eVal, hF, hb, hpl]) (by simp only [go_sem, reduceIte, reduceCtorEq, reduceEqDiff, reduceAdd, reduceLT, reduceLeDiff, reduceToNat, eGraph, hil, ho, eObj, hb0, hil2, eB, eSchema, hS, htl, hti, eType, hf, hkt, eField, hv, hkl, eVal, hF, hb, hpl]; first | done | exact rfl) (by simp only [go_sem, reduceIte, reduceCtorEq, reduceEqDiff, reduceAdd, reduceLT, reduceLeDiff, reduceToNat, eGraph, hil, ho, eObj, hb0, hil2, eB, eSchema, hS, htl, hti, eType, hf, hkt, eField, hv, hkl, eVal, hF, hb, hpl]) (by simp only [go_sem, reduceIte, reduceCtorEq, reduceEqDiff, reduceAdd, reduceLT, reduceLeDiff, reduceToNat, eGraph, hil, ho, eObj, hb0, hil2, eB, eSchema, hS, htl, hti, eType, hf, hkt, eField, hv, hkl, eVal, hF, hb, hpl]) rfl ?_))
            all_goals (refine Seg.done ?_)
            all_goals (refine CWops.run htt 4 (by simp only [go_sem, reduceIte, reduceCtorEq, reduceEqDiff, reduceAdd, reduceLT, reduceLeDiff, reduceToNat, eGraph, hil, ho, eObj, hb0, hil2, eB, eSchema, hS, htl, hti, eType, hf, hkt, eField, hv, hkl, eVal, hF, hb, hpl]; exact rfl) (by simp [go_sem, reduceIte, reduceCtorEq, reduceEqDiff, reduceAdd, reduceLT, reduceLeDiff, reduceToNat, eGraph, hil, ho, eObj, hb0, hil2, eB, eSchema, hS, htl, hti, eType, hf, hkt, eField, hv, hkl, eVal, hF, hb, hpl]) ?_)
            all_goals (refine CWops.done ?_)
            all_goals (
              first | refine ⟨rfl, Sh.wk0 ?_⟩ | refine Sh.wk0 ?_
              first | (simp [Wk, go_sem, reduceIte, reduceCtorEq, reduceEqDiff, reduceAdd, reduceLT, reduceLeDiff, reduceToNat, eGraph, g84]; done) | (simp [Wk, go_sem, reduceIte, reduceCtorEq, reduceEqDiff, reduceAdd, reduceLT, reduceLeDiff, reduceToNat, eGraph, g84, g103]; done) | (simp [Wk, go_sem, reduceIte, reduceCtorEq, reduceEqDiff, reduceAdd, reduceLT, reduceLeDiff, reduceToNat, eGraph, g84, g103, g116]; done) | (rw [hsm]; simp [Wk, go_sem, reduceIte, reduceCtorEq, reduceEqDiff, reduceAdd, reduceLT, reduceLeDiff, reduceToNat, eGraph, g84, g103, g116]; done))
          refine CW.cond (by simp only [go_sem, reduceIte, reduceCtorEq, reduceEqDiff, reduceAdd, reduceLT, reduceLeDiff, reduceToNat]; first | done | exact rfl) (fun ct133 => ?_) (fun ct133 => ?_)
          · refine CW.seq ?_
            refine CW.region (by kernel_rfl) (by kernel_rfl) ?_ -- r17
            refine CWops.run htt 1 (by simp only [go_sem, reduceIte, reduceCtorEq, reduceEqDiff, reduceAdd, reduceLT, reduceLeDiff, reduceToNat]; exact rfl) (by simp [go_sem, reduceIte, reduceCtorEq, reduceEqDiff, reduceAdd, reduceLT, reduceLeDiff, reduceToNat]) ?_
            refine CWops.done ?_
            refine CW.ret ?_
            refine retQ.ret (by simp only [f8, go_sem, reduceIte, reduceCtorEq, reduceEqDiff, reduceAdd, reduceLT, reduceLeDiff, reduceToNat]; exact rfl) (by simp only [go_sem, reduceIte, reduceCtorEq, reduceEqDiff, reduceAdd, reduceLT, reduceLeDiff, reduceToNat]; exact rfl) ?_ -- ret3
            refine ⟨_, ?_, rfl⟩
            first | (simp [leP]; done) | (simp_all [leP]; done)
          · have hp : b0 = true → f.Kind = 5 → 0 ≤ v.R → someAt sm (fnd (fun o => decide (o.Id = v.R)) g.O) = true := fun e1 e2 e3 => by simpa [e1, e2, e3] using ct133
            refine CW.skip ?_
            refine CW.region (by kernel_rfl) (by kernel_rfl) ?_ -- r15
            refine CWops.run htt 3 (by simp only [go_sem, reduceIte, reduceCtorEq, reduceEqDiff, reduceAdd, reduceLT, reduceLeDiff, reduceToNat, wrap_succ (show k < MX by unfold MX; omega)]; exact rfl) (by simp [go_sem, reduceIte, reduceCtorEq, reduceEqDiff, reduceAdd, reduceLT, reduceLeDiff, reduceToNat, wrap_succ (show k < MX by unfold MX; omega)]) ?_
            refine CWops.done ?_
            refine ⟨k + 1, ?_, ?_, ?_⟩
            · refine Sh.wk0 ?_; simp [Wk, go_sem, reduceIte, reduceCtorEq, reduceEqDiff, reduceAdd, reduceLT, reduceLeDiff, reduceToNat, eGraph]
            · refine ⟨hkl, fun q f' v' hq e1 e2 e3 e4 e5 => ?_⟩
              by_cases e : q = k
              · subst e; rw [hf] at e1; cases e1; rw [hv] at e2; cases e2; exact hp e3 e4 e5
              · exact g3 q f' v' (by omega) e1 e2 e3 e4 e5
            · simp only; omega
        · have hk : k = o.F.length := by simp at ct77; omega
          refine CW.exit ?_
          refine CW.region (by kernel_rfl) (by kernel_rfl) ?_ -- r12
          refine CWops.run htt 3 (by simp only [go_sem, reduceIte, reduceCtorEq, reduceEqDiff, reduceAdd, reduceLT, reduceLeDiff, reduceToNat, wrap_succ (show i < MX by unfold MX; omega)]; exact rfl) (by simp [go_sem, reduceIte, reduceCtorEq, reduceEqDiff, reduceAdd, reduceLT, reduceLeDiff, reduceToNat, wrap_succ (show i < MX by unfold MX; omega)]) ?_
          refine CWops.done ?_
          refine ⟨i + 1, ?_, ?_, ?_⟩
          · refine Sh.wk0 ?_; simp [Wk, go_sem, reduceIte, reduceCtorEq, reduceEqDiff, reduceAdd, reduceLT, reduceLeDiff, reduceToNat, eGraph]
          · refine ⟨hil, fun j hj q o' t' f v e1 e2 e3 e4 e5 e6 e7 => ?_⟩
            by_cases e : j = i
            · subst e
              rw [ho] at e1; cases e1
              rw [ht] at e2; cases e2
              exact g3 q f v (by have := (List.getElem?_eq_some_iff.1 e4).1; omega) e3 e4 (by simpa [hb0] using e5) e6 e7
            · exact g2 j (by omega) q o' t' f v e1 e2 e3 e4 e5 e6 e7
          · simp only; omega
      · have hi : i = g.O.length := by simp at ct66; omega
        have hok : SomeOK g sm := ⟨fun j r h3 h4 => g1 j r (by have := (List.getElem?_eq_some_iff.1 h3).1; omega) h3 h4, fun j q o t f v e1 e2 e3 e4 e5 e6 e7 => g2 j (by have := (List.getElem?_eq_some_iff.1 e1).1; omega) q o t f v e1 e2 e3 e4 e5 e6 e7⟩
        have hl8 : (gReach g).length ≤ 8 := gReach_len hM
        refine CW.exit ?_
        refine CW.seq ?_
        refine CW.region (by kernel_rfl) (by kernel_rfl) ?_ -- r18
        refine CWops.run htt 1 (by simp only [go_sem, reduceIte, reduceCtorEq, reduceEqDiff, reduceAdd, reduceLT, reduceLeDiff, reduceToNat, eGraph]; exact rfl) (by simp [go_sem, reduceIte, reduceCtorEq, reduceEqDiff, reduceAdd, reduceLT, reduceLeDiff, reduceToNat, eGraph]) ?_
        refine CWops.callA (graph_Reach up g) (by simp only [go_sem, reduceIte, reduceCtorEq, reduceEqDiff, reduceAdd, reduceLT, reduceLeDiff, reduceToNat, eGraph]) (by simp only [go_sem, reduceIte, reduceCtorEq, reduceEqDiff, reduceAdd, reduceLT, reduceLeDiff, reduceToNat, eGraph]; first | done | exact rfl) (by simp only [go_sem, reduceIte, reduceCtorEq, reduceEqDiff, reduceAdd, reduceLT, reduceLeDiff, reduceToNat, eGraph]) (by simp only [go_sem, reduceIte, reduceCtorEq, reduceEqDiff, reduceAdd, reduceLT, reduceLeDiff, reduceToNat, eGraph]) (fun rt135 hrt135 => ?_)
        subst hrt135
        refine CWops.run htt 1 (by simp only [go_sem, reduceIte, reduceCtorEq, reduceEqDiff, reduceAdd, reduceLT, reduceLeDiff, reduceToNat, eGraph]; exact rfl) (by simp [go_sem, reduceIte, reduceCtorEq, reduceEqDiff, reduceAdd, reduceLT, reduceLeDiff, reduceToNat, eGraph]) ?_
        refine CWops.done ?_
        refine CW.seq ?_
        refine CW.seq ?_
        refine CW.region (by kernel_rfl) (by kernel_rfl) ?_ -- r19
        refine CWops.run htt 1 (by simp only [go_sem, reduceIte, reduceCtorEq, reduceEqDiff, reduceAdd, reduceLT, reduceLeDiff, reduceToNat]; exact rfl) (by simp [go_sem, reduceIte, reduceCtorEq, reduceEqDiff, reduceAdd, reduceLT, reduceLeDiff, reduceToNat]) ?_
        refine CWops.done ?_
        refine CW.block ?_
        refine CW.loop (S := Nat) (fun n => ⟨1, [(1, .sl 1 (sm.map eB)), (2, .lv 0 [] 0), (5, .bool true), (10, .sl 1 ((gReach g).map eI)), (11, .int .i64 n)], [(0, ⟨true, eGraph g⟩)]⟩) (fun n => n ≤ (gReach g).length) (fun n => (gReach g).length - n) (0) ?_ (Nat.zero_le _) (fun n h4 => ?_)
        · refine Sh.wk0 ?_; simp [Wk, go_sem, reduceIte, reduceCtorEq, reduceEqDiff, reduceAdd, reduceLT, reduceLeDiff, reduceToNat, eGraph]
        refine CW.seq ?_
        refine CW.seq ?_
        refine CW.region (by kernel_rfl) (by kernel_rfl) ?_ -- r20
        refine CWops.run htt 4 (by simp only [go_sem, reduceIte, reduceCtorEq, reduceEqDiff, reduceAdd, reduceLT, reduceLeDiff, reduceToNat]; exact rfl) (by simp [go_sem, reduceIte, reduceCtorEq, reduceEqDiff, reduceAdd, reduceLT, reduceLeDiff, reduceToNat]) ?_
        refine CWops.done ?_
        refine CW.cond (by simp only [go_sem, reduceIte, reduceCtorEq, reduceEqDiff, reduceAdd, reduceLT, reduceLeDiff, reduceToNat]; first | done | exact rfl) (fun ct139 => ?_) (fun ct139 => ?_)
        · have hn : n < (gReach g).length := by simpa using ct139
          obtain ⟨y, hy⟩ : ∃ x, (gReach g)[n]? = some x := ⟨(gReach g)[n], List.getElem?_eq_getElem hn⟩
          have hyr := List.mem_of_getElem? hy
          obtain ⟨p, oo, hpo, _, hF, _, _⟩ := hM.find (hM.order.ids y ((mem_gReach hM y).1 hyr))
          unfold gFind at hF
          have hpl : p < sm.length := by rw [hsl]; exact (List.getElem?_eq_some_iff.1 hpo).1
          have hb : sm[p]? = some true := by
            have := hok.least hm hyr
            rw [hF] at this
            unfold someAt at this
            simp [hpl] at this
            rw [List.getElem?_eq_getElem hpl, this]
          refine CW.skip ?_
          refine CW.seq ?_
          refine CW.block ?_
          refine CW.seq ?_
          refine CW.drawn mixed 5 (by decide) (by kernel_rfl) (by kernel_rfl) (by kernel_rfl) ?_ -- r22
          refine Seg.run htt 5 (by simp only [go_sem, reduceIte, reduceCtorEq, reduceEqDiff, reduceAdd, reduceLT, reduceLeDiff, reduceToNat, eGraph, hy, eI, hn]; exact rfl) ?_
          refine Seg.done ?_
          refine CWops.call (ref08_Find up g y) (by simp only [go_sem, reduceIte, reduceCtorEq, reduceEqDiff, reduceAdd, reduceLT, reduceLeDiff, reduceToNat, eGraph, hy, eI, hn]) (by simp only [go_sem, reduceIte, reduceCtorEq, reduceEqDiff, reduceAdd, reduceLT, reduceLeDiff, reduceToNat, eGraph, hy, eI, hn]; first | done | exact rfl) (by simp only [go_sem, reduceIte, reduceCtorEq, reduceEqDiff, reduceAdd, reduceLT, reduceLeDiff, reduceToNat, eGraph, hy, eI, hn]) (fun rt147 hrt147 => ?_)
          subst hrt147; refine ⟨rfl, ?_⟩
          refine CWops.run htt 1 (by simp only [go_sem, reduceIte, reduceCtorEq, reduceEqDiff, reduceAdd, reduceLT, reduceLeDiff, reduceToNat, eGraph, hy, eI, hn]; exact rfl) (by simp [go_sem, reduceIte, reduceCtorEq, reduceEqDiff, reduceAdd, reduceLT, reduceLeDiff, reduceToNat, eGraph, hy, eI, hn]) ?_
          refine CWops.done ?_
          refine CW.cut ⟨1, [(1, .sl 1 (sm.map eB)), (2, .lv 0 [] 0), (5, .bool true), (10, .sl 1 ((gReach g).map eI)), (11, .int .i64 n), (156, .bool false)], [(0, ⟨true, eGraph g⟩)]⟩ ?_ ?_
          · refine CW.region (by kernel_rfl) (by kernel_rfl) ?_ -- r23
            refine CWops.run htt 3 (by simp only [go_sem, reduceIte, reduceCtorEq, reduceEqDiff, reduceAdd, reduceLT, reduceLeDiff, reduceToNat, hF, hb, hpl, eB]; exact rfl) (by simp [go_sem, reduceIte, reduceCtorEq, reduceEqDiff, reduceAdd, reduceLT, reduceLeDiff, reduceToNat, hF, hb, hpl, eB]) ?_
            all_goals (first | refine CWops.guard 150 (by simp only [go_sem, reduceIte, reduceCtorEq, reduceEqDiff, reduceAdd, reduceLT, reduceLeDiff, reduceToNat, hF, hb, hpl, eB]; exact rfl) (fun g150 => ?_) (fun g150 => ?_) | skip)
            all_goals (first | (exfalso; simp at g150; done) | (exfalso; simp at g150; omega) | skip)
            all_goals (refine CWops.run htt 6 (by simp only [go_sem, reduceIte, reduceCtorEq, reduceEqDiff, reduceAdd, reduceLT, reduceLeDiff, reduceToNat, hF, hb, hpl, eB]; exact rfl) (by simp [go_sem, reduceIte, reduceCtorEq, reduceEqDiff, reduceAdd, reduceLT, reduceLeDiff, reduceToNat, hF, hb, hpl, eB]) ?_)
            all_goals (refine CWops.done ?_)
            all_goals (
              first | refine ⟨rfl, Sh.wk0 ?_⟩ | refine Sh.wk0 ?_
              first | (simp_all [Wk, go_sem, reduceIte, reduceCtorEq, reduceEqDiff, reduceAdd, reduceLT, reduceLeDiff, reduceToNat, eGraph]; done))
          refine CW.cond (by simp only [go_sem, reduceIte, reduceCtorEq, reduceEqDiff, reduceAdd, reduceLT, reduceLeDiff, reduceToNat]; first | done | exact rfl) (fun ct156 => ?_) (fun ct156 => ?_)
          · cases ct156 
          · refine CW.skip ?_
            refine CW.region (by kernel_rfl) (by kernel_rfl) ?_ -- r21
            refine CWops.run htt 3 (by simp only [go_sem, reduceIte, reduceCtorEq, reduceEqDiff, reduceAdd, reduceLT, reduceLeDiff, reduceToNat, wrap_succ (show n < MX by unfold MX; omega)]; exact rfl) (by simp [go_sem, reduceIte, reduceCtorEq, reduceEqDiff, reduceAdd, reduceLT, reduceLeDiff, reduceToNat, wrap_succ (show n < MX by unfold MX; omega)]) ?_
            refine CWops.done ?_
            refine ⟨n + 1, ?_, ?_, ?_⟩
            · refine Sh.wk0 ?_; simp [Wk, go_sem, reduceIte, reduceCtorEq, reduceEqDiff, reduceAdd, reduceLT, reduceLeDiff, reduceToNat, eGraph]
            · exact hn
            · simp only; omega
        · have hn : n = (gReach g).length := by simp at ct139; omega
          refine CW.exit ?_
          refine CW.seq ?_
          refine CW.region (by kernel_rfl) (by kernel_rfl) ?_ -- r25
          refine CWops.run htt 1 (by simp only [go_sem, reduceIte, reduceCtorEq, reduceEqDiff, reduceAdd, reduceLT, reduceLeDiff, reduceToNat]; exact rfl) (by simp [go_sem, reduceIte, reduceCtorEq, reduceEqDiff, reduceAdd, reduceLT, reduceLeDiff, reduceToNat]) ?_
          refine CWops.done ?_
          refine CW.ret ?_
          refine retQ.ret (by simp only [f8, go_sem, reduceIte, reduceCtorEq, reduceEqDiff, reduceAdd, reduceLT, reduceLeDiff, reduceToNat]; exact rfl) (by simp only [go_sem, reduceIte, reduceCtorEq, reduceEqDiff, reduceAdd, reduceLT, reduceLeDiff, reduceToNat]; exact rfl) ?_ -- ret4
          refine ⟨_, ?_, rfl⟩
          first | (simp [leP]; done) | (simp_all [leP]; done)
end Go.Ab
