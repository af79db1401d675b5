/-
  What functions of the program answer: each by its contract. No condition but those of each theorem.
-/
import Derived.Test.YtgnkdehaknhieaaProg
import Derived.WalkKit
import Derived.Below
import Derived.Scope
import Derived.Orders
import Derived.Still
import Derived.Deep.RegionLaw
import Derived.Lib.AppendZerosOnto
import Derived.Lib.Walk
import Derived.Lib.SliceRun
import Derived.Test.YtgnkdehaknhieaaFa
import Derived.Test.YtgnkdehaknhieaaFb
import Derived.Test.YtgnkdehaknhieaaFc
import Derived.Test.YtgnkdehaknhieaaFd
import Derived.Test.YtgnkdehaknhieaaFe
import Derived.Test.YtgnkdehaknhieaaFf
import Derived.Test.YtgnkdehaknhieaaDa
import Derived.Test.YtgnkdehaknhieaaVa
import Derived.Test.YtgnkdehaknhieaaVb
set_option linter.unusedVariables false
set_option linter.unusedSimpArgs false
namespace Go.Ab
open Go Go.Proofs.Try
open Nat (reduceEqDiff reduceAdd reduceLT reduceLeDiff reduceBEq reduceSub reduceMul)
open Int (reduceToNat)
set_option maxRecDepth 100000
set_option maxHeartbeats 3200000
set_option linter.unusedSimpArgs false
set_option linter.unusedVariables false
theorem concat_Step (up : Bool) (L : List (List GStep)) (hL : L.length ≤ 1000) (hb : L.flatten.length * 64 ≤ MX) : PCall prog up 101 [.sl 1 (L.map eSteps)] (· = .sl 5 (L.flatten.map eStep)) := by
  refine PCall.intro htt func101 (by kernel_rfl) rfl (Nat.le_of_ble_eq_true rfl) fun hl => ?_

  simp only [tmps0, Nat.reduceAdd]
  refine CW.seq ?_
  refine CW.region (by kernel_rfl) (by kernel_rfl) ?_ -- r0
  refine CWops.run htt 1 (by simp only [go_sem, reduceIte, reduceCtorEq, reduceEqDiff, reduceAdd, reduceLT, reduceLeDiff, reduceToNat]; exact rfl) (by simp [go_sem, reduceIte, reduceCtorEq, reduceEqDiff, reduceAdd, reduceLT, reduceLeDiff, reduceToNat]) ?_
  refine CWops.done ?_
  refine CW.seq ?_
  refine CW.region (by kernel_rfl) (by kernel_rfl) ?_ -- r1
  refine CWops.run htt 1 (by simp only [go_sem, reduceIte, reduceCtorEq, reduceEqDiff, reduceAdd, reduceLT, reduceLeDiff, reduceToNat]; exact rfl) (by simp [go_sem, reduceIte, reduceCtorEq, reduceEqDiff, reduceAdd, reduceLT, reduceLeDiff, reduceToNat]) ?_
  refine CWops.done ?_
  refine CW.seq ?_
  refine CW.seq ?_
  refine CW.region (by kernel_rfl) (by kernel_rfl) ?_ -- r2
  refine CWops.run htt 3 (by simp only [go_sem, reduceIte, reduceCtorEq, reduceEqDiff, reduceAdd, reduceLT, reduceLeDiff, reduceToNat]; exact rfl) (by simp [go_sem, reduceIte, reduceCtorEq, reduceEqDiff, reduceAdd, reduceLT, reduceLeDiff, reduceToNat]) ?_
  refine CWops.done ?_
  refine CW.block ?_
  refine CW.loop (S := Nat) (fun i => ⟨0, [(0, .sl 1 (L.map eSteps)), (3, .int .i64 (((L.take i).flatten).length : Int)), (9, .sl 1 (L.map eSteps)), (10, .int .i64 L.length), (11, .int .i64 i)], []⟩) (fun i => i ≤ L.length) (fun i => L.length - i) (0) ?_ (Nat.zero_le _) (fun i h1 => ?_)
  · refine Sh.wk0 ?_; simp [Wk, go_sem, reduceIte, reduceCtorEq, reduceEqDiff, reduceAdd, reduceLT, reduceLeDiff, reduceToNat]
  refine CW.seq ?_
  refine CW.region (by kernel_rfl) (by kernel_rfl) ?_ -- r3
  refine CWops.run htt 1 (by simp only [go_sem, reduceIte, reduceCtorEq, reduceEqDiff, reduceAdd, reduceLT, reduceLeDiff, reduceToNat]; exact rfl) (by simp [go_sem, reduceIte, reduceCtorEq, reduceEqDiff, reduceAdd, reduceLT, reduceLeDiff, reduceToNat]) ?_
  refine CWops.done ?_
  refine CW.seq ?_
  refine CW.cond (by simp only [go_sem, reduceIte, reduceCtorEq, reduceEqDiff, reduceAdd, reduceLT, reduceLeDiff, reduceToNat]; first | done | exact rfl) (fun ct12 => ?_) (fun ct12 => ?_)
  · have hi : i < L.length := by simpa using ct12
    obtain ⟨l, hl0⟩ : ∃ l, L[i]? = some l := ⟨L[i], List.getElem?_eq_getElem hi⟩
    have hs := flat_succ hl0
    have hle := flat_le (L := L) (i + 1)
    rw [hs, List.length_append] at hle
    have hw : IntKind.i64.wrap ((((L.take i).flatten).length : Int) + (l.length : Int)) = ((((L.take i).flatten).length + l.length : Nat) : Int) := wrap_add (by omega)
    refine CW.skip ?_
    refine CW.seq ?_
    refine CW.block ?_
    refine CW.seq ?_
    refine CW.region (by kernel_rfl) (by kernel_rfl) ?_ -- r4
    refine CWops.run htt 3 (by simp only [go_sem, reduceIte, reduceCtorEq, reduceEqDiff, reduceAdd, reduceLT, reduceLeDiff, reduceToNat, hi, hl0, eSteps]; exact rfl) (by simp [go_sem, reduceIte, reduceCtorEq, reduceEqDiff, reduceAdd, reduceLT, reduceLeDiff, reduceToNat, hi, hl0, eSteps]) ?_
    refine CWops.done ?_
    refine CW.seq ?_
    refine CW.region (by kernel_rfl) (by kernel_rfl) ?_ -- r5
    refine CWops.run htt 5 (by simp only [go_sem, reduceIte, reduceCtorEq, reduceEqDiff, reduceAdd, reduceLT, reduceLeDiff, reduceToNat, hw]; exact rfl) (by simp [go_sem, reduceIte, reduceCtorEq, reduceEqDiff, reduceAdd, reduceLT, reduceLeDiff, reduceToNat, hw]) ?_
    refine CWops.done ?_
    refine CW.seq ?_
    refine CW.region (by kernel_rfl) (by kernel_rfl) ?_ -- r6
    refine CWops.run htt 2 (by simp only [go_sem, reduceIte, reduceCtorEq, reduceEqDiff, reduceAdd, reduceLT, reduceLeDiff, reduceToNat]; exact rfl) (by simp [go_sem, reduceIte, reduceCtorEq, reduceEqDiff, reduceAdd, reduceLT, reduceLeDiff, reduceToNat]) ?_
    refine CWops.done ?_
    refine CW.cond (by simp only [go_sem, reduceIte, reduceCtorEq, reduceEqDiff, reduceAdd, reduceLT, reduceLeDiff, reduceToNat]; first | done | exact rfl) (fun ct20 => ?_) (fun ct20 => ?_)
    · exfalso; revert ct20; simp <;> omega 
    · refine CW.skip ?_
      refine CW.region (by kernel_rfl) (by kernel_rfl) ?_ -- r8
      refine CWops.run htt 2 (by simp only [go_sem, reduceIte, reduceCtorEq, reduceEqDiff, reduceAdd, reduceLT, reduceLeDiff, reduceToNat, wrap_succ (show i < MX by unfold MX; omega)]; exact rfl) (by simp [go_sem, reduceIte, reduceCtorEq, reduceEqDiff, reduceAdd, reduceLT, reduceLeDiff, reduceToNat, wrap_succ (show i < MX by unfold MX; omega)]) ?_
      refine CWops.done ?_
      refine ⟨i + 1, ?_, ?_, ?_⟩
      · refine Sh.wk0 ?_
        dsimp only
        rw [hs]; simp [Wk, go_sem, reduceIte, reduceCtorEq, reduceEqDiff, reduceAdd, reduceLT, reduceLeDiff, reduceToNat]
      · exact hi
      · simp only; omega
  · have hi : i = L.length := by simp at ct12; omega
    rw [hi, List.take_length]
    refine CW.exit ?_
    refine CW.seq ?_
    refine CW.region (by kernel_rfl) (by kernel_rfl) ?_ -- r9
    refine CWops.run htt 1 (by simp only [go_sem, reduceIte, reduceCtorEq, reduceEqDiff, reduceAdd, reduceLT, reduceLeDiff, reduceToNat]; exact rfl) (by simp [go_sem, reduceIte, reduceCtorEq, reduceEqDiff, reduceAdd, reduceLT, reduceLeDiff, reduceToNat]) ?_
    refine CWops.callG [] rfl (grow_Step up L.flatten.length (by unfold MX at hb; omega)) (by simp only [go_sem, reduceIte, reduceCtorEq, reduceEqDiff, reduceAdd, reduceLT, reduceLeDiff, reduceToNat]) (by simp only [go_sem, reduceIte, reduceCtorEq, reduceEqDiff, reduceAdd, reduceLT, reduceLeDiff, reduceToNat]; first | done | exact rfl) (by decide) (by simp [go_sem, reduceIte, reduceCtorEq, reduceEqDiff, reduceAdd, reduceLT, reduceLeDiff, reduceToNat, mName, memB]) (by simp [go_sem, reduceIte, reduceCtorEq, reduceEqDiff, reduceAdd, reduceLT, reduceLeDiff, reduceToNat, mName]) (by simp [go_sem, reduceIte, reduceCtorEq, reduceEqDiff, reduceAdd, reduceLT, reduceLeDiff, reduceToNat]) (by simp [go_sem, reduceIte, reduceCtorEq, reduceEqDiff, reduceAdd, reduceLT, reduceLeDiff, reduceToNat]) (by simp [go_sem, reduceIte, reduceCtorEq, reduceEqDiff, reduceAdd, reduceLT, reduceLeDiff, reduceToNat, mName, eGraph]) (fun r σ' hσ => ?_)
    obtain ⟨σn, σt, σs⟩ := σ'
    simp only at hσ
    obtain ⟨rfl, rfl, rfl⟩ := hσ
    simp only [aftS, renS, delAll, memB, mName, List.getD_nil, killH, kref, ren, Nat.beq_eq, go_sem, reduceIte, reduceCtorEq, reduceEqDiff, reduceAdd, reduceLT, reduceLeDiff, reduceToNat]
    refine CWops.run htt 1 (by simp only [go_sem, reduceIte, reduceCtorEq, reduceEqDiff, reduceAdd, reduceLT, reduceLeDiff, reduceToNat]; exact rfl) (by simp [go_sem, reduceIte, reduceCtorEq, reduceEqDiff, reduceAdd, reduceLT, reduceLeDiff, reduceToNat]) ?_
    refine CWops.done ?_
    refine CW.seq ?_
    refine CW.seq ?_
    refine CW.region (by kernel_rfl) (by kernel_rfl) ?_ -- r10
    refine CWops.run htt 3 (by simp only [go_sem, reduceIte, reduceCtorEq, reduceEqDiff, reduceAdd, reduceLT, reduceLeDiff, reduceToNat]; exact rfl) (by simp [go_sem, reduceIte, reduceCtorEq, reduceEqDiff, reduceAdd, reduceLT, reduceLeDiff, reduceToNat]) ?_
    refine CWops.done ?_
    refine CW.block ?_
    refine CW.loop (S := Nat) (fun i => ⟨1, [(0, .sl 1 (L.map eSteps)), (6, .ref 0 [] 0), (25, .sl 1 (L.map eSteps)), (26, .int .i64 L.length), (27, .int .i64 i)], [(0, ⟨false, [.own 5 (((L.take i).flatten).map eStep)]⟩)]⟩) (fun i => i ≤ L.length) (fun i => L.length - i) (0) ?_ (Nat.zero_le _) (fun i h2 => ?_)
    · refine Sh.wk0 ?_; simp [Wk, go_sem, reduceIte, reduceCtorEq, reduceEqDiff, reduceAdd, reduceLT, reduceLeDiff, reduceToNat]
    refine CW.seq ?_
    refine CW.region (by kernel_rfl) (by kernel_rfl) ?_ -- r11
    refine CWops.run htt 1 (by simp only [go_sem, reduceIte, reduceCtorEq, reduceEqDiff, reduceAdd, reduceLT, reduceLeDiff, reduceToNat]; exact rfl) (by simp [go_sem, reduceIte, reduceCtorEq, reduceEqDiff, reduceAdd, reduceLT, reduceLeDiff, reduceToNat]) ?_
    refine CWops.done ?_
    refine CW.seq ?_
    refine CW.cond (by simp only [go_sem, reduceIte, reduceCtorEq, reduceEqDiff, reduceAdd, reduceLT, reduceLeDiff, reduceToNat]; first | done | exact rfl) (fun ct28 => ?_) (fun ct28 => ?_)
    · have hi : i < L.length := by simpa using ct28
      obtain ⟨l, hl0⟩ : ∃ l, L[i]? = some l := ⟨L[i], List.getElem?_eq_getElem hi⟩
      have hs := flat_succ hl0
      have hle := flat_le (L := L) (i + 1)
      rw [hs, List.length_append] at hle
      refine CW.skip ?_
      refine CW.seq ?_
      refine CW.block ?_
      refine CW.seq ?_
      refine CW.region (by kernel_rfl) (by kernel_rfl) ?_ -- r12
      refine CWops.run htt 3 (by simp only [go_sem, reduceIte, reduceCtorEq, reduceEqDiff, reduceAdd, reduceLT, reduceLeDiff, reduceToNat, hi, hl0, eSteps]; exact rfl) (by simp [go_sem, reduceIte, reduceCtorEq, reduceEqDiff, reduceAdd, reduceLT, reduceLeDiff, reduceToNat, hi, hl0, eSteps]) ?_
      refine CWops.done ?_
      refine CW.region (by kernel_rfl) (by kernel_rfl) ?_ -- r13
      refine CWops.run htt 4 (by simp only [go_sem, reduceIte, reduceCtorEq, reduceEqDiff, reduceAdd, reduceLT, reduceLeDiff, reduceToNat]; exact rfl) (by refine ⟨?_, ?_, ?_⟩ <;> first | (simp [eStep, AV.cell]; done) | (simp only [List.length_map]; omega) | (simp at hle ⊢; simp at hb; omega)) ?_
      refine CWops.done ?_
      refine CW.region (by kernel_rfl) (by kernel_rfl) ?_ -- r14
      refine CWops.run htt 2 (by simp only [go_sem, reduceIte, reduceCtorEq, reduceEqDiff, reduceAdd, reduceLT, reduceLeDiff, reduceToNat, wrap_succ (show i < MX by unfold MX; omega)]; exact rfl) (by simp [go_sem, reduceIte, reduceCtorEq, reduceEqDiff, reduceAdd, reduceLT, reduceLeDiff, reduceToNat, wrap_succ (show i < MX by unfold MX; omega)]) ?_
      refine CWops.done ?_
      refine ⟨i + 1, ?_, ?_, ?_⟩
      · refine Sh.wk (fun x => x + 1) ?_
        dsimp only
        rw [hs]; simp [Wk, go_sem, reduceIte, reduceCtorEq, reduceEqDiff, reduceAdd, reduceLT, reduceLeDiff, reduceToNat]
      · exact hi
      · simp only; omega
    · have hi : i = L.length := by simp at ct28; omega
      rw [hi, List.take_length]
      refine CW.exit ?_
      refine CW.seq ?_
      refine CW.region (by kernel_rfl) (by kernel_rfl) ?_ -- r15
      refine CWops.run htt 2 (by simp only [go_sem, reduceIte, reduceCtorEq, reduceEqDiff, reduceAdd, reduceLT, reduceLeDiff, reduceToNat]; exact rfl) (by simp [go_sem, reduceIte, reduceCtorEq, reduceEqDiff, reduceAdd, reduceLT, reduceLeDiff, reduceToNat]) ?_
      refine CWops.done ?_
      refine CW.ret ?_
      refine retQ.ret (by simp only [f101, go_sem, reduceIte, reduceCtorEq, reduceEqDiff, reduceAdd, reduceLT, reduceLeDiff, reduceToNat]; exact rfl) (by simp only [go_sem, reduceIte, reduceCtorEq, reduceEqDiff, reduceAdd, reduceLT, reduceLeDiff, reduceToNat]; exact rfl) ?_ -- ret1
      refine ⟨_, ?_, rfl⟩
      simp [leP, frz_Step]
end Go.Ab
namespace Go.Ab
open Go Go.Proofs.Try
open Nat (reduceEqDiff reduceAdd reduceLT reduceLeDiff reduceBEq reduceSub reduceMul)
open Int (reduceToNat)
set_option maxRecDepth 100000
set_option maxHeartbeats 3200000
set_option linter.unusedSimpArgs false
set_option linter.unusedVariables false
@[go_sem] theorem tt_129 : tiOf prog 129 = some ⟨.func, 1, 8, [.nilfunc], false⟩ := by kernel_rfl
theorem between_step (up : Bool) (k : Int) (f : GField) (a : GType) : PCall prog up 99 [.int .i64 k, .agg (eField f), .fp (eType a)] (· = .agg (eStep ⟨k, a.Name, f⟩)) := by
  refine PCall.intro htt func99 (by kernel_rfl) rfl (Nat.le_of_ble_eq_true rfl) fun hl => ?_

  simp only [tmps0, Nat.reduceAdd]
  refine CW.seq ?_
  refine CW.region (by kernel_rfl) (by kernel_rfl) ?_ -- r0
  refine CWops.run htt 2 (by simp only [go_sem, reduceIte, reduceCtorEq, reduceEqDiff, reduceAdd, reduceLT, reduceLeDiff, reduceToNat, reduceMul, eField]; exact rfl) (by simp [go_sem, reduceIte, reduceCtorEq, reduceEqDiff, reduceAdd, reduceLT, reduceLeDiff, reduceToNat, reduceMul, eField]) ?_
  refine CWops.done ?_
  refine CW.seq ?_
  refine CW.region (by kernel_rfl) (by kernel_rfl) ?_ -- r1
  refine CWops.run htt 6 (by simp only [go_sem, reduceIte, reduceCtorEq, reduceEqDiff, reduceAdd, reduceLT, reduceLeDiff, reduceToNat, reduceMul, eField, eType]; exact rfl) (by simp [go_sem, reduceIte, reduceCtorEq, reduceEqDiff, reduceAdd, reduceLT, reduceLeDiff, reduceToNat, reduceMul, eField, eType]) ?_
  refine CWops.done ?_
  refine CW.ret ?_
  refine retQ.ret (by simp only [f99, go_sem, reduceIte, reduceCtorEq, reduceEqDiff, reduceAdd, reduceLT, reduceLeDiff, reduceToNat, reduceMul]; exact rfl) (by simp only [go_sem, reduceIte, reduceCtorEq, reduceEqDiff, reduceAdd, reduceLT, reduceLeDiff, reduceToNat, reduceMul]; exact rfl) ?_ -- ret1
  refine ⟨_, ?_, rfl⟩
  simp [leP, leL, eStep]
theorem grade_between (up : Bool) (a b : GType) (ha : a.F.length ≤ 5) (hb5 : b.F.length ≤ 5) : PCall prog up 58 [.agg (eType a), .agg (eType b)] (· = .tup [.sl 5 ((betw a b).1.map eStep), .bool (betw a b).2]) := by
  refine PCall.intro htt func58 (by kernel_rfl) rfl (Nat.le_of_ble_eq_true rfl) fun hl => ?_

  simp only [tmps0, Nat.reduceAdd]
  refine CW.seq ?_
  refine CW.region (by kernel_rfl) (by kernel_rfl) ?_ -- r0
  refine CWops.run htt 4 (by simp only [go_sem, reduceIte, reduceCtorEq, reduceEqDiff, reduceAdd, reduceLT, reduceLeDiff, reduceToNat, reduceMul, eType]; exact rfl) (by simp [go_sem, reduceIte, reduceCtorEq, reduceEqDiff, reduceAdd, reduceLT, reduceLeDiff, reduceToNat, reduceMul, eType]) ?_
  refine CWops.done ?_
  refine CW.seq ?_
  refine CW.region (by kernel_rfl) (by kernel_rfl) ?_ -- r1
  refine CWops.run htt 3 (by simp only [go_sem, reduceIte, reduceCtorEq, reduceEqDiff, reduceAdd, reduceLT, reduceLeDiff, reduceToNat, reduceMul, eType]; exact rfl) (by simp [go_sem, reduceIte, reduceCtorEq, reduceEqDiff, reduceAdd, reduceLT, reduceLeDiff, reduceToNat, reduceMul, eType]) ?_
  refine CWops.done ?_
  refine CW.seq ?_
  refine CW.region (by kernel_rfl) (by kernel_rfl) ?_ -- r2
  refine CWops.run htt 2 (by simp only [go_sem, reduceIte, reduceCtorEq, reduceEqDiff, reduceAdd, reduceLT, reduceLeDiff, reduceToNat, reduceMul, eType]; exact rfl) (by simp [go_sem, reduceIte, reduceCtorEq, reduceEqDiff, reduceAdd, reduceLT, reduceLeDiff, reduceToNat, reduceMul, eType]) ?_
  refine CWops.done ?_
  refine CW.seq ?_
  refine CW.sh (Sh.frzB 0 rfl rfl rfl) ?_
  simp only [go_sem, reduceIte, reduceCtorEq, reduceEqDiff, reduceAdd, reduceLT, reduceLeDiff, reduceToNat, reduceMul, mapT, mapS, frzF, List.map_cons, List.map_nil, delS]
  refine CW.region (by kernel_rfl) (by kernel_rfl) ?_ -- r3
  refine CWops.run htt 1 (by simp only [go_sem, reduceIte, reduceCtorEq, reduceEqDiff, reduceAdd, reduceLT, reduceLeDiff, reduceToNat, reduceMul]; exact rfl) (by simp [go_sem, reduceIte, reduceCtorEq, reduceEqDiff, reduceAdd, reduceLT, reduceLeDiff, reduceToNat, reduceMul]) ?_
  refine CWops.done ?_
  refine CW.seq ?_
  refine CW.seq ?_
  refine CW.region (by kernel_rfl) (by kernel_rfl) ?_ -- r4
  refine CWops.run htt 4 (by simp only [go_sem, reduceIte, reduceCtorEq, reduceEqDiff, reduceAdd, reduceLT, reduceLeDiff, reduceToNat, reduceMul, eType]; exact rfl) (by simp [go_sem, reduceIte, reduceCtorEq, reduceEqDiff, reduceAdd, reduceLT, reduceLeDiff, reduceToNat, reduceMul, eType]) ?_
  refine CWops.done ?_
  refine CW.block ?_
  refine CW.loop (S := Nat × Nat × List GStep × List GStep) (fun p => ⟨4, [(3, .lv 1 [] 0), (9, .func (.func 99) [] [.fp (eType a)]), (6, .ref 2 [] 0), (7, .ref 3 [] 0), (8, .nilsl), (10, .int .i64 p.2.1), (18, .sl 3 (a.F.map eField)), (19, .int .i64 a.F.length), (20, .int .i64 p.1)], [(1, ⟨true, eType b⟩), (2, ⟨false, [.own 5 (p.2.2.1.map eStep)]⟩), (3, ⟨false, [.own 5 (p.2.2.2.map eStep)]⟩)]⟩) (fun p => BI a b p.1 p.2.1 p.2.2.1 p.2.2.2) (fun p => a.F.length - p.1) ((0, 0, [], [])) ?_ (BI.start a b) (fun ⟨i, kept, d, w⟩ hB => ?_)
  · refine Sh.trans (Sh.nilRoot 6 5 (by simp only [go_sem, reduceIte, reduceCtorEq, reduceEqDiff, reduceAdd, reduceLT, reduceLeDiff, reduceToNat, reduceMul]) rfl) (Sh.trans (Sh.nilRoot 7 5 (by simp only [go_sem, reduceIte, reduceCtorEq, reduceEqDiff, reduceAdd, reduceLT, reduceLeDiff, reduceToNat, reduceMul]) rfl) (Sh.wk0 ?_)); simp [Wk, go_sem, reduceIte, reduceCtorEq, reduceEqDiff, reduceAdd, reduceLT, reduceLeDiff, reduceToNat, reduceMul, eType, ex_func, SubL, Sub]
  simp only at hB
  refine CW.seq ?_
  refine CW.region (by kernel_rfl) (by kernel_rfl) ?_ -- r5
  refine CWops.run htt 1 (by simp only [go_sem, reduceIte, reduceCtorEq, reduceEqDiff, reduceAdd, reduceLT, reduceLeDiff, reduceToNat, reduceMul]; exact rfl) (by simp [go_sem, reduceIte, reduceCtorEq, reduceEqDiff, reduceAdd, reduceLT, reduceLeDiff, reduceToNat, reduceMul]) ?_
  refine CWops.done ?_
  refine CW.seq ?_
  refine CW.cond (by simp only [go_sem, reduceIte, reduceCtorEq, reduceEqDiff, reduceAdd, reduceLT, reduceLeDiff, reduceToNat, reduceMul]; first | done | exact rfl) (fun ct21 => ?_) (fun ct21 => ?_)
  · have hi : i < a.F.length := by simpa using ct21
    obtain ⟨f, hf⟩ : ∃ x, a.F[i]? = some x := ⟨a.F[i], List.getElem?_eq_getElem hi⟩
    have hld := hB.ld
    have hlw := hB.lw
    have hlk := hB.lk
    refine CW.skip ?_
    refine CW.seq ?_
    refine CW.block ?_
    refine CW.seq ?_
    refine CW.region (by kernel_rfl) (by kernel_rfl) ?_ -- r6
    refine CWops.run htt 4 (by simp only [go_sem, reduceIte, reduceCtorEq, reduceEqDiff, reduceAdd, reduceLT, reduceLeDiff, reduceToNat, reduceMul, hi, hf, eField]; exact rfl) (by simp [go_sem, reduceIte, reduceCtorEq, reduceEqDiff, reduceAdd, reduceLT, reduceLeDiff, reduceToNat, reduceMul, hi, hf, eField]) ?_
    refine CWops.done ?_
    refine CW.seq ?_
    refine CW.region (by kernel_rfl) (by kernel_rfl) ?_ -- r7
    refine CWops.run htt 3 (by simp only [go_sem, reduceIte, reduceCtorEq, reduceEqDiff, reduceAdd, reduceLT, reduceLeDiff, reduceToNat, reduceMul, eType, eField]; exact rfl) (by simp [go_sem, reduceIte, reduceCtorEq, reduceEqDiff, reduceAdd, reduceLT, reduceLeDiff, reduceToNat, reduceMul, eType, eField]) ?_
    refine CWops.call (schema_Field up b f.Name) (by simp only [go_sem, reduceIte, reduceCtorEq, reduceEqDiff, reduceAdd, reduceLT, reduceLeDiff, reduceToNat, reduceMul, eType, eField]) (by simp only [go_sem, reduceIte, reduceCtorEq, reduceEqDiff, reduceAdd, reduceLT, reduceLeDiff, reduceToNat, reduceMul, eType, eField]; first | done | exact rfl) (by simp only [go_sem, reduceIte, reduceCtorEq, reduceEqDiff, reduceAdd, reduceLT, reduceLeDiff, reduceToNat, reduceMul, eType, eField]) (fun rt27 hrt27 => ?_)
    subst hrt27; refine ⟨rfl, ?_⟩
    refine CWops.run htt 1 (by simp only [go_sem, reduceIte, reduceCtorEq, reduceEqDiff, reduceAdd, reduceLT, reduceLeDiff, reduceToNat, reduceMul, eType, eField]; exact rfl) (by simp [go_sem, reduceIte, reduceCtorEq, reduceEqDiff, reduceAdd, reduceLT, reduceLeDiff, reduceToNat, reduceMul, eType, eField]) ?_
    refine CWops.done ?_
    refine CW.seq ?_
    refine CW.block ?_
    refine CW.seq ?_
    refine CW.region (by kernel_rfl) (by kernel_rfl) ?_ -- r8
    refine CWops.run htt 3 (by simp only [go_sem, reduceIte, reduceCtorEq, reduceEqDiff, reduceAdd, reduceLT, reduceLeDiff, reduceToNat, reduceMul]; exact rfl) (by simp [go_sem, reduceIte, reduceCtorEq, reduceEqDiff, reduceAdd, reduceLT, reduceLeDiff, reduceToNat, reduceMul]) ?_
    refine CWops.done ?_
    refine CW.cond (by simp only [go_sem, reduceIte, reduceCtorEq, reduceEqDiff, reduceAdd, reduceLT, reduceLeDiff, reduceToNat, reduceMul]; first | done | exact rfl) (fun ct28 => ?_) (fun ct28 => ?_)
    · have hn : b.F.findIdx? (fun g => decide (g.Name = f.Name)) = none := by
        have h0 : fnd (fun o : GField => decide (o.Name = f.Name)) b.F = -1 := by simpa using ct28
        rcases find_cases (fun o : GField => decide (o.Name = f.Name)) b.F with ⟨_, _, h⟩ | ⟨k, g, h1, _⟩
        · exact h
        · omega
      obtain ⟨p', hp'⟩ : ∃ p' : Nat × Nat × List GStep × List GStep, p' = (i + 1, kept, d ++ [⟨1, a.Name, f⟩], w) := ⟨_, rfl⟩
      refine CW.seq ?_
      refine CW.region (by kernel_rfl) (by kernel_rfl) ?_ -- r9
      refine CWops.run htt 3 (by simp only [go_sem, reduceIte, reduceCtorEq, reduceEqDiff, reduceAdd, reduceLT, reduceLeDiff, reduceToNat, reduceMul, eField, eType, eStep, List.replicate]; exact rfl) (by simp [AV.cell, AV.tree, eStep, MX] <;> omega) ?_
      refine CWops.callA (between_step up 1 f a) (by simp only [go_sem, reduceIte, reduceCtorEq, reduceEqDiff, reduceAdd, reduceLT, reduceLeDiff, reduceToNat, reduceMul, eField, eType, eStep, List.replicate]) (by simp only [go_sem, reduceIte, reduceCtorEq, reduceEqDiff, reduceAdd, reduceLT, reduceLeDiff, reduceToNat, reduceMul, eField, eType, eStep, List.replicate]; first | done | exact rfl) (by simp only [go_sem, reduceIte, reduceCtorEq, reduceEqDiff, reduceAdd, reduceLT, reduceLeDiff, reduceToNat, reduceMul, eField, eType, eStep, List.replicate]) (by simp only [go_sem, reduceIte, reduceCtorEq, reduceEqDiff, reduceAdd, reduceLT, reduceLeDiff, reduceToNat, reduceMul, eField, eType, eStep, List.replicate]) (fun rt34 hrt34 => ?_)
      subst hrt34
      refine CWops.run htt 3 (by simp only [go_sem, reduceIte, reduceCtorEq, reduceEqDiff, reduceAdd, reduceLT, reduceLeDiff, reduceToNat, reduceMul, eField, eType, eStep, List.replicate]; exact rfl) (by simp [AV.cell, AV.tree, eStep, MX] <;> omega) ?_
      refine CWops.done ?_
      refine CW.exit ?_
      refine CW.region (by kernel_rfl) (by kernel_rfl) ?_ -- r17
      refine CWops.run htt 2 (by simp only [go_sem, reduceIte, reduceCtorEq, reduceEqDiff, reduceAdd, reduceLT, reduceLeDiff, reduceToNat, reduceMul, wrap_succ (show i < MX by unfold MX; omega)]; exact rfl) (by simp [go_sem, reduceIte, reduceCtorEq, reduceEqDiff, reduceAdd, reduceLT, reduceLeDiff, reduceToNat, reduceMul, wrap_succ (show i < MX by unfold MX; omega)]) ?_
      refine CWops.done ?_
      refine ⟨p', ?_, ?_, ?_⟩
      · subst hp'; first | (refine Sh.wk (fun x => if x = 2 then 6 else x) ?_; simp [Wk, go_sem, reduceIte, reduceCtorEq, reduceEqDiff, reduceAdd, reduceLT, reduceLeDiff, reduceToNat, reduceMul, eType, eStep, ex_func, SubL, Sub]; done) | (refine Sh.wk (fun x => if x = 3 then 6 else x) ?_; simp [Wk, go_sem, reduceIte, reduceCtorEq, reduceEqDiff, reduceAdd, reduceLT, reduceLeDiff, reduceToNat, reduceMul, eType, eStep, ex_func, SubL, Sub]; done) | (refine Sh.wk0 ?_; simp [Wk, go_sem, reduceIte, reduceCtorEq, reduceEqDiff, reduceAdd, reduceLT, reduceLeDiff, reduceToNat, reduceMul, eType, eStep, ex_func, SubL, Sub]; done)
      · subst hp'; first | exact hB.drop hf hn | exact hB.wide hf hn hg hw | exact hB.same hf hn hg hw
      · subst hp'; simp only; omega
    · obtain ⟨k, g, hk1, hg, hn⟩ : ∃ (k : Nat) (g : GField), fnd (fun o : GField => decide (o.Name = f.Name)) b.F = k ∧ b.F[k]? = some g ∧ b.F.findIdx? (fun g => decide (g.Name = f.Name)) = some k := by
        have h0 : ¬ fnd (fun o : GField => decide (o.Name = f.Name)) b.F = -1 := by simpa using ct28
        rcases find_cases (fun o : GField => decide (o.Name = f.Name)) b.F with ⟨h, _, _⟩ | ⟨k, g, h1, h2, _, h4, _⟩
        · exact absurd h h0
        · exact ⟨k, g, h1, h2, h4⟩
      simp only [hk1]
      refine CW.seq ?_
      refine CW.region (by kernel_rfl) (by kernel_rfl) ?_ -- r10
      refine CWops.run htt 4 (by simp only [go_sem, reduceIte, reduceCtorEq, reduceEqDiff, reduceAdd, reduceLT, reduceLeDiff, reduceToNat, reduceMul]; exact rfl) (by simp [go_sem, reduceIte, reduceCtorEq, reduceEqDiff, reduceAdd, reduceLT, reduceLeDiff, reduceToNat, reduceMul]) ?_
      refine CWops.done ?_
      refine CW.cond (by simp only [go_sem, reduceIte, reduceCtorEq, reduceEqDiff, reduceAdd, reduceLT, reduceLeDiff, reduceToNat, reduceMul]; first | done | exact rfl) (fun ct37 => ?_) (fun ct37 => ?_)
      · have hne : ¬ k = kept := by simp at ct37; omega
        have hbad := hB.bad1 hf hn hne
        refine CW.seq ?_
        refine CW.region (by kernel_rfl) (by kernel_rfl) ?_ -- r11
        refine CWops.run htt 2 (by simp only [go_sem, reduceIte, reduceCtorEq, reduceEqDiff, reduceAdd, reduceLT, reduceLeDiff, reduceToNat, reduceMul]; exact rfl) (by simp [go_sem, reduceIte, reduceCtorEq, reduceEqDiff, reduceAdd, reduceLT, reduceLeDiff, reduceToNat, reduceMul]) ?_
        refine CWops.done ?_
        refine CW.ret ?_
        refine retQ.ret (by simp only [f58, go_sem, reduceIte, reduceCtorEq, reduceEqDiff, reduceAdd, reduceLT, reduceLeDiff, reduceToNat, reduceMul]; exact rfl) (by simp only [go_sem, reduceIte, reduceCtorEq, reduceEqDiff, reduceAdd, reduceLT, reduceLeDiff, reduceToNat, reduceMul]; exact rfl) ?_ -- ret1
        refine ⟨_, ?_, rfl⟩
        first | (rw [hbad]; simp [leP, leL]; done) | (rw [hB.done]; simp [leP, leL]; done)
      · have hke : kept = k := by simp at ct37; omega
        subst hke
        have hkl := (List.getElem?_eq_some_iff.1 hg).1
        refine CW.seq ?_
        refine CW.drawn mixed 8 (by decide) (by kernel_rfl) (by kernel_rfl) (by kernel_rfl) ?_ -- r12
        refine Seg.run htt 8 (by simp only [go_sem, reduceIte, reduceCtorEq, reduceEqDiff, reduceAdd, reduceLT, reduceLeDiff, reduceToNat, reduceMul, eType, eField, hkl, hg]; exact rfl) ?_
        refine Seg.done ?_
        refine CWops.callA (grade_wider up g.Kind f.Kind) (by simp only [go_sem, reduceIte, reduceCtorEq, reduceEqDiff, reduceAdd, reduceLT, reduceLeDiff, reduceToNat, reduceMul, eType, eField, hkl, hg]) (by simp only [go_sem, reduceIte, reduceCtorEq, reduceEqDiff, reduceAdd, reduceLT, reduceLeDiff, reduceToNat, reduceMul, eType, eField, hkl, hg]; first | done | exact rfl) (by simp only [go_sem, reduceIte, reduceCtorEq, reduceEqDiff, reduceAdd, reduceLT, reduceLeDiff, reduceToNat, reduceMul, eType, eField, hkl, hg]) (by simp only [go_sem, reduceIte, reduceCtorEq, reduceEqDiff, reduceAdd, reduceLT, reduceLeDiff, reduceToNat, reduceMul, eType, eField, hkl, hg]) (fun rt50 hrt50 => ?_)
        subst hrt50
        refine CWops.run htt 1 (by simp only [go_sem, reduceIte, reduceCtorEq, reduceEqDiff, reduceAdd, reduceLT, reduceLeDiff, reduceToNat, reduceMul, eType, eField, hkl, hg]; exact rfl) (by simp [go_sem, reduceIte, reduceCtorEq, reduceEqDiff, reduceAdd, reduceLT, reduceLeDiff, reduceToNat, reduceMul, eType, eField, hkl, hg]) ?_
        refine CWops.done ?_
        refine CW.cond (by simp only [go_sem, reduceIte, reduceCtorEq, reduceEqDiff, reduceAdd, reduceLT, reduceLeDiff, reduceToNat, reduceMul]; first | done | exact rfl) (fun ct41 => ?_) (fun ct41 => ?_)
        · have hw : wider g.Kind f.Kind = true := by simpa using ct41
          obtain ⟨p', hp'⟩ : ∃ p' : Nat × Nat × List GStep × List GStep, p' = (i + 1, kept + 1, d, w ++ [⟨2, a.Name, g⟩]) := ⟨_, rfl⟩
          refine CW.region (by kernel_rfl) (by kernel_rfl) ?_ -- r13
          refine CWops.run htt 7 (by simp only [go_sem, reduceIte, reduceCtorEq, reduceEqDiff, reduceAdd, reduceLT, reduceLeDiff, reduceToNat, reduceMul, eType, eField, eStep, hkl, hg, List.replicate]; exact rfl) (by simp [AV.cell, AV.tree, eStep, MX] <;> omega) ?_
          refine CWops.callA (between_step up 2 g a) (by simp only [go_sem, reduceIte, reduceCtorEq, reduceEqDiff, reduceAdd, reduceLT, reduceLeDiff, reduceToNat, reduceMul, eType, eField, eStep, hkl, hg, List.replicate]) (by simp only [go_sem, reduceIte, reduceCtorEq, reduceEqDiff, reduceAdd, reduceLT, reduceLeDiff, reduceToNat, reduceMul, eType, eField, eStep, hkl, hg, List.replicate]; first | done | exact rfl) (by simp only [go_sem, reduceIte, reduceCtorEq, reduceEqDiff, reduceAdd, reduceLT, reduceLeDiff, reduceToNat, reduceMul, eType, eField, eStep, hkl, hg, List.replicate]) (by simp only [go_sem, reduceIte, reduceCtorEq, reduceEqDiff, reduceAdd, reduceLT, reduceLeDiff, reduceToNat, reduceMul, eType, eField, eStep, hkl, hg, List.replicate]) (fun rt58 hrt58 => ?_)
          subst hrt58
          refine CWops.run htt 3 (by simp only [go_sem, reduceIte, reduceCtorEq, reduceEqDiff, reduceAdd, reduceLT, reduceLeDiff, reduceToNat, reduceMul, eType, eField, eStep, hkl, hg, List.replicate]; exact rfl) (by simp [AV.cell, AV.tree, eStep, MX] <;> omega) ?_
          refine CWops.done ?_
          refine CW.region (by kernel_rfl) (by kernel_rfl) ?_ -- r16
          refine CWops.run htt 3 (by simp only [go_sem, reduceIte, reduceCtorEq, reduceEqDiff, reduceAdd, reduceLT, reduceLeDiff, reduceToNat, reduceMul, wrap_succ (show kept < MX by unfold MX; omega)]; exact rfl) (by simp [go_sem, reduceIte, reduceCtorEq, reduceEqDiff, reduceAdd, reduceLT, reduceLeDiff, reduceToNat, reduceMul, wrap_succ (show kept < MX by unfold MX; omega)]) ?_
          refine CWops.done ?_
          refine CW.region (by kernel_rfl) (by kernel_rfl) ?_ -- r17
          refine CWops.run htt 2 (by simp only [go_sem, reduceIte, reduceCtorEq, reduceEqDiff, reduceAdd, reduceLT, reduceLeDiff, reduceToNat, reduceMul, wrap_succ (show i < MX by unfold MX; omega)]; exact rfl) (by simp [go_sem, reduceIte, reduceCtorEq, reduceEqDiff, reduceAdd, reduceLT, reduceLeDiff, reduceToNat, reduceMul, wrap_succ (show i < MX by unfold MX; omega)]) ?_
          refine CWops.done ?_
          refine ⟨p', ?_, ?_, ?_⟩
          · subst hp'; first | (refine Sh.wk (fun x => if x = 2 then 6 else x) ?_; simp [Wk, go_sem, reduceIte, reduceCtorEq, reduceEqDiff, reduceAdd, reduceLT, reduceLeDiff, reduceToNat, reduceMul, eType, eStep, ex_func, SubL, Sub]; done) | (refine Sh.wk (fun x => if x = 3 then 6 else x) ?_; simp [Wk, go_sem, reduceIte, reduceCtorEq, reduceEqDiff, reduceAdd, reduceLT, reduceLeDiff, reduceToNat, reduceMul, eType, eStep, ex_func, SubL, Sub]; done) | (refine Sh.wk0 ?_; simp [Wk, go_sem, reduceIte, reduceCtorEq, reduceEqDiff, reduceAdd, reduceLT, reduceLeDiff, reduceToNat, reduceMul, eType, eStep, ex_func, SubL, Sub]; done)
          · subst hp'; first | exact hB.drop hf hn | exact hB.wide hf hn hg hw | exact hB.same hf hn hg hw
          · subst hp'; simp only; omega
        · have hw : wider g.Kind f.Kind = false := by simpa using ct41
          refine CW.seq ?_
          refine CW.drawn mixed 6 (by decide) (by kernel_rfl) (by kernel_rfl) (by kernel_rfl) ?_ -- r14
          refine Seg.run htt 6 (by simp only [go_sem, reduceIte, reduceCtorEq, reduceEqDiff, reduceAdd, reduceLT, reduceLeDiff, reduceToNat, reduceMul, eType, eField, hkl, hg]; exact rfl) ?_
          refine Seg.done ?_
          refine CWops.run htt 2 (by simp only [go_sem, reduceIte, reduceCtorEq, reduceEqDiff, reduceAdd, reduceLT, reduceLeDiff, reduceToNat, reduceMul, eType, eField, hkl, hg]; exact rfl) (by simp [go_sem, reduceIte, reduceCtorEq, reduceEqDiff, reduceAdd, reduceLT, reduceLeDiff, reduceToNat, reduceMul, eType, eField, hkl, hg]) ?_
          refine CWops.done ?_
          refine CW.cond (by simp only [go_sem, reduceIte, reduceCtorEq, reduceEqDiff, reduceAdd, reduceLT, reduceLeDiff, reduceToNat, reduceMul]; first | done | exact rfl) (fun ct61 => ?_) (fun ct61 => ?_)
          · have hne : ¬ g = f := by
              intro e; subst e; simp at ct61
            have hbad := hB.bad2 hf hn hg hw hne
            refine CW.seq ?_
            refine CW.region (by kernel_rfl) (by kernel_rfl) ?_ -- r15
            refine CWops.run htt 2 (by simp only [go_sem, reduceIte, reduceCtorEq, reduceEqDiff, reduceAdd, reduceLT, reduceLeDiff, reduceToNat, reduceMul]; exact rfl) (by simp [go_sem, reduceIte, reduceCtorEq, reduceEqDiff, reduceAdd, reduceLT, reduceLeDiff, reduceToNat, reduceMul]) ?_
            refine CWops.done ?_
            refine CW.ret ?_
            refine retQ.ret (by simp only [f58, go_sem, reduceIte, reduceCtorEq, reduceEqDiff, reduceAdd, reduceLT, reduceLeDiff, reduceToNat, reduceMul]; exact rfl) (by simp only [go_sem, reduceIte, reduceCtorEq, reduceEqDiff, reduceAdd, reduceLT, reduceLeDiff, reduceToNat, reduceMul]; exact rfl) ?_ -- ret2
            refine ⟨_, ?_, rfl⟩
            first | (rw [hbad]; simp [leP, leL]; done) | (rw [hB.done]; simp [leP, leL]; done)
          · have hge : g = f := by
              obtain ⟨n1, k1, t1⟩ := g; obtain ⟨n2, k2, t2⟩ := f
              simpa [and_assoc] using ct61
            subst hge
            obtain ⟨p', hp'⟩ : ∃ p' : Nat × Nat × List GStep × List GStep, p' = (i + 1, kept + 1, d, w) := ⟨_, rfl⟩
            refine CW.skip ?_
            refine CW.region (by kernel_rfl) (by kernel_rfl) ?_ -- r16
            refine CWops.run htt 3 (by simp only [go_sem, reduceIte, reduceCtorEq, reduceEqDiff, reduceAdd, reduceLT, reduceLeDiff, reduceToNat, reduceMul, wrap_succ (show kept < MX by unfold MX; omega)]; exact rfl) (by simp [go_sem, reduceIte, reduceCtorEq, reduceEqDiff, reduceAdd, reduceLT, reduceLeDiff, reduceToNat, reduceMul, wrap_succ (show kept < MX by unfold MX; omega)]) ?_
            refine CWops.done ?_
            refine CW.region (by kernel_rfl) (by kernel_rfl) ?_ -- r17
            refine CWops.run htt 2 (by simp only [go_sem, reduceIte, reduceCtorEq, reduceEqDiff, reduceAdd, reduceLT, reduceLeDiff, reduceToNat, reduceMul, wrap_succ (show i < MX by unfold MX; omega)]; exact rfl) (by simp [go_sem, reduceIte, reduceCtorEq, reduceEqDiff, reduceAdd, reduceLT, reduceLeDiff, reduceToNat, reduceMul, wrap_succ (show i < MX by unfold MX; omega)]) ?_
            refine CWops.done ?_
            refine ⟨p', ?_, ?_, ?_⟩
            · subst hp'; first | (refine Sh.wk (fun x => if x = 2 then 6 else x) ?_; simp [Wk, go_sem, reduceIte, reduceCtorEq, reduceEqDiff, reduceAdd, reduceLT, reduceLeDiff, reduceToNat, reduceMul, eType, eStep, ex_func, SubL, Sub]; done) | (refine Sh.wk (fun x => if x = 3 then 6 else x) ?_; simp [Wk, go_sem, reduceIte, reduceCtorEq, reduceEqDiff, reduceAdd, reduceLT, reduceLeDiff, reduceToNat, reduceMul, eType, eStep, ex_func, SubL, Sub]; done) | (refine Sh.wk0 ?_; simp [Wk, go_sem, reduceIte, reduceCtorEq, reduceEqDiff, reduceAdd, reduceLT, reduceLeDiff, reduceToNat, reduceMul, eType, eStep, ex_func, SubL, Sub]; done)
            · subst hp'; first | exact hB.drop hf hn | exact hB.wide hf hn hg hw | exact hB.same hf hn hg hw
            · subst hp'; simp only; omega
  · have hi : i = a.F.length := by have := hB.li; simp at ct21; omega
    subst hi
    have hlk := hB.lk
    have hld := hB.ld
    have hlw := hB.lw
    refine CW.exit ?_
    refine CW.seq ?_
    refine CW.seq ?_
    refine CW.region (by kernel_rfl) (by kernel_rfl) ?_ -- r18
    refine CWops.run htt 3 (by simp only [go_sem, reduceIte, reduceCtorEq, reduceEqDiff, reduceAdd, reduceLT, reduceLeDiff, reduceToNat, reduceMul, eType]; exact rfl) (by simp [go_sem, reduceIte, reduceCtorEq, reduceEqDiff, reduceAdd, reduceLT, reduceLeDiff, reduceToNat, reduceMul, eType]) ?_
    refine CWops.slFrom (q := kept) (k := .i64) (l := b.F.map eField) htt (by simp only [go_sem, reduceIte, reduceCtorEq, reduceEqDiff, reduceAdd, reduceLT, reduceLeDiff, reduceToNat, reduceMul]) tt_41 rfl tt_30 (by simp only [go_sem, reduceIte, reduceCtorEq, reduceEqDiff, reduceAdd, reduceLT, reduceLeDiff, reduceToNat, reduceMul, eType]; first | done | exact rfl) (by simp only [go_sem, reduceIte, reduceCtorEq, reduceEqDiff, reduceAdd, reduceLT, reduceLeDiff, reduceToNat, reduceMul]) (by simpa using hlk) ?_
    rw [← List.map_drop]
    simp only [go_sem, reduceIte, reduceCtorEq, reduceEqDiff, reduceAdd, reduceLT, reduceLeDiff, reduceToNat, reduceMul]
    refine CWops.run htt 2 (by simp only [go_sem, reduceIte, reduceCtorEq, reduceEqDiff, reduceAdd, reduceLT, reduceLeDiff, reduceToNat, reduceMul, eType]; exact rfl) (by simp [go_sem, reduceIte, reduceCtorEq, reduceEqDiff, reduceAdd, reduceLT, reduceLeDiff, reduceToNat, reduceMul, eType]) ?_
    refine CWops.done ?_
    refine CW.block ?_
    refine CW.loop (S := Nat) (fun j => ⟨5, [(3, .lv 1 [] 0), (9, .func (.func 99) [] [.fp (eType a)]), (6, .ref 2 [] 0), (7, .ref 3 [] 0), (8, .ref 4 [] 0), (75, .sl 3 ((b.F.drop kept).map eField)), (76, .int .i64 (b.F.drop kept).length), (77, .int .i64 j)], [(1, ⟨true, eType b⟩), (2, ⟨false, [.own 5 (d.map eStep)]⟩), (3, ⟨false, [.own 5 (w.map eStep)]⟩), (4, ⟨false, [.own 5 ((((b.F.drop kept).take j).map fun f => (⟨0, a.Name, f⟩ : GStep)).map eStep)]⟩)]⟩) (fun j => j ≤ (b.F.drop kept).length) (fun j => (b.F.drop kept).length - j) (0) ?_ (Nat.zero_le _) (fun j h3 => ?_)
    · refine Sh.trans (Sh.nilRoot 8 5 (by simp only [go_sem, reduceIte, reduceCtorEq, reduceEqDiff, reduceAdd, reduceLT, reduceLeDiff, reduceToNat, reduceMul]) rfl) (Sh.wk0 ?_); simp [Wk, go_sem, reduceIte, reduceCtorEq, reduceEqDiff, reduceAdd, reduceLT, reduceLeDiff, reduceToNat, reduceMul, eType, ex_func, SubL, Sub]
    refine CW.seq ?_
    refine CW.region (by kernel_rfl) (by kernel_rfl) ?_ -- r19
    refine CWops.run htt 1 (by simp only [go_sem, reduceIte, reduceCtorEq, reduceEqDiff, reduceAdd, reduceLT, reduceLeDiff, reduceToNat, reduceMul]; exact rfl) (by simp [go_sem, reduceIte, reduceCtorEq, reduceEqDiff, reduceAdd, reduceLT, reduceLeDiff, reduceToNat, reduceMul]) ?_
    refine CWops.done ?_
    refine CW.seq ?_
    refine CW.cond (by simp only [go_sem, reduceIte, reduceCtorEq, reduceEqDiff, reduceAdd, reduceLT, reduceLeDiff, reduceToNat, reduceMul]; first | done | exact rfl) (fun ct78 => ?_) (fun ct78 => ?_)
    · have hj : j < (b.F.drop kept).length := by simp at ct78 ⊢; omega
      obtain ⟨fj, hfj⟩ : ∃ x, (b.F.drop kept)[j]? = some x := ⟨_, List.getElem?_eq_getElem hj⟩
      have hj5 : j < 5 := by simp at hj; omega
      refine CW.skip ?_
      refine CW.seq ?_
      refine CW.block ?_
      refine CW.seq ?_
      refine CW.region (by kernel_rfl) (by kernel_rfl) ?_ -- r20
      refine CWops.run htt 4 (by simp only [go_sem, reduceIte, reduceCtorEq, reduceEqDiff, reduceAdd, reduceLT, reduceLeDiff, reduceToNat, reduceMul, hj, hfj, eField]; exact rfl) (by simp [go_sem, reduceIte, reduceCtorEq, reduceEqDiff, reduceAdd, reduceLT, reduceLeDiff, reduceToNat, reduceMul, hj, hfj, eField]) ?_
      refine CWops.done ?_
      refine CW.region (by kernel_rfl) (by kernel_rfl) ?_ -- r21
      refine CWops.run htt 3 (by simp only [go_sem, reduceIte, reduceCtorEq, reduceEqDiff, reduceAdd, reduceLT, reduceLeDiff, reduceToNat, reduceMul, eField, eType, eStep, List.replicate]; exact rfl) (by simp [AV.cell, AV.tree, eStep, MX] <;> omega) ?_
      refine CWops.callA (between_step up 0 fj a) (by simp only [go_sem, reduceIte, reduceCtorEq, reduceEqDiff, reduceAdd, reduceLT, reduceLeDiff, reduceToNat, reduceMul, eField, eType, eStep, List.replicate]) (by simp only [go_sem, reduceIte, reduceCtorEq, reduceEqDiff, reduceAdd, reduceLT, reduceLeDiff, reduceToNat, reduceMul, eField, eType, eStep, List.replicate]; first | done | exact rfl) (by simp only [go_sem, reduceIte, reduceCtorEq, reduceEqDiff, reduceAdd, reduceLT, reduceLeDiff, reduceToNat, reduceMul, eField, eType, eStep, List.replicate]) (by simp only [go_sem, reduceIte, reduceCtorEq, reduceEqDiff, reduceAdd, reduceLT, reduceLeDiff, reduceToNat, reduceMul, eField, eType, eStep, List.replicate]) (fun rt84 hrt84 => ?_)
      subst hrt84
      refine CWops.run htt 3 (by simp only [go_sem, reduceIte, reduceCtorEq, reduceEqDiff, reduceAdd, reduceLT, reduceLeDiff, reduceToNat, reduceMul, eField, eType, eStep, List.replicate]; exact rfl) (by simp [AV.cell, AV.tree, eStep, MX] <;> omega) ?_
      refine CWops.done ?_
      refine CW.region (by kernel_rfl) (by kernel_rfl) ?_ -- r22
      refine CWops.run htt 2 (by simp only [go_sem, reduceIte, reduceCtorEq, reduceEqDiff, reduceAdd, reduceLT, reduceLeDiff, reduceToNat, reduceMul, wrap_succ (show j < MX by unfold MX; omega)]; exact rfl) (by simp [go_sem, reduceIte, reduceCtorEq, reduceEqDiff, reduceAdd, reduceLT, reduceLeDiff, reduceToNat, reduceMul, wrap_succ (show j < MX by unfold MX; omega)]) ?_
      refine CWops.done ?_
      refine ⟨j + 1, ?_, ?_, ?_⟩
      · refine Sh.wk (fun x => if x = 4 then 7 else x) ?_
        dsimp only
        simp [Wk, go_sem, reduceIte, reduceCtorEq, reduceEqDiff, reduceAdd, reduceLT, reduceLeDiff, reduceToNat, reduceMul, eType, List.take_add_one, hfj, eStep, ex_func, SubL, Sub]
      · exact hj
      · simp only; omega
    · have hj : j = (b.F.drop kept).length := by have h9 := h3; simp at ct78 h9 ⊢; omega
      rw [hj, List.take_length]
      refine CW.exit ?_
      refine CW.seq ?_
      refine CW.sh (Sh.frzT 6 2 rfl rfl rfl) ?_
      simp only [go_sem, reduceIte, reduceCtorEq, reduceEqDiff, reduceAdd, reduceLT, reduceLeDiff, reduceToNat, reduceMul]
      refine CW.sh (Sh.frzT 7 3 rfl rfl rfl) ?_
      simp only [go_sem, reduceIte, reduceCtorEq, reduceEqDiff, reduceAdd, reduceLT, reduceLeDiff, reduceToNat, reduceMul]
      refine CW.sh (Sh.frzT 8 4 rfl rfl rfl) ?_
      simp only [go_sem, reduceIte, reduceCtorEq, reduceEqDiff, reduceAdd, reduceLT, reduceLeDiff, reduceToNat, reduceMul]
      refine CW.region (by kernel_rfl) (by kernel_rfl) ?_ -- r23
      refine CWops.run htt 4 (by simp only [go_sem, reduceIte, reduceCtorEq, reduceEqDiff, reduceAdd, reduceLT, reduceLeDiff, reduceToNat, reduceMul, List.replicate, eSteps, List.map_cons, List.map_nil]; exact rfl) (by simp [AV.cell, AV.tree, MX] <;> omega) ?_
      refine CWops.sh (Sh.frzT 91 5 rfl rfl rfl) ?_
      simp only [go_sem, reduceIte, reduceCtorEq, reduceEqDiff, reduceAdd, reduceLT, reduceLeDiff, reduceToNat, reduceMul, List.replicate, List.set_cons_zero, List.set_cons_succ, AV.freeze, List.map_cons, List.map_nil]
      refine CWops.callA (concat_Step up [d, w, (b.F.drop kept).map fun f => ⟨0, a.Name, f⟩] (by simp) (by simp only [List.flatten_cons, List.flatten_nil, List.append_nil, List.length_append, List.length_map, List.length_drop]; unfold MX; omega)) (by simp only [go_sem, reduceIte, reduceCtorEq, reduceEqDiff, reduceAdd, reduceLT, reduceLeDiff, reduceToNat, reduceMul, List.replicate, eSteps, List.map_cons, List.map_nil]) (by simp only [go_sem, reduceIte, reduceCtorEq, reduceEqDiff, reduceAdd, reduceLT, reduceLeDiff, reduceToNat, reduceMul, List.replicate, eSteps, List.map_cons, List.map_nil]; first | done | exact rfl) (by simp only [go_sem, reduceIte, reduceCtorEq, reduceEqDiff, reduceAdd, reduceLT, reduceLeDiff, reduceToNat, reduceMul, List.replicate, eSteps, List.map_cons, List.map_nil]) (by simp only [go_sem, reduceIte, reduceCtorEq, reduceEqDiff, reduceAdd, reduceLT, reduceLeDiff, reduceToNat, reduceMul, List.replicate, eSteps, List.map_cons, List.map_nil]) (fun rt92 hrt92 => ?_)
      subst hrt92
      refine CWops.run htt 2 (by simp only [go_sem, reduceIte, reduceCtorEq, reduceEqDiff, reduceAdd, reduceLT, reduceLeDiff, reduceToNat, reduceMul, List.replicate, eSteps, List.map_cons, List.map_nil]; exact rfl) (by simp [AV.cell, AV.tree, MX] <;> omega) ?_
      refine CWops.done ?_
      refine CW.ret ?_
      refine retQ.ret (by simp only [f58, go_sem, reduceIte, reduceCtorEq, reduceEqDiff, reduceAdd, reduceLT, reduceLeDiff, reduceToNat, reduceMul]; exact rfl) (by simp only [go_sem, reduceIte, reduceCtorEq, reduceEqDiff, reduceAdd, reduceLT, reduceLeDiff, reduceToNat, reduceMul]; exact rfl) ?_ -- ret3
      refine ⟨_, ?_, rfl⟩
      first | (rw [hbad]; simp [leP, leL]; done) | (rw [hB.done]; simp [leP, leL]; done)
end Go.Ab
namespace Go.Ab
open Go Go.Proofs.Try
open Nat (reduceEqDiff reduceAdd reduceLT reduceLeDiff reduceBEq reduceSub reduceMul)
open Int (reduceToNat)
set_option maxRecDepth 100000
set_option maxHeartbeats 3200000
set_option linter.unusedSimpArgs false
set_option linter.unusedVariables false
theorem grade_Between (up : Bool) (s t : List GType) : PCall prog up 22 [.agg (eSchema s), .agg (eSchema t)] (· = .tup [.sl 5 ((gBetween s t).1.map eStep), .bool (gBetween s t).2]) := by
  refine PCall.intro htt func22 (by kernel_rfl) rfl (Nat.le_of_ble_eq_true rfl) fun hl => ?_

  simp only [tmps0, Nat.reduceAdd]
  refine CW.seq ?_
  refine CW.region (by kernel_rfl) (by kernel_rfl) ?_ -- r0
  refine CWops.run htt 4 (by simp only [go_sem, reduceIte, reduceCtorEq, reduceEqDiff, reduceAdd, reduceLT, reduceLeDiff, reduceToNat, eSchema]; exact rfl) (by simp [go_sem, reduceIte, reduceCtorEq, reduceEqDiff, reduceAdd, reduceLT, reduceLeDiff, reduceToNat, eSchema]) ?_
  refine CWops.done ?_
  refine CW.seq ?_
  refine CW.cut ⟨2, [(2, .lv 0 [] 0), (3, .lv 1 [] 0), (27, .bool (!((schemaMay s && schemaMay t) && decide (s.length = t.length))))], [(0, ⟨true, eSchema s⟩), (1, ⟨true, eSchema t⟩)]⟩ ?_ ?_
  · refine CW.region (by kernel_rfl) (by kernel_rfl) ?_ -- r1
    refine CWops.run htt 1 (by simp only [go_sem, reduceIte, reduceCtorEq, reduceEqDiff, reduceAdd, reduceLT, reduceLeDiff, reduceToNat, eSchema]; exact rfl) (by simp [go_sem, reduceIte, reduceCtorEq, reduceEqDiff, reduceAdd, reduceLT, reduceLeDiff, reduceToNat, eSchema]) ?_
    refine CWops.call (schema_May up s) (by simp only [go_sem, reduceIte, reduceCtorEq, reduceEqDiff, reduceAdd, reduceLT, reduceLeDiff, reduceToNat, eSchema]) (by simp only [go_sem, reduceIte, reduceCtorEq, reduceEqDiff, reduceAdd, reduceLT, reduceLeDiff, reduceToNat, eSchema]; first | done | exact rfl) (by simp only [go_sem, reduceIte, reduceCtorEq, reduceEqDiff, reduceAdd, reduceLT, reduceLeDiff, reduceToNat, eSchema]) (fun rt12 hrt12 => ?_)
    subst hrt12; refine ⟨rfl, ?_⟩
    refine CWops.run htt 2 (by simp only [go_sem, reduceIte, reduceCtorEq, reduceEqDiff, reduceAdd, reduceLT, reduceLeDiff, reduceToNat, eSchema]; exact rfl) (by simp [go_sem, reduceIte, reduceCtorEq, reduceEqDiff, reduceAdd, reduceLT, reduceLeDiff, reduceToNat, eSchema]) ?_
    all_goals (first | refine CWops.guard 14 (by simp only [go_sem, reduceIte, reduceCtorEq, reduceEqDiff, reduceAdd, reduceLT, reduceLeDiff, reduceToNat, eSchema]; exact rfl) (fun g14 => ?_) (fun g14 => ?_) | skip)
    all_goals (refine CWops.run htt 1 (by simp only [go_sem, reduceIte, reduceCtorEq, reduceEqDiff, reduceAdd, reduceLT, reduceLeDiff, reduceToNat, eSchema]; exact rfl) (by simp [go_sem, reduceIte, reduceCtorEq, reduceEqDiff, reduceAdd, reduceLT, reduceLeDiff, reduceToNat, eSchema]) ?_)
    all_goals (first | (refine CWops.skip ?_ ?_; next => (simp only [go_sem, reduceIte, reduceCtorEq, reduceEqDiff, reduceAdd, reduceLT, reduceLeDiff, reduceToNat]; done)) | (refine CWops.call (schema_May up t) (by simp only [go_sem, reduceIte, reduceCtorEq, reduceEqDiff, reduceAdd, reduceLT, reduceLeDiff, reduceToNat, eSchema]) (by simp only [go_sem, reduceIte, reduceCtorEq, reduceEqDiff, reduceAdd, reduceLT, reduceLeDiff, reduceToNat, eSchema]; first | done | exact rfl) (by simp only [go_sem, reduceIte, reduceCtorEq, reduceEqDiff, reduceAdd, reduceLT, reduceLeDiff, reduceToNat, eSchema]) (fun rt16 hrt16 => ?_); subst hrt16; refine ⟨rfl, ?_⟩))
    all_goals (refine CWops.run htt 3 (by simp only [go_sem, reduceIte, reduceCtorEq, reduceEqDiff, reduceAdd, reduceLT, reduceLeDiff, reduceToNat, eSchema]; exact rfl) (by simp [go_sem, reduceIte, reduceCtorEq, reduceEqDiff, reduceAdd, reduceLT, reduceLeDiff, reduceToNat, eSchema]) ?_)
    all_goals (first | refine CWops.guard 19 (by simp only [go_sem, reduceIte, reduceCtorEq, reduceEqDiff, reduceAdd, reduceLT, reduceLeDiff, reduceToNat, eSchema]; exact rfl) (fun g19 => ?_) (fun g19 => ?_) | skip)
    all_goals (refine CWops.run htt 8 (by simp only [go_sem, reduceIte, reduceCtorEq, reduceEqDiff, reduceAdd, reduceLT, reduceLeDiff, reduceToNat, eSchema]; exact rfl) (by simp [go_sem, reduceIte, reduceCtorEq, reduceEqDiff, reduceAdd, reduceLT, reduceLeDiff, reduceToNat, eSchema]) ?_)
    all_goals (refine CWops.done ?_)
    all_goals (
      first | refine ⟨rfl, Sh.wk0 ?_⟩ | refine Sh.wk0 ?_
      by_cases b1 : s.length = t.length <;> cases hs1 : schemaMay s <;> cases hs2 : schemaMay t <;> simp_all [Wk, go_sem, reduceIte, reduceCtorEq, reduceEqDiff, reduceAdd, reduceLT, reduceLeDiff, reduceToNat, eSchema] <;> first | done | omega)
  refine CW.cond (by simp only [go_sem, reduceIte, reduceCtorEq, reduceEqDiff, reduceAdd, reduceLT, reduceLeDiff, reduceToNat]; first | done | exact rfl) (fun ct27 => ?_) (fun ct27 => ?_)
  · have hbad : gBetween s t = ([], false) := by
      have h0 : ((schemaMay s && schemaMay t) && decide (s.length = t.length)) = false := by simp only [Bool.not_eq_true'] at ct27; exact ct27
      unfold gBetween; rw [h0]; rfl
    refine CW.seq ?_
    refine CW.region (by kernel_rfl) (by kernel_rfl) ?_ -- r2
    refine CWops.run htt 2 (by simp only [go_sem, reduceIte, reduceCtorEq, reduceEqDiff, reduceAdd, reduceLT, reduceLeDiff, reduceToNat]; exact rfl) (by simp [go_sem, reduceIte, reduceCtorEq, reduceEqDiff, reduceAdd, reduceLT, reduceLeDiff, reduceToNat]) ?_
    refine CWops.done ?_
    refine CW.ret ?_
    refine retQ.ret (by simp only [f22, go_sem, reduceIte, reduceCtorEq, reduceEqDiff, reduceAdd, reduceLT, reduceLeDiff, reduceToNat]; exact rfl) (by simp only [go_sem, reduceIte, reduceCtorEq, reduceEqDiff, reduceAdd, reduceLT, reduceLeDiff, reduceToNat]; exact rfl) ?_ -- ret1
    refine ⟨_, ?_, rfl⟩
    first | (rw [hbad]; simp [leP, leL]; done) | (rw [hdone]; simp [leP, leL]; done)
  · have hok : ((schemaMay s && schemaMay t) && decide (s.length = t.length)) = true := by simp only [Bool.not_eq_false'] at ct27; exact ct27
    have hok2 := hok
    simp only [Bool.and_eq_true, decide_eq_true_eq] at hok2
    obtain ⟨⟨hms, hmt⟩, hlen⟩ := hok2
    have hS := (smay_iff s).1 hms
    have hT := (smay_iff t).1 hmt
    have hs4 := hS.len
    refine CW.skip ?_
    refine CW.seq ?_
    refine CW.region (by kernel_rfl) (by kernel_rfl) ?_ -- r3
    refine CWops.run htt 1 (by simp only [go_sem, reduceIte, reduceCtorEq, reduceEqDiff, reduceAdd, reduceLT, reduceLeDiff, reduceToNat]; exact rfl) (by simp [go_sem, reduceIte, reduceCtorEq, reduceEqDiff, reduceAdd, reduceLT, reduceLeDiff, reduceToNat]) ?_
    refine CWops.done ?_
    refine CW.seq ?_
    refine CW.seq ?_
    refine CW.region (by kernel_rfl) (by kernel_rfl) ?_ -- r4
    refine CWops.run htt 4 (by simp only [go_sem, reduceIte, reduceCtorEq, reduceEqDiff, reduceAdd, reduceLT, reduceLeDiff, reduceToNat, eSchema]; exact rfl) (by simp [go_sem, reduceIte, reduceCtorEq, reduceEqDiff, reduceAdd, reduceLT, reduceLeDiff, reduceToNat, eSchema]) ?_
    refine CWops.done ?_
    refine CW.block ?_
    refine CW.loop (S := Nat × List GStep) (fun p => ⟨3, [(2, .lv 0 [] 0), (3, .lv 1 [] 0), (6, .ref 2 [] 0), (29, .sl 2 (s.map eType)), (30, .int .i64 s.length), (31, .int .i64 p.1)], [(0, ⟨true, eSchema s⟩), (1, ⟨true, eSchema t⟩), (2, ⟨false, [.own 5 (p.2.map eStep)]⟩)]⟩) (fun p => p.1 ≤ s.length ∧ bwFold s t p.1 = some p.2 ∧ p.2.length ≤ 15 * p.1) (fun p => s.length - p.1) ((0, [])) ?_ ⟨Nat.zero_le _, rfl, Nat.le_refl _⟩ (fun ⟨i, l⟩ hB => ?_)
    · refine Sh.trans (Sh.nilRoot 6 5 (by simp only [go_sem, reduceIte, reduceCtorEq, reduceEqDiff, reduceAdd, reduceLT, reduceLeDiff, reduceToNat]) rfl) (Sh.wk0 ?_); simp [Wk, go_sem, reduceIte, reduceCtorEq, reduceEqDiff, reduceAdd, reduceLT, reduceLeDiff, reduceToNat, eSchema]
    simp only at hB
    refine CW.seq ?_
    refine CW.region (by kernel_rfl) (by kernel_rfl) ?_ -- r5
    refine CWops.run htt 1 (by simp only [go_sem, reduceIte, reduceCtorEq, reduceEqDiff, reduceAdd, reduceLT, reduceLeDiff, reduceToNat]; exact rfl) (by simp [go_sem, reduceIte, reduceCtorEq, reduceEqDiff, reduceAdd, reduceLT, reduceLeDiff, reduceToNat]) ?_
    refine CWops.done ?_
    refine CW.seq ?_
    refine CW.cond (by simp only [go_sem, reduceIte, reduceCtorEq, reduceEqDiff, reduceAdd, reduceLT, reduceLeDiff, reduceToNat]; first | done | exact rfl) (fun ct32 => ?_) (fun ct32 => ?_)
    · have hi : i < s.length := by simpa using ct32
      obtain ⟨a, ha⟩ : ∃ x, s[i]? = some x := ⟨s[i], List.getElem?_eq_getElem hi⟩
      have hit : i < t.length := by omega
      obtain ⟨b, hbt⟩ : ∃ x, t[i]? = some x := ⟨t[i], List.getElem?_eq_getElem hit⟩
      have hF5 := hS.flen i a ha
      have hG5 := hT.flen i b hbt
      have hll := betw_len hF5 hG5
      have hsucc := bwFold_succ ha hbt
      rw [hB.2.1] at hsucc
      have hB2 := hB.2.2
      refine CW.skip ?_
      refine CW.seq ?_
      refine CW.block ?_
      refine CW.seq ?_
      refine CW.region (by kernel_rfl) (by kernel_rfl) ?_ -- r6
      refine CWops.run htt 6 (by simp only [go_sem, reduceIte, reduceCtorEq, reduceEqDiff, reduceAdd, reduceLT, reduceLeDiff, reduceToNat, hi, ha, eType]; exact rfl) (by simp [go_sem, reduceIte, reduceCtorEq, reduceEqDiff, reduceAdd, reduceLT, reduceLeDiff, reduceToNat, hi, ha, eType]) ?_
      refine CWops.done ?_
      refine CW.seq ?_
      refine CW.drawn mixed 11 (by decide) (by kernel_rfl) (by kernel_rfl) (by kernel_rfl) ?_ -- r7
      refine Seg.run htt 6 (by simp only [go_sem, reduceIte, reduceCtorEq, reduceEqDiff, reduceAdd, reduceLT, reduceLeDiff, reduceToNat, eType, eSchema, hit, hbt]; exact rfl) ?_
      refine Seg.callA (grade_between up a b hF5 hG5) (by simp only [go_sem, reduceIte, reduceCtorEq, reduceEqDiff, reduceAdd, reduceLT, reduceLeDiff, reduceToNat, eType, eSchema, hit, hbt]) (by simp only [go_sem, reduceIte, reduceCtorEq, reduceEqDiff, reduceAdd, reduceLT, reduceLeDiff, reduceToNat, eType, eSchema, hit, hbt]; first | done | exact rfl) (by simp only [go_sem, reduceIte, reduceCtorEq, reduceEqDiff, reduceAdd, reduceLT, reduceLeDiff, reduceToNat, eType, eSchema, hit, hbt]) (by simp only [go_sem, reduceIte, reduceCtorEq, reduceEqDiff, reduceAdd, reduceLT, reduceLeDiff, reduceToNat, eType, eSchema, hit, hbt]) ?_
      refine Seg.run htt 4 (by simp only [go_sem, reduceIte, reduceCtorEq, reduceEqDiff, reduceAdd, reduceLT, reduceLeDiff, reduceToNat, eType, eSchema, hit, hbt]; exact rfl) ?_
      refine Seg.done ?_
      refine CWops.run htt 1 (by simp only [go_sem, reduceIte, reduceCtorEq, reduceEqDiff, reduceAdd, reduceLT, reduceLeDiff, reduceToNat, eType, eSchema, hit, hbt]; exact rfl) (by simp [go_sem, reduceIte, reduceCtorEq, reduceEqDiff, reduceAdd, reduceLT, reduceLeDiff, reduceToNat, eType, eSchema, hit, hbt]) ?_
      refine CWops.done ?_
      refine CW.seq ?_
      refine CW.seq ?_
      refine CW.drawn mixed 11 (by decide) (by kernel_rfl) (by kernel_rfl) (by kernel_rfl) ?_ -- r8
      refine Seg.run htt 3 (by simp only [go_sem, reduceIte, reduceCtorEq, reduceEqDiff, reduceAdd, reduceLT, reduceLeDiff, reduceToNat, eType, eSchema, hit, hbt]; exact rfl) ?_
      all_goals (first | refine Seg.guard 48 (by simp only [go_sem, reduceIte, reduceCtorEq, reduceEqDiff, reduceAdd, reduceLT, reduceLeDiff, reduceToNat, eType, eSchema, hit, hbt]; exact rfl) (fun g48 => ?_) (fun g48 => ?_) | skip)
      all_goals (refine Seg.run htt 8 (by simp only [go_sem, reduceIte, reduceCtorEq, reduceEqDiff, reduceAdd, reduceLT, reduceLeDiff, reduceToNat, eType, eSchema, hit, hbt]; exact rfl) ?_)
      all_goals (refine Seg.done ?_)
      all_goals (refine CWops.run htt 2 (by simp only [go_sem, reduceIte, reduceCtorEq, reduceEqDiff, reduceAdd, reduceLT, reduceLeDiff, reduceToNat, eType, eSchema, hit, hbt]; exact rfl) (by simp [go_sem, reduceIte, reduceCtorEq, reduceEqDiff, reduceAdd, reduceLT, reduceLeDiff, reduceToNat, eType, eSchema, hit, hbt]) ?_)
      all_goals (refine CWops.done ?_)
      all_goals (
        refine CW.cond (by simp only [go_sem, reduceIte, reduceCtorEq, reduceEqDiff, reduceAdd, reduceLT, reduceLeDiff, reduceToNat]; first | done | exact rfl) (fun ct58 => ?_) (fun ct58 => ?_)
        · have hbad : gBetween s t = ([], false) := by
            have h0 : ((betw a b).2 && decide (a.Name = b.Name)) = false := by
              cases h1 : (betw a b).2 <;> by_cases h2 : a.Name = b.Name <;> simp_all
            have : bwFold s t (i + 1) = none := by rw [hsucc]; simp only [bwStep]; rw [h0]; rfl
            unfold gBetween; rw [if_pos hok, bwFold_dead this hlen]
          refine CW.seq ?_
          refine CW.region (by kernel_rfl) (by kernel_rfl) ?_ -- r9
          refine CWops.run htt 2 (by simp only [go_sem, reduceIte, reduceCtorEq, reduceEqDiff, reduceAdd, reduceLT, reduceLeDiff, reduceToNat]; exact rfl) (by simp [go_sem, reduceIte, reduceCtorEq, reduceEqDiff, reduceAdd, reduceLT, reduceLeDiff, reduceToNat]) ?_
          refine CWops.done ?_
          refine CW.ret ?_
          refine retQ.ret (by simp only [f22, go_sem, reduceIte, reduceCtorEq, reduceEqDiff, reduceAdd, reduceLT, reduceLeDiff, reduceToNat]; exact rfl) (by simp only [go_sem, reduceIte, reduceCtorEq, reduceEqDiff, reduceAdd, reduceLT, reduceLeDiff, reduceToNat]; exact rfl) ?_ -- ret2
          refine ⟨_, ?_, rfl⟩
          first | (rw [hbad]; simp [leP, leL]; done) | (rw [hdone]; simp [leP, leL]; done)
        · have hgo : bwFold s t (i + 1) = some (l ++ (betw a b).1) := by
            have h0 : ((betw a b).2 && decide (a.Name = b.Name)) = true := by
              cases h1 : (betw a b).2 <;> by_cases h2 : a.Name = b.Name <;> simp_all
            rw [hsucc]; simp only [bwStep]; rw [if_pos h0]
          refine CW.skip ?_
          refine CW.region (by kernel_rfl) (by kernel_rfl) ?_ -- r10
          refine CWops.run htt 4 (by simp only [go_sem, reduceIte, reduceCtorEq, reduceEqDiff, reduceAdd, reduceLT, reduceLeDiff, reduceToNat]; exact rfl) (by refine ⟨?_, ?_, ?_⟩ <;> first | (simp [eStep, AV.cell]; done) | (simp [MX]; omega)) ?_
          refine CWops.done ?_
          refine CW.region (by kernel_rfl) (by kernel_rfl) ?_ -- r11
          refine CWops.run htt 2 (by simp only [go_sem, reduceIte, reduceCtorEq, reduceEqDiff, reduceAdd, reduceLT, reduceLeDiff, reduceToNat, wrap_succ (show i < MX by unfold MX; omega)]; exact rfl) (by simp [go_sem, reduceIte, reduceCtorEq, reduceEqDiff, reduceAdd, reduceLT, reduceLeDiff, reduceToNat, wrap_succ (show i < MX by unfold MX; omega)]) ?_
          refine CWops.done ?_
          refine ⟨(i + 1, l ++ (betw a b).1), ?_, ?_, ?_⟩
          · refine Sh.wk (fun x => if x = 2 then 4 else x) ?_; simp [Wk, go_sem, reduceIte, reduceCtorEq, reduceEqDiff, reduceAdd, reduceLT, reduceLeDiff, reduceToNat, eSchema]
          · exact ⟨hi, hgo, by simp; omega⟩
          · simp only; omega)
    · have hi : i = s.length := by have := hB.1; simp at ct32; omega
      subst hi
      have hdone : gBetween s t = (l, true) := by unfold gBetween; rw [if_pos hok, hB.2.1]
      refine CW.exit ?_
      refine CW.seq ?_
      refine CW.region (by kernel_rfl) (by kernel_rfl) ?_ -- r12
      refine CWops.run htt 3 (by simp only [go_sem, reduceIte, reduceCtorEq, reduceEqDiff, reduceAdd, reduceLT, reduceLeDiff, reduceToNat]; exact rfl) (by simp [go_sem, reduceIte, reduceCtorEq, reduceEqDiff, reduceAdd, reduceLT, reduceLeDiff, reduceToNat]) ?_
      refine CWops.done ?_
      refine CW.ret ?_
      refine retQ.ret (by simp only [f22, go_sem, reduceIte, reduceCtorEq, reduceEqDiff, reduceAdd, reduceLT, reduceLeDiff, reduceToNat]; exact rfl) (by simp only [go_sem, reduceIte, reduceCtorEq, reduceEqDiff, reduceAdd, reduceLT, reduceLeDiff, reduceToNat]; exact rfl) ?_ -- ret3
      refine ⟨_, ?_, rfl⟩
      first | (rw [hbad]; simp [leP, leL]; done) | (rw [hdone]; simp [leP, leL]; done)
end Go.Ab
namespace Go.Ab
open Go Go.Proofs.Try
open Nat (reduceEqDiff reduceAdd reduceLT reduceLeDiff reduceBEq reduceSub reduceMul)
open Int (reduceToNat)
set_option maxRecDepth 100000
set_option maxHeartbeats 3200000
set_option linter.unusedSimpArgs false
set_option linter.unusedVariables false
theorem nil_MX : (Array.size (#[] : Array UInt8) ≤ MX) = True := eq_true (Nat.zero_le _)
theorem grade_Graph (up : Bool) (g : Graph) (x : GStep) : PCall prog up 13 [.agg (eGraph g), .agg (eStep x)] (· = .tup [.agg (eGraph (gGrade g x).1), .int .i64 (gGrade g x).2]) := by
  cases hm : gMay g with
  | false => exact grade_Graph_bad up g x hm
  | true =>
    by_cases h0 : (gDo g.S x).1 = 0
    · exact grade_Graph_ok up g x hm h0
    · exact grade_Graph_err up g x hm h0
theorem aw13Graph (up : Bool) : PCall prog up 13 [.agg (eGraph aG), .agg (eStep aX)] (· = .tup [.agg (eGraph aG2), .int .i64 0]) := by
  have h := grade_Graph up aG aX
  rw [aG_grade] at h
  exact h
theorem aw13Between (up : Bool) : ∃ l : List GStep, l.length = 1 ∧ PCall prog up 22 [.agg (eSchema aS), .agg (eSchema aS2)] (· = .tup [.sl 5 (l.map eStep), .bool true]) := by
  have h := grade_Between up aS aS2
  rw [aS_btw.1] at h
  exact ⟨_, aS_btw.2, h⟩
theorem law13_awake (up : Bool) : PCall prog up 10 [] (· = .bool true) := by
  refine PCall.intro htt func10 (by kernel_rfl) rfl (Nat.le_of_ble_eq_true rfl) fun hl => ?_
  obtain ⟨l, hl1, hbt⟩ := aw13Between up
  simp only [tmps0, Nat.reduceAdd]
  refine CW.seq ?_
  refine CW.region (by kernel_rfl) (by kernel_rfl) ?_ -- r0
  refine CWops.run htt 1 (by simp only [go_sem, reduceIte, reduceCtorEq, reduceEqDiff, reduceAdd, reduceLT, reduceLeDiff, reduceToNat]; exact rfl) (by simp [go_sem, reduceIte, reduceCtorEq, reduceEqDiff, reduceAdd, reduceLT, reduceLeDiff, reduceToNat]) ?_
  refine CWops.done ?_
  refine CW.seq ?_
  refine CW.region (by kernel_rfl) (by kernel_rfl) ?_ -- r1
  refine CWops.run htt 1 (by simp only [go_sem, reduceIte, reduceCtorEq, reduceEqDiff, reduceAdd, reduceLT, reduceLeDiff, reduceToNat, one_MX, nil_MX]; exact rfl) (by simp [go_sem, reduceIte, reduceCtorEq, reduceEqDiff, reduceAdd, reduceLT, reduceLeDiff, reduceToNat, one_MX, nil_MX]) ?_
  refine CWops.run htt 1 (by simp only [go_sem, reduceIte, reduceCtorEq, reduceEqDiff, reduceAdd, reduceLT, reduceLeDiff, reduceToNat, List.replicate, one_MX, nil_MX]; exact rfl) (by simp [go_sem, reduceIte, reduceCtorEq, reduceEqDiff, reduceAdd, reduceLT, reduceLeDiff, reduceToNat]) ?_
  refine CWops.sh (Sh.frzT 8 0 (by simp only [go_sem, reduceIte, reduceCtorEq, reduceEqDiff, reduceAdd, reduceLT, reduceLeDiff, reduceToNat]) (by simp only [go_sem, reduceIte, reduceCtorEq, reduceEqDiff, reduceAdd, reduceLT, reduceLeDiff, reduceToNat]; first | done | exact rfl) rfl) ?_
  simp only [go_sem, reduceIte, reduceCtorEq, reduceEqDiff, reduceAdd, reduceLT, reduceLeDiff, reduceToNat, AV.freeze]
  refine CWops.run htt 1 (by simp only [go_sem, reduceIte, reduceCtorEq, reduceEqDiff, reduceAdd, reduceLT, reduceLeDiff, reduceToNat, one_MX, nil_MX]; exact rfl) (by simp [go_sem, reduceIte, reduceCtorEq, reduceEqDiff, reduceAdd, reduceLT, reduceLeDiff, reduceToNat, one_MX, nil_MX]) ?_
  refine CWops.run htt 1 (by simp only [go_sem, reduceIte, reduceCtorEq, reduceEqDiff, reduceAdd, reduceLT, reduceLeDiff, reduceToNat, List.replicate, one_MX, nil_MX]; exact rfl) (by simp [go_sem, reduceIte, reduceCtorEq, reduceEqDiff, reduceAdd, reduceLT, reduceLeDiff, reduceToNat]) ?_
  refine CWops.sh (Sh.frzT 10 1 (by simp only [go_sem, reduceIte, reduceCtorEq, reduceEqDiff, reduceAdd, reduceLT, reduceLeDiff, reduceToNat]) (by simp only [go_sem, reduceIte, reduceCtorEq, reduceEqDiff, reduceAdd, reduceLT, reduceLeDiff, reduceToNat]; first | done | exact rfl) rfl) ?_
  simp only [go_sem, reduceIte, reduceCtorEq, reduceEqDiff, reduceAdd, reduceLT, reduceLeDiff, reduceToNat, AV.freeze]
  refine CWops.run htt 3 (by simp only [go_sem, reduceIte, reduceCtorEq, reduceEqDiff, reduceAdd, reduceLT, reduceLeDiff, reduceToNat, one_MX, nil_MX]; exact rfl) (by simp [go_sem, reduceIte, reduceCtorEq, reduceEqDiff, reduceAdd, reduceLT, reduceLeDiff, reduceToNat, one_MX, nil_MX]) ?_
  refine CWops.done ?_
  refine CW.seq ?_
  refine CW.region (by kernel_rfl) (by kernel_rfl) ?_ -- r2
  refine CWops.run htt 2 (by simp only [go_sem, reduceIte, reduceCtorEq, reduceEqDiff, reduceAdd, reduceLT, reduceLeDiff, reduceToNat, one_MX, nil_MX]; exact rfl) (by simp [go_sem, reduceIte, reduceCtorEq, reduceEqDiff, reduceAdd, reduceLT, reduceLeDiff, reduceToNat, one_MX, nil_MX]) ?_
  refine CWops.run htt 1 (by simp only [go_sem, reduceIte, reduceCtorEq, reduceEqDiff, reduceAdd, reduceLT, reduceLeDiff, reduceToNat, List.replicate, one_MX, nil_MX]; exact rfl) (by simp [go_sem, reduceIte, reduceCtorEq, reduceEqDiff, reduceAdd, reduceLT, reduceLeDiff, reduceToNat]) ?_
  refine CWops.sh (Sh.frzT 14 3 (by simp only [go_sem, reduceIte, reduceCtorEq, reduceEqDiff, reduceAdd, reduceLT, reduceLeDiff, reduceToNat]) (by simp only [go_sem, reduceIte, reduceCtorEq, reduceEqDiff, reduceAdd, reduceLT, reduceLeDiff, reduceToNat]; first | done | exact rfl) rfl) ?_
  simp only [go_sem, reduceIte, reduceCtorEq, reduceEqDiff, reduceAdd, reduceLT, reduceLeDiff, reduceToNat, AV.freeze]
  refine CWops.run htt 1 (by simp only [go_sem, reduceIte, reduceCtorEq, reduceEqDiff, reduceAdd, reduceLT, reduceLeDiff, reduceToNat, one_MX, nil_MX]; exact rfl) (by simp [go_sem, reduceIte, reduceCtorEq, reduceEqDiff, reduceAdd, reduceLT, reduceLeDiff, reduceToNat, one_MX, nil_MX]) ?_
  refine CWops.run htt 1 (by simp only [go_sem, reduceIte, reduceCtorEq, reduceEqDiff, reduceAdd, reduceLT, reduceLeDiff, reduceToNat, List.replicate, one_MX, nil_MX]; exact rfl) (by simp [go_sem, reduceIte, reduceCtorEq, reduceEqDiff, reduceAdd, reduceLT, reduceLeDiff, reduceToNat]) ?_
  refine CWops.sh (Sh.frzT 16 4 (by simp only [go_sem, reduceIte, reduceCtorEq, reduceEqDiff, reduceAdd, reduceLT, reduceLeDiff, reduceToNat]) (by simp only [go_sem, reduceIte, reduceCtorEq, reduceEqDiff, reduceAdd, reduceLT, reduceLeDiff, reduceToNat]; first | done | exact rfl) rfl) ?_
  simp only [go_sem, reduceIte, reduceCtorEq, reduceEqDiff, reduceAdd, reduceLT, reduceLeDiff, reduceToNat, AV.freeze]
  refine CWops.run htt 3 (by simp only [go_sem, reduceIte, reduceCtorEq, reduceEqDiff, reduceAdd, reduceLT, reduceLeDiff, reduceToNat, one_MX, nil_MX]; exact rfl) (by simp [go_sem, reduceIte, reduceCtorEq, reduceEqDiff, reduceAdd, reduceLT, reduceLeDiff, reduceToNat, one_MX, nil_MX]) ?_
  refine CWops.done ?_
  refine CW.seq ?_
  refine CW.region (by kernel_rfl) (by kernel_rfl) ?_ -- r3
  refine CWops.run htt 3 (by simp only [go_sem, reduceIte, reduceCtorEq, reduceEqDiff, reduceAdd, reduceLT, reduceLeDiff, reduceToNat, one_MX, nil_MX, aG, aS, aX, aG2, aS2, eGraph, eSchema, eType, eField, eObj, eVal, eStep, List.map_cons, List.map_nil]; exact rfl) (by simp [go_sem, reduceIte, reduceCtorEq, reduceEqDiff, reduceAdd, reduceLT, reduceLeDiff, reduceToNat, one_MX, nil_MX, aG, aS, aX, aG2, aS2, eGraph, eSchema, eType, eField, eObj, eVal, eStep, List.map_cons, List.map_nil]) ?_
  refine CWops.callA (aw13Graph up) (by simp only [go_sem, reduceIte, reduceCtorEq, reduceEqDiff, reduceAdd, reduceLT, reduceLeDiff, reduceToNat, one_MX, nil_MX, aG, aS, aX, aG2, aS2, eGraph, eSchema, eType, eField, eObj, eVal, eStep, List.map_cons, List.map_nil]) (by simp only [go_sem, reduceIte, reduceCtorEq, reduceEqDiff, reduceAdd, reduceLT, reduceLeDiff, reduceToNat, one_MX, nil_MX, aG, aS, aX, aG2, aS2, eGraph, eSchema, eType, eField, eObj, eVal, eStep, List.map_cons, List.map_nil]; first | done | exact rfl) (by simp only [go_sem, reduceIte, reduceCtorEq, reduceEqDiff, reduceAdd, reduceLT, reduceLeDiff, reduceToNat, one_MX, nil_MX, aG, aS, aX, aG2, aS2, eGraph, eSchema, eType, eField, eObj, eVal, eStep, List.map_cons, List.map_nil]) (by simp only [go_sem, reduceIte, reduceCtorEq, reduceEqDiff, reduceAdd, reduceLT, reduceLeDiff, reduceToNat, one_MX, nil_MX, aG, aS, aX, aG2, aS2, eGraph, eSchema, eType, eField, eObj, eVal, eStep, List.map_cons, List.map_nil]) (fun rt22 hrt22 => ?_)
  subst hrt22
  refine CWops.run htt 6 (by simp only [go_sem, reduceIte, reduceCtorEq, reduceEqDiff, reduceAdd, reduceLT, reduceLeDiff, reduceToNat, one_MX, nil_MX, aG, aS, aX, aG2, aS2, eGraph, eSchema, eType, eField, eObj, eVal, eStep, List.map_cons, List.map_nil]; exact rfl) (by simp [go_sem, reduceIte, reduceCtorEq, reduceEqDiff, reduceAdd, reduceLT, reduceLeDiff, reduceToNat, one_MX, nil_MX, aG, aS, aX, aG2, aS2, eGraph, eSchema, eType, eField, eObj, eVal, eStep, List.map_cons, List.map_nil]) ?_
  refine CWops.done ?_
  refine CW.seq ?_
  refine CW.region (by kernel_rfl) (by kernel_rfl) ?_ -- r4
  refine CWops.run htt 3 (by simp only [go_sem, reduceIte, reduceCtorEq, reduceEqDiff, reduceAdd, reduceLT, reduceLeDiff, reduceToNat, one_MX, nil_MX, aG, aS, aX, aG2, aS2, eGraph, eSchema, eType, eField, eObj, eVal, eStep, List.map_cons, List.map_nil]; exact rfl) (by simp [go_sem, reduceIte, reduceCtorEq, reduceEqDiff, reduceAdd, reduceLT, reduceLeDiff, reduceToNat, one_MX, nil_MX, aG, aS, aX, aG2, aS2, eGraph, eSchema, eType, eField, eObj, eVal, eStep, List.map_cons, List.map_nil]) ?_
  refine CWops.callA (hbt) (by simp only [go_sem, reduceIte, reduceCtorEq, reduceEqDiff, reduceAdd, reduceLT, reduceLeDiff, reduceToNat, one_MX, nil_MX, aG, aS, aX, aG2, aS2, eGraph, eSchema, eType, eField, eObj, eVal, eStep, List.map_cons, List.map_nil]) (by simp only [go_sem, reduceIte, reduceCtorEq, reduceEqDiff, reduceAdd, reduceLT, reduceLeDiff, reduceToNat, one_MX, nil_MX, aG, aS, aX, aG2, aS2, eGraph, eSchema, eType, eField, eObj, eVal, eStep, List.map_cons, List.map_nil]; first | done | exact rfl) (by simp only [go_sem, reduceIte, reduceCtorEq, reduceEqDiff, reduceAdd, reduceLT, reduceLeDiff, reduceToNat, one_MX, nil_MX, aG, aS, aX, aG2, aS2, eGraph, eSchema, eType, eField, eObj, eVal, eStep, List.map_cons, List.map_nil]) (by simp only [go_sem, reduceIte, reduceCtorEq, reduceEqDiff, reduceAdd, reduceLT, reduceLeDiff, reduceToNat, one_MX, nil_MX, aG, aS, aX, aG2, aS2, eGraph, eSchema, eType, eField, eObj, eVal, eStep, List.map_cons, List.map_nil]) (fun rt29 hrt29 => ?_)
  subst hrt29
  refine CWops.run htt 5 (by simp only [go_sem, reduceIte, reduceCtorEq, reduceEqDiff, reduceAdd, reduceLT, reduceLeDiff, reduceToNat, one_MX, nil_MX, aG, aS, aX, aG2, aS2, eGraph, eSchema, eType, eField, eObj, eVal, eStep, List.map_cons, List.map_nil]; exact rfl) (by simp [go_sem, reduceIte, reduceCtorEq, reduceEqDiff, reduceAdd, reduceLT, reduceLeDiff, reduceToNat, one_MX, nil_MX, aG, aS, aX, aG2, aS2, eGraph, eSchema, eType, eField, eObj, eVal, eStep, List.map_cons, List.map_nil]) ?_
  refine CWops.done ?_
  refine CW.seq ?_
  refine CW.region (by kernel_rfl) (by kernel_rfl) ?_ -- r5
  refine CWops.run htt 3 (by simp only [go_sem, reduceIte, reduceCtorEq, reduceEqDiff, reduceAdd, reduceLT, reduceLeDiff, reduceToNat, one_MX, nil_MX, aG, aS, aX, aG2, aS2, eGraph, eSchema, eType, eField, eObj, eVal, eStep, List.map_cons, List.map_nil, hl1, List.getElem?_cons_zero, List.length_cons, List.length_nil]; exact rfl) (by simp [go_sem, reduceIte, reduceCtorEq, reduceEqDiff, reduceAdd, reduceLT, reduceLeDiff, reduceToNat, one_MX, nil_MX, aG, aS, aX, aG2, aS2, eGraph, eSchema, eType, eField, eObj, eVal, eStep, List.map_cons, List.map_nil, hl1, List.getElem?_cons_zero, List.length_cons, List.length_nil]) ?_
  all_goals (first | refine CWops.guard 34 (by simp only [go_sem, reduceIte, reduceCtorEq, reduceEqDiff, reduceAdd, reduceLT, reduceLeDiff, reduceToNat, one_MX, nil_MX, aG, aS, aX, aG2, aS2, eGraph, eSchema, eType, eField, eObj, eVal, eStep, List.map_cons, List.map_nil, hl1, List.getElem?_cons_zero, List.length_cons, List.length_nil]; exact rfl) (fun g34 => ?_) (fun g34 => ?_) | skip)
  all_goals (first | (simp at g34; done) | (cases g34; done) | skip)
  all_goals (refine CWops.run htt 6 (by simp only [go_sem, reduceIte, reduceCtorEq, reduceEqDiff, reduceAdd, reduceLT, reduceLeDiff, reduceToNat, one_MX, nil_MX, aG, aS, aX, aG2, aS2, eGraph, eSchema, eType, eField, eObj, eVal, eStep, List.map_cons, List.map_nil, hl1, List.getElem?_cons_zero, List.length_cons, List.length_nil]; exact rfl) (by simp [go_sem, reduceIte, reduceCtorEq, reduceEqDiff, reduceAdd, reduceLT, reduceLeDiff, reduceToNat, one_MX, nil_MX, aG, aS, aX, aG2, aS2, eGraph, eSchema, eType, eField, eObj, eVal, eStep, List.map_cons, List.map_nil, hl1, List.getElem?_cons_zero, List.length_cons, List.length_nil]) ?_)
  all_goals (first | refine CWops.guard 40 (by simp only [go_sem, reduceIte, reduceCtorEq, reduceEqDiff, reduceAdd, reduceLT, reduceLeDiff, reduceToNat, one_MX, nil_MX, aG, aS, aX, aG2, aS2, eGraph, eSchema, eType, eField, eObj, eVal, eStep, List.map_cons, List.map_nil, hl1, List.getElem?_cons_zero, List.length_cons, List.length_nil]; exact rfl) (fun g40 => ?_) (fun g40 => ?_) | skip)
  all_goals (first | (simp at g40; done) | (cases g40; done) | skip)
  all_goals (refine CWops.run htt 11 (by simp only [go_sem, reduceIte, reduceCtorEq, reduceEqDiff, reduceAdd, reduceLT, reduceLeDiff, reduceToNat, one_MX, nil_MX, aG, aS, aX, aG2, aS2, eGraph, eSchema, eType, eField, eObj, eVal, eStep, List.map_cons, List.map_nil, hl1, List.getElem?_cons_zero, List.length_cons, List.length_nil]; exact rfl) (by simp [go_sem, reduceIte, reduceCtorEq, reduceEqDiff, reduceAdd, reduceLT, reduceLeDiff, reduceToNat, one_MX, nil_MX, aG, aS, aX, aG2, aS2, eGraph, eSchema, eType, eField, eObj, eVal, eStep, List.map_cons, List.map_nil, hl1, List.getElem?_cons_zero, List.length_cons, List.length_nil]) ?_)
  all_goals (first | refine CWops.guard 51 (by simp only [go_sem, reduceIte, reduceCtorEq, reduceEqDiff, reduceAdd, reduceLT, reduceLeDiff, reduceToNat, one_MX, nil_MX, aG, aS, aX, aG2, aS2, eGraph, eSchema, eType, eField, eObj, eVal, eStep, List.map_cons, List.map_nil, hl1, List.getElem?_cons_zero, List.length_cons, List.length_nil]; exact rfl) (fun g51 => ?_) (fun g51 => ?_) | skip)
  all_goals (first | (simp at g51; done) | (cases g51; done) | skip)
  all_goals (refine CWops.run htt 12 (by simp only [go_sem, reduceIte, reduceCtorEq, reduceEqDiff, reduceAdd, reduceLT, reduceLeDiff, reduceToNat, one_MX, nil_MX, aG, aS, aX, aG2, aS2, eGraph, eSchema, eType, eField, eObj, eVal, eStep, List.map_cons, List.map_nil, hl1, List.getElem?_cons_zero, List.length_cons, List.length_nil]; exact rfl) (by simp [go_sem, reduceIte, reduceCtorEq, reduceEqDiff, reduceAdd, reduceLT, reduceLeDiff, reduceToNat, one_MX, nil_MX, aG, aS, aX, aG2, aS2, eGraph, eSchema, eType, eField, eObj, eVal, eStep, List.map_cons, List.map_nil, hl1, List.getElem?_cons_zero, List.length_cons, List.length_nil]) ?_)
  all_goals (first | refine CWops.guard 63 (by simp only [go_sem, reduceIte, reduceCtorEq, reduceEqDiff, reduceAdd, reduceLT, reduceLeDiff, reduceToNat, one_MX, nil_MX, aG, aS, aX, aG2, aS2, eGraph, eSchema, eType, eField, eObj, eVal, eStep, List.map_cons, List.map_nil, hl1, List.getElem?_cons_zero, List.length_cons, List.length_nil]; exact rfl) (fun g63 => ?_) (fun g63 => ?_) | skip)
  all_goals (first | (simp at g63; done) | (cases g63; done) | skip)
  all_goals (refine CWops.run htt 3 (by simp only [go_sem, reduceIte, reduceCtorEq, reduceEqDiff, reduceAdd, reduceLT, reduceLeDiff, reduceToNat, one_MX, nil_MX, aG, aS, aX, aG2, aS2, eGraph, eSchema, eType, eField, eObj, eVal, eStep, List.map_cons, List.map_nil, hl1, List.getElem?_cons_zero, List.length_cons, List.length_nil]; exact rfl) (by simp [go_sem, reduceIte, reduceCtorEq, reduceEqDiff, reduceAdd, reduceLT, reduceLeDiff, reduceToNat, one_MX, nil_MX, aG, aS, aX, aG2, aS2, eGraph, eSchema, eType, eField, eObj, eVal, eStep, List.map_cons, List.map_nil, hl1, List.getElem?_cons_zero, List.length_cons, List.length_nil]) ?_)
  all_goals (first | refine CWops.guard 66 (by simp only [go_sem, reduceIte, reduceCtorEq, reduceEqDiff, reduceAdd, reduceLT, reduceLeDiff, reduceToNat, one_MX, nil_MX, aG, aS, aX, aG2, aS2, eGraph, eSchema, eType, eField, eObj, eVal, eStep, List.map_cons, List.map_nil, hl1, List.getElem?_cons_zero, List.length_cons, List.length_nil]; exact rfl) (fun g66 => ?_) (fun g66 => ?_) | skip)
  all_goals (first | (simp at g66; done) | (cases g66; done) | skip)
  all_goals (refine CWops.run htt 5 (by simp only [go_sem, reduceIte, reduceCtorEq, reduceEqDiff, reduceAdd, reduceLT, reduceLeDiff, reduceToNat, one_MX, nil_MX, aG, aS, aX, aG2, aS2, eGraph, eSchema, eType, eField, eObj, eVal, eStep, List.map_cons, List.map_nil, hl1, List.getElem?_cons_zero, List.length_cons, List.length_nil]; exact rfl) (by simp [go_sem, reduceIte, reduceCtorEq, reduceEqDiff, reduceAdd, reduceLT, reduceLeDiff, reduceToNat, one_MX, nil_MX, aG, aS, aX, aG2, aS2, eGraph, eSchema, eType, eField, eObj, eVal, eStep, List.map_cons, List.map_nil, hl1, List.getElem?_cons_zero, List.length_cons, List.length_nil]) ?_)
  all_goals (refine CWops.done ?_)
  all_goals (
    refine CW.ret ?_
    refine retQ.ret (by simp only [f10, go_sem, reduceIte, reduceCtorEq, reduceEqDiff, reduceAdd, reduceLT, reduceLeDiff, reduceToNat]; exact rfl) (by simp only [go_sem, reduceIte, reduceCtorEq, reduceEqDiff, reduceAdd, reduceLT, reduceLeDiff, reduceToNat]; exact rfl) ?_ -- ret1
    refine ⟨_, ?_, rfl⟩
    first | (simp [leP]; done) | (simp_all [leP]; done))
end Go.Ab
namespace Go.Ab
open Go Go.Proofs.Try
open Nat (reduceEqDiff reduceAdd reduceLT reduceLeDiff reduceBEq reduceSub reduceMul)
open Int (reduceToNat)
set_option maxRecDepth 100000
set_option maxHeartbeats 3200000
set_option linter.unusedSimpArgs false
set_option linter.unusedVariables false
theorem grade_ownP (up : Bool) (s : List GType) (h1 : s.length * 40 ≤ MX) (h2 : ∀ x ∈ s, x.F.length * 40 ≤ MX) : PCall prog up 89 [.agg (eSchema s)] (· = .agg (eSchema s)) := by
  refine PCall.intro htt func89 (by kernel_rfl) rfl (Nat.le_of_ble_eq_true rfl) fun hl => ?_
  have hb : s.length ≤ MX := by omega
  simp only [tmps0, Nat.reduceAdd]
  refine CW.seq ?_
  refine CW.region (by kernel_rfl) (by kernel_rfl) ?_ -- r0
  refine CWops.run htt 2 (by simp only [go_sem, reduceIte, reduceCtorEq, reduceEqDiff, reduceAdd, reduceLT, reduceLeDiff, reduceToNat, eSchema]; exact rfl) (by simp [go_sem, reduceIte, reduceCtorEq, reduceEqDiff, reduceAdd, reduceLT, reduceLeDiff, reduceToNat, eSchema]) ?_
  refine CWops.done ?_
  refine CW.seq ?_
  refine CW.region (by kernel_rfl) (by kernel_rfl) ?_ -- r1
  refine CWops.run htt 2 (by simp only [go_sem, reduceIte, reduceCtorEq, reduceEqDiff, reduceAdd, reduceLT, reduceLeDiff, reduceToNat, eSchema]; exact rfl) (by simp [go_sem, reduceIte, reduceCtorEq, reduceEqDiff, reduceAdd, reduceLT, reduceLeDiff, reduceToNat, eSchema]) ?_
  refine CWops.callG [] rfl (clone_TypeG up s h1) (by simp only [go_sem, reduceIte, reduceCtorEq, reduceEqDiff, reduceAdd, reduceLT, reduceLeDiff, reduceToNat]) (by simp only [go_sem, reduceIte, reduceCtorEq, reduceEqDiff, reduceAdd, reduceLT, reduceLeDiff, reduceToNat]; first | done | exact rfl) (by decide) (by simp [go_sem, reduceIte, reduceCtorEq, reduceEqDiff, reduceAdd, reduceLT, reduceLeDiff, reduceToNat, mName, memB]) (by simp [go_sem, reduceIte, reduceCtorEq, reduceEqDiff, reduceAdd, reduceLT, reduceLeDiff, reduceToNat, mName]) (by simp [go_sem, reduceIte, reduceCtorEq, reduceEqDiff, reduceAdd, reduceLT, reduceLeDiff, reduceToNat]) (by simp [go_sem, reduceIte, reduceCtorEq, reduceEqDiff, reduceAdd, reduceLT, reduceLeDiff, reduceToNat]) (by simp [go_sem, reduceIte, reduceCtorEq, reduceEqDiff, reduceAdd, reduceLT, reduceLeDiff, reduceToNat, mName]) (fun r σ' hσ => ?_)
  obtain ⟨σn, σt, σs⟩ := σ'
  simp only at hσ
  obtain ⟨rfl, rfl, rfl⟩ := hσ
  simp only [aftS, renS, delAll, memB, mName, List.getD_nil, killH, kref, ren, Nat.beq_eq, go_sem, reduceIte, reduceCtorEq, reduceEqDiff, reduceAdd, reduceLT, reduceLeDiff, reduceToNat]
  refine CWops.run htt 2 (by simp only [go_sem, reduceIte, reduceCtorEq, reduceEqDiff, reduceAdd, reduceLT, reduceLeDiff, reduceToNat, eSchema]; exact rfl) (by simp [go_sem, reduceIte, reduceCtorEq, reduceEqDiff, reduceAdd, reduceLT, reduceLeDiff, reduceToNat, eSchema]) ?_
  refine CWops.done ?_
  refine CW.seq ?_
  refine CW.seq ?_
  refine CW.region (by kernel_rfl) (by kernel_rfl) ?_ -- r2
  refine CWops.run htt 4 (by simp only [go_sem, reduceIte, reduceCtorEq, reduceEqDiff, reduceAdd, reduceLT, reduceLeDiff, reduceToNat]; exact rfl) (by simp [go_sem, reduceIte, reduceCtorEq, reduceEqDiff, reduceAdd, reduceLT, reduceLeDiff, reduceToNat]) ?_
  refine CWops.done ?_
  refine CW.block ?_
  refine CW.loop (S := Nat) (fun i => ⟨2, [(1, .lv 0 [] 0), (2, .lv 1 [] 0), (10, .ref 0 [] 0), (11, .int .i64 s.length), (12, .int .i64 i)], [(0, ⟨true, [.own 2 (s.map eType)]⟩), (1, ⟨true, [.nilsl]⟩)]⟩) (fun i => i ≤ s.length) (fun i => s.length - i) (0) ?_ (Nat.zero_le _) (fun i h3 => ?_)
  · refine Sh.wk0 ?_; simp [Wk, go_sem, reduceIte, reduceCtorEq, reduceEqDiff, reduceAdd, reduceLT, reduceLeDiff, reduceToNat]
  refine CW.seq ?_
  refine CW.region (by kernel_rfl) (by kernel_rfl) ?_ -- r3
  refine CWops.run htt 1 (by simp only [go_sem, reduceIte, reduceCtorEq, reduceEqDiff, reduceAdd, reduceLT, reduceLeDiff, reduceToNat]; exact rfl) (by simp [go_sem, reduceIte, reduceCtorEq, reduceEqDiff, reduceAdd, reduceLT, reduceLeDiff, reduceToNat]) ?_
  refine CWops.done ?_
  refine CW.seq ?_
  refine CW.cond (by simp only [go_sem, reduceIte, reduceCtorEq, reduceEqDiff, reduceAdd, reduceLT, reduceLeDiff, reduceToNat]; first | done | exact rfl) (fun ct13 => ?_) (fun ct13 => ?_)
  · have hi : i < s.length := by simpa using ct13
    obtain ⟨x, hx⟩ : ∃ x, s[i]? = some x := ⟨s[i], List.getElem?_eq_getElem hi⟩
    refine CW.skip ?_
    refine CW.seq ?_
    refine CW.block ?_
    refine CW.seq ?_
    refine CW.region (by kernel_rfl) (by kernel_rfl) ?_ -- r4
    refine CWops.run htt 6 (by simp only [go_sem, reduceIte, reduceCtorEq, reduceEqDiff, reduceAdd, reduceLT, reduceLeDiff, reduceToNat, hi, hx, eType]; exact rfl) (by simp [go_sem, reduceIte, reduceCtorEq, reduceEqDiff, reduceAdd, reduceLT, reduceLeDiff, reduceToNat, hi, hx, eType]) ?_
    refine CWops.done ?_
    refine CW.drawn mixed 6 (by decide) (by kernel_rfl) (by kernel_rfl) (by kernel_rfl) ?_ -- r5
    refine Seg.run htt 5 (by simp only [go_sem, reduceIte, reduceCtorEq, reduceEqDiff, reduceAdd, reduceLT, reduceLeDiff, reduceToNat, hi, hx, eType]; exact rfl) ?_
    refine Seg.callA (clone_Field up x.F (h2 x (List.mem_of_getElem? hx))) (by simp only [go_sem, reduceIte, reduceCtorEq, reduceEqDiff, reduceAdd, reduceLT, reduceLeDiff, reduceToNat, hi, hx, eType]) (by simp only [go_sem, reduceIte, reduceCtorEq, reduceEqDiff, reduceAdd, reduceLT, reduceLeDiff, reduceToNat, hi, hx, eType]; first | done | exact rfl) (by simp only [go_sem, reduceIte, reduceCtorEq, reduceEqDiff, reduceAdd, reduceLT, reduceLeDiff, reduceToNat, hi, hx, eType]) (by simp only [go_sem, reduceIte, reduceCtorEq, reduceEqDiff, reduceAdd, reduceLT, reduceLeDiff, reduceToNat, hi, hx, eType]) ?_
    refine Seg.done ?_
    refine CWops.run htt 3 (by simp only [go_sem, reduceIte, reduceCtorEq, reduceEqDiff, reduceAdd, reduceLT, reduceLeDiff, reduceToNat, hi, hx, eType]; exact rfl) (by simp [go_sem, reduceIte, reduceCtorEq, reduceEqDiff, reduceAdd, reduceLT, reduceLeDiff, reduceToNat, hi, hx, eType]) ?_
    refine CWops.done ?_
    refine CW.region (by kernel_rfl) (by kernel_rfl) ?_ -- r6
    refine CWops.run htt 2 (by simp only [go_sem, reduceIte, reduceCtorEq, reduceEqDiff, reduceAdd, reduceLT, reduceLeDiff, reduceToNat, wrap_succ (Nat.lt_of_lt_of_le hi hb)]; exact rfl) (by simp [go_sem, reduceIte, reduceCtorEq, reduceEqDiff, reduceAdd, reduceLT, reduceLeDiff, reduceToNat, wrap_succ (Nat.lt_of_lt_of_le hi hb)]) ?_
    refine CWops.done ?_
    refine ⟨i + 1, ?_, ?_, ?_⟩
    · refine Sh.wk0 ?_
      have hss : (s.map eType).set i [.str x.Name, .sl 3 (x.F.map eField)] = s.map eType := set_same (by rw [List.getElem?_map, hx]; rfl)
      simp [Wk, go_sem, reduceIte, reduceCtorEq, reduceEqDiff, reduceAdd, reduceLT, reduceLeDiff, reduceToNat, hss]
    · exact hi
    · simp only; omega
  · have hi : i = s.length := by simp at ct13; omega
    refine CW.exit ?_
    refine CW.seq ?_
    refine CW.region (by kernel_rfl) (by kernel_rfl) ?_ -- r7
    refine CWops.run htt 2 (by simp only [go_sem, reduceIte, reduceCtorEq, reduceEqDiff, reduceAdd, reduceLT, reduceLeDiff, reduceToNat]; exact rfl) (by simp [go_sem, reduceIte, reduceCtorEq, reduceEqDiff, reduceAdd, reduceLT, reduceLeDiff, reduceToNat]) ?_
    refine CWops.done ?_
    refine CW.ret ?_
    refine retQ.ret (by simp only [f89, go_sem, reduceIte, reduceCtorEq, reduceEqDiff, reduceAdd, reduceLT, reduceLeDiff, reduceToNat]; exact rfl) (by simp only [go_sem, reduceIte, reduceCtorEq, reduceEqDiff, reduceAdd, reduceLT, reduceLeDiff, reduceToNat]; exact rfl) ?_ -- ret1
    refine ⟨_, ?_, rfl⟩
    simp [leP, leL, eSchema, frz_Type]
theorem grade_copied (up : Bool) (g : Graph) (hz : GSz g) : PCall prog up 57 [.agg (eGraph g)] (· = .agg (eGraph g)) := by
  refine PCall.intro htt func57 (by kernel_rfl) rfl (Nat.le_of_ble_eq_true rfl) fun hl => ?_
  have hb2 : g.O.length ≤ MX := by have := hz.o; omega
  simp only [tmps0, Nat.reduceAdd]
  refine CW.seq ?_
  refine CW.region (by kernel_rfl) (by kernel_rfl) ?_ -- r0
  refine CWops.run htt 2 (by simp only [go_sem, reduceIte, reduceCtorEq, reduceEqDiff, reduceAdd, reduceLT, reduceLeDiff, reduceToNat, eGraph]; exact rfl) (by simp [go_sem, reduceIte, reduceCtorEq, reduceEqDiff, reduceAdd, reduceLT, reduceLeDiff, reduceToNat, eGraph]) ?_
  refine CWops.done ?_
  refine CW.seq ?_
  refine CW.drawn mixed 10 (by decide) (by kernel_rfl) (by kernel_rfl) (by kernel_rfl) ?_ -- r1
  refine Seg.run htt 2 (by simp only [go_sem, reduceIte, reduceCtorEq, reduceEqDiff, reduceAdd, reduceLT, reduceLeDiff, reduceToNat, eGraph, eSchema]; exact rfl) ?_
  refine Seg.callA (grade_ownP up g.S hz.s hz.sf) (by simp only [go_sem, reduceIte, reduceCtorEq, reduceEqDiff, reduceAdd, reduceLT, reduceLeDiff, reduceToNat, eGraph, eSchema]) (by simp only [go_sem, reduceIte, reduceCtorEq, reduceEqDiff, reduceAdd, reduceLT, reduceLeDiff, reduceToNat, eGraph, eSchema]; first | done | exact rfl) (by simp only [go_sem, reduceIte, reduceCtorEq, reduceEqDiff, reduceAdd, reduceLT, reduceLeDiff, reduceToNat, eGraph, eSchema]) (by simp only [go_sem, reduceIte, reduceCtorEq, reduceEqDiff, reduceAdd, reduceLT, reduceLeDiff, reduceToNat, eGraph, eSchema]) ?_
  refine Seg.run htt 2 (by simp only [go_sem, reduceIte, reduceCtorEq, reduceEqDiff, reduceAdd, reduceLT, reduceLeDiff, reduceToNat, eGraph, eSchema]; exact rfl) ?_
  refine Seg.callN (clone_ObjG up g.O hz.o) (by simp only [go_sem, reduceIte, reduceCtorEq, reduceEqDiff, reduceAdd, reduceLT, reduceLeDiff, reduceToNat]) (by simp only [go_sem, reduceIte, reduceCtorEq, reduceEqDiff, reduceAdd, reduceLT, reduceLeDiff, reduceToNat]; first | done | exact rfl) (by simp [go_sem, reduceIte, reduceCtorEq, reduceEqDiff, reduceAdd, reduceLT, reduceLeDiff, reduceToNat]) ?_
  refine Seg.run htt 2 (by simp only [go_sem, reduceIte, reduceCtorEq, reduceEqDiff, reduceAdd, reduceLT, reduceLeDiff, reduceToNat, eGraph, eSchema]; exact rfl) ?_
  refine Seg.callA (clone_Int up g.Roots hz.r) (by simp only [go_sem, reduceIte, reduceCtorEq, reduceEqDiff, reduceAdd, reduceLT, reduceLeDiff, reduceToNat, eGraph, eSchema]) (by simp only [go_sem, reduceIte, reduceCtorEq, reduceEqDiff, reduceAdd, reduceLT, reduceLeDiff, reduceToNat, eGraph, eSchema]; first | done | exact rfl) (by simp only [go_sem, reduceIte, reduceCtorEq, reduceEqDiff, reduceAdd, reduceLT, reduceLeDiff, reduceToNat, eGraph, eSchema]) (by simp only [go_sem, reduceIte, reduceCtorEq, reduceEqDiff, reduceAdd, reduceLT, reduceLeDiff, reduceToNat, eGraph, eSchema]) ?_
  refine Seg.run htt 1 (by simp only [go_sem, reduceIte, reduceCtorEq, reduceEqDiff, reduceAdd, reduceLT, reduceLeDiff, reduceToNat, eGraph, eSchema]; exact rfl) ?_
  refine Seg.done ?_
  refine CWops.run htt 5 (by simp only [go_sem, reduceIte, reduceCtorEq, reduceEqDiff, reduceAdd, reduceLT, reduceLeDiff, reduceToNat, eGraph, eSchema]; exact rfl) (by simp [go_sem, reduceIte, reduceCtorEq, reduceEqDiff, reduceAdd, reduceLT, reduceLeDiff, reduceToNat, eGraph, eSchema]) ?_
  refine CWops.done ?_
  refine CW.seq ?_
  refine CW.seq ?_
  refine CW.region (by kernel_rfl) (by kernel_rfl) ?_ -- r2
  refine CWops.run htt 4 (by simp only [go_sem, reduceIte, reduceCtorEq, reduceEqDiff, reduceAdd, reduceLT, reduceLeDiff, reduceToNat]; exact rfl) (by simp [go_sem, reduceIte, reduceCtorEq, reduceEqDiff, reduceAdd, reduceLT, reduceLeDiff, reduceToNat]) ?_
  refine CWops.done ?_
  refine CW.block ?_
  refine CW.loop (S := Nat) (fun i => ⟨2, [(1, .lv 0 [] 0), (2, .lv 1 [] 0), (18, .ref 0 [] 1), (19, .int .i64 g.O.length), (20, .int .i64 i)], [(0, ⟨true, [.sl 2 (g.S.map eType), .own 3 (g.O.map eObj), .sl 1 (g.Roots.map eI)]⟩), (1, ⟨true, [.nilsl, .nilsl, .nilsl]⟩)]⟩) (fun i => i ≤ g.O.length) (fun i => g.O.length - i) (0) ?_ (Nat.zero_le _) (fun i h3 => ?_)
  · refine Sh.wk0 ?_; simp [Wk, go_sem, reduceIte, reduceCtorEq, reduceEqDiff, reduceAdd, reduceLT, reduceLeDiff, reduceToNat, eSchema]
  refine CW.seq ?_
  refine CW.region (by kernel_rfl) (by kernel_rfl) ?_ -- r3
  refine CWops.run htt 1 (by simp only [go_sem, reduceIte, reduceCtorEq, reduceEqDiff, reduceAdd, reduceLT, reduceLeDiff, reduceToNat]; exact rfl) (by simp [go_sem, reduceIte, reduceCtorEq, reduceEqDiff, reduceAdd, reduceLT, reduceLeDiff, reduceToNat]) ?_
  refine CWops.done ?_
  refine CW.seq ?_
  refine CW.cond (by simp only [go_sem, reduceIte, reduceCtorEq, reduceEqDiff, reduceAdd, reduceLT, reduceLeDiff, reduceToNat]; first | done | exact rfl) (fun ct21 => ?_) (fun ct21 => ?_)
  · have hi : i < g.O.length := by simpa using ct21
    obtain ⟨x, hx⟩ : ∃ x, g.O[i]? = some x := ⟨g.O[i], List.getElem?_eq_getElem hi⟩
    refine CW.skip ?_
    refine CW.seq ?_
    refine CW.block ?_
    refine CW.seq ?_
    refine CW.region (by kernel_rfl) (by kernel_rfl) ?_ -- r4
    refine CWops.run htt 6 (by simp only [go_sem, reduceIte, reduceCtorEq, reduceEqDiff, reduceAdd, reduceLT, reduceLeDiff, reduceToNat, hi, hx, eObj]; exact rfl) (by simp [go_sem, reduceIte, reduceCtorEq, reduceEqDiff, reduceAdd, reduceLT, reduceLeDiff, reduceToNat, hi, hx, eObj]) ?_
    refine CWops.done ?_
    refine CW.drawn mixed 6 (by decide) (by kernel_rfl) (by kernel_rfl) (by kernel_rfl) ?_ -- r5
    refine Seg.run htt 5 (by simp only [go_sem, reduceIte, reduceCtorEq, reduceEqDiff, reduceAdd, reduceLT, reduceLeDiff, reduceToNat, hi, hx, eObj]; exact rfl) ?_
    refine Seg.callA (clone_Val up x.F (hz.of_ x (List.mem_of_getElem? hx))) (by simp only [go_sem, reduceIte, reduceCtorEq, reduceEqDiff, reduceAdd, reduceLT, reduceLeDiff, reduceToNat, hi, hx, eObj]) (by simp only [go_sem, reduceIte, reduceCtorEq, reduceEqDiff, reduceAdd, reduceLT, reduceLeDiff, reduceToNat, hi, hx, eObj]; first | done | exact rfl) (by simp only [go_sem, reduceIte, reduceCtorEq, reduceEqDiff, reduceAdd, reduceLT, reduceLeDiff, reduceToNat, hi, hx, eObj]) (by simp only [go_sem, reduceIte, reduceCtorEq, reduceEqDiff, reduceAdd, reduceLT, reduceLeDiff, reduceToNat, hi, hx, eObj]) ?_
    refine Seg.done ?_
    refine CWops.run htt 3 (by simp only [go_sem, reduceIte, reduceCtorEq, reduceEqDiff, reduceAdd, reduceLT, reduceLeDiff, reduceToNat, hi, hx, eObj]; exact rfl) (by simp [go_sem, reduceIte, reduceCtorEq, reduceEqDiff, reduceAdd, reduceLT, reduceLeDiff, reduceToNat, hi, hx, eObj]) ?_
    refine CWops.done ?_
    refine CW.region (by kernel_rfl) (by kernel_rfl) ?_ -- r6
    refine CWops.run htt 2 (by simp only [go_sem, reduceIte, reduceCtorEq, reduceEqDiff, reduceAdd, reduceLT, reduceLeDiff, reduceToNat, wrap_succ (Nat.lt_of_lt_of_le hi hb2)]; exact rfl) (by simp [go_sem, reduceIte, reduceCtorEq, reduceEqDiff, reduceAdd, reduceLT, reduceLeDiff, reduceToNat, wrap_succ (Nat.lt_of_lt_of_le hi hb2)]) ?_
    refine CWops.done ?_
    refine ⟨i + 1, ?_, ?_, ?_⟩
    · refine Sh.wk0 ?_
      have hss : (g.O.map eObj).set i [.int .i64 x.Id, .int .i64 x.T, .sl 3 (x.F.map eVal)] = g.O.map eObj := set_same (by rw [List.getElem?_map, hx]; rfl)
      simp [Wk, go_sem, reduceIte, reduceCtorEq, reduceEqDiff, reduceAdd, reduceLT, reduceLeDiff, reduceToNat, hss]
    · exact hi
    · simp only; omega
  · have hi : i = g.O.length := by simp at ct21; omega
    refine CW.exit ?_
    refine CW.seq ?_
    refine CW.region (by kernel_rfl) (by kernel_rfl) ?_ -- r7
    refine CWops.run htt 2 (by simp only [go_sem, reduceIte, reduceCtorEq, reduceEqDiff, reduceAdd, reduceLT, reduceLeDiff, reduceToNat]; exact rfl) (by simp [go_sem, reduceIte, reduceCtorEq, reduceEqDiff, reduceAdd, reduceLT, reduceLeDiff, reduceToNat]) ?_
    refine CWops.done ?_
    refine CW.ret ?_
    refine retQ.ret (by simp only [f57, go_sem, reduceIte, reduceCtorEq, reduceEqDiff, reduceAdd, reduceLT, reduceLeDiff, reduceToNat]; exact rfl) (by simp only [go_sem, reduceIte, reduceCtorEq, reduceEqDiff, reduceAdd, reduceLT, reduceLeDiff, reduceToNat]; exact rfl) ?_ -- ret1
    refine ⟨_, ?_, rfl⟩
    simp [leP, leL, eGraph, frz_Obj]
theorem grade_All (up : Bool) (g : Graph) (l : List GStep) : PCall prog up 20 [.agg (eGraph g), .sl 5 (l.map eStep)] (· = .tup [.agg (eGraph (gAll g l).1), .int .i64 (gAll g l).2]) := by
  refine PCall.intro htt func20 (by kernel_rfl) rfl (Nat.le_of_ble_eq_true rfl) fun hl => ?_

  simp only [tmps0, Nat.reduceAdd]
  refine CW.seq ?_
  refine CW.region (by kernel_rfl) (by kernel_rfl) ?_ -- r0
  refine CWops.run htt 3 (by simp only [go_sem, reduceIte, reduceCtorEq, reduceEqDiff, reduceAdd, reduceLT, reduceLeDiff, reduceToNat, eGraph]; exact rfl) (by simp [go_sem, reduceIte, reduceCtorEq, reduceEqDiff, reduceAdd, reduceLT, reduceLeDiff, reduceToNat, eGraph]) ?_
  refine CWops.done ?_
  refine CW.seq ?_
  refine CW.seq ?_
  refine CW.region (by kernel_rfl) (by kernel_rfl) ?_ -- r1
  refine CWops.run htt 1 (by simp only [go_sem, reduceIte, reduceCtorEq, reduceEqDiff, reduceAdd, reduceLT, reduceLeDiff, reduceToNat, eGraph]; exact rfl) (by simp [go_sem, reduceIte, reduceCtorEq, reduceEqDiff, reduceAdd, reduceLT, reduceLeDiff, reduceToNat, eGraph]) ?_
  refine CWops.call (graph_May up g) (by simp only [go_sem, reduceIte, reduceCtorEq, reduceEqDiff, reduceAdd, reduceLT, reduceLeDiff, reduceToNat, eGraph]) (by simp only [go_sem, reduceIte, reduceCtorEq, reduceEqDiff, reduceAdd, reduceLT, reduceLeDiff, reduceToNat, eGraph]; first | done | exact rfl) (by simp only [go_sem, reduceIte, reduceCtorEq, reduceEqDiff, reduceAdd, reduceLT, reduceLeDiff, reduceToNat, eGraph]) (fun rt11 hrt11 => ?_)
  subst hrt11; refine ⟨rfl, ?_⟩
  refine CWops.run htt 1 (by simp only [go_sem, reduceIte, reduceCtorEq, reduceEqDiff, reduceAdd, reduceLT, reduceLeDiff, reduceToNat, eGraph]; exact rfl) (by simp [go_sem, reduceIte, reduceCtorEq, reduceEqDiff, reduceAdd, reduceLT, reduceLeDiff, reduceToNat, eGraph]) ?_
  refine CWops.done ?_
  refine CW.cond (by simp only [go_sem, reduceIte, reduceCtorEq, reduceEqDiff, reduceAdd, reduceLT, reduceLeDiff, reduceToNat]; first | done | exact rfl) (fun ct12 => ?_) (fun ct12 => ?_)
  · have hm : gMay g = false := by simpa using ct12
    refine CW.seq ?_
    refine CW.region (by kernel_rfl) (by kernel_rfl) ?_ -- r2
    refine CWops.run htt 3 (by simp only [go_sem, reduceIte, reduceCtorEq, reduceEqDiff, reduceAdd, reduceLT, reduceLeDiff, reduceToNat]; exact rfl) (by simp [go_sem, reduceIte, reduceCtorEq, reduceEqDiff, reduceAdd, reduceLT, reduceLeDiff, reduceToNat]) ?_
    refine CWops.done ?_
    refine CW.ret ?_
    refine retQ.ret (by simp only [f20, go_sem, reduceIte, reduceCtorEq, reduceEqDiff, reduceAdd, reduceLT, reduceLeDiff, reduceToNat]; exact rfl) (by simp only [go_sem, reduceIte, reduceCtorEq, reduceEqDiff, reduceAdd, reduceLT, reduceLeDiff, reduceToNat]; exact rfl) ?_ -- ret1
    refine ⟨_, ?_, rfl⟩
    simp [leP, leL, gAll, hm, eGraph]
  · have hm : gMay g = true := by simpa using ct12
    have hM := (may_iff g).1 hm
    have hsm := hM.small
    have hz : GSz g := by
      have h1 := hsm.1; have h2 := hsm.2.1; have h3 := hsm.2.2; have h4 := hM.r; have h5 := hM.o
      refine ⟨by unfold MX; omega, fun y hy => by have := h2 y hy; unfold MX; omega, by unfold MX; omega, fun y hy => by have := h3 y hy; unfold MX; omega, by unfold MX; omega⟩
    refine CW.skip ?_
    refine CW.seq ?_
    refine CW.seq ?_
    refine CW.region (by kernel_rfl) (by kernel_rfl) ?_ -- r3
    refine CWops.run htt 3 (by simp only [go_sem, reduceIte, reduceCtorEq, reduceEqDiff, reduceAdd, reduceLT, reduceLeDiff, reduceToNat]; exact rfl) (by simp [go_sem, reduceIte, reduceCtorEq, reduceEqDiff, reduceAdd, reduceLT, reduceLeDiff, reduceToNat]) ?_
    refine CWops.done ?_
    refine CW.cond (by simp only [go_sem, reduceIte, reduceCtorEq, reduceEqDiff, reduceAdd, reduceLT, reduceLeDiff, reduceToNat]; first | done | exact rfl) (fun ct16 => ?_) (fun ct16 => ?_)
    · have h8 : 8 < l.length := by simp at ct16; omega
      refine CW.seq ?_
      refine CW.region (by kernel_rfl) (by kernel_rfl) ?_ -- r4
      refine CWops.run htt 3 (by simp only [go_sem, reduceIte, reduceCtorEq, reduceEqDiff, reduceAdd, reduceLT, reduceLeDiff, reduceToNat]; exact rfl) (by simp [go_sem, reduceIte, reduceCtorEq, reduceEqDiff, reduceAdd, reduceLT, reduceLeDiff, reduceToNat]) ?_
      refine CWops.done ?_
      refine CW.ret ?_
      refine retQ.ret (by simp only [f20, go_sem, reduceIte, reduceCtorEq, reduceEqDiff, reduceAdd, reduceLT, reduceLeDiff, reduceToNat]; exact rfl) (by simp only [go_sem, reduceIte, reduceCtorEq, reduceEqDiff, reduceAdd, reduceLT, reduceLeDiff, reduceToNat]; exact rfl) ?_ -- ret2
      refine ⟨_, ?_, rfl⟩
      simp [leP, leL, gAll, hm, h8, eGraph]
    · have h8 : l.length ≤ 8 := by simp at ct16; omega
      refine CW.skip ?_
      refine CW.seq ?_
      refine CW.region (by kernel_rfl) (by kernel_rfl) ?_ -- r5
      refine CWops.run htt 1 (by simp only [go_sem, reduceIte, reduceCtorEq, reduceEqDiff, reduceAdd, reduceLT, reduceLeDiff, reduceToNat, eGraph]; exact rfl) (by simp [go_sem, reduceIte, reduceCtorEq, reduceEqDiff, reduceAdd, reduceLT, reduceLeDiff, reduceToNat, eGraph]) ?_
      refine CWops.callA (grade_copied up g hz) (by simp only [go_sem, reduceIte, reduceCtorEq, reduceEqDiff, reduceAdd, reduceLT, reduceLeDiff, reduceToNat, eGraph]) (by simp only [go_sem, reduceIte, reduceCtorEq, reduceEqDiff, reduceAdd, reduceLT, reduceLeDiff, reduceToNat, eGraph]; first | done | exact rfl) (by simp only [go_sem, reduceIte, reduceCtorEq, reduceEqDiff, reduceAdd, reduceLT, reduceLeDiff, reduceToNat, eGraph]) (by simp only [go_sem, reduceIte, reduceCtorEq, reduceEqDiff, reduceAdd, reduceLT, reduceLeDiff, reduceToNat, eGraph]) (fun rt19 hrt19 => ?_)
      subst hrt19
      refine CWops.run htt 1 (by simp only [go_sem, reduceIte, reduceCtorEq, reduceEqDiff, reduceAdd, reduceLT, reduceLeDiff, reduceToNat, eGraph]; exact rfl) (by simp [go_sem, reduceIte, reduceCtorEq, reduceEqDiff, reduceAdd, reduceLT, reduceLeDiff, reduceToNat, eGraph]) ?_
      refine CWops.done ?_
      refine CW.seq ?_
      refine CW.seq ?_
      refine CW.region (by kernel_rfl) (by kernel_rfl) ?_ -- r6
      refine CWops.run htt 3 (by simp only [go_sem, reduceIte, reduceCtorEq, reduceEqDiff, reduceAdd, reduceLT, reduceLeDiff, reduceToNat]; exact rfl) (by simp [go_sem, reduceIte, reduceCtorEq, reduceEqDiff, reduceAdd, reduceLT, reduceLeDiff, reduceToNat]) ?_
      refine CWops.done ?_
      refine CW.block ?_
      refine CW.loop (S := Nat × Graph) (fun p => ⟨2, [(2, .lv 0 [] 0), (4, .lv 1 [] 0), (5, .int .i64 0), (20, .sl 5 (l.map eStep)), (21, .int .i64 l.length), (22, .int .i64 p.1)], [(0, ⟨true, eGraph p.2⟩), (1, ⟨true, [.nilsl, .nilsl, .nilsl]⟩)]⟩) (fun p => p.1 ≤ l.length ∧ gAllF (l.drop p.1) p.2 = gAllF l g) (fun p => l.length - p.1) ((0, g)) ?_ ⟨Nat.zero_le _, rfl⟩ (fun ⟨i, r⟩ hI => ?_)
      · refine Sh.wk0 ?_; simp [Wk, go_sem, reduceIte, reduceCtorEq, reduceEqDiff, reduceAdd, reduceLT, reduceLeDiff, reduceToNat, eGraph]
      simp only at hI
      refine CW.seq ?_
      refine CW.region (by kernel_rfl) (by kernel_rfl) ?_ -- r7
      refine CWops.run htt 1 (by simp only [go_sem, reduceIte, reduceCtorEq, reduceEqDiff, reduceAdd, reduceLT, reduceLeDiff, reduceToNat]; exact rfl) (by simp [go_sem, reduceIte, reduceCtorEq, reduceEqDiff, reduceAdd, reduceLT, reduceLeDiff, reduceToNat]) ?_
      refine CWops.done ?_
      refine CW.seq ?_
      refine CW.cond (by simp only [go_sem, reduceIte, reduceCtorEq, reduceEqDiff, reduceAdd, reduceLT, reduceLeDiff, reduceToNat]; first | done | exact rfl) (fun ct23 => ?_) (fun ct23 => ?_)
      · have hi : i < l.length := by simpa using ct23
        obtain ⟨x, hx⟩ : ∃ x, l[i]? = some x := ⟨l[i], List.getElem?_eq_getElem hi⟩
        have hdr : l.drop i = x :: l.drop (i + 1) := by
          rw [List.drop_eq_getElem_cons hi]; congr 1; exact (List.getElem?_eq_some_iff.1 hx).2
        have hst := hI.2
        rw [hdr] at hst
        obtain ⟨⟨h, e⟩, hG⟩ : ∃ p, gGrade r x = p := ⟨_, rfl⟩
        simp only [gAllF, hG] at hst
        refine CW.skip ?_
        refine CW.seq ?_
        refine CW.block ?_
        refine CW.seq ?_
        refine CW.region (by kernel_rfl) (by kernel_rfl) ?_ -- r8
        refine CWops.run htt 4 (by simp only [go_sem, reduceIte, reduceCtorEq, reduceEqDiff, reduceAdd, reduceLT, reduceLeDiff, reduceToNat, hi, hx, eStep]; exact rfl) (by simp [go_sem, reduceIte, reduceCtorEq, reduceEqDiff, reduceAdd, reduceLT, reduceLeDiff, reduceToNat, hi, hx, eStep]) ?_
        refine CWops.done ?_
        refine CW.seq ?_
        refine CW.region (by kernel_rfl) (by kernel_rfl) ?_ -- r9
        refine CWops.run htt 2 (by simp only [go_sem, reduceIte, reduceCtorEq, reduceEqDiff, reduceAdd, reduceLT, reduceLeDiff, reduceToNat, eGraph, eStep]; exact rfl) (by simp [go_sem, reduceIte, reduceCtorEq, reduceEqDiff, reduceAdd, reduceLT, reduceLeDiff, reduceToNat, eGraph, eStep]) ?_
        refine CWops.callA ((by have := grade_Graph up r x; rw [hG] at this; exact this)) (by simp only [go_sem, reduceIte, reduceCtorEq, reduceEqDiff, reduceAdd, reduceLT, reduceLeDiff, reduceToNat, eGraph, eStep]) (by simp only [go_sem, reduceIte, reduceCtorEq, reduceEqDiff, reduceAdd, reduceLT, reduceLeDiff, reduceToNat, eGraph, eStep]; first | done | exact rfl) (by simp only [go_sem, reduceIte, reduceCtorEq, reduceEqDiff, reduceAdd, reduceLT, reduceLeDiff, reduceToNat, eGraph, eStep]) (by simp only [go_sem, reduceIte, reduceCtorEq, reduceEqDiff, reduceAdd, reduceLT, reduceLeDiff, reduceToNat, eGraph, eStep]) (fun rt29 hrt29 => ?_)
        subst hrt29
        refine CWops.run htt 6 (by simp only [go_sem, reduceIte, reduceCtorEq, reduceEqDiff, reduceAdd, reduceLT, reduceLeDiff, reduceToNat, eGraph, eStep]; exact rfl) (by simp [go_sem, reduceIte, reduceCtorEq, reduceEqDiff, reduceAdd, reduceLT, reduceLeDiff, reduceToNat, eGraph, eStep]) ?_
        refine CWops.done ?_
        refine CW.seq ?_
        refine CW.seq ?_
        refine CW.region (by kernel_rfl) (by kernel_rfl) ?_ -- r10
        refine CWops.run htt 2 (by simp only [go_sem, reduceIte, reduceCtorEq, reduceEqDiff, reduceAdd, reduceLT, reduceLeDiff, reduceToNat]; exact rfl) (by simp [go_sem, reduceIte, reduceCtorEq, reduceEqDiff, reduceAdd, reduceLT, reduceLeDiff, reduceToNat]) ?_
        refine CWops.done ?_
        refine CW.cond (by simp only [go_sem, reduceIte, reduceCtorEq, reduceEqDiff, reduceAdd, reduceLT, reduceLeDiff, reduceToNat]; first | done | exact rfl) (fun ct33 => ?_) (fun ct33 => ?_)
        · have he : ¬ e = 0 := by simpa using ct33
          rw [if_neg he] at hst
          refine CW.seq ?_
          refine CW.region (by kernel_rfl) (by kernel_rfl) ?_ -- r11
          refine CWops.run htt 4 (by simp only [go_sem, reduceIte, reduceCtorEq, reduceEqDiff, reduceAdd, reduceLT, reduceLeDiff, reduceToNat]; exact rfl) (by simp [go_sem, reduceIte, reduceCtorEq, reduceEqDiff, reduceAdd, reduceLT, reduceLeDiff, reduceToNat]) ?_
          refine CWops.done ?_
          refine CW.ret ?_
          refine retQ.ret (by simp only [f20, go_sem, reduceIte, reduceCtorEq, reduceEqDiff, reduceAdd, reduceLT, reduceLeDiff, reduceToNat]; exact rfl) (by simp only [go_sem, reduceIte, reduceCtorEq, reduceEqDiff, reduceAdd, reduceLT, reduceLeDiff, reduceToNat]; exact rfl) ?_ -- ret3
          refine ⟨_, ?_, rfl⟩
          have e2 : gAll g l = (⟨[], [], []⟩, e) := by unfold gAll; rw [if_neg (by rw [hm]; decide), if_neg (by omega), ← hst]
          simp [leP, leL, e2, eGraph]
        · have he : e = 0 := by simpa using ct33
          rw [if_pos he] at hst
          refine CW.skip ?_
          refine CW.region (by kernel_rfl) (by kernel_rfl) ?_ -- r12
          refine CWops.run htt 2 (by simp only [go_sem, reduceIte, reduceCtorEq, reduceEqDiff, reduceAdd, reduceLT, reduceLeDiff, reduceToNat, eGraph]; exact rfl) (by simp [go_sem, reduceIte, reduceCtorEq, reduceEqDiff, reduceAdd, reduceLT, reduceLeDiff, reduceToNat, eGraph]) ?_
          refine CWops.done ?_
          refine CW.region (by kernel_rfl) (by kernel_rfl) ?_ -- r13
          refine CWops.run htt 2 (by simp only [go_sem, reduceIte, reduceCtorEq, reduceEqDiff, reduceAdd, reduceLT, reduceLeDiff, reduceToNat, wrap_succ (show i < MX by unfold MX; omega)]; exact rfl) (by simp [go_sem, reduceIte, reduceCtorEq, reduceEqDiff, reduceAdd, reduceLT, reduceLeDiff, reduceToNat, wrap_succ (show i < MX by unfold MX; omega)]) ?_
          refine CWops.done ?_
          refine ⟨(i + 1, h), ?_, ?_, ?_⟩
          · refine Sh.wk0 ?_; simp [Wk, go_sem, reduceIte, reduceCtorEq, reduceEqDiff, reduceAdd, reduceLT, reduceLeDiff, reduceToNat, eGraph]
          · exact ⟨hi, hst⟩
          · simp only; omega
      · have hi : i = l.length := by have := hI.1; simp at ct23; omega
        have hst := hI.2
        rw [hi, List.drop_length] at hst
        simp only [gAllF] at hst
        refine CW.exit ?_
        refine CW.seq ?_
        refine CW.region (by kernel_rfl) (by kernel_rfl) ?_ -- r14
        refine CWops.run htt 3 (by simp only [go_sem, reduceIte, reduceCtorEq, reduceEqDiff, reduceAdd, reduceLT, reduceLeDiff, reduceToNat, eGraph]; exact rfl) (by simp [go_sem, reduceIte, reduceCtorEq, reduceEqDiff, reduceAdd, reduceLT, reduceLeDiff, reduceToNat, eGraph]) ?_
        refine CWops.done ?_
        refine CW.ret ?_
        refine retQ.ret (by simp only [f20, go_sem, reduceIte, reduceCtorEq, reduceEqDiff, reduceAdd, reduceLT, reduceLeDiff, reduceToNat]; exact rfl) (by simp only [go_sem, reduceIte, reduceCtorEq, reduceEqDiff, reduceAdd, reduceLT, reduceLeDiff, reduceToNat]; exact rfl) ?_ -- ret4
        refine ⟨_, ?_, rfl⟩
        have e2 : gAll g l = (r, 0) := by unfold gAll; rw [if_neg (by rw [hm]; decide), if_neg (by omega), ← hst]
        simp [leP, leL, e2, eGraph]
end Go.Ab
namespace Go.Ab
open Go Go.Proofs.Try
open Nat (reduceEqDiff reduceAdd reduceLT reduceLeDiff reduceBEq reduceSub reduceMul)
open Int (reduceToNat)
set_option maxRecDepth 100000
set_option maxHeartbeats 3200000
set_option linter.unusedSimpArgs false
set_option linter.unusedVariables false
theorem may_sizes {s : List GType} (h : schemaMay s = true) : s.length * 40 ≤ MX ∧ ∀ x ∈ s, x.F.length * 40 ≤ MX := by
  have hS := (smay_iff s).1 h
  refine ⟨by have := hS.len; unfold MX; omega, fun x hx => ?_⟩
  obtain ⟨i, hi⟩ := List.getElem?_of_mem hx
  have := hS.flen i x hi
  unfold MX; omega
theorem bw_len {s t : List GType} (hs : SMay s) (ht : SMay t) (hl : s.length = t.length) : ∀ (n : Nat) {l : List GStep}, n ≤ s.length → bwFold s t n = some l → l.length ≤ 15 * n
  | 0, l, _, h => by simp [bwFold] at h; subst h; simp
  | n + 1, l, hn, h => by
    obtain ⟨a, ha⟩ : ∃ x, s[n]? = some x := ⟨s[n], List.getElem?_eq_getElem (by omega)⟩
    obtain ⟨b, hb⟩ : ∃ x, t[n]? = some x := ⟨t[n]'(by omega), List.getElem?_eq_getElem (by omega)⟩
    rw [bwFold_succ ha hb] at h
    cases hp : bwFold s t n with
    | none => rw [hp] at h; simp [bwStep] at h
    | some l0 =>
      rw [hp] at h
      simp only [bwStep] at h
      split at h
      · cases h
        have := bw_len hs ht hl n (by omega) hp
        have := betw_len (hs.flen n a ha) (ht.flen n b hb)
        simp; omega
      · cases h
theorem between_len (s t : List GType) : (gBetween s t).1.length ≤ 60 := by
  unfold gBetween
  split
  · rename_i hc
    simp only [Bool.and_eq_true, decide_eq_true_eq] at hc
    split
    · simp
    · rename_i l hl
      have hs := (smay_iff s).1 hc.1.1
      have := bw_len hs ((smay_iff t).1 hc.1.2) hc.2 s.length (Nat.le_refl _) hl
      have := hs.len
      simp only; omega
  · simp
theorem law13_GradeBetween (up : Bool) (g : Graph) (t : List GType) (hz : GSz g) : PCall prog up 7 [.agg (eGraph g), .agg (eSchema t)] (· = .bool true) := by
  refine PCall.intro htt func7 (by kernel_rfl) rfl (Nat.le_of_ble_eq_true rfl) fun hl => ?_
  obtain ⟨⟨l, is⟩, hl0⟩ : ∃ p, gBetween g.S t = p := ⟨_, rfl⟩
  have hrun : is = true → schemaMay g.S = true ∧ schemaMay t = true ∧ sAll g.S l = some t := by have := @between_run g.S t; rw [hl0] at this; exact this
  have hno : is = false → l = [] := by have := @between_no g.S t; rw [hl0] at this; exact this
  simp only [tmps0, Nat.reduceAdd]
  refine CW.seq ?_
  refine CW.region (by kernel_rfl) (by kernel_rfl) ?_ -- r0
  refine CWops.run htt 3 (by simp only [go_sem, reduceIte, reduceCtorEq, reduceEqDiff, reduceAdd, reduceLT, reduceLeDiff, reduceToNat, eGraph, eSchema]; exact rfl) (by simp [go_sem, reduceIte, reduceCtorEq, reduceEqDiff, reduceAdd, reduceLT, reduceLeDiff, reduceToNat, eGraph, eSchema]) ?_
  refine CWops.done ?_
  refine CW.seq ?_
  refine CW.region (by kernel_rfl) (by kernel_rfl) ?_ -- r1
  refine CWops.callA (law13_awake up) (by simp only [go_sem, reduceIte, reduceCtorEq, reduceEqDiff, reduceAdd, reduceLT, reduceLeDiff, reduceToNat]) (by simp only [go_sem, reduceIte, reduceCtorEq, reduceEqDiff, reduceAdd, reduceLT, reduceLeDiff, reduceToNat]; first | done | exact rfl) (by simp only [go_sem, reduceIte, reduceCtorEq, reduceEqDiff, reduceAdd, reduceLT, reduceLeDiff, reduceToNat]) (by simp only [go_sem, reduceIte, reduceCtorEq, reduceEqDiff, reduceAdd, reduceLT, reduceLeDiff, reduceToNat]) (fun rt18 hrt18 => ?_)
  subst hrt18
  refine CWops.run htt 1 (by simp only [go_sem, reduceIte, reduceCtorEq, reduceEqDiff, reduceAdd, reduceLT, reduceLeDiff, reduceToNat]; exact rfl) (by simp [go_sem, reduceIte, reduceCtorEq, reduceEqDiff, reduceAdd, reduceLT, reduceLeDiff, reduceToNat]) ?_
  refine CWops.done ?_
  refine CW.seq ?_
  refine CW.region (by kernel_rfl) (by kernel_rfl) ?_ -- r2
  refine CWops.run htt 1 (by simp only [go_sem, reduceIte, reduceCtorEq, reduceEqDiff, reduceAdd, reduceLT, reduceLeDiff, reduceToNat, eGraph]; exact rfl) (by simp [go_sem, reduceIte, reduceCtorEq, reduceEqDiff, reduceAdd, reduceLT, reduceLeDiff, reduceToNat, eGraph]) ?_
  refine CWops.call (law08_Few up g) (by simp only [go_sem, reduceIte, reduceCtorEq, reduceEqDiff, reduceAdd, reduceLT, reduceLeDiff, reduceToNat, eGraph]) (by simp only [go_sem, reduceIte, reduceCtorEq, reduceEqDiff, reduceAdd, reduceLT, reduceLeDiff, reduceToNat, eGraph]; first | done | exact rfl) (by simp only [go_sem, reduceIte, reduceCtorEq, reduceEqDiff, reduceAdd, reduceLT, reduceLeDiff, reduceToNat, eGraph]) (fun rt20 hrt20 => ?_)
  subst hrt20; refine ⟨rfl, ?_⟩
  refine CWops.run htt 1 (by simp only [go_sem, reduceIte, reduceCtorEq, reduceEqDiff, reduceAdd, reduceLT, reduceLeDiff, reduceToNat, eGraph]; exact rfl) (by simp [go_sem, reduceIte, reduceCtorEq, reduceEqDiff, reduceAdd, reduceLT, reduceLeDiff, reduceToNat, eGraph]) ?_
  refine CWops.done ?_
  refine CW.seq ?_
  refine CW.region (by kernel_rfl) (by kernel_rfl) ?_ -- r3
  refine CWops.run htt 1 (by simp only [go_sem, reduceIte, reduceCtorEq, reduceEqDiff, reduceAdd, reduceLT, reduceLeDiff, reduceToNat, eSchema]; exact rfl) (by simp [go_sem, reduceIte, reduceCtorEq, reduceEqDiff, reduceAdd, reduceLT, reduceLeDiff, reduceToNat, eSchema]) ?_
  refine CWops.call (law06_Few up t 10) (by simp only [go_sem, reduceIte, reduceCtorEq, reduceEqDiff, reduceAdd, reduceLT, reduceLeDiff, reduceToNat, eSchema]) (by simp only [go_sem, reduceIte, reduceCtorEq, reduceEqDiff, reduceAdd, reduceLT, reduceLeDiff, reduceToNat, eSchema]; first | done | exact rfl) (by simp only [go_sem, reduceIte, reduceCtorEq, reduceEqDiff, reduceAdd, reduceLT, reduceLeDiff, reduceToNat, eSchema]) (fun rt22 hrt22 => ?_)
  subst hrt22; refine ⟨rfl, ?_⟩
  refine CWops.run htt 1 (by simp only [go_sem, reduceIte, reduceCtorEq, reduceEqDiff, reduceAdd, reduceLT, reduceLeDiff, reduceToNat, eSchema]; exact rfl) (by simp [go_sem, reduceIte, reduceCtorEq, reduceEqDiff, reduceAdd, reduceLT, reduceLeDiff, reduceToNat, eSchema]) ?_
  refine CWops.done ?_
  refine CW.seq ?_
  refine CW.cut ⟨2, [(2, .lv 0 [] 0), (3, .lv 1 [] 0), (5, .bool true), (32, .bool (!(fewG g && few06 t 10)))], [(0, ⟨true, eGraph g⟩), (1, ⟨true, eSchema t⟩)]⟩ ?_ ?_
  · refine CW.region (by kernel_rfl) (by kernel_rfl) ?_ -- r4
    refine CWops.run htt 3 (by simp only [go_sem, reduceIte, reduceCtorEq, reduceEqDiff, reduceAdd, reduceLT, reduceLeDiff, reduceToNat]; exact rfl) (by simp [go_sem, reduceIte, reduceCtorEq, reduceEqDiff, reduceAdd, reduceLT, reduceLeDiff, reduceToNat]) ?_
    all_goals (first | refine CWops.guard 25 (by simp only [go_sem, reduceIte, reduceCtorEq, reduceEqDiff, reduceAdd, reduceLT, reduceLeDiff, reduceToNat]; exact rfl) (fun g25 => ?_) (fun g25 => ?_) | skip)
    all_goals (refine CWops.run htt 4 (by simp only [go_sem, reduceIte, reduceCtorEq, reduceEqDiff, reduceAdd, reduceLT, reduceLeDiff, reduceToNat]; exact rfl) (by simp [go_sem, reduceIte, reduceCtorEq, reduceEqDiff, reduceAdd, reduceLT, reduceLeDiff, reduceToNat]) ?_)
    all_goals (first | refine CWops.guard 29 (by simp only [go_sem, reduceIte, reduceCtorEq, reduceEqDiff, reduceAdd, reduceLT, reduceLeDiff, reduceToNat]; exact rfl) (fun g29 => ?_) (fun g29 => ?_) | skip)
    all_goals (refine CWops.run htt 3 (by simp only [go_sem, reduceIte, reduceCtorEq, reduceEqDiff, reduceAdd, reduceLT, reduceLeDiff, reduceToNat]; exact rfl) (by simp [go_sem, reduceIte, reduceCtorEq, reduceEqDiff, reduceAdd, reduceLT, reduceLeDiff, reduceToNat]) ?_)
    all_goals (refine CWops.done ?_)
    all_goals (
      first | refine ⟨rfl, Sh.wk0 ?_⟩ | refine Sh.wk0 ?_
      simp_all [Wk, go_sem, reduceIte, reduceCtorEq, reduceEqDiff, reduceAdd, reduceLT, reduceLeDiff, reduceToNat, eGraph, eSchema] <;> first | done | rfl | omega | (intro h; omega) | (rw [Bool.eq_iff_iff]; simp; done))
  refine CW.cond (by simp only [go_sem, reduceIte, reduceCtorEq, reduceEqDiff, reduceAdd, reduceLT, reduceLeDiff, reduceToNat]; first | done | exact rfl) (fun ct32 => ?_) (fun ct32 => ?_)
  · refine CW.seq ?_
    refine CW.region (by kernel_rfl) (by kernel_rfl) ?_ -- r5
    refine CWops.run htt 2 (by simp only [go_sem, reduceIte, reduceCtorEq, reduceEqDiff, reduceAdd, reduceLT, reduceLeDiff, reduceToNat]; exact rfl) (by simp [go_sem, reduceIte, reduceCtorEq, reduceEqDiff, reduceAdd, reduceLT, reduceLeDiff, reduceToNat]) ?_
    refine CWops.done ?_
    refine CW.ret ?_
    refine retQ.ret (by simp only [f7, go_sem, reduceIte, reduceCtorEq, reduceEqDiff, reduceAdd, reduceLT, reduceLeDiff, reduceToNat]; exact rfl) (by simp only [go_sem, reduceIte, reduceCtorEq, reduceEqDiff, reduceAdd, reduceLT, reduceLeDiff, reduceToNat]; exact rfl) ?_ -- ret1
    refine ⟨_, ?_, rfl⟩
    first | (simp [leP]; done) | (simp_all [leP]; done)
  · refine CW.skip ?_
    refine CW.seq ?_
    refine CW.region (by kernel_rfl) (by kernel_rfl) ?_ -- r6
    refine CWops.run htt 4 (by simp only [go_sem, reduceIte, reduceCtorEq, reduceEqDiff, reduceAdd, reduceLT, reduceLeDiff, reduceToNat, eGraph, eSchema]; exact rfl) (by simp [go_sem, reduceIte, reduceCtorEq, reduceEqDiff, reduceAdd, reduceLT, reduceLeDiff, reduceToNat, eGraph, eSchema]) ?_
    refine CWops.callA ((by have := grade_Between up g.S g.S; rw [between_self] at this; exact this)) (by simp only [go_sem, reduceIte, reduceCtorEq, reduceEqDiff, reduceAdd, reduceLT, reduceLeDiff, reduceToNat, eGraph, eSchema]) (by simp only [go_sem, reduceIte, reduceCtorEq, reduceEqDiff, reduceAdd, reduceLT, reduceLeDiff, reduceToNat, eGraph, eSchema]; first | done | exact rfl) (by simp only [go_sem, reduceIte, reduceCtorEq, reduceEqDiff, reduceAdd, reduceLT, reduceLeDiff, reduceToNat, eGraph, eSchema]) (by simp only [go_sem, reduceIte, reduceCtorEq, reduceEqDiff, reduceAdd, reduceLT, reduceLeDiff, reduceToNat, eGraph, eSchema]) (fun rt39 hrt39 => ?_)
    subst hrt39
    refine CWops.run htt 5 (by simp only [go_sem, reduceIte, reduceCtorEq, reduceEqDiff, reduceAdd, reduceLT, reduceLeDiff, reduceToNat, eGraph, eSchema]; exact rfl) (by simp [go_sem, reduceIte, reduceCtorEq, reduceEqDiff, reduceAdd, reduceLT, reduceLeDiff, reduceToNat, eGraph, eSchema]) ?_
    refine CWops.done ?_
    refine CW.seq ?_
    refine CW.cut ⟨2, [(2, .lv 0 [] 0), (3, .lv 1 [] 0), (51, .bool false)], [(0, ⟨true, eGraph g⟩), (1, ⟨true, eSchema t⟩)]⟩ ?_ ?_
    · refine CW.region (by kernel_rfl) (by kernel_rfl) ?_ -- r7
      refine CWops.run htt 3 (by simp only [go_sem, reduceIte, reduceCtorEq, reduceEqDiff, reduceAdd, reduceLT, reduceLeDiff, reduceToNat, eGraph, eSchema, List.map_nil, List.length_nil]; exact rfl) (by simp [go_sem, reduceIte, reduceCtorEq, reduceEqDiff, reduceAdd, reduceLT, reduceLeDiff, reduceToNat, eGraph, eSchema, List.map_nil, List.length_nil]) ?_
      refine CWops.call (schema_May up g.S) (by simp only [go_sem, reduceIte, reduceCtorEq, reduceEqDiff, reduceAdd, reduceLT, reduceLeDiff, reduceToNat, eGraph, eSchema, List.map_nil, List.length_nil]) (by simp only [go_sem, reduceIte, reduceCtorEq, reduceEqDiff, reduceAdd, reduceLT, reduceLeDiff, reduceToNat, eGraph, eSchema, List.map_nil, List.length_nil]; first | done | exact rfl) (by simp only [go_sem, reduceIte, reduceCtorEq, reduceEqDiff, reduceAdd, reduceLT, reduceLeDiff, reduceToNat, eGraph, eSchema, List.map_nil, List.length_nil]) (fun rt45 hrt45 => ?_)
      subst hrt45; refine ⟨rfl, ?_⟩
      refine CWops.run htt 2 (by simp only [go_sem, reduceIte, reduceCtorEq, reduceEqDiff, reduceAdd, reduceLT, reduceLeDiff, reduceToNat, eGraph, eSchema, List.map_nil, List.length_nil]; exact rfl) (by simp [go_sem, reduceIte, reduceCtorEq, reduceEqDiff, reduceAdd, reduceLT, reduceLeDiff, reduceToNat, eGraph, eSchema, List.map_nil, List.length_nil]) ?_
      all_goals (first | refine CWops.guard 47 (by simp only [go_sem, reduceIte, reduceCtorEq, reduceEqDiff, reduceAdd, reduceLT, reduceLeDiff, reduceToNat, eGraph, eSchema, List.map_nil, List.length_nil]; exact rfl) (fun g47 => ?_) (fun g47 => ?_) | skip)
      all_goals (first | (exfalso; simp at g47; done) | skip)
      all_goals (refine CWops.run htt 4 (by simp only [go_sem, reduceIte, reduceCtorEq, reduceEqDiff, reduceAdd, reduceLT, reduceLeDiff, reduceToNat, eGraph, eSchema, List.map_nil, List.length_nil]; exact rfl) (by simp [go_sem, reduceIte, reduceCtorEq, reduceEqDiff, reduceAdd, reduceLT, reduceLeDiff, reduceToNat, eGraph, eSchema, List.map_nil, List.length_nil]) ?_)
      all_goals (refine CWops.done ?_)
      all_goals (
        first | refine ⟨rfl, Sh.wk0 ?_⟩ | refine Sh.wk0 ?_
        first | (simp [Wk, go_sem, reduceIte, reduceCtorEq, reduceEqDiff, reduceAdd, reduceLT, reduceLeDiff, reduceToNat, eGraph, eSchema]; done) | (simp_all [Wk, go_sem, reduceIte, reduceCtorEq, reduceEqDiff, reduceAdd, reduceLT, reduceLeDiff, reduceToNat, eGraph, eSchema]; done))
    refine CW.cond (by simp only [go_sem, reduceIte, reduceCtorEq, reduceEqDiff, reduceAdd, reduceLT, reduceLeDiff, reduceToNat]; first | done | exact rfl) (fun ct51 => ?_) (fun ct51 => ?_)
    · cases ct51 
    · refine CW.skip ?_
      refine CW.seq ?_
      refine CW.region (by kernel_rfl) (by kernel_rfl) ?_ -- r9
      refine CWops.run htt 3 (by simp only [go_sem, reduceIte, reduceCtorEq, reduceEqDiff, reduceAdd, reduceLT, reduceLeDiff, reduceToNat, eGraph, eSchema]; exact rfl) (by simp [go_sem, reduceIte, reduceCtorEq, reduceEqDiff, reduceAdd, reduceLT, reduceLeDiff, reduceToNat, eGraph, eSchema]) ?_
      refine CWops.callA ((by have := grade_Between up g.S t; rw [hl0] at this; exact this)) (by simp only [go_sem, reduceIte, reduceCtorEq, reduceEqDiff, reduceAdd, reduceLT, reduceLeDiff, reduceToNat, eGraph, eSchema]) (by simp only [go_sem, reduceIte, reduceCtorEq, reduceEqDiff, reduceAdd, reduceLT, reduceLeDiff, reduceToNat, eGraph, eSchema]; first | done | exact rfl) (by simp only [go_sem, reduceIte, reduceCtorEq, reduceEqDiff, reduceAdd, reduceLT, reduceLeDiff, reduceToNat, eGraph, eSchema]) (by simp only [go_sem, reduceIte, reduceCtorEq, reduceEqDiff, reduceAdd, reduceLT, reduceLeDiff, reduceToNat, eGraph, eSchema]) (fun rt56 hrt56 => ?_)
      subst hrt56
      refine CWops.run htt 5 (by simp only [go_sem, reduceIte, reduceCtorEq, reduceEqDiff, reduceAdd, reduceLT, reduceLeDiff, reduceToNat, eGraph, eSchema]; exact rfl) (by simp [go_sem, reduceIte, reduceCtorEq, reduceEqDiff, reduceAdd, reduceLT, reduceLeDiff, reduceToNat, eGraph, eSchema]) ?_
      refine CWops.done ?_
      refine CW.seq ?_
      refine CW.region (by kernel_rfl) (by kernel_rfl) ?_ -- r10
      refine CWops.run htt 4 (by simp only [go_sem, reduceIte, reduceCtorEq, reduceEqDiff, reduceAdd, reduceLT, reduceLeDiff, reduceToNat, eGraph]; exact rfl) (by simp [go_sem, reduceIte, reduceCtorEq, reduceEqDiff, reduceAdd, reduceLT, reduceLeDiff, reduceToNat, eGraph]) ?_
      refine CWops.done ?_
      refine CW.seq ?_
      refine CW.seq ?_
      refine CW.region (by kernel_rfl) (by kernel_rfl) ?_ -- r11
      refine CWops.run htt 1 (by simp only [go_sem, reduceIte, reduceCtorEq, reduceEqDiff, reduceAdd, reduceLT, reduceLeDiff, reduceToNat]; exact rfl) (by simp [go_sem, reduceIte, reduceCtorEq, reduceEqDiff, reduceAdd, reduceLT, reduceLeDiff, reduceToNat]) ?_
      refine CWops.done ?_
      refine CW.block ?_
      refine CW.loop (S := Nat × List GType) (fun p => ⟨3, [(2, .lv 0 [] 0), (3, .lv 1 [] 0), (10, .sl 5 (l.map eStep)), (11, .bool is), (12, .lv 2 [] 0), (13, .int .i64 p.1)], [(0, ⟨true, eGraph g⟩), (1, ⟨true, eSchema t⟩), (2, ⟨true, eSchema p.2⟩)]⟩) (fun p => p.1 ≤ l.length ∧ sAll g.S (l.take p.1) = some p.2 ∧ (p.2.length * 40 ≤ MX ∧ ∀ x ∈ p.2, x.F.length * 40 ≤ MX)) (fun p => l.length - p.1) ((0, g.S)) ?_ ⟨Nat.zero_le _, rfl, hz.s, hz.sf⟩ (fun ⟨i, s⟩ hI => ?_)
      · refine Sh.wk0 ?_; simp [Wk, go_sem, reduceIte, reduceCtorEq, reduceEqDiff, reduceAdd, reduceLT, reduceLeDiff, reduceToNat, eGraph, eSchema]
      obtain ⟨hil, hs, hsz⟩ := hI
      simp only at hil hs hsz
      refine CW.seq ?_
      refine CW.seq ?_
      refine CW.region (by kernel_rfl) (by kernel_rfl) ?_ -- r12
      refine CWops.run htt 4 (by simp only [go_sem, reduceIte, reduceCtorEq, reduceEqDiff, reduceAdd, reduceLT, reduceLeDiff, reduceToNat]; exact rfl) (by simp [go_sem, reduceIte, reduceCtorEq, reduceEqDiff, reduceAdd, reduceLT, reduceLeDiff, reduceToNat]) ?_
      refine CWops.done ?_
      refine CW.cond (by simp only [go_sem, reduceIte, reduceCtorEq, reduceEqDiff, reduceAdd, reduceLT, reduceLeDiff, reduceToNat]; first | done | exact rfl) (fun ct64 => ?_) (fun ct64 => ?_)
      · have hi : i < l.length := by simpa using ct64
        obtain ⟨x, hx⟩ : ∃ x, l[i]? = some x := ⟨l[i], List.getElem?_eq_getElem hi⟩
        have hist : is = true := by
          cases hc : is with
          | true => rfl
          | false => rw [hno hc] at hi; simp at hi
        obtain ⟨r1, hr1, h0, hr2⟩ := sAll_take (hrun hist).2.2 hx
        rw [hr1] at hs
        cases hs
        have hsz2 := may_sizes (do_may h0)
        refine CW.skip ?_
        refine CW.seq ?_
        refine CW.block ?_
        refine CW.seq ?_
        refine CW.drawnF mixed 10 11 [8] (D := [75]) (by decide) (by decide) (by kernel_rfl) (by kernel_rfl) rfl (by kernel_rfl) (by kernel_rfl) ?_ -- r14
        refine Seg.run htt 5 (by simp only [go_sem, reduceIte, reduceCtorEq, reduceEqDiff, reduceAdd, reduceLT, reduceLeDiff, reduceToNat, hx, hi, eSchema, eStep]; exact rfl) ?_
        refine Seg.callA ((by have := grade_Schema up s x hsz.1 hsz.2; unfold gSchema at this; rw [h0] at this; exact this)) (by simp only [go_sem, reduceIte, reduceCtorEq, reduceEqDiff, reduceAdd, reduceLT, reduceLeDiff, reduceToNat, hx, hi, eSchema, eStep]) (by simp only [go_sem, reduceIte, reduceCtorEq, reduceEqDiff, reduceAdd, reduceLT, reduceLeDiff, reduceToNat, hx, hi, eSchema, eStep]; first | done | exact rfl) (by simp only [go_sem, reduceIte, reduceCtorEq, reduceEqDiff, reduceAdd, reduceLT, reduceLeDiff, reduceToNat, hx, hi, eSchema, eStep]) (by simp only [go_sem, reduceIte, reduceCtorEq, reduceEqDiff, reduceAdd, reduceLT, reduceLeDiff, reduceToNat, hx, hi, eSchema, eStep]) ?_
        refine Seg.run htt 4 (by simp only [go_sem, reduceIte, reduceCtorEq, reduceEqDiff, reduceAdd, reduceLT, reduceLeDiff, reduceToNat, hx, hi, eSchema, eStep]; exact rfl) ?_
        refine Seg.done ?_
        refine Mid.sto htt (Flo.cons htt rfl rfl (by simp only [go_sem, reduceIte, reduceCtorEq, reduceEqDiff, reduceAdd, reduceLT, reduceLeDiff, reduceToNat, hx, hi, eSchema, eStep]; first | done | exact rfl) (Flo.nil)) (fun u => by simp only [go_sem, reduceIte, reduceCtorEq, reduceEqDiff, reduceAdd, reduceLT, reduceLeDiff, reduceToNat, hx, hi, eSchema, eStep]; exact rfl) ?_
        refine Mid.done (Flo.cons htt rfl rfl (by simp only [go_sem, reduceIte, reduceCtorEq, reduceEqDiff, reduceAdd, reduceLT, reduceLeDiff, reduceToNat, hx, hi, eSchema, eStep]; first | done | exact rfl) (Flo.nil)) ?_
        refine CWops.run htt 1 (by simp only [go_sem, reduceIte, reduceCtorEq, reduceEqDiff, reduceAdd, reduceLT, reduceLeDiff, reduceToNat, hx, hi, eSchema, eStep]; exact rfl) (by simp [go_sem, reduceIte, reduceCtorEq, reduceEqDiff, reduceAdd, reduceLT, reduceLeDiff, reduceToNat, hx, hi, eSchema, eStep]) ?_
        refine CWops.done ?_
        refine CW.seq ?_
        refine CW.seq ?_
        refine CW.region (by kernel_rfl) (by kernel_rfl) ?_ -- r15
        refine CWops.run htt 2 (by simp only [go_sem, reduceIte, reduceCtorEq, reduceEqDiff, reduceAdd, reduceLT, reduceLeDiff, reduceToNat]; exact rfl) (by simp [go_sem, reduceIte, reduceCtorEq, reduceEqDiff, reduceAdd, reduceLT, reduceLeDiff, reduceToNat]) ?_
        refine CWops.done ?_
        refine CW.cond (by simp only [go_sem, reduceIte, reduceCtorEq, reduceEqDiff, reduceAdd, reduceLT, reduceLeDiff, reduceToNat]; first | done | exact rfl) (fun ct77 => ?_) (fun ct77 => ?_)
        · exfalso; simp at ct77 
        · refine CW.skip ?_
          refine CW.region (by kernel_rfl) (by kernel_rfl) ?_ -- r17
          refine CWops.run htt 2 (by simp only [go_sem, reduceIte, reduceCtorEq, reduceEqDiff, reduceAdd, reduceLT, reduceLeDiff, reduceToNat, eSchema]; exact rfl) (by simp [go_sem, reduceIte, reduceCtorEq, reduceEqDiff, reduceAdd, reduceLT, reduceLeDiff, reduceToNat, eSchema]) ?_
          refine CWops.done ?_
          refine CW.region (by kernel_rfl) (by kernel_rfl) ?_ -- r13
          refine CWops.run htt 3 (by simp only [go_sem, reduceIte, reduceCtorEq, reduceEqDiff, reduceAdd, reduceLT, reduceLeDiff, reduceToNat, wrap_succ (show i < MX by have h9 := between_len g.S t; rw [hl0] at h9; simp only at h9; unfold MX; omega)]; exact rfl) (by simp [go_sem, reduceIte, reduceCtorEq, reduceEqDiff, reduceAdd, reduceLT, reduceLeDiff, reduceToNat, wrap_succ (show i < MX by have h9 := between_len g.S t; rw [hl0] at h9; simp only at h9; unfold MX; omega)]) ?_
          refine CWops.done ?_
          refine ⟨(i + 1, (gDo s x).2.1), ?_, ?_, ?_⟩
          · refine Sh.wk0 ?_; simp [Wk, go_sem, reduceIte, reduceCtorEq, reduceEqDiff, reduceAdd, reduceLT, reduceLeDiff, reduceToNat, eGraph, eSchema]
          · exact ⟨hi, hr2, hsz2⟩
          · simp only; omega
      · have hi : i = l.length := by have := hil; simp at ct64; omega
        rw [hi, List.take_length] at hs
        refine CW.exit ?_
        refine CW.seq ?_
        refine CW.seq ?_
        refine CW.region (by kernel_rfl) (by kernel_rfl) ?_ -- r18
        refine CWops.run htt 2 (by simp only [go_sem, reduceIte, reduceCtorEq, reduceEqDiff, reduceAdd, reduceLT, reduceLeDiff, reduceToNat]; exact rfl) (by simp [go_sem, reduceIte, reduceCtorEq, reduceEqDiff, reduceAdd, reduceLT, reduceLeDiff, reduceToNat]) ?_
        refine CWops.done ?_
        refine CW.cond (by simp only [go_sem, reduceIte, reduceCtorEq, reduceEqDiff, reduceAdd, reduceLT, reduceLeDiff, reduceToNat]; first | done | exact rfl) (fun ct80 => ?_) (fun ct80 => ?_)
        · have hln := hno (by simpa using ct80)
          refine CW.seq ?_
          refine CW.region (by kernel_rfl) (by kernel_rfl) ?_ -- r19
          refine CWops.run htt 4 (by simp only [go_sem, reduceIte, reduceCtorEq, reduceEqDiff, reduceAdd, reduceLT, reduceLeDiff, reduceToNat, hln, List.map_nil, List.length_nil]; exact rfl) (by simp [go_sem, reduceIte, reduceCtorEq, reduceEqDiff, reduceAdd, reduceLT, reduceLeDiff, reduceToNat, hln, List.map_nil, List.length_nil]) ?_
          refine CWops.done ?_
          refine CW.ret ?_
          refine retQ.ret (by simp only [f7, go_sem, reduceIte, reduceCtorEq, reduceEqDiff, reduceAdd, reduceLT, reduceLeDiff, reduceToNat]; exact rfl) (by simp only [go_sem, reduceIte, reduceCtorEq, reduceEqDiff, reduceAdd, reduceLT, reduceLeDiff, reduceToNat]; exact rfl) ?_ -- ret2
          refine ⟨_, ?_, rfl⟩
          first | (simp [leP]; done) | (simp_all [leP]; done)
        · have hist : is = true := by simpa using ct80
          obtain ⟨hmS, hmt, hall⟩ := hrun hist
          rw [hall] at hs
          cases hs
          obtain ⟨⟨h, e⟩, hG⟩ : ∃ p, gAll g l = p := ⟨_, rfl⟩
          obtain ⟨hbad, hgood⟩ := gAll_facts (g := g) hall
          rw [hG] at hbad hgood
          simp only at hbad hgood
          refine CW.skip ?_
          refine CW.seq ?_
          refine CW.region (by kernel_rfl) (by kernel_rfl) ?_ -- r20
          refine CWops.run htt 2 (by simp only [go_sem, reduceIte, reduceCtorEq, reduceEqDiff, reduceAdd, reduceLT, reduceLeDiff, reduceToNat, eGraph]; exact rfl) (by simp [go_sem, reduceIte, reduceCtorEq, reduceEqDiff, reduceAdd, reduceLT, reduceLeDiff, reduceToNat, eGraph]) ?_
          refine CWops.callA ((by have := grade_All up g l; rw [hG] at this; exact this)) (by simp only [go_sem, reduceIte, reduceCtorEq, reduceEqDiff, reduceAdd, reduceLT, reduceLeDiff, reduceToNat, eGraph]) (by simp only [go_sem, reduceIte, reduceCtorEq, reduceEqDiff, reduceAdd, reduceLT, reduceLeDiff, reduceToNat, eGraph]; first | done | exact rfl) (by simp only [go_sem, reduceIte, reduceCtorEq, reduceEqDiff, reduceAdd, reduceLT, reduceLeDiff, reduceToNat, eGraph]) (by simp only [go_sem, reduceIte, reduceCtorEq, reduceEqDiff, reduceAdd, reduceLT, reduceLeDiff, reduceToNat, eGraph]) (fun rt87 hrt87 => ?_)
          subst hrt87
          refine CWops.run htt 6 (by simp only [go_sem, reduceIte, reduceCtorEq, reduceEqDiff, reduceAdd, reduceLT, reduceLeDiff, reduceToNat, eGraph]; exact rfl) (by simp [go_sem, reduceIte, reduceCtorEq, reduceEqDiff, reduceAdd, reduceLT, reduceLeDiff, reduceToNat, eGraph]) ?_
          refine CWops.done ?_
          refine CW.seq ?_
          refine CW.cut ⟨4, [(3, .lv 1 [] 0), (12, .lv 2 [] 0), (16, .lv 3 [] 0), (17, .int .i64 e), (97, .bool (!gMay g || decide (8 < l.length)))], [(0, ⟨true, eGraph g⟩), (1, ⟨true, eSchema t⟩), (2, ⟨true, eSchema t⟩), (3, ⟨true, eGraph h⟩)]⟩ ?_ ?_
          · refine CW.region (by kernel_rfl) (by kernel_rfl) ?_ -- r21
            refine CWops.run htt 1 (by simp only [go_sem, reduceIte, reduceCtorEq, reduceEqDiff, reduceAdd, reduceLT, reduceLeDiff, reduceToNat, eGraph]; exact rfl) (by simp [go_sem, reduceIte, reduceCtorEq, reduceEqDiff, reduceAdd, reduceLT, reduceLeDiff, reduceToNat, eGraph]) ?_
            refine CWops.call (graph_May up g) (by simp only [go_sem, reduceIte, reduceCtorEq, reduceEqDiff, reduceAdd, reduceLT, reduceLeDiff, reduceToNat, eGraph]) (by simp only [go_sem, reduceIte, reduceCtorEq, reduceEqDiff, reduceAdd, reduceLT, reduceLeDiff, reduceToNat, eGraph]; first | done | exact rfl) (by simp only [go_sem, reduceIte, reduceCtorEq, reduceEqDiff, reduceAdd, reduceLT, reduceLeDiff, reduceToNat, eGraph]) (fun rt91 hrt91 => ?_)
            subst hrt91; refine ⟨rfl, ?_⟩
            refine CWops.run htt 2 (by simp only [go_sem, reduceIte, reduceCtorEq, reduceEqDiff, reduceAdd, reduceLT, reduceLeDiff, reduceToNat, eGraph]; exact rfl) (by simp [go_sem, reduceIte, reduceCtorEq, reduceEqDiff, reduceAdd, reduceLT, reduceLeDiff, reduceToNat, eGraph]) ?_
            all_goals (first | refine CWops.guard 93 (by simp only [go_sem, reduceIte, reduceCtorEq, reduceEqDiff, reduceAdd, reduceLT, reduceLeDiff, reduceToNat, eGraph]; exact rfl) (fun g93 => ?_) (fun g93 => ?_) | skip)
            all_goals (skip)
            all_goals (refine CWops.run htt 4 (by simp only [go_sem, reduceIte, reduceCtorEq, reduceEqDiff, reduceAdd, reduceLT, reduceLeDiff, reduceToNat, eGraph]; exact rfl) (by simp [go_sem, reduceIte, reduceCtorEq, reduceEqDiff, reduceAdd, reduceLT, reduceLeDiff, reduceToNat, eGraph]) ?_)
            all_goals (refine CWops.done ?_)
            all_goals (
              first | refine ⟨rfl, Sh.wk0 ?_⟩ | refine Sh.wk0 ?_
              first | (simp [Wk, go_sem, reduceIte, reduceCtorEq, reduceEqDiff, reduceAdd, reduceLT, reduceLeDiff, reduceToNat, eGraph, eSchema]; done) | (simp_all [Wk, go_sem, reduceIte, reduceCtorEq, reduceEqDiff, reduceAdd, reduceLT, reduceLeDiff, reduceToNat, eGraph, eSchema]; done) | (simp_all [Wk, go_sem, reduceIte, reduceCtorEq, reduceEqDiff, reduceAdd, reduceLT, reduceLeDiff, reduceToNat, eGraph, eSchema]; omega))
          refine CW.cond (by simp only [go_sem, reduceIte, reduceCtorEq, reduceEqDiff, reduceAdd, reduceLT, reduceLeDiff, reduceToNat]; first | done | exact rfl) (fun ct97 => ?_) (fun ct97 => ?_)
          · have he := hbad (by simp only [Bool.or_eq_true, Bool.not_eq_true', decide_eq_true_eq] at ct97; exact ct97)
            refine CW.seq ?_
            refine CW.region (by kernel_rfl) (by kernel_rfl) ?_ -- r22
            refine CWops.run htt 2 (by simp only [go_sem, reduceIte, reduceCtorEq, reduceEqDiff, reduceAdd, reduceLT, reduceLeDiff, reduceToNat, eSchema]; exact rfl) (by simp [go_sem, reduceIte, reduceCtorEq, reduceEqDiff, reduceAdd, reduceLT, reduceLeDiff, reduceToNat, eSchema]) ?_
            refine CWops.call (schema_Same up t t) (by simp only [go_sem, reduceIte, reduceCtorEq, reduceEqDiff, reduceAdd, reduceLT, reduceLeDiff, reduceToNat, eSchema]) (by simp only [go_sem, reduceIte, reduceCtorEq, reduceEqDiff, reduceAdd, reduceLT, reduceLeDiff, reduceToNat, eSchema]; first | done | exact rfl) (by simp only [go_sem, reduceIte, reduceCtorEq, reduceEqDiff, reduceAdd, reduceLT, reduceLeDiff, reduceToNat, eSchema]) (fun rt100 hrt100 => ?_)
            subst hrt100; refine ⟨rfl, ?_⟩
            refine CWops.run htt 1 (by simp only [go_sem, reduceIte, reduceCtorEq, reduceEqDiff, reduceAdd, reduceLT, reduceLeDiff, reduceToNat, eSchema]; exact rfl) (by simp [go_sem, reduceIte, reduceCtorEq, reduceEqDiff, reduceAdd, reduceLT, reduceLeDiff, reduceToNat, eSchema]) ?_
            all_goals (first | refine CWops.guard 101 (by simp only [go_sem, reduceIte, reduceCtorEq, reduceEqDiff, reduceAdd, reduceLT, reduceLeDiff, reduceToNat, eSchema]; exact rfl) (fun g101 => ?_) (fun g101 => ?_) | skip)
            all_goals (first | (exfalso; simp at g101; done) | skip)
            all_goals (refine CWops.run htt 4 (by simp only [go_sem, reduceIte, reduceCtorEq, reduceEqDiff, reduceAdd, reduceLT, reduceLeDiff, reduceToNat, eSchema]; exact rfl) (by simp [go_sem, reduceIte, reduceCtorEq, reduceEqDiff, reduceAdd, reduceLT, reduceLeDiff, reduceToNat, eSchema]) ?_)
            all_goals (refine CWops.done ?_)
            all_goals (
              refine CW.ret ?_
              refine retQ.ret (by simp only [f7, go_sem, reduceIte, reduceCtorEq, reduceEqDiff, reduceAdd, reduceLT, reduceLeDiff, reduceToNat]; exact rfl) (by simp only [go_sem, reduceIte, reduceCtorEq, reduceEqDiff, reduceAdd, reduceLT, reduceLeDiff, reduceToNat]; exact rfl) ?_ -- ret3
              refine ⟨_, ?_, rfl⟩
              first | (simp [leP]; done) | (simp_all [leP]; done))
          · simp only [Bool.or_eq_false_iff, Bool.not_eq_false', decide_eq_false_iff_not] at ct97
            obtain ⟨he, hhS, hmh⟩ := hgood ct97.1 (by have := ct97.2; omega)
            refine CW.skip ?_
            refine CW.seq ?_
            refine CW.region (by kernel_rfl) (by kernel_rfl) ?_ -- r23
            refine CWops.run htt 2 (by simp only [go_sem, reduceIte, reduceCtorEq, reduceEqDiff, reduceAdd, reduceLT, reduceLeDiff, reduceToNat, eSchema, eGraph]; exact rfl) (by simp [go_sem, reduceIte, reduceCtorEq, reduceEqDiff, reduceAdd, reduceLT, reduceLeDiff, reduceToNat, eSchema, eGraph]) ?_
            refine CWops.call (schema_Same up t t) (by simp only [go_sem, reduceIte, reduceCtorEq, reduceEqDiff, reduceAdd, reduceLT, reduceLeDiff, reduceToNat, eSchema, eGraph]) (by simp only [go_sem, reduceIte, reduceCtorEq, reduceEqDiff, reduceAdd, reduceLT, reduceLeDiff, reduceToNat, eSchema, eGraph]; first | done | exact rfl) (by simp only [go_sem, reduceIte, reduceCtorEq, reduceEqDiff, reduceAdd, reduceLT, reduceLeDiff, reduceToNat, eSchema, eGraph]) (fun rt107 hrt107 => ?_)
            subst hrt107; refine ⟨rfl, ?_⟩
            refine CWops.run htt 1 (by simp only [go_sem, reduceIte, reduceCtorEq, reduceEqDiff, reduceAdd, reduceLT, reduceLeDiff, reduceToNat, eSchema, eGraph]; exact rfl) (by simp [go_sem, reduceIte, reduceCtorEq, reduceEqDiff, reduceAdd, reduceLT, reduceLeDiff, reduceToNat, eSchema, eGraph]) ?_
            all_goals (first | refine CWops.guard 108 (by simp only [go_sem, reduceIte, reduceCtorEq, reduceEqDiff, reduceAdd, reduceLT, reduceLeDiff, reduceToNat, eSchema, eGraph]; exact rfl) (fun g108 => ?_) (fun g108 => ?_) | skip)
            all_goals (first | (exfalso; simp at g108; done) | skip)
            all_goals (refine CWops.run htt 4 (by simp only [go_sem, reduceIte, reduceCtorEq, reduceEqDiff, reduceAdd, reduceLT, reduceLeDiff, reduceToNat, eSchema, eGraph]; exact rfl) (by simp [go_sem, reduceIte, reduceCtorEq, reduceEqDiff, reduceAdd, reduceLT, reduceLeDiff, reduceToNat, eSchema, eGraph]) ?_)
            all_goals (first | refine CWops.guard 112 (by simp only [go_sem, reduceIte, reduceCtorEq, reduceEqDiff, reduceAdd, reduceLT, reduceLeDiff, reduceToNat, eSchema, eGraph]; exact rfl) (fun g112 => ?_) (fun g112 => ?_) | skip)
            all_goals (skip)
            all_goals (refine CWops.run htt 3 (by simp only [go_sem, reduceIte, reduceCtorEq, reduceEqDiff, reduceAdd, reduceLT, reduceLeDiff, reduceToNat, eSchema, eGraph]; exact rfl) (by simp [go_sem, reduceIte, reduceCtorEq, reduceEqDiff, reduceAdd, reduceLT, reduceLeDiff, reduceToNat, eSchema, eGraph]) ?_)
            all_goals (first | (refine CWops.skip ?_ ?_; next => (simp only [go_sem, reduceIte, reduceCtorEq, reduceEqDiff, reduceAdd, reduceLT, reduceLeDiff, reduceToNat]; done)) | (refine CWops.call (schema_Same up h.S t) (by simp only [go_sem, reduceIte, reduceCtorEq, reduceEqDiff, reduceAdd, reduceLT, reduceLeDiff, reduceToNat, eSchema, eGraph]) (by simp only [go_sem, reduceIte, reduceCtorEq, reduceEqDiff, reduceAdd, reduceLT, reduceLeDiff, reduceToNat, eSchema, eGraph]; first | done | exact rfl) (by simp only [go_sem, reduceIte, reduceCtorEq, reduceEqDiff, reduceAdd, reduceLT, reduceLeDiff, reduceToNat, eSchema, eGraph]) (fun rt116 hrt116 => ?_); subst hrt116; refine ⟨rfl, ?_⟩))
            all_goals (refine CWops.run htt 2 (by simp only [go_sem, reduceIte, reduceCtorEq, reduceEqDiff, reduceAdd, reduceLT, reduceLeDiff, reduceToNat, eSchema, eGraph]; exact rfl) (by simp [go_sem, reduceIte, reduceCtorEq, reduceEqDiff, reduceAdd, reduceLT, reduceLeDiff, reduceToNat, eSchema, eGraph]) ?_)
            all_goals (first | refine CWops.guard 118 (by simp only [go_sem, reduceIte, reduceCtorEq, reduceEqDiff, reduceAdd, reduceLT, reduceLeDiff, reduceToNat, eSchema, eGraph]; exact rfl) (fun g118 => ?_) (fun g118 => ?_) | skip)
            all_goals (skip)
            all_goals (refine CWops.run htt 1 (by simp only [go_sem, reduceIte, reduceCtorEq, reduceEqDiff, reduceAdd, reduceLT, reduceLeDiff, reduceToNat, eSchema, eGraph]; exact rfl) (by simp [go_sem, reduceIte, reduceCtorEq, reduceEqDiff, reduceAdd, reduceLT, reduceLeDiff, reduceToNat, eSchema, eGraph]) ?_)
            all_goals (first | (refine CWops.skip ?_ ?_; next => (simp only [go_sem, reduceIte, reduceCtorEq, reduceEqDiff, reduceAdd, reduceLT, reduceLeDiff, reduceToNat]; done)) | (refine CWops.call (graph_May up h) (by simp only [go_sem, reduceIte, reduceCtorEq, reduceEqDiff, reduceAdd, reduceLT, reduceLeDiff, reduceToNat, eSchema, eGraph]) (by simp only [go_sem, reduceIte, reduceCtorEq, reduceEqDiff, reduceAdd, reduceLT, reduceLeDiff, reduceToNat, eSchema, eGraph]; first | done | exact rfl) (by simp only [go_sem, reduceIte, reduceCtorEq, reduceEqDiff, reduceAdd, reduceLT, reduceLeDiff, reduceToNat, eSchema, eGraph]) (fun rt120 hrt120 => ?_); subst hrt120; refine ⟨rfl, ?_⟩))
            all_goals (refine CWops.run htt 2 (by simp only [go_sem, reduceIte, reduceCtorEq, reduceEqDiff, reduceAdd, reduceLT, reduceLeDiff, reduceToNat, eSchema, eGraph]; exact rfl) (by simp [go_sem, reduceIte, reduceCtorEq, reduceEqDiff, reduceAdd, reduceLT, reduceLeDiff, reduceToNat, eSchema, eGraph]) ?_)
            all_goals (refine CWops.done ?_)
            all_goals (
              refine CW.ret ?_
              refine retQ.ret (by simp only [f7, go_sem, reduceIte, reduceCtorEq, reduceEqDiff, reduceAdd, reduceLT, reduceLeDiff, reduceToNat]; exact rfl) (by simp only [go_sem, reduceIte, reduceCtorEq, reduceEqDiff, reduceAdd, reduceLT, reduceLeDiff, reduceToNat]; exact rfl) ?_ -- ret4
              refine ⟨_, ?_, rfl⟩
              first | (simp [leP]; done) | (simp_all [leP]; done))
end Go.Ab
