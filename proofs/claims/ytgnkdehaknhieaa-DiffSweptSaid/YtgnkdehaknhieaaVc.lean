/-
  What functions of the program answer: each by its contract. No condition but those of each theorem.
-/
import Derived.Test.YtgnkdehaknhieaaProg
import Derived.WalkKit
import Derived.Below
import Derived.Scope
import Derived.Orders
import Derived.Test.YtgnkdehaknhieaaFa
import Derived.Test.YtgnkdehaknhieaaFb
import Derived.Test.YtgnkdehaknhieaaFc
import Derived.Test.YtgnkdehaknhieaaFd
import Derived.Test.YtgnkdehaknhieaaFe
import Derived.Test.YtgnkdehaknhieaaDa
import Derived.Test.YtgnkdehaknhieaaVa
import Derived.Test.YtgnkdehaknhieaaVb
set_option linter.unusedVariables false
set_option linter.unusedSimpArgs false
namespace Go.Ab
open Go Go.Proofs.Try
open Nat (reduceEqDiff reduceAdd reduceLT reduceLeDiff reduceBEq reduceSub reduceMul)
open Int (reduceToNat)
set_option maxRecDepth 100000
set_option linter.unusedSimpArgs false
set_option linter.unusedVariables false
theorem diff_Of (up : Bool) (o a : Graph) : PCall prog up 36 [.agg (eGraph o), .agg (eGraph a)] (· = .tup [.agg (eChange (gDiff o a).1), .int .i64 (gDiff o a).2]) := by
  refine PCall.intro htt func36 (by kernel_rfl) rfl (Nat.le_of_ble_eq_true rfl) fun hl => ?_

  simp only [tmps0, Nat.reduceAdd]
  refine CW.seq ?_
  refine CW.region (by kernel_rfl) (by kernel_rfl) ?_ -- r0
  refine CWops.run htt 4 (by simp only [go_sem, reduceIte, reduceCtorEq, reduceEqDiff, reduceAdd, reduceLT, reduceLeDiff, reduceToNat, reduceMul, eGraph]; exact rfl) (by simp [go_sem, reduceIte, reduceCtorEq, reduceEqDiff, reduceAdd, reduceLT, reduceLeDiff, reduceToNat, reduceMul, eGraph]) ?_
  refine CWops.done ?_
  refine CW.seq ?_
  refine CW.cut ⟨3, [(2, .lv 0 [] 0), (3, .lv 1 [] 0), (4, .lv 2 [] 0), (5, .int .i64 0), (24, .bool (!(gMay o && gMay a)))], [(0, ⟨true, eGraph o⟩), (1, ⟨true, eGraph a⟩), (2, ⟨true, [.nilsl, .nilsl, .nilsl, .nilsl]⟩)]⟩ ?_ ?_
  · refine CW.region (by kernel_rfl) (by kernel_rfl) ?_ -- r1
    refine CWops.run htt 1 (by simp only [go_sem, reduceIte, reduceCtorEq, reduceEqDiff, reduceAdd, reduceLT, reduceLeDiff, reduceToNat, reduceMul, eGraph]; exact rfl) (by simp [go_sem, reduceIte, reduceCtorEq, reduceEqDiff, reduceAdd, reduceLT, reduceLeDiff, reduceToNat, reduceMul, eGraph]) ?_
    refine CWops.call (graph_May up o) (by simp only [go_sem, reduceIte, reduceCtorEq, reduceEqDiff, reduceAdd, reduceLT, reduceLeDiff, reduceToNat, reduceMul, eGraph]) (by simp only [go_sem, reduceIte, reduceCtorEq, reduceEqDiff, reduceAdd, reduceLT, reduceLeDiff, reduceToNat, reduceMul, eGraph]; first | done | exact rfl) (by simp only [go_sem, reduceIte, reduceCtorEq, reduceEqDiff, reduceAdd, reduceLT, reduceLeDiff, reduceToNat, reduceMul, eGraph]) (fun rt18 hrt18 => ?_)
    subst hrt18; refine ⟨rfl, ?_⟩
    refine CWops.run htt 2 (by simp only [go_sem, reduceIte, reduceCtorEq, reduceEqDiff, reduceAdd, reduceLT, reduceLeDiff, reduceToNat, reduceMul, eGraph]; exact rfl) (by simp [go_sem, reduceIte, reduceCtorEq, reduceEqDiff, reduceAdd, reduceLT, reduceLeDiff, reduceToNat, reduceMul, eGraph]) ?_
    all_goals (first | refine CWops.guard 20 (by simp only [go_sem, reduceIte, reduceCtorEq, reduceEqDiff, reduceAdd, reduceLT, reduceLeDiff, reduceToNat, reduceMul, eGraph]; exact rfl) (fun g20 => ?_) (fun g20 => ?_) | skip)
    all_goals (refine CWops.run htt 1 (by simp only [go_sem, reduceIte, reduceCtorEq, reduceEqDiff, reduceAdd, reduceLT, reduceLeDiff, reduceToNat, reduceMul, eGraph]; exact rfl) (by simp [go_sem, reduceIte, reduceCtorEq, reduceEqDiff, reduceAdd, reduceLT, reduceLeDiff, reduceToNat, reduceMul, eGraph]) ?_)
    all_goals (first | (refine CWops.skip ?_ ?_; next => (simp only [go_sem, reduceIte, reduceCtorEq, reduceEqDiff, reduceAdd, reduceLT, reduceLeDiff, reduceToNat, reduceMul]; done)) | (refine CWops.call (graph_May up a) (by simp only [go_sem, reduceIte, reduceCtorEq, reduceEqDiff, reduceAdd, reduceLT, reduceLeDiff, reduceToNat, reduceMul, eGraph]) (by simp only [go_sem, reduceIte, reduceCtorEq, reduceEqDiff, reduceAdd, reduceLT, reduceLeDiff, reduceToNat, reduceMul, eGraph]; first | done | exact rfl) (by simp only [go_sem, reduceIte, reduceCtorEq, reduceEqDiff, reduceAdd, reduceLT, reduceLeDiff, reduceToNat, reduceMul, eGraph]) (fun rt22 hrt22 => ?_); subst hrt22; refine ⟨rfl, ?_⟩))
    all_goals (refine CWops.run htt 2 (by simp only [go_sem, reduceIte, reduceCtorEq, reduceEqDiff, reduceAdd, reduceLT, reduceLeDiff, reduceToNat, reduceMul, eGraph]; exact rfl) (by simp [go_sem, reduceIte, reduceCtorEq, reduceEqDiff, reduceAdd, reduceLT, reduceLeDiff, reduceToNat, reduceMul, eGraph]) ?_)
    all_goals (refine CWops.done ?_)
    all_goals (
      first | refine ⟨rfl, Sh.wk0 ?_⟩ | refine Sh.wk0 ?_
      simp_all [Wk, go_sem, reduceIte, reduceCtorEq, reduceEqDiff, reduceAdd, reduceLT, reduceLeDiff, reduceToNat, reduceMul, eGraph])
  refine CW.cond (by simp only [go_sem, reduceIte, reduceCtorEq, reduceEqDiff, reduceAdd, reduceLT, reduceLeDiff, reduceToNat, reduceMul]; first | done | exact rfl) (fun ct24 => ?_) (fun ct24 => ?_)
  · simp only [Bool.not_eq_true'] at ct24
    refine CW.seq ?_
    refine CW.region (by kernel_rfl) (by kernel_rfl) ?_ -- r2
    refine CWops.run htt 3 (by simp only [go_sem, reduceIte, reduceCtorEq, reduceEqDiff, reduceAdd, reduceLT, reduceLeDiff, reduceToNat, reduceMul]; exact rfl) (by simp [go_sem, reduceIte, reduceCtorEq, reduceEqDiff, reduceAdd, reduceLT, reduceLeDiff, reduceToNat, reduceMul]) ?_
    refine CWops.done ?_
    refine CW.ret ?_
    refine retQ.ret (by simp only [f36, go_sem, reduceIte, reduceCtorEq, reduceEqDiff, reduceAdd, reduceLT, reduceLeDiff, reduceToNat, reduceMul]; exact rfl) (by simp only [go_sem, reduceIte, reduceCtorEq, reduceEqDiff, reduceAdd, reduceLT, reduceLeDiff, reduceToNat, reduceMul]; exact rfl) ?_ -- ret1
    refine ⟨_, ?_, rfl⟩
    simp [leP, leL, gDiff, ct24, noChange, eChange]
  · simp only [Bool.not_eq_false', Bool.and_eq_true] at ct24
    obtain ⟨hmo', hma'⟩ := ct24
    have hmo := (may_iff o).1 hmo'
    have hma := (may_iff a).1 hma'
    have ho8 := hmo.o
    have ha8 := hma.o
    have hr3 := hmo.r
    have hs3 := hma.r
    have hF5 := hmo.small.2.2
    refine CW.skip ?_
    refine CW.seq ?_
    refine CW.seq ?_
    refine CW.region (by kernel_rfl) (by kernel_rfl) ?_ -- r3
    refine CWops.run htt 4 (by simp only [go_sem, reduceIte, reduceCtorEq, reduceEqDiff, reduceAdd, reduceLT, reduceLeDiff, reduceToNat, reduceMul, eGraph, eSchema]; exact rfl) (by simp [go_sem, reduceIte, reduceCtorEq, reduceEqDiff, reduceAdd, reduceLT, reduceLeDiff, reduceToNat, reduceMul, eGraph, eSchema]) ?_
    refine CWops.call (schema_Same up o.S a.S) (by simp only [go_sem, reduceIte, reduceCtorEq, reduceEqDiff, reduceAdd, reduceLT, reduceLeDiff, reduceToNat, reduceMul, eGraph, eSchema]) (by simp only [go_sem, reduceIte, reduceCtorEq, reduceEqDiff, reduceAdd, reduceLT, reduceLeDiff, reduceToNat, reduceMul, eGraph, eSchema]; first | done | exact rfl) (by simp only [go_sem, reduceIte, reduceCtorEq, reduceEqDiff, reduceAdd, reduceLT, reduceLeDiff, reduceToNat, reduceMul, eGraph, eSchema]) (fun rt30 hrt30 => ?_)
    subst hrt30; refine ⟨rfl, ?_⟩
    refine CWops.run htt 1 (by simp only [go_sem, reduceIte, reduceCtorEq, reduceEqDiff, reduceAdd, reduceLT, reduceLeDiff, reduceToNat, reduceMul, eGraph, eSchema]; exact rfl) (by simp [go_sem, reduceIte, reduceCtorEq, reduceEqDiff, reduceAdd, reduceLT, reduceLeDiff, reduceToNat, reduceMul, eGraph, eSchema]) ?_
    refine CWops.done ?_
    refine CW.cond (by simp only [go_sem, reduceIte, reduceCtorEq, reduceEqDiff, reduceAdd, reduceLT, reduceLeDiff, reduceToNat, reduceMul]; first | done | exact rfl) (fun ct31 => ?_) (fun ct31 => ?_)
    · have hS : ¬ o.S = a.S := by simpa using ct31
      refine CW.seq ?_
      refine CW.region (by kernel_rfl) (by kernel_rfl) ?_ -- r4
      refine CWops.run htt 3 (by simp only [go_sem, reduceIte, reduceCtorEq, reduceEqDiff, reduceAdd, reduceLT, reduceLeDiff, reduceToNat, reduceMul]; exact rfl) (by simp [go_sem, reduceIte, reduceCtorEq, reduceEqDiff, reduceAdd, reduceLT, reduceLeDiff, reduceToNat, reduceMul]) ?_
      refine CWops.done ?_
      refine CW.ret ?_
      refine retQ.ret (by simp only [f36, go_sem, reduceIte, reduceCtorEq, reduceEqDiff, reduceAdd, reduceLT, reduceLeDiff, reduceToNat, reduceMul]; exact rfl) (by simp only [go_sem, reduceIte, reduceCtorEq, reduceEqDiff, reduceAdd, reduceLT, reduceLeDiff, reduceToNat, reduceMul]; exact rfl) ?_ -- ret2
      refine ⟨_, ?_, rfl⟩
      simp [leP, leL, gDiff, hmo', hma', hS, noChange, eChange]
    · have hS : o.S = a.S := by simpa using ct31
      refine CW.skip ?_
      refine CW.seq ?_
      refine CW.region (by kernel_rfl) (by kernel_rfl) ?_ -- r5
      refine CWops.run htt 1 (by simp only [go_sem, reduceIte, reduceCtorEq, reduceEqDiff, reduceAdd, reduceLT, reduceLeDiff, reduceToNat, reduceMul]; exact rfl) (by simp [go_sem, reduceIte, reduceCtorEq, reduceEqDiff, reduceAdd, reduceLT, reduceLeDiff, reduceToNat, reduceMul]) ?_
      refine CWops.done ?_
      refine CW.seq ?_
      refine CW.seq ?_
      refine CW.region (by kernel_rfl) (by kernel_rfl) ?_ -- r6
      refine CWops.run htt 4 (by simp only [go_sem, reduceIte, reduceCtorEq, reduceEqDiff, reduceAdd, reduceLT, reduceLeDiff, reduceToNat, reduceMul, eGraph]; exact rfl) (by simp [go_sem, reduceIte, reduceCtorEq, reduceEqDiff, reduceAdd, reduceLT, reduceLeDiff, reduceToNat, reduceMul, eGraph]) ?_
      refine CWops.done ?_
      refine CW.block ?_
      refine CW.loop (S := Nat) (fun i => ⟨4, [(2, .lv 0 [] 0), (3, .lv 1 [] 0), (4, .lv 2 [] 0), (5, .int .i64 0), (6, .lv 3 [] 0), (34, .sl 3 (a.O.map eObj)), (35, .int .i64 a.O.length), (36, .int .i64 i)], [(0, ⟨true, eGraph o⟩), (1, ⟨true, eGraph a⟩), (2, ⟨true, [.nilsl, .nilsl, .nilsl, .nilsl]⟩), (3, ⟨true, [.own 1 ((dNew o (a.O.take i)).map eI), .nilsl, .nilsl, .nilsl]⟩)]⟩) (fun i => i ≤ a.O.length) (fun i => a.O.length - i) (0) ?_ (Nat.zero_le _) (fun i h1 => ?_)
      · refine Sh.trans (Sh.nilCell 3 [] 0 1 (by simp [go_sem, reduceIte, reduceCtorEq, reduceEqDiff, reduceAdd, reduceLT, reduceLeDiff, reduceToNat, reduceMul]) rfl) (Sh.wk0 ?_); simp [Wk, go_sem, reduceIte, reduceCtorEq, reduceEqDiff, reduceAdd, reduceLT, reduceLeDiff, reduceToNat, reduceMul, eGraph, dNew]
      refine CW.seq ?_
      refine CW.region (by kernel_rfl) (by kernel_rfl) ?_ -- r7
      refine CWops.run htt 1 (by simp only [go_sem, reduceIte, reduceCtorEq, reduceEqDiff, reduceAdd, reduceLT, reduceLeDiff, reduceToNat, reduceMul]; exact rfl) (by simp [go_sem, reduceIte, reduceCtorEq, reduceEqDiff, reduceAdd, reduceLT, reduceLeDiff, reduceToNat, reduceMul]) ?_
      refine CWops.done ?_
      refine CW.seq ?_
      refine CW.cond (by simp only [go_sem, reduceIte, reduceCtorEq, reduceEqDiff, reduceAdd, reduceLT, reduceLeDiff, reduceToNat, reduceMul]; first | done | exact rfl) (fun ct37 => ?_) (fun ct37 => ?_)
      · have hi : i < a.O.length := by simpa using ct37
        obtain ⟨x, hx⟩ : ∃ x, a.O[i]? = some x := ⟨a.O[i], List.getElem?_eq_getElem hi⟩
        have hL : (dNew o (a.O.take i)).length ≤ 8 := Nat.le_trans (dNew_len _ _) (by simp; omega)
        refine CW.skip ?_
        refine CW.seq ?_
        refine CW.block ?_
        refine CW.seq ?_
        refine CW.region (by kernel_rfl) (by kernel_rfl) ?_ -- r8
        refine CWops.run htt 4 (by simp only [go_sem, reduceIte, reduceCtorEq, reduceEqDiff, reduceAdd, reduceLT, reduceLeDiff, reduceToNat, reduceMul, hi, hx, eObj]; exact rfl) (by simp [go_sem, reduceIte, reduceCtorEq, reduceEqDiff, reduceAdd, reduceLT, reduceLeDiff, reduceToNat, reduceMul, hi, hx, eObj]) ?_
        refine CWops.done ?_
        refine CW.seq ?_
        refine CW.region (by kernel_rfl) (by kernel_rfl) ?_ -- r9
        refine CWops.run htt 3 (by simp only [go_sem, reduceIte, reduceCtorEq, reduceEqDiff, reduceAdd, reduceLT, reduceLeDiff, reduceToNat, reduceMul, eGraph, eObj]; exact rfl) (by simp [go_sem, reduceIte, reduceCtorEq, reduceEqDiff, reduceAdd, reduceLT, reduceLeDiff, reduceToNat, reduceMul, eGraph, eObj]) ?_
        refine CWops.callA (diff_other up o x.Id) (by simp only [go_sem, reduceIte, reduceCtorEq, reduceEqDiff, reduceAdd, reduceLT, reduceLeDiff, reduceToNat, reduceMul, eGraph, eObj]) (by simp only [go_sem, reduceIte, reduceCtorEq, reduceEqDiff, reduceAdd, reduceLT, reduceLeDiff, reduceToNat, reduceMul, eGraph, eObj]; first | done | exact rfl) (by simp only [go_sem, reduceIte, reduceCtorEq, reduceEqDiff, reduceAdd, reduceLT, reduceLeDiff, reduceToNat, reduceMul, eGraph, eObj]) (by simp only [go_sem, reduceIte, reduceCtorEq, reduceEqDiff, reduceAdd, reduceLT, reduceLeDiff, reduceToNat, reduceMul, eGraph, eObj]) (fun rt44 hrt44 => ?_)
        subst hrt44
        refine CWops.run htt 6 (by simp only [go_sem, reduceIte, reduceCtorEq, reduceEqDiff, reduceAdd, reduceLT, reduceLeDiff, reduceToNat, reduceMul, eGraph, eObj]; exact rfl) (by simp [go_sem, reduceIte, reduceCtorEq, reduceEqDiff, reduceAdd, reduceLT, reduceLeDiff, reduceToNat, reduceMul, eGraph, eObj]) ?_
        refine CWops.done ?_
        refine CW.seq ?_
        refine CW.region (by kernel_rfl) (by kernel_rfl) ?_ -- r10
        refine CWops.run htt 2 (by simp only [go_sem, reduceIte, reduceCtorEq, reduceEqDiff, reduceAdd, reduceLT, reduceLeDiff, reduceToNat, reduceMul]; exact rfl) (by simp [go_sem, reduceIte, reduceCtorEq, reduceEqDiff, reduceAdd, reduceLT, reduceLeDiff, reduceToNat, reduceMul]) ?_
        refine CWops.done ?_
        refine CW.cond (by simp only [go_sem, reduceIte, reduceCtorEq, reduceEqDiff, reduceAdd, reduceLT, reduceLeDiff, reduceToNat, reduceMul]; first | done | exact rfl) (fun ct48 => ?_) (fun ct48 => ?_)
        · have hh : hasId o x.Id = false := by simpa using ct48
          refine CW.region (by kernel_rfl) (by kernel_rfl) ?_ -- r11
          refine CWops.run htt 8 (by simp only [go_sem, reduceIte, reduceCtorEq, reduceEqDiff, reduceAdd, reduceLT, reduceLeDiff, reduceToNat, reduceMul, List.replicate, eI]; exact rfl) (by simp [AV.cell, AV.tree, eI, MX] <;> omega) ?_
          refine CWops.done ?_
          refine CW.region (by kernel_rfl) (by kernel_rfl) ?_ -- r12
          refine CWops.run htt 2 (by simp only [go_sem, reduceIte, reduceCtorEq, reduceEqDiff, reduceAdd, reduceLT, reduceLeDiff, reduceToNat, reduceMul, wrap_succ (show i < MX by unfold MX; omega)]; exact rfl) (by simp [go_sem, reduceIte, reduceCtorEq, reduceEqDiff, reduceAdd, reduceLT, reduceLeDiff, reduceToNat, reduceMul, wrap_succ (show i < MX by unfold MX; omega)]) ?_
          refine CWops.done ?_
          refine ⟨i + 1, ?_, ?_, ?_⟩
          · refine Sh.wk0 ?_
            dsimp only
            first | (rw [dNew_no hx hh]; simp [Wk, go_sem, reduceIte, reduceCtorEq, reduceEqDiff, reduceAdd, reduceLT, reduceLeDiff, reduceToNat, reduceMul, eGraph, eI]; done) | (rw [dNew_yes hx hh]; simp [Wk, go_sem, reduceIte, reduceCtorEq, reduceEqDiff, reduceAdd, reduceLT, reduceLeDiff, reduceToNat, reduceMul, eGraph]; done) | skip
          · exact hi
          · simp only; omega
        · have hh : hasId o x.Id = true := by simpa using ct48
          refine CW.skip ?_
          refine CW.region (by kernel_rfl) (by kernel_rfl) ?_ -- r12
          refine CWops.run htt 2 (by simp only [go_sem, reduceIte, reduceCtorEq, reduceEqDiff, reduceAdd, reduceLT, reduceLeDiff, reduceToNat, reduceMul, wrap_succ (show i < MX by unfold MX; omega)]; exact rfl) (by simp [go_sem, reduceIte, reduceCtorEq, reduceEqDiff, reduceAdd, reduceLT, reduceLeDiff, reduceToNat, reduceMul, wrap_succ (show i < MX by unfold MX; omega)]) ?_
          refine CWops.done ?_
          refine ⟨i + 1, ?_, ?_, ?_⟩
          · refine Sh.wk0 ?_
            dsimp only
            first | (rw [dNew_no hx hh]; simp [Wk, go_sem, reduceIte, reduceCtorEq, reduceEqDiff, reduceAdd, reduceLT, reduceLeDiff, reduceToNat, reduceMul, eGraph, eI]; done) | (rw [dNew_yes hx hh]; simp [Wk, go_sem, reduceIte, reduceCtorEq, reduceEqDiff, reduceAdd, reduceLT, reduceLeDiff, reduceToNat, reduceMul, eGraph]; done) | skip
          · exact hi
          · simp only; omega
      · have hi : i = a.O.length := by simp at ct37; omega
        refine CW.exit ?_
        refine CW.seq ?_
        refine CW.seq ?_
        refine CW.region (by kernel_rfl) (by kernel_rfl) ?_ -- r13
        refine CWops.run htt 4 (by simp only [go_sem, reduceIte, reduceCtorEq, reduceEqDiff, reduceAdd, reduceLT, reduceLeDiff, reduceToNat, reduceMul, eGraph]; exact rfl) (by simp [go_sem, reduceIte, reduceCtorEq, reduceEqDiff, reduceAdd, reduceLT, reduceLeDiff, reduceToNat, reduceMul, eGraph]) ?_
        refine CWops.done ?_
        refine CW.block ?_
        refine CW.loop (S := Nat) (fun i => ⟨4, [(2, .lv 0 [] 0), (3, .lv 1 [] 0), (4, .lv 2 [] 0), (5, .int .i64 0), (6, .lv 3 [] 0), (58, .sl 3 (o.O.map eObj)), (59, .int .i64 o.O.length), (60, .int .i64 i)], [(0, ⟨true, eGraph o⟩), (1, ⟨true, eGraph a⟩), (2, ⟨true, [.nilsl, .nilsl, .nilsl, .nilsl]⟩), (3, ⟨true, [.own 1 ((dNew o a.O).map eI), .own 1 ((dNew a (o.O.take i)).map eI), .own 2 ((dSet a (o.O.take i)).map eP), .nilsl]⟩)]⟩) (fun i => i ≤ o.O.length ∧ dBad a (o.O.take i) = false) (fun i => o.O.length - i) (0) ?_ ⟨Nat.zero_le _, rfl⟩ (fun i ⟨h1, h2⟩ => ?_)
        · rw [hi, List.take_length]; refine Sh.trans (Sh.nilCell 3 [] 1 1 (by simp [go_sem, reduceIte, reduceCtorEq, reduceEqDiff, reduceAdd, reduceLT, reduceLeDiff, reduceToNat, reduceMul]) rfl) (Sh.trans (Sh.nilCell 3 [] 2 2 (by simp [go_sem, reduceIte, reduceCtorEq, reduceEqDiff, reduceAdd, reduceLT, reduceLeDiff, reduceToNat, reduceMul]) rfl) (Sh.wk0 ?_)); simp [Wk, go_sem, reduceIte, reduceCtorEq, reduceEqDiff, reduceAdd, reduceLT, reduceLeDiff, reduceToNat, reduceMul, eGraph, dNew, dSet]
        refine CW.seq ?_
        refine CW.region (by kernel_rfl) (by kernel_rfl) ?_ -- r14
        refine CWops.run htt 1 (by simp only [go_sem, reduceIte, reduceCtorEq, reduceEqDiff, reduceAdd, reduceLT, reduceLeDiff, reduceToNat, reduceMul]; exact rfl) (by simp [go_sem, reduceIte, reduceCtorEq, reduceEqDiff, reduceAdd, reduceLT, reduceLeDiff, reduceToNat, reduceMul]) ?_
        refine CWops.done ?_
        refine CW.seq ?_
        refine CW.cond (by simp only [go_sem, reduceIte, reduceCtorEq, reduceEqDiff, reduceAdd, reduceLT, reduceLeDiff, reduceToNat, reduceMul]; first | done | exact rfl) (fun ct61 => ?_) (fun ct61 => ?_)
        · have hi : i < o.O.length := by simpa using ct61
          obtain ⟨x, hx⟩ : ∃ x, o.O[i]? = some x := ⟨o.O[i], List.getElem?_eq_getElem hi⟩
          obtain ⟨y, hy⟩ : ∃ y, y = objD a x.Id := ⟨_, rfl⟩
          have hL : (dNew a (o.O.take i)).length ≤ 8 := Nat.le_trans (dNew_len _ _) (by simp; omega)
          have hL2 : (dSet a (o.O.take i)).length ≤ 40 := Nat.le_trans (dSet_len a _ 5 fun z hz => hF5 z (List.mem_of_mem_take hz)) (by simp; omega)
          have hx5 := hF5 x (List.mem_of_getElem? hx)
          refine CW.skip ?_
          refine CW.seq ?_
          refine CW.block ?_
          refine CW.seq ?_
          refine CW.region (by kernel_rfl) (by kernel_rfl) ?_ -- r15
          refine CWops.run htt 4 (by simp only [go_sem, reduceIte, reduceCtorEq, reduceEqDiff, reduceAdd, reduceLT, reduceLeDiff, reduceToNat, reduceMul, hi, hx, eObj]; exact rfl) (by simp [go_sem, reduceIte, reduceCtorEq, reduceEqDiff, reduceAdd, reduceLT, reduceLeDiff, reduceToNat, reduceMul, hi, hx, eObj]) ?_
          refine CWops.done ?_
          refine CW.seq ?_
          refine CW.region (by kernel_rfl) (by kernel_rfl) ?_ -- r16
          refine CWops.run htt 3 (by simp only [go_sem, reduceIte, reduceCtorEq, reduceEqDiff, reduceAdd, reduceLT, reduceLeDiff, reduceToNat, reduceMul, eGraph, eObj]; exact rfl) (by simp [go_sem, reduceIte, reduceCtorEq, reduceEqDiff, reduceAdd, reduceLT, reduceLeDiff, reduceToNat, reduceMul, eGraph, eObj]) ?_
          refine CWops.callA ((by have := diff_other up a x.Id; rw [← hy] at this; exact this)) (by simp only [go_sem, reduceIte, reduceCtorEq, reduceEqDiff, reduceAdd, reduceLT, reduceLeDiff, reduceToNat, reduceMul, eGraph, eObj]) (by simp only [go_sem, reduceIte, reduceCtorEq, reduceEqDiff, reduceAdd, reduceLT, reduceLeDiff, reduceToNat, reduceMul, eGraph, eObj]; first | done | exact rfl) (by simp only [go_sem, reduceIte, reduceCtorEq, reduceEqDiff, reduceAdd, reduceLT, reduceLeDiff, reduceToNat, reduceMul, eGraph, eObj]) (by simp only [go_sem, reduceIte, reduceCtorEq, reduceEqDiff, reduceAdd, reduceLT, reduceLeDiff, reduceToNat, reduceMul, eGraph, eObj]) (fun rt68 hrt68 => ?_)
          subst hrt68
          refine CWops.run htt 6 (by simp only [go_sem, reduceIte, reduceCtorEq, reduceEqDiff, reduceAdd, reduceLT, reduceLeDiff, reduceToNat, reduceMul, eGraph, eObj]; exact rfl) (by simp [go_sem, reduceIte, reduceCtorEq, reduceEqDiff, reduceAdd, reduceLT, reduceLeDiff, reduceToNat, reduceMul, eGraph, eObj]) ?_
          refine CWops.done ?_
          refine CW.seq ?_
          refine CW.block ?_
          refine CW.seq ?_
          refine CW.region (by kernel_rfl) (by kernel_rfl) ?_ -- r17
          refine CWops.run htt 3 (by simp only [go_sem, reduceIte, reduceCtorEq, reduceEqDiff, reduceAdd, reduceLT, reduceLeDiff, reduceToNat, reduceMul]; exact rfl) (by simp [go_sem, reduceIte, reduceCtorEq, reduceEqDiff, reduceAdd, reduceLT, reduceLeDiff, reduceToNat, reduceMul]) ?_
          refine CWops.done ?_
          refine CW.cond (by simp only [go_sem, reduceIte, reduceCtorEq, reduceEqDiff, reduceAdd, reduceLT, reduceLeDiff, reduceToNat, reduceMul]; first | done | exact rfl) (fun ct71 => ?_) (fun ct71 => ?_)
          · have hh : hasId a x.Id = false := by simpa using ct71
            refine CW.seq ?_
            refine CW.region (by kernel_rfl) (by kernel_rfl) ?_ -- r18
            refine CWops.run htt 8 (by simp only [go_sem, reduceIte, reduceCtorEq, reduceEqDiff, reduceAdd, reduceLT, reduceLeDiff, reduceToNat, reduceMul, List.replicate, eI, eObj]; exact rfl) (by simp [AV.cell, AV.tree, eI, MX] <;> omega) ?_
            refine CWops.done ?_
            refine CW.exit ?_
            refine CW.region (by kernel_rfl) (by kernel_rfl) ?_ -- r27
            refine CWops.run htt 2 (by simp only [go_sem, reduceIte, reduceCtorEq, reduceEqDiff, reduceAdd, reduceLT, reduceLeDiff, reduceToNat, reduceMul, wrap_succ (show i < MX by unfold MX; omega)]; exact rfl) (by simp [go_sem, reduceIte, reduceCtorEq, reduceEqDiff, reduceAdd, reduceLT, reduceLeDiff, reduceToNat, reduceMul, wrap_succ (show i < MX by unfold MX; omega)]) ?_
            refine CWops.done ?_
            refine ⟨i + 1, ?_, ?_, ?_⟩
            · refine Sh.wk0 ?_
              dsimp only
              first | (rw [dSet_succ hx, dNew_no hx hh, show dSet1 a x = [] by unfold dSet1; rw [hh]; rfl]; simp [Wk, go_sem, reduceIte, reduceCtorEq, reduceEqDiff, reduceAdd, reduceLT, reduceLeDiff, reduceToNat, reduceMul, eGraph, eI]; done) | (rw [dSet_succ hx, dNew_yes hx hh, show dSet1 a x = dSetF x.Id x.F y.F k by unfold dSet1; rw [if_pos hh, hy, hk]]; simp [Wk, go_sem, reduceIte, reduceCtorEq, reduceEqDiff, reduceAdd, reduceLT, reduceLeDiff, reduceToNat, reduceMul, eGraph]; done) | skip
            · exact ⟨hi, dBad_succ hx h2 (by unfold dBad1; rw [hh]; first | rfl | (rw [← hy]; simp [hT]))⟩
            · simp only; omega
          · have hh : hasId a x.Id = true := by simpa using ct71
            refine CW.seq ?_
            refine CW.region (by kernel_rfl) (by kernel_rfl) ?_ -- r19
            refine CWops.run htt 6 (by simp only [go_sem, reduceIte, reduceCtorEq, reduceEqDiff, reduceAdd, reduceLT, reduceLeDiff, reduceToNat, reduceMul, eObj]; exact rfl) (by simp [go_sem, reduceIte, reduceCtorEq, reduceEqDiff, reduceAdd, reduceLT, reduceLeDiff, reduceToNat, reduceMul, eObj]) ?_
            refine CWops.done ?_
            refine CW.cond (by simp only [go_sem, reduceIte, reduceCtorEq, reduceEqDiff, reduceAdd, reduceLT, reduceLeDiff, reduceToNat, reduceMul]; first | done | exact rfl) (fun ct81 => ?_) (fun ct81 => ?_)
            · have hT : x.T ≠ y.T := by simpa using ct81
              refine CW.seq ?_
              refine CW.region (by kernel_rfl) (by kernel_rfl) ?_ -- r20
              refine CWops.run htt 3 (by simp only [go_sem, reduceIte, reduceCtorEq, reduceEqDiff, reduceAdd, reduceLT, reduceLeDiff, reduceToNat, reduceMul]; exact rfl) (by simp [go_sem, reduceIte, reduceCtorEq, reduceEqDiff, reduceAdd, reduceLT, reduceLeDiff, reduceToNat, reduceMul]) ?_
              refine CWops.done ?_
              refine CW.ret ?_
              refine retQ.ret (by simp only [f36, go_sem, reduceIte, reduceCtorEq, reduceEqDiff, reduceAdd, reduceLT, reduceLeDiff, reduceToNat, reduceMul]; exact rfl) (by simp only [go_sem, reduceIte, reduceCtorEq, reduceEqDiff, reduceAdd, reduceLT, reduceLeDiff, reduceToNat, reduceMul]; exact rfl) ?_ -- ret3
              refine ⟨_, ?_, rfl⟩
              have hb := dBad_yes hx (show dBad1 a x = true by unfold dBad1; rw [hh, ← hy]; simp [hT])
              simp [leP, leL, gDiff, hmo', hma', hS, hb, noChange, eChange]
            · have hT : x.T = y.T := by simpa using ct81
              have hyl : y.F.length = x.F.length := by rw [hy] at hT ⊢; exact same_len hmo hma hS hx hh hT
              refine CW.skip ?_
              refine CW.seq ?_
              refine CW.region (by kernel_rfl) (by kernel_rfl) ?_ -- r21
              refine CWops.run htt 4 (by simp only [go_sem, reduceIte, reduceCtorEq, reduceEqDiff, reduceAdd, reduceLT, reduceLeDiff, reduceToNat, reduceMul, eObj]; exact rfl) (by simp [go_sem, reduceIte, reduceCtorEq, reduceEqDiff, reduceAdd, reduceLT, reduceLeDiff, reduceToNat, reduceMul, eObj]) ?_
              refine CWops.done ?_
              refine CW.block ?_
              refine CW.loop (S := Nat) (fun k => ⟨6, [(2, .lv 0 [] 0), (3, .lv 1 [] 0), (4, .lv 2 [] 0), (5, .int .i64 0), (6, .lv 3 [] 0), (12, .lv 4 [] 0), (13, .lv 5 [] 0), (58, .sl 3 (o.O.map eObj)), (59, .int .i64 o.O.length), (60, .int .i64 i), (89, .sl 3 (x.F.map eVal)), (90, .int .i64 x.F.length), (91, .int .i64 k)], [(0, ⟨true, eGraph o⟩), (1, ⟨true, eGraph a⟩), (2, ⟨true, [.nilsl, .nilsl, .nilsl, .nilsl]⟩), (3, ⟨true, [.own 1 ((dNew o a.O).map eI), .own 1 ((dNew a (o.O.take i)).map eI), .own 2 (((dSet a (o.O.take i)) ++ dSetF x.Id x.F y.F k).map eP), .nilsl]⟩), (4, ⟨true, eObj x⟩), (5, ⟨true, eObj y⟩)]⟩) (fun k => k ≤ x.F.length) (fun k => x.F.length - k) (0) ?_ (Nat.zero_le _) (fun k k1 => ?_)
              · refine Sh.wk0 ?_; simp [Wk, go_sem, reduceIte, reduceCtorEq, reduceEqDiff, reduceAdd, reduceLT, reduceLeDiff, reduceToNat, reduceMul, eGraph, eObj, dSetF_zero]
              refine CW.seq ?_
              refine CW.region (by kernel_rfl) (by kernel_rfl) ?_ -- r22
              refine CWops.run htt 1 (by simp only [go_sem, reduceIte, reduceCtorEq, reduceEqDiff, reduceAdd, reduceLT, reduceLeDiff, reduceToNat, reduceMul]; exact rfl) (by simp [go_sem, reduceIte, reduceCtorEq, reduceEqDiff, reduceAdd, reduceLT, reduceLeDiff, reduceToNat, reduceMul]) ?_
              refine CWops.done ?_
              refine CW.seq ?_
              refine CW.cond (by simp only [go_sem, reduceIte, reduceCtorEq, reduceEqDiff, reduceAdd, reduceLT, reduceLeDiff, reduceToNat, reduceMul]; first | done | exact rfl) (fun ct92 => ?_) (fun ct92 => ?_)
              · have hkl : k < x.F.length := by simpa using ct92
                have hkl2 : k < y.F.length := by omega
                obtain ⟨u, hux⟩ : ∃ u, x.F[k]? = some u := ⟨x.F[k], List.getElem?_eq_getElem hkl⟩
                obtain ⟨w, hwy⟩ : ∃ u, y.F[k]? = some u := ⟨y.F[k], List.getElem?_eq_getElem hkl2⟩
                have hL3 := dSetF_len x.Id x.F y.F k
                refine CW.skip ?_
                refine CW.seq ?_
                refine CW.block ?_
                refine CW.seq ?_
                refine CW.region (by kernel_rfl) (by kernel_rfl) ?_ -- r23
                refine CWops.run htt 2 (by simp only [go_sem, reduceIte, reduceCtorEq, reduceEqDiff, reduceAdd, reduceLT, reduceLeDiff, reduceToNat, reduceMul]; exact rfl) (by simp [go_sem, reduceIte, reduceCtorEq, reduceEqDiff, reduceAdd, reduceLT, reduceLeDiff, reduceToNat, reduceMul]) ?_
                refine CWops.done ?_
                refine CW.seq ?_
                refine CW.drawn mixed 10 (by decide) (by kernel_rfl) (by kernel_rfl) (by kernel_rfl) ?_ -- r24
                refine Seg.run htt 10 (by simp only [go_sem, reduceIte, reduceCtorEq, reduceEqDiff, reduceAdd, reduceLT, reduceLeDiff, reduceToNat, reduceMul, eObj, hkl, hkl2, hux, hwy, eVal]; exact rfl) ?_
                refine Seg.done ?_
                refine CWops.run htt 1 (by simp only [go_sem, reduceIte, reduceCtorEq, reduceEqDiff, reduceAdd, reduceLT, reduceLeDiff, reduceToNat, reduceMul, eObj, hkl, hkl2, hux, hwy, eVal]; exact rfl) (by simp [go_sem, reduceIte, reduceCtorEq, reduceEqDiff, reduceAdd, reduceLT, reduceLeDiff, reduceToNat, reduceMul, eObj, hkl, hkl2, hux, hwy, eVal]) ?_
                refine CWops.done ?_
                refine CW.cond (by simp only [go_sem, reduceIte, reduceCtorEq, reduceEqDiff, reduceAdd, reduceLT, reduceLeDiff, reduceToNat, reduceMul]; first | done | exact rfl) (fun ct104 => ?_) (fun ct104 => ?_)
                · have hp : u ≠ w := by
                    intro e; subst e; simp at ct104
                  refine CW.region (by kernel_rfl) (by kernel_rfl) ?_ -- r25
                  refine CWops.run htt 5 (by simp only [go_sem, reduceIte, reduceCtorEq, reduceEqDiff, reduceAdd, reduceLT, reduceLeDiff, reduceToNat, reduceMul, List.replicate, eP, eObj]; exact rfl) (by simp [AV.cell, AV.tree, eP, MX] <;> omega) ?_
                  refine CWops.buildPair htt (k := .i64) (m := x.Id) (n := (k : Int)) (by simp only [go_sem, reduceIte, reduceCtorEq, reduceEqDiff, reduceAdd, reduceLT, reduceLeDiff, reduceToNat, reduceMul]) tt_112 rfl rfl tt_3 rfl (by simp only [go_sem, reduceIte, reduceCtorEq, reduceEqDiff, reduceAdd, reduceLT, reduceLeDiff, reduceToNat, reduceMul, eObj]) (by simp only [go_sem, reduceIte, reduceCtorEq, reduceEqDiff, reduceAdd, reduceLT, reduceLeDiff, reduceToNat, reduceMul]) ?_
                  refine CWops.run htt 4 (by simp only [go_sem, reduceIte, reduceCtorEq, reduceEqDiff, reduceAdd, reduceLT, reduceLeDiff, reduceToNat, reduceMul, List.replicate, eP, eObj]; exact rfl) (by simp [AV.cell, AV.tree, eP, MX] <;> omega) ?_
                  refine CWops.done ?_
                  refine CW.region (by kernel_rfl) (by kernel_rfl) ?_ -- r26
                  refine CWops.run htt 2 (by simp only [go_sem, reduceIte, reduceCtorEq, reduceEqDiff, reduceAdd, reduceLT, reduceLeDiff, reduceToNat, reduceMul, wrap_succ (show k < MX by unfold MX; omega)]; exact rfl) (by simp [go_sem, reduceIte, reduceCtorEq, reduceEqDiff, reduceAdd, reduceLT, reduceLeDiff, reduceToNat, reduceMul, wrap_succ (show k < MX by unfold MX; omega)]) ?_
                  refine CWops.done ?_
                  refine ⟨k + 1, ?_, ?_, ?_⟩
                  · refine Sh.wk0 ?_
                    dsimp only
                    first | (rw [dSetF_yes (by rw [hux, hwy]; simpa using hp)]; simp [Wk, go_sem, reduceIte, reduceCtorEq, reduceEqDiff, reduceAdd, reduceLT, reduceLeDiff, reduceToNat, reduceMul, eGraph, eObj, eP]; done) | (rw [dSetF_no (by rw [hux, hwy, hp])]; simp [Wk, go_sem, reduceIte, reduceCtorEq, reduceEqDiff, reduceAdd, reduceLT, reduceLeDiff, reduceToNat, reduceMul, eGraph, eObj]; done) | skip
                  · exact hkl
                  · simp only; omega
                · have hp : u = w := by
                    rw [GVal.ext_iff']
                    simpa [and_assoc] using ct104
                  refine CW.skip ?_
                  refine CW.region (by kernel_rfl) (by kernel_rfl) ?_ -- r26
                  refine CWops.run htt 2 (by simp only [go_sem, reduceIte, reduceCtorEq, reduceEqDiff, reduceAdd, reduceLT, reduceLeDiff, reduceToNat, reduceMul, wrap_succ (show k < MX by unfold MX; omega)]; exact rfl) (by simp [go_sem, reduceIte, reduceCtorEq, reduceEqDiff, reduceAdd, reduceLT, reduceLeDiff, reduceToNat, reduceMul, wrap_succ (show k < MX by unfold MX; omega)]) ?_
                  refine CWops.done ?_
                  refine ⟨k + 1, ?_, ?_, ?_⟩
                  · refine Sh.wk0 ?_
                    dsimp only
                    first | (rw [dSetF_yes (by rw [hux, hwy]; simpa using hp)]; simp [Wk, go_sem, reduceIte, reduceCtorEq, reduceEqDiff, reduceAdd, reduceLT, reduceLeDiff, reduceToNat, reduceMul, eGraph, eObj, eP]; done) | (rw [dSetF_no (by rw [hux, hwy, hp])]; simp [Wk, go_sem, reduceIte, reduceCtorEq, reduceEqDiff, reduceAdd, reduceLT, reduceLeDiff, reduceToNat, reduceMul, eGraph, eObj]; done) | skip
                  · exact hkl
                  · simp only; omega
              · have hk : k = x.F.length := by simp at ct92; omega
                refine CW.exit ?_
                refine CW.region (by kernel_rfl) (by kernel_rfl) ?_ -- r27
                refine CWops.run htt 2 (by simp only [go_sem, reduceIte, reduceCtorEq, reduceEqDiff, reduceAdd, reduceLT, reduceLeDiff, reduceToNat, reduceMul, wrap_succ (show i < MX by unfold MX; omega)]; exact rfl) (by simp [go_sem, reduceIte, reduceCtorEq, reduceEqDiff, reduceAdd, reduceLT, reduceLeDiff, reduceToNat, reduceMul, wrap_succ (show i < MX by unfold MX; omega)]) ?_
                refine CWops.done ?_
                refine ⟨i + 1, ?_, ?_, ?_⟩
                · refine Sh.wk0 ?_
                  dsimp only
                  first | (rw [dSet_succ hx, dNew_no hx hh, show dSet1 a x = [] by unfold dSet1; rw [hh]; rfl]; simp [Wk, go_sem, reduceIte, reduceCtorEq, reduceEqDiff, reduceAdd, reduceLT, reduceLeDiff, reduceToNat, reduceMul, eGraph, eI]; done) | (rw [dSet_succ hx, dNew_yes hx hh, show dSet1 a x = dSetF x.Id x.F y.F k by unfold dSet1; rw [if_pos hh, hy, hk]]; simp [Wk, go_sem, reduceIte, reduceCtorEq, reduceEqDiff, reduceAdd, reduceLT, reduceLeDiff, reduceToNat, reduceMul, eGraph]; done) | skip
                · exact ⟨hi, dBad_succ hx h2 (by unfold dBad1; rw [hh]; first | rfl | (rw [← hy]; simp [hT]))⟩
                · simp only; omega
        · have hi : i = o.O.length := by simp at ct61; omega
          rw [hi, List.take_length] at h2
          refine CW.exit ?_
          refine CW.seq ?_
          refine CW.seq ?_
          refine CW.region (by kernel_rfl) (by kernel_rfl) ?_ -- r28
          refine CWops.run htt 6 (by simp only [go_sem, reduceIte, reduceCtorEq, reduceEqDiff, reduceAdd, reduceLT, reduceLeDiff, reduceToNat, reduceMul, eGraph]; exact rfl) (by simp [go_sem, reduceIte, reduceCtorEq, reduceEqDiff, reduceAdd, reduceLT, reduceLeDiff, reduceToNat, reduceMul, eGraph]) ?_
          refine CWops.max2 (k := .i64) (m := (o.Roots.length : Int)) (n := (a.Roots.length : Int)) (by simp only [go_sem, reduceIte, reduceCtorEq, reduceEqDiff, reduceAdd, reduceLT, reduceLeDiff, reduceToNat, reduceMul]) (by simp only [go_sem, reduceIte, reduceCtorEq, reduceEqDiff, reduceAdd, reduceLT, reduceLeDiff, reduceToNat, reduceMul, List.length_map]) (by simp only [go_sem, reduceIte, reduceCtorEq, reduceEqDiff, reduceAdd, reduceLT, reduceLeDiff, reduceToNat, reduceMul, List.length_map]) ?_
          refine CWops.run htt 1 (by simp only [go_sem, reduceIte, reduceCtorEq, reduceEqDiff, reduceAdd, reduceLT, reduceLeDiff, reduceToNat, reduceMul, eGraph]; exact rfl) (by simp [go_sem, reduceIte, reduceCtorEq, reduceEqDiff, reduceAdd, reduceLT, reduceLeDiff, reduceToNat, reduceMul, eGraph]) ?_
          refine CWops.done ?_
          refine CW.block ?_
          refine CW.loop (S := Nat) (fun i => ⟨4, [(2, .lv 0 [] 0), (3, .lv 1 [] 0), (4, .lv 2 [] 0), (5, .int .i64 0), (6, .lv 3 [] 0), (122, .int .i64 (max (o.Roots.length : Int) (a.Roots.length : Int))), (123, .int .i64 i)], [(0, ⟨true, eGraph o⟩), (1, ⟨true, eGraph a⟩), (2, ⟨true, [.nilsl, .nilsl, .nilsl, .nilsl]⟩), (3, ⟨true, [.own 1 ((dNew o a.O).map eI), .own 1 ((dNew a o.O).map eI), .own 2 ((dSet a o.O).map eP), .own 1 ((dRoots o a i).map eI)]⟩)]⟩) (fun i => i ≤ max o.Roots.length a.Roots.length) (fun i => max o.Roots.length a.Roots.length - i) (0) ?_ (Nat.zero_le _) (fun i h3 => ?_)
          · rw [hi, List.take_length]; refine Sh.trans (Sh.nilCell 3 [] 3 1 (by simp [go_sem, reduceIte, reduceCtorEq, reduceEqDiff, reduceAdd, reduceLT, reduceLeDiff, reduceToNat, reduceMul]) rfl) (Sh.wk0 ?_); simp [Wk, go_sem, reduceIte, reduceCtorEq, reduceEqDiff, reduceAdd, reduceLT, reduceLeDiff, reduceToNat, reduceMul, eGraph, dRoots_zero]
          refine CW.seq ?_
          refine CW.region (by kernel_rfl) (by kernel_rfl) ?_ -- r29
          refine CWops.run htt 1 (by simp only [go_sem, reduceIte, reduceCtorEq, reduceEqDiff, reduceAdd, reduceLT, reduceLeDiff, reduceToNat, reduceMul]; exact rfl) (by simp [go_sem, reduceIte, reduceCtorEq, reduceEqDiff, reduceAdd, reduceLT, reduceLeDiff, reduceToNat, reduceMul]) ?_
          refine CWops.done ?_
          refine CW.seq ?_
          refine CW.cond (by simp only [go_sem, reduceIte, reduceCtorEq, reduceEqDiff, reduceAdd, reduceLT, reduceLeDiff, reduceToNat, reduceMul]; first | done | exact rfl) (fun ct124 => ?_) (fun ct124 => ?_)
          · have hi : i < max o.Roots.length a.Roots.length := by simp at ct124; omega
            have hL := dRoots_len o a i
            refine CW.skip ?_
            refine CW.seq ?_
            refine CW.block ?_
            refine CW.seq ?_
            refine CW.region (by kernel_rfl) (by kernel_rfl) ?_ -- r30
            refine CWops.run htt 2 (by simp only [go_sem, reduceIte, reduceCtorEq, reduceEqDiff, reduceAdd, reduceLT, reduceLeDiff, reduceToNat, reduceMul]; exact rfl) (by simp [go_sem, reduceIte, reduceCtorEq, reduceEqDiff, reduceAdd, reduceLT, reduceLeDiff, reduceToNat, reduceMul]) ?_
            refine CWops.done ?_
            refine CW.seq ?_
            refine CW.drawn mixed 5 (by decide) (by kernel_rfl) (by kernel_rfl) (by kernel_rfl) ?_ -- r31
            refine Seg.run htt 2 (by simp only [go_sem, reduceIte, reduceCtorEq, reduceEqDiff, reduceAdd, reduceLT, reduceLeDiff, reduceToNat, reduceMul, eGraph]; exact rfl) ?_
            refine Seg.callA (diff_root up o i) (by simp only [go_sem, reduceIte, reduceCtorEq, reduceEqDiff, reduceAdd, reduceLT, reduceLeDiff, reduceToNat, reduceMul, eGraph]) (by simp only [go_sem, reduceIte, reduceCtorEq, reduceEqDiff, reduceAdd, reduceLT, reduceLeDiff, reduceToNat, reduceMul, eGraph]; first | done | exact rfl) (by simp only [go_sem, reduceIte, reduceCtorEq, reduceEqDiff, reduceAdd, reduceLT, reduceLeDiff, reduceToNat, reduceMul, eGraph]) (by simp only [go_sem, reduceIte, reduceCtorEq, reduceEqDiff, reduceAdd, reduceLT, reduceLeDiff, reduceToNat, reduceMul, eGraph]) ?_
            refine Seg.run htt 2 (by simp only [go_sem, reduceIte, reduceCtorEq, reduceEqDiff, reduceAdd, reduceLT, reduceLeDiff, reduceToNat, reduceMul, eGraph]; exact rfl) ?_
            refine Seg.done ?_
            refine CWops.callA (diff_root up a i) (by simp only [go_sem, reduceIte, reduceCtorEq, reduceEqDiff, reduceAdd, reduceLT, reduceLeDiff, reduceToNat, reduceMul, eGraph]) (by simp only [go_sem, reduceIte, reduceCtorEq, reduceEqDiff, reduceAdd, reduceLT, reduceLeDiff, reduceToNat, reduceMul, eGraph]; first | done | exact rfl) (by simp only [go_sem, reduceIte, reduceCtorEq, reduceEqDiff, reduceAdd, reduceLT, reduceLeDiff, reduceToNat, reduceMul, eGraph]) (by simp only [go_sem, reduceIte, reduceCtorEq, reduceEqDiff, reduceAdd, reduceLT, reduceLeDiff, reduceToNat, reduceMul, eGraph]) (fun rt131 hrt131 => ?_)
            subst hrt131
            refine CWops.run htt 1 (by simp only [go_sem, reduceIte, reduceCtorEq, reduceEqDiff, reduceAdd, reduceLT, reduceLeDiff, reduceToNat, reduceMul, eGraph]; exact rfl) (by simp [go_sem, reduceIte, reduceCtorEq, reduceEqDiff, reduceAdd, reduceLT, reduceLeDiff, reduceToNat, reduceMul, eGraph]) ?_
            refine CWops.done ?_
            refine CW.cond (by simp only [go_sem, reduceIte, reduceCtorEq, reduceEqDiff, reduceAdd, reduceLT, reduceLeDiff, reduceToNat, reduceMul]; first | done | exact rfl) (fun ct132 => ?_) (fun ct132 => ?_)
            · have hp : rootAt o i ≠ rootAt a i := by simpa using ct132
              refine CW.region (by kernel_rfl) (by kernel_rfl) ?_ -- r32
              refine CWops.run htt 7 (by simp only [go_sem, reduceIte, reduceCtorEq, reduceEqDiff, reduceAdd, reduceLT, reduceLeDiff, reduceToNat, reduceMul, List.replicate, eI]; exact rfl) (by simp [AV.cell, AV.tree, eI, MX] <;> omega) ?_
              refine CWops.done ?_
              refine CW.region (by kernel_rfl) (by kernel_rfl) ?_ -- r33
              refine CWops.run htt 2 (by simp only [go_sem, reduceIte, reduceCtorEq, reduceEqDiff, reduceAdd, reduceLT, reduceLeDiff, reduceToNat, reduceMul, wrap_succ (show i < MX by unfold MX; omega)]; exact rfl) (by simp [go_sem, reduceIte, reduceCtorEq, reduceEqDiff, reduceAdd, reduceLT, reduceLeDiff, reduceToNat, reduceMul, wrap_succ (show i < MX by unfold MX; omega)]) ?_
              refine CWops.done ?_
              refine ⟨i + 1, ?_, ?_, ?_⟩
              · refine Sh.wk0 ?_
                dsimp only
                first | (rw [dRoots_yes hp]; simp [Wk, go_sem, reduceIte, reduceCtorEq, reduceEqDiff, reduceAdd, reduceLT, reduceLeDiff, reduceToNat, reduceMul, eGraph, eI]; done) | (rw [dRoots_no hp]; simp [Wk, go_sem, reduceIte, reduceCtorEq, reduceEqDiff, reduceAdd, reduceLT, reduceLeDiff, reduceToNat, reduceMul, eGraph]; done) | skip
              · exact hi
              · simp only; omega
            · have hp : rootAt o i = rootAt a i := by simpa using ct132
              refine CW.skip ?_
              refine CW.region (by kernel_rfl) (by kernel_rfl) ?_ -- r33
              refine CWops.run htt 2 (by simp only [go_sem, reduceIte, reduceCtorEq, reduceEqDiff, reduceAdd, reduceLT, reduceLeDiff, reduceToNat, reduceMul, wrap_succ (show i < MX by unfold MX; omega)]; exact rfl) (by simp [go_sem, reduceIte, reduceCtorEq, reduceEqDiff, reduceAdd, reduceLT, reduceLeDiff, reduceToNat, reduceMul, wrap_succ (show i < MX by unfold MX; omega)]) ?_
              refine CWops.done ?_
              refine ⟨i + 1, ?_, ?_, ?_⟩
              · refine Sh.wk0 ?_
                dsimp only
                first | (rw [dRoots_yes hp]; simp [Wk, go_sem, reduceIte, reduceCtorEq, reduceEqDiff, reduceAdd, reduceLT, reduceLeDiff, reduceToNat, reduceMul, eGraph, eI]; done) | (rw [dRoots_no hp]; simp [Wk, go_sem, reduceIte, reduceCtorEq, reduceEqDiff, reduceAdd, reduceLT, reduceLeDiff, reduceToNat, reduceMul, eGraph]; done) | skip
              · exact hi
              · simp only; omega
          · have hi : i = max o.Roots.length a.Roots.length := by simp at ct124; omega
            refine CW.exit ?_
            refine CW.seq ?_
            refine CW.sh (Sh.trans (Sh.frz 3 0 rfl rfl) (Sh.trans (Sh.frz 3 1 rfl rfl) (Sh.trans (Sh.frz 3 2 rfl rfl) (Sh.frz 3 3 rfl rfl)))) ?_
            simp only [go_sem, reduceIte, reduceCtorEq, reduceEqDiff, reduceAdd, reduceLT, reduceLeDiff, reduceToNat, reduceMul]
            refine CW.region (by kernel_rfl) (by kernel_rfl) ?_ -- r34
            refine CWops.run htt 3 (by simp only [go_sem, reduceIte, reduceCtorEq, reduceEqDiff, reduceAdd, reduceLT, reduceLeDiff, reduceToNat, reduceMul]; exact rfl) (by simp [go_sem, reduceIte, reduceCtorEq, reduceEqDiff, reduceAdd, reduceLT, reduceLeDiff, reduceToNat, reduceMul]) ?_
            refine CWops.done ?_
            refine CW.ret ?_
            refine retQ.ret (by simp only [f36, go_sem, reduceIte, reduceCtorEq, reduceEqDiff, reduceAdd, reduceLT, reduceLeDiff, reduceToNat, reduceMul]; exact rfl) (by simp only [go_sem, reduceIte, reduceCtorEq, reduceEqDiff, reduceAdd, reduceLT, reduceLeDiff, reduceToNat, reduceMul]; exact rfl) ?_ -- ret4
            refine ⟨_, ?_, rfl⟩
            simp [leP, leL, gDiff, hmo', hma', hS, h2, eChange, hi]
theorem law08_Two (up : Bool) : PCall prog up 78 [] (· = .agg (eGraph twG)) := by
  refine PCall.intro htt func78 (by kernel_rfl) rfl (Nat.le_of_ble_eq_true rfl) fun hl => ?_

  simp only [tmps0, Nat.reduceAdd]
  refine CW.seq ?_
  refine CW.region (by kernel_rfl) (by kernel_rfl) ?_ -- r0
  refine CWops.run htt 1 (by simp only [go_sem, reduceIte, reduceCtorEq, reduceEqDiff, reduceAdd, reduceLT, reduceLeDiff, reduceToNat, reduceMul]; exact rfl) (by simp [go_sem, reduceIte, reduceCtorEq, reduceEqDiff, reduceAdd, reduceLT, reduceLeDiff, reduceToNat, reduceMul]) ?_
  refine CWops.done ?_
  refine CW.seq ?_
  refine CW.region (by kernel_rfl) (by kernel_rfl) ?_ -- r1
  refine CWops.callA (law06_One up) (by simp only [go_sem, reduceIte, reduceCtorEq, reduceEqDiff, reduceAdd, reduceLT, reduceLeDiff, reduceToNat, reduceMul, oneS, eSchema, eType, eField]) (by simp only [go_sem, reduceIte, reduceCtorEq, reduceEqDiff, reduceAdd, reduceLT, reduceLeDiff, reduceToNat, reduceMul, oneS, eSchema, eType, eField]; first | done | exact rfl) (by simp only [go_sem, reduceIte, reduceCtorEq, reduceEqDiff, reduceAdd, reduceLT, reduceLeDiff, reduceToNat, reduceMul, oneS, eSchema, eType, eField]) (by simp only [go_sem, reduceIte, reduceCtorEq, reduceEqDiff, reduceAdd, reduceLT, reduceLeDiff, reduceToNat, reduceMul, oneS, eSchema, eType, eField]) (fun rt1 hrt1 => ?_)
  subst hrt1
  refine CWops.run htt 2 (by simp only [go_sem, reduceIte, reduceCtorEq, reduceEqDiff, reduceAdd, reduceLT, reduceLeDiff, reduceToNat, reduceMul, oneS, eSchema, eType, eField]; exact rfl) (by simp [go_sem, reduceIte, reduceCtorEq, reduceEqDiff, reduceAdd, reduceLT, reduceLeDiff, reduceToNat, reduceMul, oneS, eSchema, eType, eField]) ?_
  refine CWops.run htt 1 (by simp only [go_sem, reduceIte, reduceCtorEq, reduceEqDiff, reduceAdd, reduceLT, reduceLeDiff, reduceToNat, reduceMul, List.replicate]; exact rfl) (by simp [go_sem, reduceIte, reduceCtorEq, reduceEqDiff, reduceAdd, reduceLT, reduceLeDiff, reduceToNat, reduceMul]) ?_
  refine CWops.sh (Sh.frzT 4 1 (by simp only [go_sem, reduceIte, reduceCtorEq, reduceEqDiff, reduceAdd, reduceLT, reduceLeDiff, reduceToNat, reduceMul]) (by simp only [go_sem, reduceIte, reduceCtorEq, reduceEqDiff, reduceAdd, reduceLT, reduceLeDiff, reduceToNat, reduceMul]; first | done | exact rfl) rfl) ?_
  simp only [go_sem, reduceIte, reduceCtorEq, reduceEqDiff, reduceAdd, reduceLT, reduceLeDiff, reduceToNat, reduceMul, AV.freeze]
  refine CWops.run htt 3 (by simp only [go_sem, reduceIte, reduceCtorEq, reduceEqDiff, reduceAdd, reduceLT, reduceLeDiff, reduceToNat, reduceMul, oneS, eSchema, eType, eField]; exact rfl) (by simp [go_sem, reduceIte, reduceCtorEq, reduceEqDiff, reduceAdd, reduceLT, reduceLeDiff, reduceToNat, reduceMul, oneS, eSchema, eType, eField]) ?_
  refine CWops.run htt 1 (by simp only [go_sem, reduceIte, reduceCtorEq, reduceEqDiff, reduceAdd, reduceLT, reduceLeDiff, reduceToNat, reduceMul, List.replicate]; exact rfl) (by simp [go_sem, reduceIte, reduceCtorEq, reduceEqDiff, reduceAdd, reduceLT, reduceLeDiff, reduceToNat, reduceMul]) ?_
  refine CWops.sh (Sh.frzT 8 2 (by simp only [go_sem, reduceIte, reduceCtorEq, reduceEqDiff, reduceAdd, reduceLT, reduceLeDiff, reduceToNat, reduceMul]) (by simp only [go_sem, reduceIte, reduceCtorEq, reduceEqDiff, reduceAdd, reduceLT, reduceLeDiff, reduceToNat, reduceMul]; first | done | exact rfl) rfl) ?_
  simp only [go_sem, reduceIte, reduceCtorEq, reduceEqDiff, reduceAdd, reduceLT, reduceLeDiff, reduceToNat, reduceMul, AV.freeze]
  refine CWops.run htt 1 (by simp only [go_sem, reduceIte, reduceCtorEq, reduceEqDiff, reduceAdd, reduceLT, reduceLeDiff, reduceToNat, reduceMul, oneS, eSchema, eType, eField]; exact rfl) (by simp [go_sem, reduceIte, reduceCtorEq, reduceEqDiff, reduceAdd, reduceLT, reduceLeDiff, reduceToNat, reduceMul, oneS, eSchema, eType, eField]) ?_
  refine CWops.run htt 1 (by simp only [go_sem, reduceIte, reduceCtorEq, reduceEqDiff, reduceAdd, reduceLT, reduceLeDiff, reduceToNat, reduceMul, List.replicate]; exact rfl) (by simp [go_sem, reduceIte, reduceCtorEq, reduceEqDiff, reduceAdd, reduceLT, reduceLeDiff, reduceToNat, reduceMul]) ?_
  refine CWops.sh (Sh.frzT 10 3 (by simp only [go_sem, reduceIte, reduceCtorEq, reduceEqDiff, reduceAdd, reduceLT, reduceLeDiff, reduceToNat, reduceMul]) (by simp only [go_sem, reduceIte, reduceCtorEq, reduceEqDiff, reduceAdd, reduceLT, reduceLeDiff, reduceToNat, reduceMul]; first | done | exact rfl) rfl) ?_
  simp only [go_sem, reduceIte, reduceCtorEq, reduceEqDiff, reduceAdd, reduceLT, reduceLeDiff, reduceToNat, reduceMul, AV.freeze]
  refine CWops.run htt 1 (by simp only [go_sem, reduceIte, reduceCtorEq, reduceEqDiff, reduceAdd, reduceLT, reduceLeDiff, reduceToNat, reduceMul, List.replicate]; exact rfl) (by simp [go_sem, reduceIte, reduceCtorEq, reduceEqDiff, reduceAdd, reduceLT, reduceLeDiff, reduceToNat, reduceMul]) ?_
  refine CWops.sh (Sh.frzT 11 4 (by simp only [go_sem, reduceIte, reduceCtorEq, reduceEqDiff, reduceAdd, reduceLT, reduceLeDiff, reduceToNat, reduceMul]) (by simp only [go_sem, reduceIte, reduceCtorEq, reduceEqDiff, reduceAdd, reduceLT, reduceLeDiff, reduceToNat, reduceMul]; first | done | exact rfl) rfl) ?_
  simp only [go_sem, reduceIte, reduceCtorEq, reduceEqDiff, reduceAdd, reduceLT, reduceLeDiff, reduceToNat, reduceMul, AV.freeze]
  refine CWops.run htt 2 (by simp only [go_sem, reduceIte, reduceCtorEq, reduceEqDiff, reduceAdd, reduceLT, reduceLeDiff, reduceToNat, reduceMul, oneS, eSchema, eType, eField]; exact rfl) (by simp [go_sem, reduceIte, reduceCtorEq, reduceEqDiff, reduceAdd, reduceLT, reduceLeDiff, reduceToNat, reduceMul, oneS, eSchema, eType, eField]) ?_
  refine CWops.done ?_
  refine CW.ret ?_
  refine retQ.ret (by simp only [f78, go_sem, reduceIte, reduceCtorEq, reduceEqDiff, reduceAdd, reduceLT, reduceLeDiff, reduceToNat, reduceMul]; exact rfl) (by simp only [go_sem, reduceIte, reduceCtorEq, reduceEqDiff, reduceAdd, reduceLT, reduceLeDiff, reduceToNat, reduceMul]; exact rfl) ?_ -- ret1
  refine ⟨_, ?_, rfl⟩
  simp [leP, leL, eGraph, twG, eObj, eVal, oneS, eType, eField, eI]
end Go.Ab
namespace Go.Ab
open Go Go.Proofs.Try
open Nat (reduceEqDiff reduceAdd reduceLT reduceLeDiff reduceBEq reduceSub reduceMul)
open Int (reduceToNat)
set_option maxRecDepth 100000
set_option linter.unusedSimpArgs false
set_option linter.unusedVariables false
theorem aw14Set (up : Bool) : PCall prog up 77 [.agg (eGraph twG), .int .i64 5, .int .i64 0, .agg (eVal ⟨9, ⟨#[]⟩, 0⟩)] (· = .tup [.agg (eGraph twS), .int .i64 0]) := by
  have h := graph_Set up twG 5 0 ⟨9, ⟨#[]⟩, 0⟩ twG_sz
  rw [twG_set] at h
  exact h
theorem aw14Of (up : Bool) : PCall prog up 36 [.agg (eGraph twG), .agg (eGraph twS)] (· = .tup [.agg (eChange ⟨[], [], [(5, 0)], []⟩), .int .i64 0]) := by
  have h := diff_Of up twG twS
  rw [twG_diff] at h
  exact h
theorem law14_awake (up : Bool) : PCall prog up 35 [] (· = .bool true) := by
  refine PCall.intro htt func35 (by kernel_rfl) rfl (Nat.le_of_ble_eq_true rfl) fun hl => ?_

  simp only [tmps0, Nat.reduceAdd]
  refine CW.seq ?_
  refine CW.region (by kernel_rfl) (by kernel_rfl) ?_ -- r0
  refine CWops.run htt 1 (by simp only [go_sem, reduceIte, reduceCtorEq, reduceEqDiff, reduceAdd, reduceLT, reduceLeDiff, reduceToNat, reduceMul, reduceSub, Nat.reduceBEq, Int.reduceLE]; exact rfl) (by simp [go_sem, reduceIte, reduceCtorEq, reduceEqDiff, reduceAdd, reduceLT, reduceLeDiff, reduceToNat, reduceMul, reduceSub, Nat.reduceBEq, Int.reduceLE]) ?_
  refine CWops.done ?_
  refine CW.seq ?_
  refine CW.region (by kernel_rfl) (by kernel_rfl) ?_ -- r1
  refine CWops.callA (law08_Two up) (by simp only [go_sem, reduceIte, reduceCtorEq, reduceEqDiff, reduceAdd, reduceLT, reduceLeDiff, reduceToNat, reduceMul, reduceSub, Nat.reduceBEq, Int.reduceLE, eGraph, eVal]) (by simp only [go_sem, reduceIte, reduceCtorEq, reduceEqDiff, reduceAdd, reduceLT, reduceLeDiff, reduceToNat, reduceMul, reduceSub, Nat.reduceBEq, Int.reduceLE, eGraph, eVal]; first | done | exact rfl) (by simp only [go_sem, reduceIte, reduceCtorEq, reduceEqDiff, reduceAdd, reduceLT, reduceLeDiff, reduceToNat, reduceMul, reduceSub, Nat.reduceBEq, Int.reduceLE, eGraph, eVal]) (by simp only [go_sem, reduceIte, reduceCtorEq, reduceEqDiff, reduceAdd, reduceLT, reduceLeDiff, reduceToNat, reduceMul, reduceSub, Nat.reduceBEq, Int.reduceLE, eGraph, eVal]) (fun rt6 hrt6 => ?_)
  subst hrt6
  refine CWops.run htt 1 (by simp only [go_sem, reduceIte, reduceCtorEq, reduceEqDiff, reduceAdd, reduceLT, reduceLeDiff, reduceToNat, reduceMul, reduceSub, Nat.reduceBEq, Int.reduceLE, eGraph, eVal]; exact rfl) (by simp [go_sem, reduceIte, reduceCtorEq, reduceEqDiff, reduceAdd, reduceLT, reduceLeDiff, reduceToNat, reduceMul, reduceSub, Nat.reduceBEq, Int.reduceLE, eGraph, eVal]) ?_
  refine CWops.callA (aw14Set up) (by simp only [go_sem, reduceIte, reduceCtorEq, reduceEqDiff, reduceAdd, reduceLT, reduceLeDiff, reduceToNat, reduceMul, reduceSub, Nat.reduceBEq, Int.reduceLE, eGraph, eVal]) (by simp only [go_sem, reduceIte, reduceCtorEq, reduceEqDiff, reduceAdd, reduceLT, reduceLeDiff, reduceToNat, reduceMul, reduceSub, Nat.reduceBEq, Int.reduceLE, eGraph, eVal]; first | done | exact rfl) (by simp only [go_sem, reduceIte, reduceCtorEq, reduceEqDiff, reduceAdd, reduceLT, reduceLeDiff, reduceToNat, reduceMul, reduceSub, Nat.reduceBEq, Int.reduceLE, eGraph, eVal]) (by simp only [go_sem, reduceIte, reduceCtorEq, reduceEqDiff, reduceAdd, reduceLT, reduceLeDiff, reduceToNat, reduceMul, reduceSub, Nat.reduceBEq, Int.reduceLE, eGraph, eVal]) (fun rt8 hrt8 => ?_)
  subst hrt8
  refine CWops.run htt 6 (by simp only [go_sem, reduceIte, reduceCtorEq, reduceEqDiff, reduceAdd, reduceLT, reduceLeDiff, reduceToNat, reduceMul, reduceSub, Nat.reduceBEq, Int.reduceLE, eGraph, eVal]; exact rfl) (by simp [go_sem, reduceIte, reduceCtorEq, reduceEqDiff, reduceAdd, reduceLT, reduceLeDiff, reduceToNat, reduceMul, reduceSub, Nat.reduceBEq, Int.reduceLE, eGraph, eVal]) ?_
  refine CWops.done ?_
  refine CW.seq ?_
  refine CW.drawnF mixed 7 8 [5] (D := [16]) (by decide) (by decide) (by kernel_rfl) (by kernel_rfl) rfl (by kernel_rfl) (by kernel_rfl) ?_ -- r2
  refine Seg.callA (law08_Two up) (by simp only [go_sem, reduceIte, reduceCtorEq, reduceEqDiff, reduceAdd, reduceLT, reduceLeDiff, reduceToNat, reduceMul, reduceSub, Nat.reduceBEq, Int.reduceLE, eGraph, eChange, eP, List.map]) (by simp only [go_sem, reduceIte, reduceCtorEq, reduceEqDiff, reduceAdd, reduceLT, reduceLeDiff, reduceToNat, reduceMul, reduceSub, Nat.reduceBEq, Int.reduceLE, eGraph, eChange, eP, List.map]; first | done | exact rfl) (by simp only [go_sem, reduceIte, reduceCtorEq, reduceEqDiff, reduceAdd, reduceLT, reduceLeDiff, reduceToNat, reduceMul, reduceSub, Nat.reduceBEq, Int.reduceLE, eGraph, eChange, eP, List.map]) (by simp only [go_sem, reduceIte, reduceCtorEq, reduceEqDiff, reduceAdd, reduceLT, reduceLeDiff, reduceToNat, reduceMul, reduceSub, Nat.reduceBEq, Int.reduceLE, eGraph, eChange, eP, List.map]) ?_
  refine Seg.run htt 1 (by simp only [go_sem, reduceIte, reduceCtorEq, reduceEqDiff, reduceAdd, reduceLT, reduceLeDiff, reduceToNat, reduceMul, reduceSub, Nat.reduceBEq, Int.reduceLE, eGraph, eChange, eP, List.map]; exact rfl) ?_
  refine Seg.callA (aw14Of up) (by simp only [go_sem, reduceIte, reduceCtorEq, reduceEqDiff, reduceAdd, reduceLT, reduceLeDiff, reduceToNat, reduceMul, reduceSub, Nat.reduceBEq, Int.reduceLE, eGraph, eChange, eP, List.map]) (by simp only [go_sem, reduceIte, reduceCtorEq, reduceEqDiff, reduceAdd, reduceLT, reduceLeDiff, reduceToNat, reduceMul, reduceSub, Nat.reduceBEq, Int.reduceLE, eGraph, eChange, eP, List.map]; first | done | exact rfl) (by simp only [go_sem, reduceIte, reduceCtorEq, reduceEqDiff, reduceAdd, reduceLT, reduceLeDiff, reduceToNat, reduceMul, reduceSub, Nat.reduceBEq, Int.reduceLE, eGraph, eChange, eP, List.map]) (by simp only [go_sem, reduceIte, reduceCtorEq, reduceEqDiff, reduceAdd, reduceLT, reduceLeDiff, reduceToNat, reduceMul, reduceSub, Nat.reduceBEq, Int.reduceLE, eGraph, eChange, eP, List.map]) ?_
  refine Seg.run htt 4 (by simp only [go_sem, reduceIte, reduceCtorEq, reduceEqDiff, reduceAdd, reduceLT, reduceLeDiff, reduceToNat, reduceMul, reduceSub, Nat.reduceBEq, Int.reduceLE, eGraph, eChange, eP, List.map]; exact rfl) ?_
  refine Seg.done ?_
  refine Mid.sto htt (Flo.cons htt rfl rfl (by simp only [go_sem, reduceIte, reduceCtorEq, reduceEqDiff, reduceAdd, reduceLT, reduceLeDiff, reduceToNat, reduceMul, reduceSub, Nat.reduceBEq, Int.reduceLE, eGraph, eChange, eP, List.map]; first | done | exact rfl) (Flo.nil)) (fun u => by simp only [go_sem, reduceIte, reduceCtorEq, reduceEqDiff, reduceAdd, reduceLT, reduceLeDiff, reduceToNat, reduceMul, reduceSub, Nat.reduceBEq, Int.reduceLE, eGraph, eChange, eP, List.map]; exact rfl) ?_
  refine Mid.done (Flo.cons htt rfl rfl (by simp only [go_sem, reduceIte, reduceCtorEq, reduceEqDiff, reduceAdd, reduceLT, reduceLeDiff, reduceToNat, reduceMul, reduceSub, Nat.reduceBEq, Int.reduceLE, eGraph, eChange, eP, List.map]; first | done | exact rfl) (Flo.nil)) ?_
  refine CWops.run htt 1 (by simp only [go_sem, reduceIte, reduceCtorEq, reduceEqDiff, reduceAdd, reduceLT, reduceLeDiff, reduceToNat, reduceMul, reduceSub, Nat.reduceBEq, Int.reduceLE, eGraph, eChange, eP, List.map]; exact rfl) (by simp [go_sem, reduceIte, reduceCtorEq, reduceEqDiff, reduceAdd, reduceLT, reduceLeDiff, reduceToNat, reduceMul, reduceSub, Nat.reduceBEq, Int.reduceLE, eGraph, eChange, eP, List.map]) ?_
  refine CWops.done ?_
  refine CW.seq ?_
  refine CW.region (by kernel_rfl) (by kernel_rfl) ?_ -- r3
  refine CWops.run htt 3 (by simp only [go_sem, reduceIte, reduceCtorEq, reduceEqDiff, reduceAdd, reduceLT, reduceLeDiff, reduceToNat, reduceMul, reduceSub, Nat.reduceBEq, Int.reduceLE, eP, eChange, List.map, List.length_cons, List.length_nil, List.getElem?_cons_zero]; exact rfl) (by simp [go_sem, reduceIte, reduceCtorEq, reduceEqDiff, reduceAdd, reduceLT, reduceLeDiff, reduceToNat, reduceMul, reduceSub, Nat.reduceBEq, Int.reduceLE, eP, eChange, List.map, List.length_cons, List.length_nil, List.getElem?_cons_zero]) ?_
  all_goals (first | refine CWops.guard 19 (by simp only [go_sem, reduceIte, reduceCtorEq, reduceEqDiff, reduceAdd, reduceLT, reduceLeDiff, reduceToNat, reduceMul, reduceSub, Nat.reduceBEq, Int.reduceLE, eP, eChange, List.map, List.length_cons, List.length_nil, List.getElem?_cons_zero]; exact rfl) (fun g19 => ?_) (fun g19 => ?_) | skip)
  all_goals (try (simp at g19; done))
  all_goals (refine CWops.run htt 4 (by simp only [go_sem, reduceIte, reduceCtorEq, reduceEqDiff, reduceAdd, reduceLT, reduceLeDiff, reduceToNat, reduceMul, reduceSub, Nat.reduceBEq, Int.reduceLE, eP, eChange, List.map, List.length_cons, List.length_nil, List.getElem?_cons_zero]; exact rfl) (by simp [go_sem, reduceIte, reduceCtorEq, reduceEqDiff, reduceAdd, reduceLT, reduceLeDiff, reduceToNat, reduceMul, reduceSub, Nat.reduceBEq, Int.reduceLE, eP, eChange, List.map, List.length_cons, List.length_nil, List.getElem?_cons_zero]) ?_)
  all_goals (first | refine CWops.guard 23 (by simp only [go_sem, reduceIte, reduceCtorEq, reduceEqDiff, reduceAdd, reduceLT, reduceLeDiff, reduceToNat, reduceMul, reduceSub, Nat.reduceBEq, Int.reduceLE, eP, eChange, List.map, List.length_cons, List.length_nil, List.getElem?_cons_zero]; exact rfl) (fun g23 => ?_) (fun g23 => ?_) | skip)
  all_goals (try (simp at g23; done))
  all_goals (refine CWops.run htt 6 (by simp only [go_sem, reduceIte, reduceCtorEq, reduceEqDiff, reduceAdd, reduceLT, reduceLeDiff, reduceToNat, reduceMul, reduceSub, Nat.reduceBEq, Int.reduceLE, eP, eChange, List.map, List.length_cons, List.length_nil, List.getElem?_cons_zero]; exact rfl) (by simp [go_sem, reduceIte, reduceCtorEq, reduceEqDiff, reduceAdd, reduceLT, reduceLeDiff, reduceToNat, reduceMul, reduceSub, Nat.reduceBEq, Int.reduceLE, eP, eChange, List.map, List.length_cons, List.length_nil, List.getElem?_cons_zero]) ?_)
  all_goals (first | refine CWops.guard 29 (by simp only [go_sem, reduceIte, reduceCtorEq, reduceEqDiff, reduceAdd, reduceLT, reduceLeDiff, reduceToNat, reduceMul, reduceSub, Nat.reduceBEq, Int.reduceLE, eP, eChange, List.map, List.length_cons, List.length_nil, List.getElem?_cons_zero]; exact rfl) (fun g29 => ?_) (fun g29 => ?_) | skip)
  all_goals (try (simp at g29; done))
  all_goals (refine CWops.run htt 4 (by simp only [go_sem, reduceIte, reduceCtorEq, reduceEqDiff, reduceAdd, reduceLT, reduceLeDiff, reduceToNat, reduceMul, reduceSub, Nat.reduceBEq, Int.reduceLE, eP, eChange, List.map, List.length_cons, List.length_nil, List.getElem?_cons_zero]; exact rfl) (by simp [go_sem, reduceIte, reduceCtorEq, reduceEqDiff, reduceAdd, reduceLT, reduceLeDiff, reduceToNat, reduceMul, reduceSub, Nat.reduceBEq, Int.reduceLE, eP, eChange, List.map, List.length_cons, List.length_nil, List.getElem?_cons_zero]) ?_)
  all_goals (first | (refine CWops.skip ?_ ?_; next => (simp only [go_sem, reduceIte, reduceCtorEq, reduceEqDiff, reduceAdd, reduceLT, reduceLeDiff, reduceToNat, reduceMul, reduceSub, Nat.reduceBEq, Int.reduceLE]; done)) | (refine CWops.buildPair htt (k := .i64) (m := 5) (n := 0) (by simp only [go_sem, reduceIte, reduceCtorEq, reduceEqDiff, reduceAdd, reduceLT, reduceLeDiff, reduceToNat, reduceMul, reduceSub, Nat.reduceBEq, Int.reduceLE]) tt_112 rfl rfl tt_3 rfl (by simp only [go_sem, reduceIte, reduceCtorEq, reduceEqDiff, reduceAdd, reduceLT, reduceLeDiff, reduceToNat, reduceMul, reduceSub, Nat.reduceBEq, Int.reduceLE]) (by simp only [go_sem, reduceIte, reduceCtorEq, reduceEqDiff, reduceAdd, reduceLT, reduceLeDiff, reduceToNat, reduceMul, reduceSub, Nat.reduceBEq, Int.reduceLE]) ?_))
  all_goals (first | (refine CWops.skip ?_ ?_; next => (simp only [go_sem, reduceIte, reduceCtorEq, reduceEqDiff, reduceAdd, reduceLT, reduceLeDiff, reduceToNat, reduceMul, reduceSub, Nat.reduceBEq, Int.reduceLE]; done)) | (refine CWops.eqPair (k := .i64) (a := 5) (b := 0) (c := 5) (d := 0) htt (by simp only [go_sem, reduceIte, reduceCtorEq, reduceEqDiff, reduceAdd, reduceLT, reduceLeDiff, reduceToNat, reduceMul, reduceSub, Nat.reduceBEq, Int.reduceLE]) (by kernel_rfl) tt_112 rfl tt_3 rfl rfl (by simp only [go_sem, reduceIte, reduceCtorEq, reduceEqDiff, reduceAdd, reduceLT, reduceLeDiff, reduceToNat, reduceMul, reduceSub, Nat.reduceBEq, Int.reduceLE]) (by simp only [go_sem, reduceIte, reduceCtorEq, reduceEqDiff, reduceAdd, reduceLT, reduceLeDiff, reduceToNat, reduceMul, reduceSub, Nat.reduceBEq, Int.reduceLE]) rfl ?_))
  all_goals (refine CWops.run htt 2 (by simp only [go_sem, reduceIte, reduceCtorEq, reduceEqDiff, reduceAdd, reduceLT, reduceLeDiff, reduceToNat, reduceMul, reduceSub, Nat.reduceBEq, Int.reduceLE, eP, eChange, List.map, List.length_cons, List.length_nil, List.getElem?_cons_zero]; exact rfl) (by simp [go_sem, reduceIte, reduceCtorEq, reduceEqDiff, reduceAdd, reduceLT, reduceLeDiff, reduceToNat, reduceMul, reduceSub, Nat.reduceBEq, Int.reduceLE, eP, eChange, List.map, List.length_cons, List.length_nil, List.getElem?_cons_zero]) ?_)
  all_goals (first | refine CWops.guard 37 (by simp only [go_sem, reduceIte, reduceCtorEq, reduceEqDiff, reduceAdd, reduceLT, reduceLeDiff, reduceToNat, reduceMul, reduceSub, Nat.reduceBEq, Int.reduceLE, eP, eChange, List.map, List.length_cons, List.length_nil, List.getElem?_cons_zero]; exact rfl) (fun g37 => ?_) (fun g37 => ?_) | skip)
  all_goals (try (simp at g37; done))
  all_goals (refine CWops.run htt 1 (by simp only [go_sem, reduceIte, reduceCtorEq, reduceEqDiff, reduceAdd, reduceLT, reduceLeDiff, reduceToNat, reduceMul, reduceSub, Nat.reduceBEq, Int.reduceLE, eP, eChange, List.map, List.length_cons, List.length_nil, List.getElem?_cons_zero]; exact rfl) (by simp [go_sem, reduceIte, reduceCtorEq, reduceEqDiff, reduceAdd, reduceLT, reduceLeDiff, reduceToNat, reduceMul, reduceSub, Nat.reduceBEq, Int.reduceLE, eP, eChange, List.map, List.length_cons, List.length_nil, List.getElem?_cons_zero]) ?_)
  all_goals (first | (refine CWops.skip ?_ ?_; next => (simp only [go_sem, reduceIte, reduceCtorEq, reduceEqDiff, reduceAdd, reduceLT, reduceLeDiff, reduceToNat, reduceMul, reduceSub, Nat.reduceBEq, Int.reduceLE]; done)) | (refine CWops.call (diff_None up ⟨[], [], [(5, 0)], []⟩ (by decide)) (by simp only [go_sem, reduceIte, reduceCtorEq, reduceEqDiff, reduceAdd, reduceLT, reduceLeDiff, reduceToNat, reduceMul, reduceSub, Nat.reduceBEq, Int.reduceLE, eP, eChange, List.map, List.length_cons, List.length_nil, List.getElem?_cons_zero]) (by simp only [go_sem, reduceIte, reduceCtorEq, reduceEqDiff, reduceAdd, reduceLT, reduceLeDiff, reduceToNat, reduceMul, reduceSub, Nat.reduceBEq, Int.reduceLE, eP, eChange, List.map, List.length_cons, List.length_nil, List.getElem?_cons_zero]; first | done | exact rfl) (by simp only [go_sem, reduceIte, reduceCtorEq, reduceEqDiff, reduceAdd, reduceLT, reduceLeDiff, reduceToNat, reduceMul, reduceSub, Nat.reduceBEq, Int.reduceLE, eP, eChange, List.map, List.length_cons, List.length_nil, List.getElem?_cons_zero]) (fun rt39 hrt39 => ?_); subst hrt39; refine ⟨rfl, ?_⟩))
  all_goals (refine CWops.run htt 3 (by simp only [go_sem, reduceIte, reduceCtorEq, reduceEqDiff, reduceAdd, reduceLT, reduceLeDiff, reduceToNat, reduceMul, reduceSub, Nat.reduceBEq, Int.reduceLE, eP, eChange, List.map, List.length_cons, List.length_nil, List.getElem?_cons_zero]; exact rfl) (by simp [go_sem, reduceIte, reduceCtorEq, reduceEqDiff, reduceAdd, reduceLT, reduceLeDiff, reduceToNat, reduceMul, reduceSub, Nat.reduceBEq, Int.reduceLE, eP, eChange, List.map, List.length_cons, List.length_nil, List.getElem?_cons_zero]) ?_)
  all_goals (first | refine CWops.guard 42 (by simp only [go_sem, reduceIte, reduceCtorEq, reduceEqDiff, reduceAdd, reduceLT, reduceLeDiff, reduceToNat, reduceMul, reduceSub, Nat.reduceBEq, Int.reduceLE, eP, eChange, List.map, List.length_cons, List.length_nil, List.getElem?_cons_zero]; exact rfl) (fun g42 => ?_) (fun g42 => ?_) | skip)
  all_goals (try (simp at g42; done))
  all_goals (refine CWops.run htt 2 (by simp only [go_sem, reduceIte, reduceCtorEq, reduceEqDiff, reduceAdd, reduceLT, reduceLeDiff, reduceToNat, reduceMul, reduceSub, Nat.reduceBEq, Int.reduceLE, eP, eChange, List.map, List.length_cons, List.length_nil, List.getElem?_cons_zero]; exact rfl) (by simp [go_sem, reduceIte, reduceCtorEq, reduceEqDiff, reduceAdd, reduceLT, reduceLeDiff, reduceToNat, reduceMul, reduceSub, Nat.reduceBEq, Int.reduceLE, eP, eChange, List.map, List.length_cons, List.length_nil, List.getElem?_cons_zero]) ?_)
  all_goals (first | (refine CWops.skip ?_ ?_; next => (simp only [go_sem, reduceIte, reduceCtorEq, reduceEqDiff, reduceAdd, reduceLT, reduceLeDiff, reduceToNat, reduceMul, reduceSub, Nat.reduceBEq, Int.reduceLE]; done)) | (refine CWops.call (diff_Same up ⟨[], [], [(5, 0)], []⟩ ⟨[], [], [(5, 0)], []⟩) (by simp only [go_sem, reduceIte, reduceCtorEq, reduceEqDiff, reduceAdd, reduceLT, reduceLeDiff, reduceToNat, reduceMul, reduceSub, Nat.reduceBEq, Int.reduceLE, eP, eChange, List.map, List.length_cons, List.length_nil, List.getElem?_cons_zero]) (by simp only [go_sem, reduceIte, reduceCtorEq, reduceEqDiff, reduceAdd, reduceLT, reduceLeDiff, reduceToNat, reduceMul, reduceSub, Nat.reduceBEq, Int.reduceLE, eP, eChange, List.map, List.length_cons, List.length_nil, List.getElem?_cons_zero]; first | done | exact rfl) (by simp only [go_sem, reduceIte, reduceCtorEq, reduceEqDiff, reduceAdd, reduceLT, reduceLeDiff, reduceToNat, reduceMul, reduceSub, Nat.reduceBEq, Int.reduceLE, eP, eChange, List.map, List.length_cons, List.length_nil, List.getElem?_cons_zero]) (fun rt45 hrt45 => ?_); subst hrt45; refine ⟨rfl, ?_⟩))
  all_goals (refine CWops.run htt 2 (by simp only [go_sem, reduceIte, reduceCtorEq, reduceEqDiff, reduceAdd, reduceLT, reduceLeDiff, reduceToNat, reduceMul, reduceSub, Nat.reduceBEq, Int.reduceLE, eP, eChange, List.map, List.length_cons, List.length_nil, List.getElem?_cons_zero]; exact rfl) (by simp [go_sem, reduceIte, reduceCtorEq, reduceEqDiff, reduceAdd, reduceLT, reduceLeDiff, reduceToNat, reduceMul, reduceSub, Nat.reduceBEq, Int.reduceLE, eP, eChange, List.map, List.length_cons, List.length_nil, List.getElem?_cons_zero]) ?_)
  all_goals (refine CWops.done ?_)
  all_goals (
    refine CW.ret ?_
    refine retQ.ret (by simp only [f35, go_sem, reduceIte, reduceCtorEq, reduceEqDiff, reduceAdd, reduceLT, reduceLeDiff, reduceToNat, reduceMul, reduceSub, Nat.reduceBEq, Int.reduceLE]; exact rfl) (by simp only [go_sem, reduceIte, reduceCtorEq, reduceEqDiff, reduceAdd, reduceLT, reduceLeDiff, reduceToNat, reduceMul, reduceSub, Nat.reduceBEq, Int.reduceLE]; exact rfl) ?_ -- ret1
    refine ⟨_, ?_, rfl⟩
    first | (simp [leP]; done) | (simp [leP, gNone, noChange]; done) | contradiction)
end Go.Ab
namespace Go.Ab
open Go Go.Proofs.Try
open Nat (reduceEqDiff reduceAdd reduceLT reduceLeDiff reduceBEq reduceSub reduceMul)
open Int (reduceToNat)
set_option maxRecDepth 100000
set_option linter.unusedSimpArgs false
set_option linter.unusedVariables false
@[go_sem] theorem tt_135 : tiOf prog 135 = some ⟨.int IntKind.u64, 1, 8, [.int .u64 0], false⟩ := by kernel_rfl
@[go_sem] theorem tt_162 : tiOf prog 162 = some ⟨.int IntKind.u64, 1, 8, [.int .u64 0], false⟩ := by kernel_rfl
@[go_sem] theorem tt_160 : tiOf prog 160 = some ⟨.int IntKind.u32, 1, 4, [.int .u32 0], false⟩ := by kernel_rfl
theorem cmp_isNaN (up : Bool) (x : Int) : PCall prog up 136 [.int .i64 x] (· = .bool false) := by
  refine PCall.intro htt func136 (by kernel_rfl) rfl (Nat.le_of_ble_eq_true rfl) fun hl => ?_

  simp only [tmps0, Nat.reduceAdd]
  refine CW.seq ?_
  refine CW.region (by kernel_rfl) (by kernel_rfl) ?_ -- r0
  refine CWops.run htt 1 (by simp only [go_sem, reduceIte, reduceCtorEq, reduceEqDiff, reduceAdd, reduceLT, reduceLeDiff, reduceToNat]; exact rfl) (by simp [go_sem, reduceIte, reduceCtorEq, reduceEqDiff, reduceAdd, reduceLT, reduceLeDiff, reduceToNat]) ?_
  refine CWops.done ?_
  refine CW.seq ?_
  refine CW.region (by kernel_rfl) (by kernel_rfl) ?_ -- r1
  refine CWops.run htt 4 (by simp only [go_sem, reduceIte, reduceCtorEq, reduceEqDiff, reduceAdd, reduceLT, reduceLeDiff, reduceToNat]; exact rfl) (by simp [go_sem, reduceIte, reduceCtorEq, reduceEqDiff, reduceAdd, reduceLT, reduceLeDiff, reduceToNat]) ?_
  refine CWops.done ?_
  refine CW.ret ?_
  refine retQ.ret (by simp only [f136, go_sem, reduceIte, reduceCtorEq, reduceEqDiff, reduceAdd, reduceLT, reduceLeDiff, reduceToNat]; exact rfl) (by simp only [go_sem, reduceIte, reduceCtorEq, reduceEqDiff, reduceAdd, reduceLT, reduceLeDiff, reduceToNat]; exact rfl) ?_ -- ret1
  refine ⟨_, ?_, rfl⟩
  simp [leP]
theorem slices_isNaN (up : Bool) (x : Int) : PCall prog up 115 [.int .i64 x] (· = .bool false) := by
  refine PCall.intro htt func115 (by kernel_rfl) rfl (Nat.le_of_ble_eq_true rfl) fun hl => ?_

  simp only [tmps0, Nat.reduceAdd]
  refine CW.seq ?_
  refine CW.region (by kernel_rfl) (by kernel_rfl) ?_ -- r0
  refine CWops.run htt 1 (by simp only [go_sem, reduceIte, reduceCtorEq, reduceEqDiff, reduceAdd, reduceLT, reduceLeDiff, reduceToNat]; exact rfl) (by simp [go_sem, reduceIte, reduceCtorEq, reduceEqDiff, reduceAdd, reduceLT, reduceLeDiff, reduceToNat]) ?_
  refine CWops.done ?_
  refine CW.seq ?_
  refine CW.region (by kernel_rfl) (by kernel_rfl) ?_ -- r1
  refine CWops.run htt 4 (by simp only [go_sem, reduceIte, reduceCtorEq, reduceEqDiff, reduceAdd, reduceLT, reduceLeDiff, reduceToNat]; exact rfl) (by simp [go_sem, reduceIte, reduceCtorEq, reduceEqDiff, reduceAdd, reduceLT, reduceLeDiff, reduceToNat]) ?_
  refine CWops.done ?_
  refine CW.ret ?_
  refine retQ.ret (by simp only [f115, go_sem, reduceIte, reduceCtorEq, reduceEqDiff, reduceAdd, reduceLT, reduceLeDiff, reduceToNat]; exact rfl) (by simp only [go_sem, reduceIte, reduceCtorEq, reduceEqDiff, reduceAdd, reduceLT, reduceLeDiff, reduceToNat]; exact rfl) ?_ -- ret1
  refine ⟨_, ?_, rfl⟩
  simp [leP]
theorem cmp_Less (up : Bool) (x y : Int) : PCall prog up 114 [.int .i64 x, .int .i64 y] (· = .bool (decide (x < y))) := by
  refine PCall.intro htt func114 (by kernel_rfl) rfl (Nat.le_of_ble_eq_true rfl) fun hl => ?_

  simp only [tmps0, Nat.reduceAdd]
  refine CW.seq ?_
  refine CW.region (by kernel_rfl) (by kernel_rfl) ?_ -- r0
  refine CWops.run htt 1 (by simp only [go_sem, reduceIte, reduceCtorEq, reduceEqDiff, reduceAdd, reduceLT, reduceLeDiff, reduceToNat]; exact rfl) (by simp [go_sem, reduceIte, reduceCtorEq, reduceEqDiff, reduceAdd, reduceLT, reduceLeDiff, reduceToNat]) ?_
  refine CWops.done ?_
  refine CW.seq ?_
  refine CW.region (by kernel_rfl) (by kernel_rfl) ?_ -- r1
  refine CWops.run htt 1 (by simp only [go_sem, reduceIte, reduceCtorEq, reduceEqDiff, reduceAdd, reduceLT, reduceLeDiff, reduceToNat]; exact rfl) (by simp [go_sem, reduceIte, reduceCtorEq, reduceEqDiff, reduceAdd, reduceLT, reduceLeDiff, reduceToNat]) ?_
  refine CWops.callA (cmp_isNaN up x) (by simp only [go_sem, reduceIte, reduceCtorEq, reduceEqDiff, reduceAdd, reduceLT, reduceLeDiff, reduceToNat]) (by simp only [go_sem, reduceIte, reduceCtorEq, reduceEqDiff, reduceAdd, reduceLT, reduceLeDiff, reduceToNat]; first | done | exact rfl) (by simp only [go_sem, reduceIte, reduceCtorEq, reduceEqDiff, reduceAdd, reduceLT, reduceLeDiff, reduceToNat]) (by simp only [go_sem, reduceIte, reduceCtorEq, reduceEqDiff, reduceAdd, reduceLT, reduceLeDiff, reduceToNat]) (fun rt6 hrt6 => ?_)
  subst hrt6
  refine CWops.run htt 1 (by simp only [go_sem, reduceIte, reduceCtorEq, reduceEqDiff, reduceAdd, reduceLT, reduceLeDiff, reduceToNat]; exact rfl) (by simp [go_sem, reduceIte, reduceCtorEq, reduceEqDiff, reduceAdd, reduceLT, reduceLeDiff, reduceToNat]) ?_
  all_goals (first | refine CWops.guard 7 (by simp only [go_sem, reduceIte, reduceCtorEq, reduceEqDiff, reduceAdd, reduceLT, reduceLeDiff, reduceToNat]; exact rfl) (fun g7 => ?_) (fun g7 => ?_) | skip)
  all_goals (try (cases g7; done))
  all_goals (refine CWops.run htt 1 (by simp only [go_sem, reduceIte, reduceCtorEq, reduceEqDiff, reduceAdd, reduceLT, reduceLeDiff, reduceToNat]; exact rfl) (by simp [go_sem, reduceIte, reduceCtorEq, reduceEqDiff, reduceAdd, reduceLT, reduceLeDiff, reduceToNat]) ?_)
  all_goals (first | (refine CWops.skip ?_ ?_; next => (simp only [go_sem, reduceIte, reduceCtorEq, reduceEqDiff, reduceAdd, reduceLT, reduceLeDiff, reduceToNat]; done)) | (refine CWops.callA (cmp_isNaN up y) (by simp only [go_sem, reduceIte, reduceCtorEq, reduceEqDiff, reduceAdd, reduceLT, reduceLeDiff, reduceToNat]) (by simp only [go_sem, reduceIte, reduceCtorEq, reduceEqDiff, reduceAdd, reduceLT, reduceLeDiff, reduceToNat]; first | done | exact rfl) (by simp only [go_sem, reduceIte, reduceCtorEq, reduceEqDiff, reduceAdd, reduceLT, reduceLeDiff, reduceToNat]) (by simp only [go_sem, reduceIte, reduceCtorEq, reduceEqDiff, reduceAdd, reduceLT, reduceLeDiff, reduceToNat]) (fun rt9 hrt9 => ?_); subst hrt9))
  all_goals (refine CWops.run htt 3 (by simp only [go_sem, reduceIte, reduceCtorEq, reduceEqDiff, reduceAdd, reduceLT, reduceLeDiff, reduceToNat]; exact rfl) (by simp [go_sem, reduceIte, reduceCtorEq, reduceEqDiff, reduceAdd, reduceLT, reduceLeDiff, reduceToNat]) ?_)
  all_goals (first | refine CWops.guard 12 (by simp only [go_sem, reduceIte, reduceCtorEq, reduceEqDiff, reduceAdd, reduceLT, reduceLeDiff, reduceToNat]; exact rfl) (fun g12 => ?_) (fun g12 => ?_) | skip)
  all_goals (try (cases g12; done))
  all_goals (refine CWops.run htt 5 (by simp only [go_sem, reduceIte, reduceCtorEq, reduceEqDiff, reduceAdd, reduceLT, reduceLeDiff, reduceToNat]; exact rfl) (by simp [go_sem, reduceIte, reduceCtorEq, reduceEqDiff, reduceAdd, reduceLT, reduceLeDiff, reduceToNat]) ?_)
  all_goals (refine CWops.done ?_)
  all_goals (
    refine CW.ret ?_
    refine retQ.ret (by simp only [f114, go_sem, reduceIte, reduceCtorEq, reduceEqDiff, reduceAdd, reduceLT, reduceLeDiff, reduceToNat]; exact rfl) (by simp only [go_sem, reduceIte, reduceCtorEq, reduceEqDiff, reduceAdd, reduceLT, reduceLeDiff, reduceToNat]; exact rfl) ?_ -- ret1
    refine ⟨_, ?_, rfl⟩
    simp [leP])
theorem insertionSort (up : Bool) (l : List Int) (hl : l.length < 1000) : GCallH prog up 125 [.ref 0 [] 0, .int .i64 0, .int .i64 l.length] 1 [(0, ⟨false, [.own 1 (l.map eI)]⟩)] [0] (fun _ σ' => ∃ m, σ'.n = 1 ∧ σ'.s = [(0, ⟨false, [.own 1 (m.map eI)]⟩)] ∧ Sorted l m) := by
  refine GCallH.intro htt 1 func125 (by kernel_rfl) rfl (Nat.le_of_ble_eq_true rfl) (CW.told ?_)
  have w1 : IntKind.i64.wrap ((0 : Int) + 1) = ((1 : Nat) : Int) := by decide
  simp only [tmps0, Nat.reduceAdd]
  refine CW.seq ?_
  refine CW.region (by kernel_rfl) (by kernel_rfl) ?_ -- r0
  refine CWops.run htt 3 (by simp only [go_sem, reduceIte, reduceCtorEq, reduceEqDiff, reduceAdd, reduceLT, reduceLeDiff, reduceToNat, w1]; exact rfl) (by simp [go_sem, reduceIte, reduceCtorEq, reduceEqDiff, reduceAdd, reduceLT, reduceLeDiff, reduceToNat, w1]) ?_
  refine CWops.done ?_
  refine CW.block ?_
  refine CW.loop (S := Nat × List Int) (fun p => ⟨1, [(0, .ref 0 [] 0), (1, .int .i64 0), (2, .int .i64 l.length), (6, .int .i64 p.1)], [(0, ⟨false, [.own 1 (p.2.map eI)]⟩)]⟩) (fun p => UpTo p.2 p.1 ∧ p.2.Perm l ∧ 1 ≤ p.1) (fun p => l.length - p.1) ((1, l)) ?_ ⟨fun p q x y h1 h2 => by omega, List.Perm.refl l, Nat.le_refl 1⟩ (fun ⟨i, m⟩ ⟨h1, h2, h3⟩ => ?_)
  · refine Sh.wk0 ?_; simp [Wk, go_sem, reduceIte, reduceCtorEq, reduceEqDiff, reduceAdd, reduceLT, reduceLeDiff, reduceToNat]
  refine CW.seq ?_
  refine CW.seq ?_
  refine CW.region (by kernel_rfl) (by kernel_rfl) ?_ -- r1
  refine CWops.run htt 3 (by simp only [go_sem, reduceIte, reduceCtorEq, reduceEqDiff, reduceAdd, reduceLT, reduceLeDiff, reduceToNat]; exact rfl) (by simp [go_sem, reduceIte, reduceCtorEq, reduceEqDiff, reduceAdd, reduceLT, reduceLeDiff, reduceToNat]) ?_
  refine CWops.done ?_
  refine CW.cond (by simp only [go_sem, reduceIte, reduceCtorEq, reduceEqDiff, reduceAdd, reduceLT, reduceLeDiff, reduceToNat]; first | done | exact rfl) (fun ct12 => ?_) (fun ct12 => ?_)
  · have hi : i < l.length := by simpa using ct12
    refine CW.skip ?_
    refine CW.seq ?_
    refine CW.block ?_
    refine CW.seq ?_
    refine CW.region (by kernel_rfl) (by kernel_rfl) ?_ -- r3
    refine CWops.run htt 2 (by simp only [go_sem, reduceIte, reduceCtorEq, reduceEqDiff, reduceAdd, reduceLT, reduceLeDiff, reduceToNat]; exact rfl) (by simp [go_sem, reduceIte, reduceCtorEq, reduceEqDiff, reduceAdd, reduceLT, reduceLeDiff, reduceToNat]) ?_
    refine CWops.done ?_
    refine CW.block ?_
    refine CW.loop (S := Nat × List Int) (fun p => ⟨1, [(0, .ref 0 [] 0), (1, .int .i64 0), (2, .int .i64 l.length), (6, .int .i64 i), (7, .int .i64 p.1)], [(0, ⟨false, [.own 1 (p.2.map eI)]⟩)]⟩) (fun p => Ins p.2 i p.1 ∧ p.2.Perm l ∧ p.1 ≤ i) (fun p => p.1) ((i, m)) ?_ ⟨Ins.start h1, h2, Nat.le_refl i⟩ (fun ⟨j, mm⟩ ⟨k1, k2, k3⟩ => ?_)
    · refine Sh.wk0 ?_; simp [Wk, go_sem, reduceIte, reduceCtorEq, reduceEqDiff, reduceAdd, reduceLT, reduceLeDiff, reduceToNat]
    refine CW.seq ?_
    refine CW.cut ⟨1, [(0, .ref 0 [] 0), (1, .int .i64 0), (2, .int .i64 l.length), (6, .int .i64 i), (7, .int .i64 j), (30, .bool (lessAt mm j))], [(0, ⟨false, [.own 1 (mm.map eI)]⟩)]⟩ ?_ ?_
    · have hml : mm.length = l.length := k2.length_eq
      simp only at k3
      obtain ⟨k, a, b, hjab⟩ : ∃ k a b, (j = 0 ∧ True ∧ True ∧ True ∧ True ∧ True) ∨ (j = k + 1 ∧ mm[k]? = some a ∧ mm[k + 1]? = some b ∧ IntKind.i64.wrap (((k + 1 : Nat) : Int) - 1) = (k : Int) ∧ k < mm.length ∧ k + 1 < mm.length) := by
        rcases j with _ | k
        · exact ⟨0, 0, 0, .inl ⟨rfl, trivial, trivial, trivial, trivial, trivial⟩⟩
        · exact ⟨k, mm[k], mm[k + 1], .inr ⟨rfl, List.getElem?_eq_getElem (by omega), List.getElem?_eq_getElem (by omega), by rw [wrap_id (by omega) (by omega)]; omega, by omega, by omega⟩⟩
      rcases hjab with ⟨rfl, ha, hb, hw, hja, hjb⟩ | ⟨rfl, ha, hb, hw, hja, hjb⟩
      all_goals (refine CW.drawn mixed 13 (by decide) (by kernel_rfl) (by kernel_rfl) (by kernel_rfl) ?_) -- r4
      all_goals (refine Seg.run htt 4 (by simp only [go_sem, reduceIte, reduceCtorEq, reduceEqDiff, reduceAdd, reduceLT, reduceLeDiff, reduceToNat, ha, hb, hw, hja, hjb, List.length_map, eI]; exact rfl) ?_)
      all_goals (first | refine Seg.guard 19 (by simp only [go_sem, reduceIte, reduceCtorEq, reduceEqDiff, reduceAdd, reduceLT, reduceLeDiff, reduceToNat, ha, hb, hw, hja, hjb, List.length_map, eI]; exact rfl) (fun g19 => ?_) (fun g19 => ?_) | skip)
      all_goals (first | (simp at g19; done) | (exfalso; simp at g19 <;> omega) | skip)
      all_goals (refine Seg.run htt 9 (by simp only [go_sem, reduceIte, reduceCtorEq, reduceEqDiff, reduceAdd, reduceLT, reduceLeDiff, reduceToNat, ha, hb, hw, hja, hjb, List.length_map, eI]; exact rfl) ?_)
      all_goals (refine Seg.done ?_)
      all_goals (first | (refine CWops.skip ?_ ?_; next => (simp only [go_sem, reduceIte, reduceCtorEq, reduceEqDiff, reduceAdd, reduceLT, reduceLeDiff, reduceToNat]; done)) | (refine CWops.callA (cmp_Less up b a) (by simp only [go_sem, reduceIte, reduceCtorEq, reduceEqDiff, reduceAdd, reduceLT, reduceLeDiff, reduceToNat, ha, hb, hw, hja, hjb, List.length_map, eI]) (by simp only [go_sem, reduceIte, reduceCtorEq, reduceEqDiff, reduceAdd, reduceLT, reduceLeDiff, reduceToNat, ha, hb, hw, hja, hjb, List.length_map, eI]; first | done | exact rfl) (by simp only [go_sem, reduceIte, reduceCtorEq, reduceEqDiff, reduceAdd, reduceLT, reduceLeDiff, reduceToNat, ha, hb, hw, hja, hjb, List.length_map, eI]) (by simp only [go_sem, reduceIte, reduceCtorEq, reduceEqDiff, reduceAdd, reduceLT, reduceLeDiff, reduceToNat, ha, hb, hw, hja, hjb, List.length_map, eI]) (fun rt29 hrt29 => ?_); subst hrt29))
      all_goals (refine CWops.run htt 1 (by simp only [go_sem, reduceIte, reduceCtorEq, reduceEqDiff, reduceAdd, reduceLT, reduceLeDiff, reduceToNat, ha, hb, hw, hja, hjb, List.length_map, eI]; exact rfl) (by simp [go_sem, reduceIte, reduceCtorEq, reduceEqDiff, reduceAdd, reduceLT, reduceLeDiff, reduceToNat, ha, hb, hw, hja, hjb, List.length_map, eI]) ?_)
      all_goals (refine CWops.done ?_)
      all_goals (
        first | refine ⟨rfl, Sh.wk0 ?_⟩ | refine Sh.wk0 ?_
        first | (simp [Wk, go_sem, reduceIte, reduceCtorEq, reduceEqDiff, reduceAdd, reduceLT, reduceLeDiff, reduceToNat, lessAt]; done) | (simp [Wk, go_sem, reduceIte, reduceCtorEq, reduceEqDiff, reduceAdd, reduceLT, reduceLeDiff, reduceToNat, lessAt, ha, hb]; done) | skip)
    refine CW.cond (by simp only [go_sem, reduceIte, reduceCtorEq, reduceEqDiff, reduceAdd, reduceLT, reduceLeDiff, reduceToNat]; first | done | exact rfl) (fun ct30 => ?_) (fun ct30 => ?_)
    · obtain ⟨j, a, b, rfl, ha, hb, hab⟩ := lessAt_true ct30
      have hw : IntKind.i64.wrap (((j + 1 : Nat) : Int) - 1) = (j : Int) := by rw [wrap_id (by omega) (by omega)]; omega
      have hja := (List.getElem?_eq_some_iff.1 ha).1
      have hjb := (List.getElem?_eq_some_iff.1 hb).1
      have hr2 : ((List.map eI mm).set (j + 1) [AV.int .i64 a])[j]? = some [AV.int .i64 a] := by rw [List.getElem?_set_ne (by omega), List.getElem?_map, ha]; rfl
      refine CW.skip ?_
      refine CW.seq ?_
      refine CW.block ?_
      refine CW.drawnF mixed 15 16 [2, 3, 4] (D := [35, 36, 37]) (by decide) (by decide) (by kernel_rfl) (by kernel_rfl) rfl (by kernel_rfl) (by kernel_rfl) ?_ -- r6
      refine Seg.run htt 15 (by simp only [go_sem, reduceIte, reduceCtorEq, reduceEqDiff, reduceAdd, reduceLT, reduceLeDiff, reduceToNat, ha, hb, hw, hja, hjb, List.length_map, eI, hr2, List.length_set]; exact rfl) ?_
      refine Seg.done ?_
      refine Mid.sto htt (Flo.cons htt rfl rfl (by simp only [go_sem, reduceIte, reduceCtorEq, reduceEqDiff, reduceAdd, reduceLT, reduceLeDiff, reduceToNat, ha, hb, hw, hja, hjb, List.length_map, eI, hr2, List.length_set]; first | done | exact rfl) (Flo.cons htt rfl rfl (by simp only [go_sem, reduceIte, reduceCtorEq, reduceEqDiff, reduceAdd, reduceLT, reduceLeDiff, reduceToNat, ha, hb, hw, hja, hjb, List.length_map, eI, hr2, List.length_set]; first | done | exact rfl) (Flo.cons htt rfl rfl (by simp only [go_sem, reduceIte, reduceCtorEq, reduceEqDiff, reduceAdd, reduceLT, reduceLeDiff, reduceToNat, ha, hb, hw, hja, hjb, List.length_map, eI, hr2, List.length_set]; first | done | exact rfl) (Flo.nil)))) (fun u => by simp only [go_sem, reduceIte, reduceCtorEq, reduceEqDiff, reduceAdd, reduceLT, reduceLeDiff, reduceToNat, ha, hb, hw, hja, hjb, List.length_map, eI, hr2, List.length_set]; exact rfl) ?_
      refine Mid.done (Flo.cons htt rfl rfl (by simp only [go_sem, reduceIte, reduceCtorEq, reduceEqDiff, reduceAdd, reduceLT, reduceLeDiff, reduceToNat, ha, hb, hw, hja, hjb, List.length_map, eI, hr2, List.length_set]; first | done | exact rfl) (Flo.cons htt rfl rfl (by simp only [go_sem, reduceIte, reduceCtorEq, reduceEqDiff, reduceAdd, reduceLT, reduceLeDiff, reduceToNat, ha, hb, hw, hja, hjb, List.length_map, eI, hr2, List.length_set]; first | done | exact rfl) (Flo.cons htt rfl rfl (by simp only [go_sem, reduceIte, reduceCtorEq, reduceEqDiff, reduceAdd, reduceLT, reduceLeDiff, reduceToNat, ha, hb, hw, hja, hjb, List.length_map, eI, hr2, List.length_set]; first | done | exact rfl) (Flo.nil)))) ?_
      refine CWops.run htt 2 (by simp only [go_sem, reduceIte, reduceCtorEq, reduceEqDiff, reduceAdd, reduceLT, reduceLeDiff, reduceToNat, ha, hb, hw, hja, hjb, List.length_map, eI, hr2, List.length_set]; exact rfl) (by simp [go_sem, reduceIte, reduceCtorEq, reduceEqDiff, reduceAdd, reduceLT, reduceLeDiff, reduceToNat, ha, hb, hw, hja, hjb, List.length_map, eI, hr2, List.length_set]) ?_
      refine CWops.done ?_
      refine CW.region (by kernel_rfl) (by kernel_rfl) ?_ -- r5
      refine CWops.run htt 3 (by simp only [go_sem, reduceIte, reduceCtorEq, reduceEqDiff, reduceAdd, reduceLT, reduceLeDiff, reduceToNat, hw]; exact rfl) (by simp [go_sem, reduceIte, reduceCtorEq, reduceEqDiff, reduceAdd, reduceLT, reduceLeDiff, reduceToNat, hw]) ?_
      refine CWops.done ?_
      refine ⟨(j, swp mm j a b), ?_, ?_, ?_⟩
      · refine Sh.wk0 ?_; simp [Wk, go_sem, reduceIte, reduceCtorEq, reduceEqDiff, reduceAdd, reduceLT, reduceLeDiff, reduceToNat, swp, set_I]; first | done | rfl
      · exact ⟨k1.step k3 ha hb hab, (swp_perm ha hb).trans k2, by simp only at k3 ⊢; omega⟩
      · simp only; omega
    · refine CW.exit ?_
      refine CW.region (by kernel_rfl) (by kernel_rfl) ?_ -- r2
      refine CWops.run htt 3 (by simp only [go_sem, reduceIte, reduceCtorEq, reduceEqDiff, reduceAdd, reduceLT, reduceLeDiff, reduceToNat, wrap_succ (show i < MX by unfold MX; omega)]; exact rfl) (by simp [go_sem, reduceIte, reduceCtorEq, reduceEqDiff, reduceAdd, reduceLT, reduceLeDiff, reduceToNat, wrap_succ (show i < MX by unfold MX; omega)]) ?_
      refine CWops.done ?_
      refine ⟨(i + 1, mm), ?_, ?_, ?_⟩
      · refine Sh.wk0 ?_; simp [Wk, go_sem, reduceIte, reduceCtorEq, reduceEqDiff, reduceAdd, reduceLT, reduceLeDiff, reduceToNat]
      · exact ⟨lessAt_false ct30 k1 k3 (by rw [k2.length_eq]; exact hi), k2, by simp only; omega⟩
      · simp only; omega
  · have hi : l.length ≤ i := by simpa using ct12
    refine CW.exit ?_
    refine ⟨⟨1, [(0, .ref 0 [] 0)], [(0, ⟨false, [.own 1 (m.map eI)]⟩)]⟩, ?_, .inl rfl, ⟨by simp [ptrOK, go_sem, reduceIte, reduceCtorEq, reduceEqDiff, reduceAdd, reduceLT, reduceLeDiff, reduceToNat], (by refine ⟨⟨0, by decide, rfl, by simp only [go_sem, reduceIte, reduceCtorEq, reduceEqDiff, reduceAdd, reduceLT, reduceLeDiff, reduceToNat], rfl⟩, trivial⟩)⟩, _, by simp only [f125, go_sem, reduceIte, reduceCtorEq, reduceEqDiff, reduceAdd, reduceLT, reduceLeDiff, reduceToNat]; exact rfl, ?_⟩ -- end
    · refine Sh.wk0 ?_
      simp [Wk, go_sem, reduceIte, reduceCtorEq, reduceEqDiff, reduceAdd, reduceLT, reduceLeDiff, reduceToNat]
    · exact ⟨m, rfl, rfl, upTo_pairwise (fun p q x y a b => h1 p q x y a (by rw [h2.length_eq] at b; omega)), h2⟩
end Go.Ab
namespace Go.Ab
open Go Go.Proofs.Try
open Nat (reduceEqDiff reduceAdd reduceLT reduceLeDiff reduceBEq reduceSub reduceMul)
open Int (reduceToNat)
set_option maxRecDepth 100000
set_option linter.unusedSimpArgs false
set_option linter.unusedVariables false
theorem bits_Len64 (up : Bool) (n : Nat) (hn : n < 256) : PCall prog up 134 [.int .u64 n] (fun r => ∃ m : Int, r = .int .i64 m) := by
  refine PCall.intro htt func134 (by kernel_rfl) rfl (Nat.le_of_ble_eq_true rfl) fun hl => ?_
  have hwu : IntKind.u8.wrap (n : Int) = (n : Int) := by
    simp only [IntKind.wrap, IntKind.bits, IntKind.signed]
    simp
    omega
  have hMX : (256 ≤ MX) = True := eq_true (by decide)
  simp only [tmps0, Nat.reduceAdd]
  refine CW.seq ?_
  refine CW.region (by kernel_rfl) (by kernel_rfl) ?_ -- r0
  refine CWops.run htt 1 (by simp only [go_sem, reduceIte, reduceCtorEq, reduceEqDiff, reduceAdd, reduceLT, reduceLeDiff, reduceToNat]; exact rfl) (by simp [go_sem, reduceIte, reduceCtorEq, reduceEqDiff, reduceAdd, reduceLT, reduceLeDiff, reduceToNat]) ?_
  refine CWops.done ?_
  refine CW.seq ?_
  refine CW.seq ?_
  refine CW.region (by kernel_rfl) (by kernel_rfl) ?_ -- r1
  refine CWops.run htt 2 (by simp only [go_sem, reduceIte, reduceCtorEq, reduceEqDiff, reduceAdd, reduceLT, reduceLeDiff, reduceToNat]; exact rfl) (by simp [go_sem, reduceIte, reduceCtorEq, reduceEqDiff, reduceAdd, reduceLT, reduceLeDiff, reduceToNat]) ?_
  refine CWops.done ?_
  refine CW.cond (by simp only [go_sem, reduceIte, reduceCtorEq, reduceEqDiff, reduceAdd, reduceLT, reduceLeDiff, reduceToNat]; first | done | exact rfl) (fun ct4 => ?_) (fun ct4 => ?_)
  · exfalso; simp at ct4; omega 
  · refine CW.skip ?_
    refine CW.seq ?_
    refine CW.seq ?_
    refine CW.region (by kernel_rfl) (by kernel_rfl) ?_ -- r4
    refine CWops.run htt 2 (by simp only [go_sem, reduceIte, reduceCtorEq, reduceEqDiff, reduceAdd, reduceLT, reduceLeDiff, reduceToNat]; exact rfl) (by simp [go_sem, reduceIte, reduceCtorEq, reduceEqDiff, reduceAdd, reduceLT, reduceLeDiff, reduceToNat]) ?_
    refine CWops.done ?_
    refine CW.cond (by simp only [go_sem, reduceIte, reduceCtorEq, reduceEqDiff, reduceAdd, reduceLT, reduceLeDiff, reduceToNat]; first | done | exact rfl) (fun ct8 => ?_) (fun ct8 => ?_)
    · exfalso; simp at ct8; omega 
    · refine CW.skip ?_
      refine CW.seq ?_
      refine CW.seq ?_
      refine CW.region (by kernel_rfl) (by kernel_rfl) ?_ -- r7
      refine CWops.run htt 2 (by simp only [go_sem, reduceIte, reduceCtorEq, reduceEqDiff, reduceAdd, reduceLT, reduceLeDiff, reduceToNat]; exact rfl) (by simp [go_sem, reduceIte, reduceCtorEq, reduceEqDiff, reduceAdd, reduceLT, reduceLeDiff, reduceToNat]) ?_
      refine CWops.done ?_
      refine CW.cond (by simp only [go_sem, reduceIte, reduceCtorEq, reduceEqDiff, reduceAdd, reduceLT, reduceLeDiff, reduceToNat]; first | done | exact rfl) (fun ct14 => ?_) (fun ct14 => ?_)
      · exfalso; simp at ct14; omega 
      · refine CW.skip ?_
        refine CW.seq ?_
        refine CW.region (by kernel_rfl) (by kernel_rfl) ?_ -- r10
        refine CWops.run htt 2 (by simp only [go_sem, reduceIte, reduceCtorEq, reduceEqDiff, reduceAdd, reduceLT, reduceLeDiff, reduceToNat]; exact rfl) (by simp [go_sem, reduceIte, reduceCtorEq, reduceEqDiff, reduceAdd, reduceLT, reduceLeDiff, reduceToNat]) ?_
        refine CWops.conv (n := (n : Int)) (k := .u64) (k' := .u8) htt (by simp only [go_sem, reduceIte, reduceCtorEq, reduceEqDiff, reduceAdd, reduceLT, reduceLeDiff, reduceToNat]) tt_162 rfl tt_5 rfl (by simp only [go_sem, reduceIte, reduceCtorEq, reduceEqDiff, reduceAdd, reduceLT, reduceLeDiff, reduceToNat]) ?_
        rw [hwu]
        refine CWops.strAt (q := n) (k := .u8) htt (by simp only [go_sem, reduceIte, reduceCtorEq, reduceEqDiff, reduceAdd, reduceLT, reduceLeDiff, reduceToNat]) tt_9 rfl (by simp only [go_sem, reduceIte, reduceCtorEq, reduceEqDiff, reduceAdd, reduceLT, reduceLeDiff, reduceToNat, hMX]; first | done | exact rfl) (by simp only [go_sem, reduceIte, reduceCtorEq, reduceEqDiff, reduceAdd, reduceLT, reduceLeDiff, reduceToNat]) (by exact hn) (fun c => ?_)
        refine CWops.conv (n := (c.toNat : Int)) (k := .u8) (k' := .i64) htt (by simp only [go_sem, reduceIte, reduceCtorEq, reduceEqDiff, reduceAdd, reduceLT, reduceLeDiff, reduceToNat]) tt_5 rfl tt_3 rfl (by simp only [go_sem, reduceIte, reduceCtorEq, reduceEqDiff, reduceAdd, reduceLT, reduceLeDiff, reduceToNat]) ?_
        refine CWops.run htt 2 (by simp only [go_sem, reduceIte, reduceCtorEq, reduceEqDiff, reduceAdd, reduceLT, reduceLeDiff, reduceToNat]; exact rfl) (by simp [go_sem, reduceIte, reduceCtorEq, reduceEqDiff, reduceAdd, reduceLT, reduceLeDiff, reduceToNat]) ?_
        refine CWops.done ?_
        refine CW.ret ?_
        refine retQ.ret (by simp only [f134, go_sem, reduceIte, reduceCtorEq, reduceEqDiff, reduceAdd, reduceLT, reduceLeDiff, reduceToNat]; exact rfl) (by simp only [go_sem, reduceIte, reduceCtorEq, reduceEqDiff, reduceAdd, reduceLT, reduceLeDiff, reduceToNat]; exact rfl) ?_ -- ret1
        exact ⟨_, leP_refl _, _, rfl⟩
theorem bits_Len (up : Bool) (n : Nat) (hn : n < 256) : PCall prog up 106 [.int .u64 n] (fun r => ∃ m : Int, r = .int .i64 m) := by
  refine PCall.intro htt func106 (by kernel_rfl) rfl (Nat.le_of_ble_eq_true rfl) fun hl => ?_

  simp only [tmps0, Nat.reduceAdd]
  refine CW.seq ?_
  refine CW.region (by kernel_rfl) (by kernel_rfl) ?_ -- r0
  refine CWops.run htt 1 (by simp only [go_sem, reduceIte, reduceCtorEq, reduceEqDiff, reduceAdd, reduceLT, reduceLeDiff, reduceToNat]; exact rfl) (by simp [go_sem, reduceIte, reduceCtorEq, reduceEqDiff, reduceAdd, reduceLT, reduceLeDiff, reduceToNat]) ?_
  refine CWops.done ?_
  refine CW.seq ?_
  refine CW.cond (by simp only [go_sem, reduceIte, reduceCtorEq, reduceEqDiff, reduceAdd, reduceLT, reduceLeDiff, reduceToNat]; first | done | exact rfl) (fun cK => ?_) (fun cK => ?_)
  · cases cK 
  · refine CW.skip ?_
    refine CW.seq ?_
    refine CW.region (by kernel_rfl) (by kernel_rfl) ?_ -- r2
    refine CWops.run htt 1 (by simp only [go_sem, reduceIte, reduceCtorEq, reduceEqDiff, reduceAdd, reduceLT, reduceLeDiff, reduceToNat]; exact rfl) (by simp [go_sem, reduceIte, reduceCtorEq, reduceEqDiff, reduceAdd, reduceLT, reduceLeDiff, reduceToNat]) ?_
    refine CWops.callA (bits_Len64 up n hn) (by simp only [go_sem, reduceIte, reduceCtorEq, reduceEqDiff, reduceAdd, reduceLT, reduceLeDiff, reduceToNat]) (by simp only [go_sem, reduceIte, reduceCtorEq, reduceEqDiff, reduceAdd, reduceLT, reduceLeDiff, reduceToNat]; first | done | exact rfl) (by simp only [go_sem, reduceIte, reduceCtorEq, reduceEqDiff, reduceAdd, reduceLT, reduceLeDiff, reduceToNat]) (by simp only [go_sem, reduceIte, reduceCtorEq, reduceEqDiff, reduceAdd, reduceLT, reduceLeDiff, reduceToNat]) (fun rt7 hrt7 => ?_)
    obtain ⟨m7, rfl⟩ := hrt7
    refine CWops.run htt 1 (by simp only [go_sem, reduceIte, reduceCtorEq, reduceEqDiff, reduceAdd, reduceLT, reduceLeDiff, reduceToNat]; exact rfl) (by simp [go_sem, reduceIte, reduceCtorEq, reduceEqDiff, reduceAdd, reduceLT, reduceLeDiff, reduceToNat]) ?_
    refine CWops.done ?_
    refine CW.ret ?_
    refine retQ.ret (by simp only [f106, go_sem, reduceIte, reduceCtorEq, reduceEqDiff, reduceAdd, reduceLT, reduceLeDiff, reduceToNat]; exact rfl) (by simp only [go_sem, reduceIte, reduceCtorEq, reduceEqDiff, reduceAdd, reduceLT, reduceLeDiff, reduceToNat]; exact rfl) ?_ -- ret1
    exact ⟨_, leP_refl _, _, rfl⟩
theorem pdqsort (up : Bool) (l : List Int) (lim : Int) (hl : l.length < 13) : GCallH prog up 105 [.ref 0 [] 0, .int .i64 0, .int .i64 l.length, .int .i64 lim] 1 [(0, ⟨false, [.own 1 (l.map eI)]⟩)] [0] (fun _ σ' => ∃ m, σ'.n = 1 ∧ σ'.s = [(0, ⟨false, [.own 1 (m.map eI)]⟩)] ∧ Sorted l m) := by
  refine GCallH.intro htt 1 func105 (by kernel_rfl) rfl (Nat.le_of_ble_eq_true rfl) (CW.told ?_)
  have hw : IntKind.i64.wrap ((l.length : Int) - 0) = (l.length : Int) := by rw [wrap_id (by omega) (by omega)]; omega
  simp only [tmps0, Nat.reduceAdd]
  refine CW.seq ?_
  refine CW.region (by kernel_rfl) (by kernel_rfl) ?_ -- r0
  refine CWops.run htt 1 (by simp only [go_sem, reduceIte, reduceCtorEq, reduceEqDiff, reduceAdd, reduceLT, reduceLeDiff, reduceToNat]; exact rfl) (by simp [go_sem, reduceIte, reduceCtorEq, reduceEqDiff, reduceAdd, reduceLT, reduceLeDiff, reduceToNat]) ?_
  refine CWops.done ?_
  refine CW.seq ?_
  refine CW.region (by kernel_rfl) (by kernel_rfl) ?_ -- r1
  refine CWops.run htt 1 (by simp only [go_sem, reduceIte, reduceCtorEq, reduceEqDiff, reduceAdd, reduceLT, reduceLeDiff, reduceToNat]; exact rfl) (by simp [go_sem, reduceIte, reduceCtorEq, reduceEqDiff, reduceAdd, reduceLT, reduceLeDiff, reduceToNat]) ?_
  refine CWops.done ?_
  refine CW.block ?_
  refine CW.loop (S := Unit) (fun u => ⟨1, [(0, .ref 0 [] 0), (1, .int .i64 0), (2, .int .i64 l.length)], [(0, ⟨false, [.own 1 (l.map eI)]⟩)]⟩) (fun u => True) (fun u => 0) (()) ?_ trivial (fun _ _ => ?_)
  · refine Sh.wk0 ?_; simp [Wk, go_sem, reduceIte, reduceCtorEq, reduceEqDiff, reduceAdd, reduceLT, reduceLeDiff, reduceToNat]
  refine CW.block ?_
  refine CW.seq ?_
  refine CW.region (by kernel_rfl) (by kernel_rfl) ?_ -- r2
  refine CWops.run htt 4 (by simp only [go_sem, reduceIte, reduceCtorEq, reduceEqDiff, reduceAdd, reduceLT, reduceLeDiff, reduceToNat, hw]; exact rfl) (by simp [go_sem, reduceIte, reduceCtorEq, reduceEqDiff, reduceAdd, reduceLT, reduceLeDiff, reduceToNat, hw]) ?_
  refine CWops.done ?_
  refine CW.seq ?_
  refine CW.seq ?_
  refine CW.region (by kernel_rfl) (by kernel_rfl) ?_ -- r3
  refine CWops.run htt 2 (by simp only [go_sem, reduceIte, reduceCtorEq, reduceEqDiff, reduceAdd, reduceLT, reduceLeDiff, reduceToNat]; exact rfl) (by simp [go_sem, reduceIte, reduceCtorEq, reduceEqDiff, reduceAdd, reduceLT, reduceLeDiff, reduceToNat]) ?_
  refine CWops.done ?_
  refine CW.cond (by simp only [go_sem, reduceIte, reduceCtorEq, reduceEqDiff, reduceAdd, reduceLT, reduceLeDiff, reduceToNat]; first | done | exact rfl) (fun ct23 => ?_) (fun ct23 => ?_)
  · refine CW.seq ?_
    refine CW.region (by kernel_rfl) (by kernel_rfl) ?_ -- r4
    refine CWops.run htt 3 (by simp only [go_sem, reduceIte, reduceCtorEq, reduceEqDiff, reduceAdd, reduceLT, reduceLeDiff, reduceToNat]; exact rfl) (by simp [go_sem, reduceIte, reduceCtorEq, reduceEqDiff, reduceAdd, reduceLT, reduceLeDiff, reduceToNat]) ?_
    refine CWops.callGH [0] rfl (insertionSort up l (by omega)) (by decide) (by simp only [go_sem, reduceIte, reduceCtorEq, reduceEqDiff, reduceAdd, reduceLT, reduceLeDiff, reduceToNat]) (by simp only [go_sem, reduceIte, reduceCtorEq, reduceEqDiff, reduceAdd, reduceLT, reduceLeDiff, reduceToNat]; first | done | exact rfl) (by decide) (by simp [go_sem, reduceIte, reduceCtorEq, reduceEqDiff, reduceAdd, reduceLT, reduceLeDiff, reduceToNat, mName, memB]) (by simp [go_sem, reduceIte, reduceCtorEq, reduceEqDiff, reduceAdd, reduceLT, reduceLeDiff, reduceToNat, mName]) (by simp [go_sem, reduceIte, reduceCtorEq, reduceEqDiff, reduceAdd, reduceLT, reduceLeDiff, reduceToNat]) (by simp [go_sem, reduceIte, reduceCtorEq, reduceEqDiff, reduceAdd, reduceLT, reduceLeDiff, reduceToNat]) (by simp [go_sem, reduceIte, reduceCtorEq, reduceEqDiff, reduceAdd, reduceLT, reduceLeDiff, reduceToNat, mName]) (fun r σ' hσ => ?_)
    obtain ⟨σn, σt, σs⟩ := σ'
    simp only at hσ
    obtain ⟨m, rfl, rfl, hm2⟩ := hσ
    simp only [aftH, renS, List.map_cons, List.map_nil, delAll, memB, mName, List.getD_nil, killH, kref, ren, Nat.beq_eq, go_sem, reduceIte, reduceCtorEq, reduceEqDiff, reduceAdd, reduceLT, reduceLeDiff, reduceToNat]
    refine CWops.done ?_
    refine CW.ret ?_
    refine ⟨⟨1, [(0, .ref 0 [] 0)], [(0, ⟨false, [.own 1 (m.map eI)]⟩)]⟩, ?_, .inr rfl, ⟨by simp [ptrOK, go_sem, reduceIte, reduceCtorEq, reduceEqDiff, reduceAdd, reduceLT, reduceLeDiff, reduceToNat], (by refine ⟨⟨0, by decide, rfl, by simp only [go_sem, reduceIte, reduceCtorEq, reduceEqDiff, reduceAdd, reduceLT, reduceLeDiff, reduceToNat], rfl⟩, trivial⟩)⟩, _, by simp only [f105, go_sem, reduceIte, reduceCtorEq, reduceEqDiff, reduceAdd, reduceLT, reduceLeDiff, reduceToNat]; exact rfl, ?_⟩ -- ret1
    · refine Sh.wk0 ?_
      simp [Wk, go_sem, reduceIte, reduceCtorEq, reduceEqDiff, reduceAdd, reduceLT, reduceLeDiff, reduceToNat]
    · exact ⟨m, rfl, rfl, hm2⟩
  · exfalso; simp at ct23; omega
theorem slices_Sort (up : Bool) (l : List Int) (hl : l.length < 13) : GCallH prog up 75 [.ref 0 [] 0] 1 [(0, ⟨false, [.own 1 (l.map eI)]⟩)] [0] (fun _ σ' => ∃ m, σ'.n = 1 ∧ σ'.s = [(0, ⟨false, [.own 1 (m.map eI)]⟩)] ∧ Sorted l m) := by
  refine GCallH.intro htt 1 func75 (by kernel_rfl) rfl (Nat.le_of_ble_eq_true rfl) (CW.told ?_)
  have hw : IntKind.u64.wrap (l.length : Int) = (l.length : Int) := by
    simp only [IntKind.wrap, IntKind.bits, IntKind.signed]
    simp
    omega
  simp only [tmps0, Nat.reduceAdd]
  refine CW.seq ?_
  refine CW.region (by kernel_rfl) (by kernel_rfl) ?_ -- r0
  refine CWops.run htt 3 (by simp only [go_sem, reduceIte, reduceCtorEq, reduceEqDiff, reduceAdd, reduceLT, reduceLeDiff, reduceToNat]; exact rfl) (by simp [go_sem, reduceIte, reduceCtorEq, reduceEqDiff, reduceAdd, reduceLT, reduceLeDiff, reduceToNat]) ?_
  refine CWops.done ?_
  refine CW.region (by kernel_rfl) (by kernel_rfl) ?_ -- r1
  refine CWops.run htt 3 (by simp only [go_sem, reduceIte, reduceCtorEq, reduceEqDiff, reduceAdd, reduceLT, reduceLeDiff, reduceToNat]; exact rfl) (by simp [go_sem, reduceIte, reduceCtorEq, reduceEqDiff, reduceAdd, reduceLT, reduceLeDiff, reduceToNat]) ?_
  refine CWops.conv (n := (l.length : Int)) (k := .i64) (k' := .u64) htt (by simp only [go_sem, reduceIte, reduceCtorEq, reduceEqDiff, reduceAdd, reduceLT, reduceLeDiff, reduceToNat]) tt_3 rfl tt_135 rfl (by simp only [go_sem, reduceIte, reduceCtorEq, reduceEqDiff, reduceAdd, reduceLT, reduceLeDiff, reduceToNat, List.length_map]; first | done | exact rfl) ?_
  rw [hw]
  refine CWops.callA (bits_Len up l.length (by omega)) (by simp only [go_sem, reduceIte, reduceCtorEq, reduceEqDiff, reduceAdd, reduceLT, reduceLeDiff, reduceToNat]) (by simp only [go_sem, reduceIte, reduceCtorEq, reduceEqDiff, reduceAdd, reduceLT, reduceLeDiff, reduceToNat]; first | done | exact rfl) (by simp only [go_sem, reduceIte, reduceCtorEq, reduceEqDiff, reduceAdd, reduceLT, reduceLeDiff, reduceToNat]) (by simp only [go_sem, reduceIte, reduceCtorEq, reduceEqDiff, reduceAdd, reduceLT, reduceLeDiff, reduceToNat]) (fun rt9 hrt9 => ?_)
  obtain ⟨lim, rfl⟩ := hrt9
  refine CWops.callGH [0] rfl (pdqsort up l lim hl) (by decide) (by simp only [go_sem, reduceIte, reduceCtorEq, reduceEqDiff, reduceAdd, reduceLT, reduceLeDiff, reduceToNat]) (by simp only [go_sem, reduceIte, reduceCtorEq, reduceEqDiff, reduceAdd, reduceLT, reduceLeDiff, reduceToNat]; first | done | exact rfl) (by decide) (by simp [go_sem, reduceIte, reduceCtorEq, reduceEqDiff, reduceAdd, reduceLT, reduceLeDiff, reduceToNat, mName, memB]) (by simp [go_sem, reduceIte, reduceCtorEq, reduceEqDiff, reduceAdd, reduceLT, reduceLeDiff, reduceToNat, mName]) (by simp [go_sem, reduceIte, reduceCtorEq, reduceEqDiff, reduceAdd, reduceLT, reduceLeDiff, reduceToNat]) (by simp [go_sem, reduceIte, reduceCtorEq, reduceEqDiff, reduceAdd, reduceLT, reduceLeDiff, reduceToNat]) (by simp [go_sem, reduceIte, reduceCtorEq, reduceEqDiff, reduceAdd, reduceLT, reduceLeDiff, reduceToNat, mName]) (fun r σ' hσ => ?_)
  obtain ⟨σn, σt, σs⟩ := σ'
  simp only at hσ
  obtain ⟨m, rfl, rfl, hm2⟩ := hσ
  simp only [aftH, renS, List.map_cons, List.map_nil, delAll, memB, mName, List.getD_nil, killH, kref, ren, Nat.beq_eq, go_sem, reduceIte, reduceCtorEq, reduceEqDiff, reduceAdd, reduceLT, reduceLeDiff, reduceToNat]
  refine CWops.done ?_
  refine ⟨⟨1, [(0, .ref 0 [] 0)], [(0, ⟨false, [.own 1 (m.map eI)]⟩)]⟩, ?_, .inl rfl, ⟨by simp [ptrOK, go_sem, reduceIte, reduceCtorEq, reduceEqDiff, reduceAdd, reduceLT, reduceLeDiff, reduceToNat], (by refine ⟨⟨0, by decide, rfl, by simp only [go_sem, reduceIte, reduceCtorEq, reduceEqDiff, reduceAdd, reduceLT, reduceLeDiff, reduceToNat], rfl⟩, trivial⟩)⟩, _, by simp only [f75, go_sem, reduceIte, reduceCtorEq, reduceEqDiff, reduceAdd, reduceLT, reduceLeDiff, reduceToNat]; exact rfl, ?_⟩ -- end
  · refine Sh.wk0 ?_
    simp [Wk, go_sem, reduceIte, reduceCtorEq, reduceEqDiff, reduceAdd, reduceLT, reduceLeDiff, reduceToNat]
  · exact ⟨m, rfl, rfl, hm2⟩
end Go.Ab
namespace Go.Ab
open Go Go.Proofs.Try
open Nat (reduceEqDiff reduceAdd reduceLT reduceLeDiff reduceBEq reduceSub reduceMul)
open Int (reduceToNat)
set_option maxRecDepth 100000
set_option linter.unusedSimpArgs false
set_option linter.unusedVariables false
@[go_sem] theorem tt_106 : tiOf prog 106 = some ⟨.map 3 4, 1, 8, [.nilmap], false⟩ := by kernel_rfl
@[go_sem] theorem tt_107 : tiOf prog 107 = some ⟨.func, 1, 8, [.nilfunc], false⟩ := by kernel_rfl
theorem come_in (up : Bool) (g : Graph) (l : List Int) (id : Int) (hin : id = -1 ∨ id ∈ l) : GCall prog up 73 [.int .i64 id, .lv 0 [] 0, .lv 1 [] 0, .lv 2 [] 0, .lv 3 [] 0] 4 [(0, ⟨true, [.omap (wasMap (l))]⟩), (1, ⟨true, [.own 1 (List.map eI (l))]⟩), (2, ⟨true, eGraph g⟩), (3, ⟨true, [.func (.func 73) [] [.lv 0 [] 0, .lv 1 [] 0, .lv 2 [] 0, .lv 3 [] 0]]⟩)] (fun _ σ' => ∃ t, σ' = ⟨4, t, [(0, ⟨true, [.omap (wasMap (l))]⟩), (1, ⟨true, [.own 1 (List.map eI (l))]⟩), (2, ⟨true, eGraph g⟩), (3, ⟨true, [.func (.func 73) [] [.lv 0 [] 0, .lv 1 [] 0, .lv 2 [] 0, .lv 3 [] 0]]⟩)]⟩) := by
  refine GCall.intro htt 5 func73 (by kernel_rfl) rfl (Nat.le_of_ble_eq_true rfl) (CW.told ?_)

  simp only [tmps0, Nat.reduceAdd]
  refine CW.seq ?_
  refine CW.seq ?_
  refine CW.region (by kernel_rfl) (by kernel_rfl) ?_ -- r0
  refine CWops.run htt 3 (by simp only [go_sem, reduceIte, reduceCtorEq, reduceEqDiff, reduceAdd, reduceLT, reduceLeDiff, reduceToNat, reduceMul, maplk_was, if_pos hin]; exact rfl) (by simp [go_sem, reduceIte, reduceCtorEq, reduceEqDiff, reduceAdd, reduceLT, reduceLeDiff, reduceToNat, reduceMul, maplk_was, if_pos hin]) ?_
  refine CWops.done ?_
  refine CW.cond (by simp only [go_sem, reduceIte, reduceCtorEq, reduceEqDiff, reduceAdd, reduceLT, reduceLeDiff, reduceToNat, reduceMul]; first | done | exact rfl) (fun ct11 => ?_) (fun ct11 => ?_)
  · refine CW.ret ?_
    refine ⟨⟨4, [(0, .int .i64 id), (1, .lv 0 [] 0), (2, .lv 1 [] 0), (3, .lv 2 [] 0), (4, .lv 3 [] 0)], [(0, ⟨true, [.omap (wasMap (l))]⟩), (1, ⟨true, [.own 1 (List.map eI (l))]⟩), (2, ⟨true, eGraph g⟩), (3, ⟨true, [.func (.func 73) [] [.lv 0 [] 0, .lv 1 [] 0, .lv 2 [] 0, .lv 3 [] 0]]⟩)]⟩, ?_, .inr rfl, by (simp [ptrOK, go_sem, reduceIte, reduceCtorEq, reduceEqDiff, reduceAdd, reduceLT, reduceLeDiff, reduceToNat, reduceMul]; exact ⟨⟨1, by simp⟩, ⟨2, by simp⟩, ⟨3, by simp⟩, ⟨4, by simp⟩⟩), _, by simp only [f73, go_sem, reduceIte, reduceCtorEq, reduceEqDiff, reduceAdd, reduceLT, reduceLeDiff, reduceToNat, reduceMul]; exact rfl, ?_⟩ -- ret1
    · refine Sh.wk0 ?_
      simp [Wk, go_sem, reduceIte, reduceCtorEq, reduceEqDiff, reduceAdd, reduceLT, reduceLeDiff, reduceToNat, reduceMul, ex_func, SubL, Sub, eGraph]
    · exact ⟨_, rfl⟩
  · cases ct11
theorem come_out (up : Bool) (g : Graph) (hm : May g) (n : Nat) (ih : ∀ (l : List Int) (id : Int), Good g l → rootB g id = true → g.O.length < n + l.length → GCall prog up 73 [.int .i64 id, .lv 0 [] 0, .lv 1 [] 0, .lv 2 [] 0, .lv 3 [] 0] 4 [(0, ⟨true, [.omap (wasMap (l))]⟩), (1, ⟨true, [.own 1 (List.map eI (l))]⟩), (2, ⟨true, eGraph g⟩), (3, ⟨true, [.func (.func 73) [] [.lv 0 [] 0, .lv 1 [] 0, .lv 2 [] 0, .lv 3 [] 0]]⟩)] (fun _ σ' => ∃ t, σ' = ⟨4, t, [(0, ⟨true, [.omap (wasMap (dfs g n l id))]⟩), (1, ⟨true, [.own 1 (List.map eI (dfs g n l id))]⟩), (2, ⟨true, eGraph g⟩), (3, ⟨true, [.func (.func 73) [] [.lv 0 [] 0, .lv 1 [] 0, .lv 2 [] 0, .lv 3 [] 0]]⟩)]⟩)) (l : List Int) (id : Int) (hg : Good g l) (hr : rootB g id = true) (hn : g.O.length < n + 1 + l.length) (hno : ¬ (id = -1 ∨ id ∈ l)) : GCall prog up 73 [.int .i64 id, .lv 0 [] 0, .lv 1 [] 0, .lv 2 [] 0, .lv 3 [] 0] 4 [(0, ⟨true, [.omap (wasMap (l))]⟩), (1, ⟨true, [.own 1 (List.map eI (l))]⟩), (2, ⟨true, eGraph g⟩), (3, ⟨true, [.func (.func 73) [] [.lv 0 [] 0, .lv 1 [] 0, .lv 2 [] 0, .lv 3 [] 0]]⟩)] (fun _ σ' => ∃ t, σ' = ⟨4, t, [(0, ⟨true, [.omap (wasMap (dfs g (n + 1) l id))]⟩), (1, ⟨true, [.own 1 (List.map eI (dfs g (n + 1) l id))]⟩), (2, ⟨true, eGraph g⟩), (3, ⟨true, [.func (.func 73) [] [.lv 0 [] 0, .lv 1 [] 0, .lv 2 [] 0, .lv 3 [] 0]]⟩)]⟩) := by
  refine GCall.intro htt 5 func73 (by kernel_rfl) rfl (Nat.le_of_ble_eq_true rfl) (CW.told ?_)
  have ho := hm.o
  have hgl := hg.len
  have hg2 : Good g (l ++ [id]) := by
    have := hg.meet hr
    unfold meet at this
    rwa [if_neg hno] at this
  have hty : (typ g.O id).isSome = true := hg2.ids id (by simp)
  obtain ⟨p, ⟨oi, oT, oF⟩, hp, e1, hF1, hA, _⟩ := hm.find hty
  unfold gFind at hF1
  obtain ⟨_, t, hT, hmo⟩ := hm.objT hp
  obtain ⟨q, rfl⟩ := Int.eq_ofNat_of_zero_le (show 0 ≤ oT from hmo.t0)
  have ht : g.S[q]? = some t := by simpa using hmo.at_
  have hlen : oF.length = t.F.length := hmo.len
  have h5 := hm.small.2.1 t (List.mem_of_getElem? ht)
  have hpl := (List.getElem?_eq_some_iff.1 hp).1
  have hql := (List.getElem?_eq_some_iff.1 ht).1
  have hrefs : refsOf g id = refsZ (t.F.zip oF) := by unfold refsOf; rw [hA]; simp only [refsO, hT]
  simp only [tmps0, Nat.reduceAdd]
  refine CW.seq ?_
  refine CW.seq ?_
  refine CW.region (by kernel_rfl) (by kernel_rfl) ?_ -- r0
  refine CWops.run htt 3 (by simp only [go_sem, reduceIte, reduceCtorEq, reduceEqDiff, reduceAdd, reduceLT, reduceLeDiff, reduceToNat, reduceMul, maplk_was, if_neg hno]; exact rfl) (by simp [go_sem, reduceIte, reduceCtorEq, reduceEqDiff, reduceAdd, reduceLT, reduceLeDiff, reduceToNat, reduceMul, maplk_was, if_neg hno]) ?_
  refine CWops.done ?_
  refine CW.cond (by simp only [go_sem, reduceIte, reduceCtorEq, reduceEqDiff, reduceAdd, reduceLT, reduceLeDiff, reduceToNat, reduceMul]; first | done | exact rfl) (fun ct11 => ?_) (fun ct11 => ?_)
  · cases ct11 
  · refine CW.skip ?_
    refine CW.seq ?_
    refine CW.region (by kernel_rfl) (by kernel_rfl) ?_ -- r1
    refine CWops.run htt 3 (by simp only [go_sem, reduceIte, reduceCtorEq, reduceEqDiff, reduceAdd, reduceLT, reduceLeDiff, reduceToNat, reduceMul, was_put hno]; exact rfl) (by simp [was_len, MX]; omega) ?_
    refine CWops.done ?_
    refine CW.seq ?_
    refine CW.region (by kernel_rfl) (by kernel_rfl) ?_ -- r2
    refine CWops.run htt 5 (by simp only [go_sem, reduceIte, reduceCtorEq, reduceEqDiff, reduceAdd, reduceLT, reduceLeDiff, reduceToNat, reduceMul, List.replicate]; exact rfl) (by simp [AV.cell, AV.tree, eI, MX]; omega) ?_
    refine CWops.done ?_
    refine CW.seq ?_
    refine CW.drawn mixed 8 (by decide) (by kernel_rfl) (by kernel_rfl) (by kernel_rfl) ?_ -- r3
    refine Seg.run htt 4 (by simp only [go_sem, reduceIte, reduceCtorEq, reduceEqDiff, reduceAdd, reduceLT, reduceLeDiff, reduceToNat, reduceMul, eGraph, hF1, hp, eObj, hpl]; exact rfl) ?_
    refine Seg.call (graph_Find up g id) (by simp only [go_sem, reduceIte, reduceCtorEq, reduceEqDiff, reduceAdd, reduceLT, reduceLeDiff, reduceToNat, reduceMul, eGraph, hF1, hp, eObj, hpl]) (by simp only [go_sem, reduceIte, reduceCtorEq, reduceEqDiff, reduceAdd, reduceLT, reduceLeDiff, reduceToNat, reduceMul, eGraph, hF1, hp, eObj, hpl]; first | done | exact rfl) (by simp only [go_sem, reduceIte, reduceCtorEq, reduceEqDiff, reduceAdd, reduceLT, reduceLeDiff, reduceToNat, reduceMul, eGraph, hF1, hp, eObj, hpl]) (by simp only [go_sem, reduceIte, reduceCtorEq, reduceEqDiff, reduceAdd, reduceLT, reduceLeDiff, reduceToNat, reduceMul, eGraph, hF1, hp, eObj, hpl]) rfl ?_
    refine Seg.run htt 3 (by simp only [go_sem, reduceIte, reduceCtorEq, reduceEqDiff, reduceAdd, reduceLT, reduceLeDiff, reduceToNat, reduceMul, eGraph, hF1, hp, eObj, hpl]; exact rfl) ?_
    refine Seg.done ?_
    refine CWops.run htt 1 (by simp only [go_sem, reduceIte, reduceCtorEq, reduceEqDiff, reduceAdd, reduceLT, reduceLeDiff, reduceToNat, reduceMul, eGraph, hF1, hp, eObj, hpl]; exact rfl) (by simp [go_sem, reduceIte, reduceCtorEq, reduceEqDiff, reduceAdd, reduceLT, reduceLeDiff, reduceToNat, reduceMul, eGraph, hF1, hp, eObj, hpl]) ?_
    refine CWops.done ?_
    refine CW.seq ?_
    refine CW.region (by kernel_rfl) (by kernel_rfl) ?_ -- r4
    refine CWops.run htt 10 (by simp only [go_sem, reduceIte, reduceCtorEq, reduceEqDiff, reduceAdd, reduceLT, reduceLeDiff, reduceToNat, reduceMul, eGraph, ht, eType, hql, eObj]; exact rfl) (by simp [go_sem, reduceIte, reduceCtorEq, reduceEqDiff, reduceAdd, reduceLT, reduceLeDiff, reduceToNat, reduceMul, eGraph, ht, eType, hql, eObj]) ?_
    refine CWops.done ?_
    refine CW.block ?_
    refine CW.loop (S := Nat) (fun k => ⟨7, [(0, .int .i64 id), (1, .lv 0 [] 0), (2, .lv 1 [] 0), (3, .lv 2 [] 0), (4, .lv 3 [] 0), (6, .lv 6 [] 0), (32, .sl 3 (t.F.map eField)), (33, .int .i64 t.F.length), (34, .int .i64 k)], [(0, ⟨true, [.omap (wasMap ((refsZ ((t.F.zip oF).take k)).foldl (dfs g n) (l ++ [id])))]⟩), (1, ⟨true, [.own 1 (List.map eI ((refsZ ((t.F.zip oF).take k)).foldl (dfs g n) (l ++ [id])))]⟩), (2, ⟨true, eGraph g⟩), (3, ⟨true, [.func (.func 73) [] [.lv 0 [] 0, .lv 1 [] 0, .lv 2 [] 0, .lv 3 [] 0]]⟩), (6, ⟨true, eObj ⟨oi, q, oF⟩⟩)]⟩) (fun k => k ≤ t.F.length ∧ Step g (l ++ [id]) (refsZ ((t.F.zip oF).take k)) ((refsZ ((t.F.zip oF).take k)).foldl (dfs g n) (l ++ [id]))) (fun k => t.F.length - k) (0) ?_ ⟨Nat.zero_le _, by simpa [refsZ] using Step.nil hg2⟩ (fun k ⟨k1, k2⟩ => ?_)
    · refine Sh.wk0 ?_; simp [Wk, go_sem, reduceIte, reduceCtorEq, reduceEqDiff, reduceAdd, reduceLT, reduceLeDiff, reduceToNat, reduceMul, ex_func, SubL, Sub, eGraph, eObj, refsZ, eI]
    refine CW.seq ?_
    refine CW.region (by kernel_rfl) (by kernel_rfl) ?_ -- r5
    refine CWops.run htt 1 (by simp only [go_sem, reduceIte, reduceCtorEq, reduceEqDiff, reduceAdd, reduceLT, reduceLeDiff, reduceToNat, reduceMul]; exact rfl) (by simp [go_sem, reduceIte, reduceCtorEq, reduceEqDiff, reduceAdd, reduceLT, reduceLeDiff, reduceToNat, reduceMul]) ?_
    refine CWops.done ?_
    refine CW.seq ?_
    refine CW.cond (by simp only [go_sem, reduceIte, reduceCtorEq, reduceEqDiff, reduceAdd, reduceLT, reduceLeDiff, reduceToNat, reduceMul]; first | done | exact rfl) (fun ct35 => ?_) (fun ct35 => ?_)
    · have hk : k < t.F.length := by simpa using ct35
      have hko : k < oF.length := by omega
      obtain ⟨v, hv⟩ : ∃ v, oF[k]? = some v := ⟨oF[k], List.getElem?_eq_getElem hko⟩
      obtain ⟨f, hf⟩ : ∃ f, t.F[k]? = some f := ⟨t.F[k], List.getElem?_eq_getElem (by omega)⟩
      have hz : (t.F.zip oF)[k]? = some (f, v) := List.getElem?_zip_eq_some.2 ⟨hf, hv⟩
      refine CW.skip ?_
      refine CW.seq ?_
      refine CW.block ?_
      refine CW.seq ?_
      refine CW.region (by kernel_rfl) (by kernel_rfl) ?_ -- r6
      refine CWops.run htt 6 (by simp only [go_sem, reduceIte, reduceCtorEq, reduceEqDiff, reduceAdd, reduceLT, reduceLeDiff, reduceToNat, reduceMul, hf, hk, eField]; exact rfl) (by simp [go_sem, reduceIte, reduceCtorEq, reduceEqDiff, reduceAdd, reduceLT, reduceLeDiff, reduceToNat, reduceMul, hf, hk, eField]) ?_
      refine CWops.done ?_
      refine CW.seq ?_
      refine CW.region (by kernel_rfl) (by kernel_rfl) ?_ -- r7
      refine CWops.run htt 3 (by simp only [go_sem, reduceIte, reduceCtorEq, reduceEqDiff, reduceAdd, reduceLT, reduceLeDiff, reduceToNat, reduceMul, eField]; exact rfl) (by simp [go_sem, reduceIte, reduceCtorEq, reduceEqDiff, reduceAdd, reduceLT, reduceLeDiff, reduceToNat, reduceMul, eField]) ?_
      refine CWops.done ?_
      refine CW.cond (by simp only [go_sem, reduceIte, reduceCtorEq, reduceEqDiff, reduceAdd, reduceLT, reduceLeDiff, reduceToNat, reduceMul]; first | done | exact rfl) (fun ct41 => ?_) (fun ct41 => ?_)
      · have hk5 : f.Kind = 5 := by simpa using ct41
        refine CW.drawn mixed 7 (by decide) (by kernel_rfl) (by kernel_rfl) (by kernel_rfl) ?_ -- r8
        refine Seg.run htt 7 (by simp only [go_sem, reduceIte, reduceCtorEq, reduceEqDiff, reduceAdd, reduceLT, reduceLeDiff, reduceToNat, reduceMul, eObj, hv, hko, eVal]; exact rfl) ?_
        refine Seg.done ?_
        refine CWops.callG [0, 1, 2, 3] rfl (ih ((refsZ ((t.F.zip oF).take k)).foldl (dfs g n) (l ++ [id])) v.R k2.good (hmo.ref hf hv hk5) (by obtain ⟨s, hs⟩ := k2.pre; rw [hs]; simp; omega)) (by simp only [go_sem, reduceIte, reduceCtorEq, reduceEqDiff, reduceAdd, reduceLT, reduceLeDiff, reduceToNat, reduceMul]) (by simp only [go_sem, reduceIte, reduceCtorEq, reduceEqDiff, reduceAdd, reduceLT, reduceLeDiff, reduceToNat, reduceMul]; first | done | exact rfl) (by decide) (by simp [go_sem, reduceIte, reduceCtorEq, reduceEqDiff, reduceAdd, reduceLT, reduceLeDiff, reduceToNat, reduceMul, mName, memB, ex_func, SubL, Sub, eGraph]) (by simp [go_sem, reduceIte, reduceCtorEq, reduceEqDiff, reduceAdd, reduceLT, reduceLeDiff, reduceToNat, reduceMul, mName, ex_func, SubL, Sub, eGraph]) (by simp [go_sem, reduceIte, reduceCtorEq, reduceEqDiff, reduceAdd, reduceLT, reduceLeDiff, reduceToNat, reduceMul, ex_func, SubL, Sub, eGraph]) (by intro x hx; rcases x with _ | _ | _ | _ | x <;> first | (simp [go_sem, reduceIte, reduceCtorEq, reduceEqDiff, reduceAdd, reduceLT, reduceLeDiff, reduceToNat, reduceMul]; done) | omega | (simp at hx; done) | (simp at hx; omega)) (by simp [go_sem, reduceIte, reduceCtorEq, reduceEqDiff, reduceAdd, reduceLT, reduceLeDiff, reduceToNat, reduceMul, mName, ex_func, SubL, Sub, eGraph]) (fun r σ' hσ => ?_)
        obtain ⟨t', rfl⟩ := hσ
        simp only [aftS, renS, delAll, memB, mName, List.getD_nil, killH, kref, ren, Nat.beq_eq, go_sem, reduceIte, reduceCtorEq, reduceEqDiff, reduceAdd, reduceLT, reduceLeDiff, reduceToNat, reduceMul]
        refine CWops.done ?_
        refine CW.region (by kernel_rfl) (by kernel_rfl) ?_ -- r9
        refine CWops.run htt 2 (by simp only [go_sem, reduceIte, reduceCtorEq, reduceEqDiff, reduceAdd, reduceLT, reduceLeDiff, reduceToNat, reduceMul, wrap_succ (show k < MX by unfold MX; omega)]; exact rfl) (by simp [go_sem, reduceIte, reduceCtorEq, reduceEqDiff, reduceAdd, reduceLT, reduceLeDiff, reduceToNat, reduceMul, wrap_succ (show k < MX by unfold MX; omega)]) ?_
        refine CWops.done ?_
        refine ⟨k + 1, ?_, ?_, ?_⟩
        · refine Sh.wk0 ?_
          first | (simp [Wk, go_sem, reduceIte, reduceCtorEq, reduceEqDiff, reduceAdd, reduceLT, reduceLeDiff, reduceToNat, reduceMul, ex_func, SubL, Sub, eGraph, eObj, refsZ_foldRef hz hk5]; done) | (simp [Wk, go_sem, reduceIte, reduceCtorEq, reduceEqDiff, reduceAdd, reduceLT, reduceLeDiff, reduceToNat, reduceMul, ex_func, SubL, Sub, eGraph, eObj, refsZ_no hz hk5]; done) | skip
        · refine ⟨hk, ?_⟩
          first | (rw [refsZ_foldRef hz hk5, show refsZ ((t.F.zip oF).take (k + 1)) = refsZ ((t.F.zip oF).take k) ++ [v.R] by rw [List.take_add_one, hz]; simp [refsZ, hk5]]; obtain ⟨s, hs⟩ := k2.pre; exact k2.app (dfs_step hm n k2.good (hmo.ref hf hv hk5) (by rw [hs]; simp; omega))) | (rw [refsZ_no hz hk5]; exact k2)
        · simp only; omega
      · have hk5 : f.Kind ≠ 5 := by simpa using ct41
        refine CW.skip ?_
        refine CW.region (by kernel_rfl) (by kernel_rfl) ?_ -- r9
        refine CWops.run htt 2 (by simp only [go_sem, reduceIte, reduceCtorEq, reduceEqDiff, reduceAdd, reduceLT, reduceLeDiff, reduceToNat, reduceMul, wrap_succ (show k < MX by unfold MX; omega)]; exact rfl) (by simp [go_sem, reduceIte, reduceCtorEq, reduceEqDiff, reduceAdd, reduceLT, reduceLeDiff, reduceToNat, reduceMul, wrap_succ (show k < MX by unfold MX; omega)]) ?_
        refine CWops.done ?_
        refine ⟨k + 1, ?_, ?_, ?_⟩
        · refine Sh.wk0 ?_
          first | (simp [Wk, go_sem, reduceIte, reduceCtorEq, reduceEqDiff, reduceAdd, reduceLT, reduceLeDiff, reduceToNat, reduceMul, ex_func, SubL, Sub, eGraph, eObj, refsZ_foldRef hz hk5]; done) | (simp [Wk, go_sem, reduceIte, reduceCtorEq, reduceEqDiff, reduceAdd, reduceLT, reduceLeDiff, reduceToNat, reduceMul, ex_func, SubL, Sub, eGraph, eObj, refsZ_no hz hk5]; done) | skip
        · refine ⟨hk, ?_⟩
          first | (rw [refsZ_foldRef hz hk5, show refsZ ((t.F.zip oF).take (k + 1)) = refsZ ((t.F.zip oF).take k) ++ [v.R] by rw [List.take_add_one, hz]; simp [refsZ, hk5]]; obtain ⟨s, hs⟩ := k2.pre; exact k2.app (dfs_step hm n k2.good (hmo.ref hf hv hk5) (by rw [hs]; simp; omega))) | (rw [refsZ_no hz hk5]; exact k2)
        · simp only; omega
    · have hk : k = t.F.length := by simp at ct35; omega
      have hz : (t.F.zip oF).take k = t.F.zip oF := List.take_of_length_le (by rw [List.length_zip]; omega)
      refine CW.exit ?_
      refine ⟨⟨4, [(0, .int .i64 id), (1, .lv 0 [] 0), (2, .lv 1 [] 0), (3, .lv 2 [] 0), (4, .lv 3 [] 0)], [(0, ⟨true, [.omap (wasMap (dfs g (n + 1) l id))]⟩), (1, ⟨true, [.own 1 (List.map eI (dfs g (n + 1) l id))]⟩), (2, ⟨true, eGraph g⟩), (3, ⟨true, [.func (.func 73) [] [.lv 0 [] 0, .lv 1 [] 0, .lv 2 [] 0, .lv 3 [] 0]]⟩)]⟩, ?_, .inl rfl, by (simp [ptrOK, go_sem, reduceIte, reduceCtorEq, reduceEqDiff, reduceAdd, reduceLT, reduceLeDiff, reduceToNat, reduceMul]; exact ⟨⟨1, by simp⟩, ⟨2, by simp⟩, ⟨3, by simp⟩, ⟨4, by simp⟩⟩), _, by simp only [f73, go_sem, reduceIte, reduceCtorEq, reduceEqDiff, reduceAdd, reduceLT, reduceLeDiff, reduceToNat, reduceMul]; exact rfl, ?_⟩ -- end
      · refine Sh.wk0 ?_
        rw [dfs_out hno, hrefs, hz]
        simp [Wk, go_sem, reduceIte, reduceCtorEq, reduceEqDiff, reduceAdd, reduceLT, reduceLeDiff, reduceToNat, reduceMul, ex_func, SubL, Sub, eGraph]
      · exact ⟨_, rfl⟩
theorem come (up : Bool) (g : Graph) (hm : May g) : ∀ (n : Nat) (l : List Int) (id : Int), Good g l → rootB g id = true → g.O.length < n + l.length → GCall prog up 73 [.int .i64 id, .lv 0 [] 0, .lv 1 [] 0, .lv 2 [] 0, .lv 3 [] 0] 4 [(0, ⟨true, [.omap (wasMap (l))]⟩), (1, ⟨true, [.own 1 (List.map eI (l))]⟩), (2, ⟨true, eGraph g⟩), (3, ⟨true, [.func (.func 73) [] [.lv 0 [] 0, .lv 1 [] 0, .lv 2 [] 0, .lv 3 [] 0]]⟩)] (fun _ σ' => ∃ t, σ' = ⟨4, t, [(0, ⟨true, [.omap (wasMap (dfs g n l id))]⟩), (1, ⟨true, [.own 1 (List.map eI (dfs g n l id))]⟩), (2, ⟨true, eGraph g⟩), (3, ⟨true, [.func (.func 73) [] [.lv 0 [] 0, .lv 1 [] 0, .lv 2 [] 0, .lv 3 [] 0]]⟩)]⟩)
  | 0, l, id, h, _, hn => by have := h.len; omega
  | n + 1, l, id, h, hr, hn => by
    by_cases e : id = -1 ∨ id ∈ l
    · rw [dfs_in e]; exact come_in up g l id e
    · exact come_out up g hm n (come up g hm n) l id h hr hn e
end Go.Ab
namespace Go.Ab
open Go Go.Proofs.Try
open Nat (reduceEqDiff reduceAdd reduceLT reduceLeDiff reduceBEq reduceSub reduceMul)
open Int (reduceToNat)
set_option maxRecDepth 100000
set_option linter.unusedSimpArgs false
set_option linter.unusedVariables false
theorem graph_Reach (up : Bool) (g : Graph) : PCall prog up 33 [.agg (eGraph g)] (· = .sl 1 ((gReach g).map eI)) := by
  refine PCall.intro htt func33 (by kernel_rfl) rfl (Nat.le_of_ble_eq_true rfl) fun hl => ?_

  simp only [tmps0, Nat.reduceAdd]
  refine CW.seq ?_
  refine CW.region (by kernel_rfl) (by kernel_rfl) ?_ -- r0
  refine CWops.run htt 2 (by simp only [go_sem, reduceIte, reduceCtorEq, reduceEqDiff, reduceAdd, reduceLT, reduceLeDiff, reduceToNat, eGraph]; exact rfl) (by simp [go_sem, reduceIte, reduceCtorEq, reduceEqDiff, reduceAdd, reduceLT, reduceLeDiff, reduceToNat, eGraph]) ?_
  refine CWops.done ?_
  refine CW.seq ?_
  refine CW.seq ?_
  refine CW.region (by kernel_rfl) (by kernel_rfl) ?_ -- r1
  refine CWops.run htt 1 (by simp only [go_sem, reduceIte, reduceCtorEq, reduceEqDiff, reduceAdd, reduceLT, reduceLeDiff, reduceToNat, eGraph]; exact rfl) (by simp [go_sem, reduceIte, reduceCtorEq, reduceEqDiff, reduceAdd, reduceLT, reduceLeDiff, reduceToNat, eGraph]) ?_
  refine CWops.call (graph_May up g) (by simp only [go_sem, reduceIte, reduceCtorEq, reduceEqDiff, reduceAdd, reduceLT, reduceLeDiff, reduceToNat, eGraph]) (by simp only [go_sem, reduceIte, reduceCtorEq, reduceEqDiff, reduceAdd, reduceLT, reduceLeDiff, reduceToNat, eGraph]; first | done | exact rfl) (by simp only [go_sem, reduceIte, reduceCtorEq, reduceEqDiff, reduceAdd, reduceLT, reduceLeDiff, reduceToNat, eGraph]) (fun rt9 hrt9 => ?_)
  subst hrt9; refine ⟨rfl, ?_⟩
  refine CWops.run htt 1 (by simp only [go_sem, reduceIte, reduceCtorEq, reduceEqDiff, reduceAdd, reduceLT, reduceLeDiff, reduceToNat, eGraph]; exact rfl) (by simp [go_sem, reduceIte, reduceCtorEq, reduceEqDiff, reduceAdd, reduceLT, reduceLeDiff, reduceToNat, eGraph]) ?_
  refine CWops.done ?_
  refine CW.cond (by simp only [go_sem, reduceIte, reduceCtorEq, reduceEqDiff, reduceAdd, reduceLT, reduceLeDiff, reduceToNat]; first | done | exact rfl) (fun ct10 => ?_) (fun ct10 => ?_)
  · simp only [Bool.not_eq_true'] at ct10
    refine CW.seq ?_
    refine CW.region (by kernel_rfl) (by kernel_rfl) ?_ -- r2
    refine CWops.run htt 1 (by simp only [go_sem, reduceIte, reduceCtorEq, reduceEqDiff, reduceAdd, reduceLT, reduceLeDiff, reduceToNat]; exact rfl) (by simp [go_sem, reduceIte, reduceCtorEq, reduceEqDiff, reduceAdd, reduceLT, reduceLeDiff, reduceToNat]) ?_
    refine CWops.done ?_
    refine CW.ret ?_
    refine retQ.ret (by simp only [f33, go_sem, reduceIte, reduceCtorEq, reduceEqDiff, reduceAdd, reduceLT, reduceLeDiff, reduceToNat]; exact rfl) (by simp only [go_sem, reduceIte, reduceCtorEq, reduceEqDiff, reduceAdd, reduceLT, reduceLeDiff, reduceToNat]; exact rfl) ?_ -- ret1
    refine ⟨_, ?_, rfl⟩
    have : gReach g = [] := by unfold gReach; rw [ct10]; rfl
    simp [leP, this]
  · simp only [Bool.not_eq_false'] at ct10
    have hm := (may_iff g).1 ct10
    have ho := hm.o
    have hr3 := hm.r
    refine CW.skip ?_
    refine CW.seq ?_
    refine CW.region (by kernel_rfl) (by kernel_rfl) ?_ -- r3
    refine CWops.run htt 5 (by simp only [go_sem, reduceIte, reduceCtorEq, reduceEqDiff, reduceAdd, reduceLT, reduceLeDiff, reduceToNat]; exact rfl) (by unfold MX; decide) ?_
    refine CWops.done ?_
    refine CW.seq ?_
    refine CW.region (by kernel_rfl) (by kernel_rfl) ?_ -- r4
    refine CWops.run htt 1 (by simp only [go_sem, reduceIte, reduceCtorEq, reduceEqDiff, reduceAdd, reduceLT, reduceLeDiff, reduceToNat]; exact rfl) (by simp [go_sem, reduceIte, reduceCtorEq, reduceEqDiff, reduceAdd, reduceLT, reduceLeDiff, reduceToNat]) ?_
    refine CWops.done ?_
    refine CW.seq ?_
    refine CW.region (by kernel_rfl) (by kernel_rfl) ?_ -- r5
    refine CWops.run htt 1 (by simp only [go_sem, reduceIte, reduceCtorEq, reduceEqDiff, reduceAdd, reduceLT, reduceLeDiff, reduceToNat]; exact rfl) (by simp [go_sem, reduceIte, reduceCtorEq, reduceEqDiff, reduceAdd, reduceLT, reduceLeDiff, reduceToNat]) ?_
    refine CWops.done ?_
    refine CW.seq ?_
    refine CW.region (by kernel_rfl) (by kernel_rfl) ?_ -- r6
    refine CWops.run htt 2 (by simp only [go_sem, reduceIte, reduceCtorEq, reduceEqDiff, reduceAdd, reduceLT, reduceLeDiff, reduceToNat]; exact rfl) (by simp [go_sem, reduceIte, reduceCtorEq, reduceEqDiff, reduceAdd, reduceLT, reduceLeDiff, reduceToNat]) ?_
    refine CWops.done ?_
    refine CW.seq ?_
    refine CW.seq ?_
    refine CW.region (by kernel_rfl) (by kernel_rfl) ?_ -- r7
    refine CWops.run htt 4 (by simp only [go_sem, reduceIte, reduceCtorEq, reduceEqDiff, reduceAdd, reduceLT, reduceLeDiff, reduceToNat, eGraph]; exact rfl) (by simp [go_sem, reduceIte, reduceCtorEq, reduceEqDiff, reduceAdd, reduceLT, reduceLeDiff, reduceToNat, eGraph]) ?_
    refine CWops.done ?_
    refine CW.block ?_
    refine CW.loop (S := Nat) (fun i => ⟨5, [(1, .lv 0 [] 0), (3, .lv 2 [] 0), (4, .lv 3 [] 0), (5, .lv 4 [] 0), (15, .sl 1 (g.Roots.map eI)), (16, .int .i64 g.Roots.length), (17, .int .i64 i)], [(0, ⟨true, eGraph g⟩), (2, ⟨true, [.omap (wasMap ((g.Roots.take i).foldl (dfs g (g.O.length + 1)) []))]⟩), (3, ⟨true, [.own 1 (List.map eI ((g.Roots.take i).foldl (dfs g (g.O.length + 1)) []))]⟩), (4, ⟨true, [.func (.func 73) [] [.lv 2 [] 0, .lv 3 [] 0, .lv 0 [] 0, .lv 4 [] 0]]⟩)]⟩) (fun i => i ≤ g.Roots.length ∧ Step g [] (g.Roots.take i) ((g.Roots.take i).foldl (dfs g (g.O.length + 1)) [])) (fun i => g.Roots.length - i) (0) ?_ ⟨Nat.zero_le _, by simpa using Step.nil (Good.nil g)⟩ (fun i ⟨h1, hs⟩ => ?_)
    · refine Sh.trans (Sh.nilCell 3 [] 0 1 (by simp [go_sem, reduceIte, reduceCtorEq, reduceEqDiff, reduceAdd, reduceLT, reduceLeDiff, reduceToNat]) rfl) (Sh.wk0 ?_); simp [Wk, go_sem, reduceIte, reduceCtorEq, reduceEqDiff, reduceAdd, reduceLT, reduceLeDiff, reduceToNat, ex_func, SubL, Sub, eGraph, wasMap]
    refine CW.seq ?_
    refine CW.region (by kernel_rfl) (by kernel_rfl) ?_ -- r8
    refine CWops.run htt 1 (by simp only [go_sem, reduceIte, reduceCtorEq, reduceEqDiff, reduceAdd, reduceLT, reduceLeDiff, reduceToNat]; exact rfl) (by simp [go_sem, reduceIte, reduceCtorEq, reduceEqDiff, reduceAdd, reduceLT, reduceLeDiff, reduceToNat]) ?_
    refine CWops.done ?_
    refine CW.seq ?_
    refine CW.cond (by simp only [go_sem, reduceIte, reduceCtorEq, reduceEqDiff, reduceAdd, reduceLT, reduceLeDiff, reduceToNat]; first | done | exact rfl) (fun ct18 => ?_) (fun ct18 => ?_)
    · have hi : i < g.Roots.length := by simpa using ct18
      obtain ⟨x, hx⟩ : ∃ x, g.Roots[i]? = some x := ⟨g.Roots[i], List.getElem?_eq_getElem hi⟩
      refine CW.skip ?_
      refine CW.seq ?_
      refine CW.block ?_
      refine CW.seq ?_
      refine CW.region (by kernel_rfl) (by kernel_rfl) ?_ -- r9
      refine CWops.run htt 3 (by simp only [go_sem, reduceIte, reduceCtorEq, reduceEqDiff, reduceAdd, reduceLT, reduceLeDiff, reduceToNat, hx, eI]; exact rfl) (by simp [go_sem, reduceIte, reduceCtorEq, reduceEqDiff, reduceAdd, reduceLT, reduceLeDiff, reduceToNat, hx, eI]) ?_
      refine CWops.done ?_
      refine CW.region (by kernel_rfl) (by kernel_rfl) ?_ -- r10
      refine CWops.run htt 2 (by simp only [go_sem, reduceIte, reduceCtorEq, reduceEqDiff, reduceAdd, reduceLT, reduceLeDiff, reduceToNat]; exact rfl) (by simp [go_sem, reduceIte, reduceCtorEq, reduceEqDiff, reduceAdd, reduceLT, reduceLeDiff, reduceToNat]) ?_
      refine CWops.callG [2, 3, 0, 4] rfl (come up g hm (g.O.length + 1) ((g.Roots.take i).foldl (dfs g (g.O.length + 1)) []) x hs.good (hm.root x (List.mem_of_getElem? hx)) (by omega)) (by simp only [go_sem, reduceIte, reduceCtorEq, reduceEqDiff, reduceAdd, reduceLT, reduceLeDiff, reduceToNat]) (by simp only [go_sem, reduceIte, reduceCtorEq, reduceEqDiff, reduceAdd, reduceLT, reduceLeDiff, reduceToNat]; first | done | exact rfl) (by decide) (by simp [go_sem, reduceIte, reduceCtorEq, reduceEqDiff, reduceAdd, reduceLT, reduceLeDiff, reduceToNat, mName, memB, ex_func, SubL, Sub, eGraph]) (by simp [go_sem, reduceIte, reduceCtorEq, reduceEqDiff, reduceAdd, reduceLT, reduceLeDiff, reduceToNat, mName, ex_func, SubL, Sub, eGraph]) (by simp [go_sem, reduceIte, reduceCtorEq, reduceEqDiff, reduceAdd, reduceLT, reduceLeDiff, reduceToNat, ex_func, SubL, Sub, eGraph]) (by intro x hx; rcases x with _ | _ | _ | _ | x <;> first | (simp [go_sem, reduceIte, reduceCtorEq, reduceEqDiff, reduceAdd, reduceLT, reduceLeDiff, reduceToNat]; done) | omega | (simp at hx; done) | (simp at hx; omega)) (by simp [go_sem, reduceIte, reduceCtorEq, reduceEqDiff, reduceAdd, reduceLT, reduceLeDiff, reduceToNat, mName, ex_func, SubL, Sub, eGraph]) (fun r σ' hσ => ?_)
      obtain ⟨t', rfl⟩ := hσ
      simp only [aftS, renS, delAll, memB, mName, List.getD_nil, killH, kref, ren, Nat.beq_eq, go_sem, reduceIte, reduceCtorEq, reduceEqDiff, reduceAdd, reduceLT, reduceLeDiff, reduceToNat]
      refine CWops.done ?_
      refine CW.region (by kernel_rfl) (by kernel_rfl) ?_ -- r11
      refine CWops.run htt 2 (by simp only [go_sem, reduceIte, reduceCtorEq, reduceEqDiff, reduceAdd, reduceLT, reduceLeDiff, reduceToNat, wrap_succ (show i < MX by unfold MX; omega)]; exact rfl) (by simp [go_sem, reduceIte, reduceCtorEq, reduceEqDiff, reduceAdd, reduceLT, reduceLeDiff, reduceToNat, wrap_succ (show i < MX by unfold MX; omega)]) ?_
      refine CWops.done ?_
      refine ⟨i + 1, ?_, ?_, ?_⟩
      · refine Sh.wk0 ?_; simp [Wk, go_sem, reduceIte, reduceCtorEq, reduceEqDiff, reduceAdd, reduceLT, reduceLeDiff, reduceToNat, ex_func, SubL, Sub, eGraph, List.take_add_one, hx]
      · refine ⟨hi, ?_⟩
        rw [List.take_add_one, hx, Option.toList_some, List.foldl_append]
        exact hs.app (dfs_step hm _ hs.good (hm.root x (List.mem_of_getElem? hx)) (by omega))
      · simp only; omega
    · have hi : i = g.Roots.length := by simp at ct18; omega
      have hdf : g.Roots.foldl (dfs g (g.O.length + 1)) [] = dfsL g := rfl
      rw [hi, List.take_length, hdf]
      refine CW.exit ?_
      refine CW.seq ?_
      refine CW.sh (Sh.out 3 0 rfl rfl rfl) ?_
      simp only [go_sem, reduceIte, reduceCtorEq, reduceEqDiff, reduceAdd, reduceLT, reduceLeDiff, reduceToNat, mapT, mapS, outF, List.map_cons, List.map_nil, putAt, List.set_cons_zero]
      refine CW.region (by kernel_rfl) (by kernel_rfl) ?_ -- r12
      refine CWops.run htt 1 (by simp only [go_sem, reduceIte, reduceCtorEq, reduceEqDiff, reduceAdd, reduceLT, reduceLeDiff, reduceToNat]; exact rfl) (by simp [go_sem, reduceIte, reduceCtorEq, reduceEqDiff, reduceAdd, reduceLT, reduceLeDiff, reduceToNat]) ?_
      refine CWops.callGH [5] rfl (slices_Sort up (dfsL g) (by have := (dfsL_step hm).good.len; omega)) (by decide) (by simp only [go_sem, reduceIte, reduceCtorEq, reduceEqDiff, reduceAdd, reduceLT, reduceLeDiff, reduceToNat]) (by simp only [go_sem, reduceIte, reduceCtorEq, reduceEqDiff, reduceAdd, reduceLT, reduceLeDiff, reduceToNat]; first | done | exact rfl) (by decide) (by simp [go_sem, reduceIte, reduceCtorEq, reduceEqDiff, reduceAdd, reduceLT, reduceLeDiff, reduceToNat, mName, memB]) (by simp [go_sem, reduceIte, reduceCtorEq, reduceEqDiff, reduceAdd, reduceLT, reduceLeDiff, reduceToNat, mName]) (by simp [go_sem, reduceIte, reduceCtorEq, reduceEqDiff, reduceAdd, reduceLT, reduceLeDiff, reduceToNat]) (by simp [go_sem, reduceIte, reduceCtorEq, reduceEqDiff, reduceAdd, reduceLT, reduceLeDiff, reduceToNat]) (by simp [go_sem, reduceIte, reduceCtorEq, reduceEqDiff, reduceAdd, reduceLT, reduceLeDiff, reduceToNat, mName]) (fun r σ' hσ => ?_)
      obtain ⟨σn, σt, σs⟩ := σ'
      simp only at hσ
      obtain ⟨m, rfl, rfl, hm2⟩ := hσ
      simp only [aftH, renS, List.map_cons, List.map_nil, delAll, memB, mName, List.getD_nil, killH, kref, ren, Nat.beq_eq, go_sem, reduceIte, reduceCtorEq, reduceEqDiff, reduceAdd, reduceLT, reduceLeDiff, reduceToNat]
      refine CWops.done ?_
      refine CW.seq ?_
      refine CW.region (by kernel_rfl) (by kernel_rfl) ?_ -- r13
      refine CWops.run htt 2 (by simp only [go_sem, reduceIte, reduceCtorEq, reduceEqDiff, reduceAdd, reduceLT, reduceLeDiff, reduceToNat]; exact rfl) (by simp [go_sem, reduceIte, reduceCtorEq, reduceEqDiff, reduceAdd, reduceLT, reduceLeDiff, reduceToNat]) ?_
      refine CWops.done ?_
      refine CW.ret ?_
      refine retQ.ret (by simp only [f33, go_sem, reduceIte, reduceCtorEq, reduceEqDiff, reduceAdd, reduceLT, reduceLeDiff, reduceToNat]; exact rfl) (by simp only [go_sem, reduceIte, reduceCtorEq, reduceEqDiff, reduceAdd, reduceLT, reduceLeDiff, reduceToNat]; exact rfl) ?_ -- ret2
      refine ⟨_, ?_, rfl⟩
      have : gReach g = m := (dfsL_sorted hm hm2).symm
      simp [go_sem, reduceIte, reduceCtorEq, reduceEqDiff, reduceAdd, reduceLT, reduceLeDiff, reduceToNat, leP, leL, AV.freeze, frz_I, this]
end Go.Ab
namespace Go.Ab
open Go Go.Proofs.Try
open Nat (reduceEqDiff reduceAdd reduceLT reduceLeDiff reduceBEq reduceSub reduceMul)
open Int (reduceToNat)
set_option maxRecDepth 100000
set_option linter.unusedSimpArgs false
set_option linter.unusedVariables false
theorem binarySearch (up : Bool) (l : List Int) (x : Int) (hs : l.Pairwise (· < ·)) (hl9 : l.length < 1000) : PCall prog up 86 [.sl 1 (l.map eI), .int .i64 x] (fun r => ∃ k : Int, r = .tup [.int .i64 k, .bool (decide (x ∈ l))]) := by
  refine PCall.intro htt func86 (by kernel_rfl) rfl (Nat.le_of_ble_eq_true rfl) fun hl => ?_

  simp only [tmps0, Nat.reduceAdd]
  refine CW.seq ?_
  refine CW.region (by kernel_rfl) (by kernel_rfl) ?_ -- r0
  refine CWops.run htt 2 (by simp only [go_sem, reduceIte, reduceCtorEq, reduceEqDiff, reduceAdd, reduceLT, reduceLeDiff, reduceToNat]; exact rfl) (by simp [go_sem, reduceIte, reduceCtorEq, reduceEqDiff, reduceAdd, reduceLT, reduceLeDiff, reduceToNat]) ?_
  refine CWops.done ?_
  refine CW.seq ?_
  refine CW.region (by kernel_rfl) (by kernel_rfl) ?_ -- r1
  refine CWops.run htt 3 (by simp only [go_sem, reduceIte, reduceCtorEq, reduceEqDiff, reduceAdd, reduceLT, reduceLeDiff, reduceToNat]; exact rfl) (by simp [go_sem, reduceIte, reduceCtorEq, reduceEqDiff, reduceAdd, reduceLT, reduceLeDiff, reduceToNat]) ?_
  refine CWops.done ?_
  refine CW.seq ?_
  refine CW.region (by kernel_rfl) (by kernel_rfl) ?_ -- r2
  refine CWops.run htt 3 (by simp only [go_sem, reduceIte, reduceCtorEq, reduceEqDiff, reduceAdd, reduceLT, reduceLeDiff, reduceToNat]; exact rfl) (by simp [go_sem, reduceIte, reduceCtorEq, reduceEqDiff, reduceAdd, reduceLT, reduceLeDiff, reduceToNat]) ?_
  refine CWops.done ?_
  refine CW.seq ?_
  refine CW.block ?_
  refine CW.loop (S := Nat × Nat) (fun p => ⟨0, [(0, .sl 1 (l.map eI)), (1, .int .i64 x), (4, .int .i64 0), (5, .bool false), (6, .int .i64 l.length), (7, .int .i64 p.1), (8, .int .i64 p.2)], []⟩) (fun p => BS l x p.1 p.2) (fun p => p.2 - p.1) ((0, l.length)) ?_ (BS.start l x) (fun ⟨i, j⟩ hb => ?_)
  · refine Sh.wk0 ?_; simp [Wk, go_sem, reduceIte, reduceCtorEq, reduceEqDiff, reduceAdd, reduceLT, reduceLeDiff, reduceToNat]
  simp only at hb
  refine CW.seq ?_
  refine CW.seq ?_
  refine CW.region (by kernel_rfl) (by kernel_rfl) ?_ -- r3
  refine CWops.run htt 3 (by simp only [go_sem, reduceIte, reduceCtorEq, reduceEqDiff, reduceAdd, reduceLT, reduceLeDiff, reduceToNat]; exact rfl) (by simp [go_sem, reduceIte, reduceCtorEq, reduceEqDiff, reduceAdd, reduceLT, reduceLeDiff, reduceToNat]) ?_
  refine CWops.done ?_
  refine CW.cond (by simp only [go_sem, reduceIte, reduceCtorEq, reduceEqDiff, reduceAdd, reduceLT, reduceLeDiff, reduceToNat]; first | done | exact rfl) (fun ct15 => ?_) (fun ct15 => ?_)
  · have hij : i < j := by simpa using ct15
    have hjl := hb.jl
    have hadd : IntKind.i64.wrap ((i : Int) + (j : Int)) = ((i + j : Nat) : Int) := wrap_add (by unfold MX; omega)
    have hdiv : ((i + j : Nat) : Int).fdiv (2 ^ min 1 64) = (((i + j) / 2 : Nat) : Int) := by rw [show ((2 : Int) ^ min 1 64) = 2 by decide]; exact fdiv2 _
    have hhl : (i + j) / 2 < l.length := by omega
    obtain ⟨y, hy⟩ : ∃ y, l[(i + j) / 2]? = some y := ⟨l[(i + j) / 2], List.getElem?_eq_getElem hhl⟩
    refine CW.skip ?_
    refine CW.block ?_
    refine CW.seq ?_
    refine CW.region (by kernel_rfl) (by kernel_rfl) ?_ -- r4
    refine CWops.run htt 3 (by simp only [go_sem, reduceIte, reduceCtorEq, reduceEqDiff, reduceAdd, reduceLT, reduceLeDiff, reduceToNat]; exact rfl) (by simp [go_sem, reduceIte, reduceCtorEq, reduceEqDiff, reduceAdd, reduceLT, reduceLeDiff, reduceToNat]) ?_
    refine CWops.conv (n := ((i + j : Nat) : Int)) (k := .i64) (k' := .u64) htt (by simp only [go_sem, reduceIte, reduceCtorEq, reduceEqDiff, reduceAdd, reduceLT, reduceLeDiff, reduceToNat]) tt_3 rfl tt_135 rfl (by simp only [go_sem, reduceIte, reduceCtorEq, reduceEqDiff, reduceAdd, reduceLT, reduceLeDiff, reduceToNat, hadd, hdiv]; first | done | exact rfl) ?_
    rw [show IntKind.u64.wrap (((i + j : Nat) : Int)) = ((i + j : Nat) : Int) by simp only [IntKind.wrap, IntKind.bits, IntKind.signed]; simp; omega]
    refine CWops.run htt 1 (by simp only [go_sem, reduceIte, reduceCtorEq, reduceEqDiff, reduceAdd, reduceLT, reduceLeDiff, reduceToNat]; exact rfl) (by simp [go_sem, reduceIte, reduceCtorEq, reduceEqDiff, reduceAdd, reduceLT, reduceLeDiff, reduceToNat]) ?_
    refine CWops.conv (n := (((i + j) / 2 : Nat) : Int)) (k := .u64) (k' := .i64) htt (by simp only [go_sem, reduceIte, reduceCtorEq, reduceEqDiff, reduceAdd, reduceLT, reduceLeDiff, reduceToNat]) tt_135 rfl tt_3 rfl (by simp only [go_sem, reduceIte, reduceCtorEq, reduceEqDiff, reduceAdd, reduceLT, reduceLeDiff, reduceToNat, hadd, hdiv]; first | done | exact rfl) ?_
    rw [show IntKind.i64.wrap ((((i + j) / 2 : Nat) : Int)) = (((i + j) / 2 : Nat) : Int) by simp only [IntKind.wrap, IntKind.bits, IntKind.signed]; simp; omega]
    refine CWops.run htt 1 (by simp only [go_sem, reduceIte, reduceCtorEq, reduceEqDiff, reduceAdd, reduceLT, reduceLeDiff, reduceToNat]; exact rfl) (by simp [go_sem, reduceIte, reduceCtorEq, reduceEqDiff, reduceAdd, reduceLT, reduceLeDiff, reduceToNat]) ?_
    refine CWops.done ?_
    refine CW.seq ?_
    refine CW.region (by kernel_rfl) (by kernel_rfl) ?_ -- r5
    refine CWops.run htt 5 (by simp only [go_sem, reduceIte, reduceCtorEq, reduceEqDiff, reduceAdd, reduceLT, reduceLeDiff, reduceToNat, hy, eI, hhl]; exact rfl) (by simp [go_sem, reduceIte, reduceCtorEq, reduceEqDiff, reduceAdd, reduceLT, reduceLeDiff, reduceToNat, hy, eI, hhl]) ?_
    refine CWops.callA (cmp_Less up y x) (by simp only [go_sem, reduceIte, reduceCtorEq, reduceEqDiff, reduceAdd, reduceLT, reduceLeDiff, reduceToNat, hy, eI, hhl]) (by simp only [go_sem, reduceIte, reduceCtorEq, reduceEqDiff, reduceAdd, reduceLT, reduceLeDiff, reduceToNat, hy, eI, hhl]; first | done | exact rfl) (by simp only [go_sem, reduceIte, reduceCtorEq, reduceEqDiff, reduceAdd, reduceLT, reduceLeDiff, reduceToNat, hy, eI, hhl]) (by simp only [go_sem, reduceIte, reduceCtorEq, reduceEqDiff, reduceAdd, reduceLT, reduceLeDiff, reduceToNat, hy, eI, hhl]) (fun rt27 hrt27 => ?_)
    subst hrt27
    refine CWops.done ?_
    refine CW.cond (by simp only [go_sem, reduceIte, reduceCtorEq, reduceEqDiff, reduceAdd, reduceLT, reduceLeDiff, reduceToNat]; first | done | exact rfl) (fun ct27 => ?_) (fun ct27 => ?_)
    · have hlt : y < x := by simpa using ct27
      obtain ⟨p', hp'⟩ : ∃ p' : Nat × Nat, p' = ((i + j) / 2 + 1, j) := ⟨_, rfl⟩
      refine CW.region (by kernel_rfl) (by kernel_rfl) ?_ -- r6
      refine CWops.run htt 3 (by simp only [go_sem, reduceIte, reduceCtorEq, reduceEqDiff, reduceAdd, reduceLT, reduceLeDiff, reduceToNat, wrap_succ (show (i + j) / 2 < MX by unfold MX; omega)]; exact rfl) (by simp [go_sem, reduceIte, reduceCtorEq, reduceEqDiff, reduceAdd, reduceLT, reduceLeDiff, reduceToNat, wrap_succ (show (i + j) / 2 < MX by unfold MX; omega)]) ?_
      refine CWops.done ?_
      refine ⟨p', ?_, ?_, ?_⟩
      · subst hp'; refine Sh.wk0 ?_; simp [Wk, go_sem, reduceIte, reduceCtorEq, reduceEqDiff, reduceAdd, reduceLT, reduceLeDiff, reduceToNat]
      · subst hp'; first | exact hb.left hs hy hlt (by omega) | exact hb.right hs hy hlt (by omega) (by omega)
      · subst hp'; simp only; omega
    · have hlt : ¬ y < x := by simpa using ct27
      obtain ⟨p', hp'⟩ : ∃ p' : Nat × Nat, p' = (i, (i + j) / 2) := ⟨_, rfl⟩
      refine CW.region (by kernel_rfl) (by kernel_rfl) ?_ -- r7
      refine CWops.run htt 2 (by simp only [go_sem, reduceIte, reduceCtorEq, reduceEqDiff, reduceAdd, reduceLT, reduceLeDiff, reduceToNat]; exact rfl) (by simp [go_sem, reduceIte, reduceCtorEq, reduceEqDiff, reduceAdd, reduceLT, reduceLeDiff, reduceToNat]) ?_
      refine CWops.done ?_
      refine ⟨p', ?_, ?_, ?_⟩
      · subst hp'; refine Sh.wk0 ?_; simp [Wk, go_sem, reduceIte, reduceCtorEq, reduceEqDiff, reduceAdd, reduceLT, reduceLeDiff, reduceToNat]
      · subst hp'; first | exact hb.left hs hy hlt (by omega) | exact hb.right hs hy hlt (by omega) (by omega)
      · subst hp'; simp only; omega
  · have hij : i = j := by have := hb.ij; simp at ct15; omega
    subst hij
    have hjl := hb.jl
    refine CW.exit ?_
    refine CW.seq ?_
    obtain ⟨y, hcase⟩ : ∃ y, (i = l.length ∧ True ∧ True) ∨ (i ≠ l.length ∧ l[i]? = some y ∧ i < l.length) := by
      by_cases e : i = l.length
      · exact ⟨0, .inl ⟨e, trivial, trivial⟩⟩
      · exact ⟨l[i], .inr ⟨e, List.getElem?_eq_getElem (by omega), by omega⟩⟩
    rcases hcase with ⟨hil, hy, hyl⟩ | ⟨hil, hy, hyl⟩
    all_goals (refine CW.region (by kernel_rfl) (by kernel_rfl) ?_) -- r8
    all_goals (refine CWops.run htt 5 (by simp only [go_sem, reduceIte, reduceCtorEq, reduceEqDiff, reduceAdd, reduceLT, reduceLeDiff, reduceToNat, hy, eI, hyl]; exact rfl) (by simp [go_sem, reduceIte, reduceCtorEq, reduceEqDiff, reduceAdd, reduceLT, reduceLeDiff, reduceToNat, hy, eI, hyl]) ?_)
    all_goals (first | refine CWops.guard 35 (by simp only [go_sem, reduceIte, reduceCtorEq, reduceEqDiff, reduceAdd, reduceLT, reduceLeDiff, reduceToNat, hy, eI, hyl]; exact rfl) (fun g35 => ?_) (fun g35 => ?_) | skip)
    all_goals (first | (exfalso; simp at g35 <;> omega) | skip)
    all_goals (refine CWops.run htt 7 (by simp only [go_sem, reduceIte, reduceCtorEq, reduceEqDiff, reduceAdd, reduceLT, reduceLeDiff, reduceToNat, hy, eI, hyl]; exact rfl) (by simp [go_sem, reduceIte, reduceCtorEq, reduceEqDiff, reduceAdd, reduceLT, reduceLeDiff, reduceToNat, hy, eI, hyl]) ?_)
    all_goals (first | refine CWops.guard 42 (by simp only [go_sem, reduceIte, reduceCtorEq, reduceEqDiff, reduceAdd, reduceLT, reduceLeDiff, reduceToNat, hy, eI, hyl]; exact rfl) (fun g42 => ?_) (fun g42 => ?_) | skip)
    all_goals (skip)
    all_goals (refine CWops.run htt 4 (by simp only [go_sem, reduceIte, reduceCtorEq, reduceEqDiff, reduceAdd, reduceLT, reduceLeDiff, reduceToNat, hy, eI, hyl]; exact rfl) (by simp [go_sem, reduceIte, reduceCtorEq, reduceEqDiff, reduceAdd, reduceLT, reduceLeDiff, reduceToNat, hy, eI, hyl]) ?_)
    all_goals (first | (refine CWops.skip ?_ ?_; next => (simp only [go_sem, reduceIte, reduceCtorEq, reduceEqDiff, reduceAdd, reduceLT, reduceLeDiff, reduceToNat]; done)) | (refine CWops.callA (slices_isNaN up y) (by simp only [go_sem, reduceIte, reduceCtorEq, reduceEqDiff, reduceAdd, reduceLT, reduceLeDiff, reduceToNat, hy, eI, hyl]) (by simp only [go_sem, reduceIte, reduceCtorEq, reduceEqDiff, reduceAdd, reduceLT, reduceLeDiff, reduceToNat, hy, eI, hyl]; first | done | exact rfl) (by simp only [go_sem, reduceIte, reduceCtorEq, reduceEqDiff, reduceAdd, reduceLT, reduceLeDiff, reduceToNat, hy, eI, hyl]) (by simp only [go_sem, reduceIte, reduceCtorEq, reduceEqDiff, reduceAdd, reduceLT, reduceLeDiff, reduceToNat, hy, eI, hyl]) (fun rt47 hrt47 => ?_); subst hrt47))
    all_goals (refine CWops.run htt 1 (by simp only [go_sem, reduceIte, reduceCtorEq, reduceEqDiff, reduceAdd, reduceLT, reduceLeDiff, reduceToNat, hy, eI, hyl]; exact rfl) (by simp [go_sem, reduceIte, reduceCtorEq, reduceEqDiff, reduceAdd, reduceLT, reduceLeDiff, reduceToNat, hy, eI, hyl]) ?_)
    all_goals (first | refine CWops.guard 48 (by simp only [go_sem, reduceIte, reduceCtorEq, reduceEqDiff, reduceAdd, reduceLT, reduceLeDiff, reduceToNat, hy, eI, hyl]; exact rfl) (fun g48 => ?_) (fun g48 => ?_) | skip)
    all_goals (first | (cases g48; done) | skip)
    all_goals (refine CWops.run htt 1 (by simp only [go_sem, reduceIte, reduceCtorEq, reduceEqDiff, reduceAdd, reduceLT, reduceLeDiff, reduceToNat, hy, eI, hyl]; exact rfl) (by simp [go_sem, reduceIte, reduceCtorEq, reduceEqDiff, reduceAdd, reduceLT, reduceLeDiff, reduceToNat, hy, eI, hyl]) ?_)
    all_goals (first | (refine CWops.skip ?_ ?_; next => (simp only [go_sem, reduceIte, reduceCtorEq, reduceEqDiff, reduceAdd, reduceLT, reduceLeDiff, reduceToNat]; done)) | (refine CWops.callA (slices_isNaN up x) (by simp only [go_sem, reduceIte, reduceCtorEq, reduceEqDiff, reduceAdd, reduceLT, reduceLeDiff, reduceToNat, hy, eI, hyl]) (by simp only [go_sem, reduceIte, reduceCtorEq, reduceEqDiff, reduceAdd, reduceLT, reduceLeDiff, reduceToNat, hy, eI, hyl]; first | done | exact rfl) (by simp only [go_sem, reduceIte, reduceCtorEq, reduceEqDiff, reduceAdd, reduceLT, reduceLeDiff, reduceToNat, hy, eI, hyl]) (by simp only [go_sem, reduceIte, reduceCtorEq, reduceEqDiff, reduceAdd, reduceLT, reduceLeDiff, reduceToNat, hy, eI, hyl]) (fun rt50 hrt50 => ?_); subst hrt50))
    all_goals (refine CWops.run htt 5 (by simp only [go_sem, reduceIte, reduceCtorEq, reduceEqDiff, reduceAdd, reduceLT, reduceLeDiff, reduceToNat, hy, eI, hyl]; exact rfl) (by simp [go_sem, reduceIte, reduceCtorEq, reduceEqDiff, reduceAdd, reduceLT, reduceLeDiff, reduceToNat, hy, eI, hyl]) ?_)
    all_goals (refine CWops.done ?_)
    all_goals (
      refine CW.ret ?_
      refine retQ.ret (by simp only [f86, go_sem, reduceIte, reduceCtorEq, reduceEqDiff, reduceAdd, reduceLT, reduceLeDiff, reduceToNat]; exact rfl) (by simp only [go_sem, reduceIte, reduceCtorEq, reduceEqDiff, reduceAdd, reduceLT, reduceLeDiff, reduceToNat]; exact rfl) ?_ -- ret1
      refine ⟨_, leP_refl _, (i : Int), ?_⟩
      first | (rw [hb.some hs hy, g42]; done) | (have h0 := hb; rw [hil] at h0; rw [h0.none]; done))
theorem sweep_1 (up : Bool) (l : List Int) (o : GObj) (hs : l.Pairwise (· < ·)) (hl9 : l.length < 1000) : PCall prog up 85 [.agg (eObj o), .fp [.sl 1 (l.map eI)]] (· = .bool (!decide (o.Id ∈ l))) := by
  refine PCall.intro htt func85 (by kernel_rfl) rfl (Nat.le_of_ble_eq_true rfl) fun hl => ?_

  simp only [tmps0, Nat.reduceAdd]
  refine CW.seq ?_
  refine CW.region (by kernel_rfl) (by kernel_rfl) ?_ -- r0
  refine CWops.run htt 2 (by simp only [go_sem, reduceIte, reduceCtorEq, reduceEqDiff, reduceAdd, reduceLT, reduceLeDiff, reduceToNat, eObj]; exact rfl) (by simp [go_sem, reduceIte, reduceCtorEq, reduceEqDiff, reduceAdd, reduceLT, reduceLeDiff, reduceToNat, eObj]) ?_
  refine CWops.done ?_
  refine CW.seq ?_
  refine CW.region (by kernel_rfl) (by kernel_rfl) ?_ -- r1
  refine CWops.run htt 3 (by simp only [go_sem, reduceIte, reduceCtorEq, reduceEqDiff, reduceAdd, reduceLT, reduceLeDiff, reduceToNat, eObj]; exact rfl) (by simp [go_sem, reduceIte, reduceCtorEq, reduceEqDiff, reduceAdd, reduceLT, reduceLeDiff, reduceToNat, eObj]) ?_
  refine CWops.callA (binarySearch up l o.Id hs hl9) (by simp only [go_sem, reduceIte, reduceCtorEq, reduceEqDiff, reduceAdd, reduceLT, reduceLeDiff, reduceToNat, eObj]) (by simp only [go_sem, reduceIte, reduceCtorEq, reduceEqDiff, reduceAdd, reduceLT, reduceLeDiff, reduceToNat, eObj]; first | done | exact rfl) (by simp only [go_sem, reduceIte, reduceCtorEq, reduceEqDiff, reduceAdd, reduceLT, reduceLeDiff, reduceToNat, eObj]) (by simp only [go_sem, reduceIte, reduceCtorEq, reduceEqDiff, reduceAdd, reduceLT, reduceLeDiff, reduceToNat, eObj]) (fun rt10 hrt10 => ?_)
  obtain ⟨k10, rfl⟩ := hrt10
  refine CWops.run htt 5 (by simp only [go_sem, reduceIte, reduceCtorEq, reduceEqDiff, reduceAdd, reduceLT, reduceLeDiff, reduceToNat, eObj]; exact rfl) (by simp [go_sem, reduceIte, reduceCtorEq, reduceEqDiff, reduceAdd, reduceLT, reduceLeDiff, reduceToNat, eObj]) ?_
  refine CWops.done ?_
  refine CW.seq ?_
  refine CW.region (by kernel_rfl) (by kernel_rfl) ?_ -- r2
  refine CWops.run htt 3 (by simp only [go_sem, reduceIte, reduceCtorEq, reduceEqDiff, reduceAdd, reduceLT, reduceLeDiff, reduceToNat]; exact rfl) (by simp [go_sem, reduceIte, reduceCtorEq, reduceEqDiff, reduceAdd, reduceLT, reduceLeDiff, reduceToNat]) ?_
  refine CWops.done ?_
  refine CW.ret ?_
  refine retQ.ret (by simp only [f85, go_sem, reduceIte, reduceCtorEq, reduceEqDiff, reduceAdd, reduceLT, reduceLeDiff, reduceToNat]; exact rfl) (by simp only [go_sem, reduceIte, reduceCtorEq, reduceEqDiff, reduceAdd, reduceLT, reduceLeDiff, reduceToNat]; exact rfl) ?_ -- ret1
  refine ⟨_, ?_, rfl⟩
  simp [leP]
theorem deleteFunc_none (up : Bool) (xs : List GObj) (p : GObj → Bool) (fn : FuncId) (caps : List AV) (hc : pureL caps = true) (hcv : ∀ σ, caps.map (view 8 σ) = caps) (hx8 : xs.length < 1000) (hp : ∀ x ∈ xs, PCall prog up fn (.agg (eObj x) :: caps) (· = .bool (p x))) (f1 : fnd p xs = -1) (f3 : del p xs = xs) : GCall prog up 84 [.ref 0 [] 0, .func (.func fn) [] caps] 1 [(0, ⟨false, [.own 3 (List.map eObj xs)]⟩)] (fun r σ' => r = .ref 1 [] 0 ∧ σ'.n = 2 ∧ σ'.s = [(1, ⟨false, [.own 3 ((del p xs).map eObj)]⟩)]) := by
  refine GCall.intro htt 0 func84 (by kernel_rfl) rfl (Nat.le_of_ble_eq_true rfl) (CW.told ?_)

  simp only [tmps0, Nat.reduceAdd]
  refine CW.seq ?_
  refine CW.region (by kernel_rfl) (by kernel_rfl) ?_ -- r0
  refine CWops.run htt 1 (by simp only [go_sem, reduceIte, reduceCtorEq, reduceEqDiff, reduceAdd, reduceLT, reduceLeDiff, reduceToNat]; exact rfl) (by simp [go_sem, reduceIte, reduceCtorEq, reduceEqDiff, reduceAdd, reduceLT, reduceLeDiff, reduceToNat]) ?_
  refine CWops.done ?_
  refine CW.seq ?_
  refine CW.region (by kernel_rfl) (by kernel_rfl) ?_ -- r1
  refine CWops.run htt 2 (by simp only [go_sem, reduceIte, reduceCtorEq, reduceEqDiff, reduceAdd, reduceLT, reduceLeDiff, reduceToNat, hcv]; exact rfl) (by simp [go_sem, reduceIte, reduceCtorEq, reduceEqDiff, reduceAdd, reduceLT, reduceLeDiff, reduceToNat, hcv]) ?_
  refine CWops.call (index_Obj up xs p fn caps hc hp) (by simp only [go_sem, reduceIte, reduceCtorEq, reduceEqDiff, reduceAdd, reduceLT, reduceLeDiff, reduceToNat, hcv]) (by simp only [go_sem, reduceIte, reduceCtorEq, reduceEqDiff, reduceAdd, reduceLT, reduceLeDiff, reduceToNat, hcv]; first | done | exact rfl) (by simp only [go_sem, reduceIte, reduceCtorEq, reduceEqDiff, reduceAdd, reduceLT, reduceLeDiff, reduceToNat, hcv]) (fun rt10 hrt10 => ?_)
  subst hrt10; refine ⟨rfl, ?_⟩
  refine CWops.run htt 1 (by simp only [go_sem, reduceIte, reduceCtorEq, reduceEqDiff, reduceAdd, reduceLT, reduceLeDiff, reduceToNat, hcv]; exact rfl) (by simp [go_sem, reduceIte, reduceCtorEq, reduceEqDiff, reduceAdd, reduceLT, reduceLeDiff, reduceToNat, hcv]) ?_
  refine CWops.done ?_
  refine CW.seq ?_
  refine CW.seq ?_
  refine CW.region (by kernel_rfl) (by kernel_rfl) ?_ -- r2
  refine CWops.run htt 2 (by simp only [go_sem, reduceIte, reduceCtorEq, reduceEqDiff, reduceAdd, reduceLT, reduceLeDiff, reduceToNat, f1]; exact rfl) (by simp [go_sem, reduceIte, reduceCtorEq, reduceEqDiff, reduceAdd, reduceLT, reduceLeDiff, reduceToNat, f1]) ?_
  refine CWops.done ?_
  refine CW.cond (by simp only [go_sem, reduceIte, reduceCtorEq, reduceEqDiff, reduceAdd, reduceLT, reduceLeDiff, reduceToNat]; first | done | exact rfl) (fun ct12 => ?_) (fun ct12 => ?_)
  · refine CW.seq ?_
    refine CW.region (by kernel_rfl) (by kernel_rfl) ?_ -- r3
    refine CWops.run htt 2 (by simp only [go_sem, reduceIte, reduceCtorEq, reduceEqDiff, reduceAdd, reduceLT, reduceLeDiff, reduceToNat]; exact rfl) (by simp [go_sem, reduceIte, reduceCtorEq, reduceEqDiff, reduceAdd, reduceLT, reduceLeDiff, reduceToNat]) ?_
    refine CWops.done ?_
    refine CW.ret ?_
    refine ⟨⟨2, [(4, .ref 1 [] 0)], [(1, ⟨false, [.own 3 (List.map eObj (del p xs))]⟩)]⟩, ?_, .inr rfl, by simp [ptrOK, go_sem, reduceIte, reduceCtorEq, reduceEqDiff, reduceAdd, reduceLT, reduceLeDiff, reduceToNat], _, by simp only [f84, go_sem, reduceIte, reduceCtorEq, reduceEqDiff, reduceAdd, reduceLT, reduceLeDiff, reduceToNat]; exact rfl, ?_⟩ -- ret1
    · refine Sh.wk (fun x => if x = 1 then 0 else x) ?_
      rw [f3]
      simp [Wk, go_sem, reduceIte, reduceCtorEq, reduceEqDiff, reduceAdd, reduceLT, reduceLeDiff, reduceToNat]
    · exact ⟨rfl, rfl, rfl⟩
  · exfalso; revert ct12; simp [f1]
theorem deleteFunc_some (up : Bool) (xs : List GObj) (p : GObj → Bool) (fn : FuncId) (caps : List AV) (hc : pureL caps = true) (hcv : ∀ σ, caps.map (view 8 σ) = caps) (hx8 : xs.length < 1000) (hp : ∀ x ∈ xs, PCall prog up fn (.agg (eObj x) :: caps) (· = .bool (p x))) (i0 : Nat) (x0 : GObj) (f1 : fnd p xs = i0) (hx0 : xs[i0]? = some x0) (hp0 : p x0 = true) (hb0 : ∀ (j : Nat) (y : GObj), j < i0 → xs[j]? = some y → p y = false) : GCall prog up 84 [.ref 0 [] 0, .func (.func fn) [] caps] 1 [(0, ⟨false, [.own 3 (List.map eObj xs)]⟩)] (fun r σ' => r = .ref 1 [] 0 ∧ σ'.n = 2 ∧ σ'.s = [(1, ⟨false, [.own 3 ((del p xs).map eObj)]⟩)]) := by
  refine GCall.intro htt 0 func84 (by kernel_rfl) rfl (Nat.le_of_ble_eq_true rfl) (CW.told ?_)

  simp only [tmps0, Nat.reduceAdd]
  refine CW.seq ?_
  refine CW.region (by kernel_rfl) (by kernel_rfl) ?_ -- r0
  refine CWops.run htt 1 (by simp only [go_sem, reduceIte, reduceCtorEq, reduceEqDiff, reduceAdd, reduceLT, reduceLeDiff, reduceToNat]; exact rfl) (by simp [go_sem, reduceIte, reduceCtorEq, reduceEqDiff, reduceAdd, reduceLT, reduceLeDiff, reduceToNat]) ?_
  refine CWops.done ?_
  refine CW.seq ?_
  refine CW.region (by kernel_rfl) (by kernel_rfl) ?_ -- r1
  refine CWops.run htt 2 (by simp only [go_sem, reduceIte, reduceCtorEq, reduceEqDiff, reduceAdd, reduceLT, reduceLeDiff, reduceToNat, hcv]; exact rfl) (by simp [go_sem, reduceIte, reduceCtorEq, reduceEqDiff, reduceAdd, reduceLT, reduceLeDiff, reduceToNat, hcv]) ?_
  refine CWops.call (index_Obj up xs p fn caps hc hp) (by simp only [go_sem, reduceIte, reduceCtorEq, reduceEqDiff, reduceAdd, reduceLT, reduceLeDiff, reduceToNat, hcv]) (by simp only [go_sem, reduceIte, reduceCtorEq, reduceEqDiff, reduceAdd, reduceLT, reduceLeDiff, reduceToNat, hcv]; first | done | exact rfl) (by simp only [go_sem, reduceIte, reduceCtorEq, reduceEqDiff, reduceAdd, reduceLT, reduceLeDiff, reduceToNat, hcv]) (fun rt10 hrt10 => ?_)
  subst hrt10; refine ⟨rfl, ?_⟩
  refine CWops.run htt 1 (by simp only [go_sem, reduceIte, reduceCtorEq, reduceEqDiff, reduceAdd, reduceLT, reduceLeDiff, reduceToNat, hcv]; exact rfl) (by simp [go_sem, reduceIte, reduceCtorEq, reduceEqDiff, reduceAdd, reduceLT, reduceLeDiff, reduceToNat, hcv]) ?_
  refine CWops.done ?_
  refine CW.seq ?_
  refine CW.seq ?_
  refine CW.region (by kernel_rfl) (by kernel_rfl) ?_ -- r2
  refine CWops.run htt 2 (by simp only [go_sem, reduceIte, reduceCtorEq, reduceEqDiff, reduceAdd, reduceLT, reduceLeDiff, reduceToNat, f1]; exact rfl) (by simp [go_sem, reduceIte, reduceCtorEq, reduceEqDiff, reduceAdd, reduceLT, reduceLeDiff, reduceToNat, f1]) ?_
  refine CWops.done ?_
  refine CW.cond (by simp only [go_sem, reduceIte, reduceCtorEq, reduceEqDiff, reduceAdd, reduceLT, reduceLeDiff, reduceToNat]; first | done | exact rfl) (fun ct12 => ?_) (fun ct12 => ?_)
  · exfalso; revert ct12; simp [f1] <;> omega 
  · refine CW.skip ?_
    refine CW.seq ?_
    refine CW.seq ?_
    refine CW.region (by kernel_rfl) (by kernel_rfl) ?_ -- r4
    refine CWops.run htt 3 (by simp only [go_sem, reduceIte, reduceCtorEq, reduceEqDiff, reduceAdd, reduceLT, reduceLeDiff, reduceToNat, f1, wrap_succ (show i0 < MX by have := (List.getElem?_eq_some_iff.1 hx0).1; unfold MX; omega)]; exact rfl) (by simp [go_sem, reduceIte, reduceCtorEq, reduceEqDiff, reduceAdd, reduceLT, reduceLeDiff, reduceToNat, f1, wrap_succ (show i0 < MX by have := (List.getElem?_eq_some_iff.1 hx0).1; unfold MX; omega)]) ?_
    refine CWops.done ?_
    refine CW.block ?_
    refine CW.loop (S := Nat × Nat × List GObj) (fun q => ⟨1, [(0, .ref 0 [] 0), (1, .func (.func fn) [] caps), (5, .int .i64 q.1), (6, .int .i64 q.2.1)], [(0, ⟨false, [.own 3 (List.map eObj q.2.2)]⟩)]⟩) (fun q => Swp p xs q.2.2 q.1 q.2.1 ∧ q.1 < q.2.1) (fun q => xs.length - q.2.1) ((i0, i0 + 1, xs)) ?_ ⟨Swp.start hx0 hp0 hb0, by simp⟩ (fun ⟨i, j, m⟩ ⟨hw, hij⟩ => ?_)
    · refine Sh.wk0 ?_; simp [Wk, go_sem, reduceIte, reduceCtorEq, reduceEqDiff, reduceAdd, reduceLT, reduceLeDiff, reduceToNat, f1, SubL_refl hc, ex_func, SubL, Sub]
    simp only at hw hij
    have hml : m.length = xs.length := hw.len
    refine CW.seq ?_
    refine CW.seq ?_
    refine CW.region (by kernel_rfl) (by kernel_rfl) ?_ -- r5
    refine CWops.run htt 4 (by simp only [go_sem, reduceIte, reduceCtorEq, reduceEqDiff, reduceAdd, reduceLT, reduceLeDiff, reduceToNat, hml]; exact rfl) (by simp [go_sem, reduceIte, reduceCtorEq, reduceEqDiff, reduceAdd, reduceLT, reduceLeDiff, reduceToNat, hml]) ?_
    refine CWops.done ?_
    refine CW.cond (by simp only [go_sem, reduceIte, reduceCtorEq, reduceEqDiff, reduceAdd, reduceLT, reduceLeDiff, reduceToNat]; first | done | exact rfl) (fun ct19 => ?_) (fun ct19 => ?_)
    · have hj : j < xs.length := by simpa using ct19
      obtain ⟨x, hx⟩ : ∃ x, xs[j]? = some x := ⟨xs[j], List.getElem?_eq_getElem hj⟩
      have hmj := hw.at hx
      have hjm : j < m.length := by omega
      have him : i < m.length := by omega
      obtain ⟨z, hmi⟩ : ∃ z, m[i]? = some z := ⟨m[i], List.getElem?_eq_getElem him⟩
      refine CW.skip ?_
      refine CW.seq ?_
      refine CW.block ?_
      refine CW.seq ?_
      refine CW.region (by kernel_rfl) (by kernel_rfl) ?_ -- r7
      refine CWops.run htt 6 (by simp only [go_sem, reduceIte, reduceCtorEq, reduceEqDiff, reduceAdd, reduceLT, reduceLeDiff, reduceToNat, hmj, eObj, hjm, hc]; exact rfl) (by simp [go_sem, reduceIte, reduceCtorEq, reduceEqDiff, reduceAdd, reduceLT, reduceLeDiff, reduceToNat, hmj, eObj, hjm, hc]) ?_
      refine CWops.done ?_
      refine CW.seq ?_
      refine CW.region (by kernel_rfl) (by kernel_rfl) ?_ -- r8
      refine CWops.run htt 2 (by simp only [go_sem, reduceIte, reduceCtorEq, reduceEqDiff, reduceAdd, reduceLT, reduceLeDiff, reduceToNat, eObj, hc]; exact rfl) (by simp [go_sem, reduceIte, reduceCtorEq, reduceEqDiff, reduceAdd, reduceLT, reduceLeDiff, reduceToNat, eObj, hc]) ?_
      refine CWops.callA (hp x (List.mem_of_getElem? hx)) (by simp only [go_sem, reduceIte, reduceCtorEq, reduceEqDiff, reduceAdd, reduceLT, reduceLeDiff, reduceToNat, eObj, hc]) (by simp only [go_sem, reduceIte, reduceCtorEq, reduceEqDiff, reduceAdd, reduceLT, reduceLeDiff, reduceToNat, eObj, hc]; first | done | exact rfl) (by simp only [go_sem, reduceIte, reduceCtorEq, reduceEqDiff, reduceAdd, reduceLT, reduceLeDiff, reduceToNat, eObj, hc]) (by simp only [go_sem, reduceIte, reduceCtorEq, reduceEqDiff, reduceAdd, reduceLT, reduceLeDiff, reduceToNat, eObj, hc]) (fun rt28 hrt28 => ?_)
      subst hrt28
      refine CWops.run htt 1 (by simp only [go_sem, reduceIte, reduceCtorEq, reduceEqDiff, reduceAdd, reduceLT, reduceLeDiff, reduceToNat, eObj, hc]; exact rfl) (by simp [go_sem, reduceIte, reduceCtorEq, reduceEqDiff, reduceAdd, reduceLT, reduceLeDiff, reduceToNat, eObj, hc]) ?_
      refine CWops.done ?_
      refine CW.cond (by simp only [go_sem, reduceIte, reduceCtorEq, reduceEqDiff, reduceAdd, reduceLT, reduceLeDiff, reduceToNat]; first | done | exact rfl) (fun ct29 => ?_) (fun ct29 => ?_)
      · have hpx : p x = false := by simpa using ct29
        obtain ⟨q', hq'⟩ : ∃ q' : Nat × Nat × List GObj, q' = (i + 1, j + 1, m.set i x) := ⟨_, rfl⟩
        refine CW.seq ?_
        refine CW.region (by kernel_rfl) (by kernel_rfl) ?_ -- r9
        refine CWops.run htt 5 (by simp only [go_sem, reduceIte, reduceCtorEq, reduceEqDiff, reduceAdd, reduceLT, reduceLeDiff, reduceToNat, eObj, him, hmi, List.getElem?_set_self, List.length_map, List.length_set, List.set_set]; exact rfl) (by simp [go_sem, reduceIte, reduceCtorEq, reduceEqDiff, reduceAdd, reduceLT, reduceLeDiff, reduceToNat, eObj, him, hmi, List.getElem?_set_self, List.length_map, List.length_set, List.set_set]) ?_
        refine CWops.done ?_
        rw [show (List.map eObj m).set i [.int .i64 x.Id, .int .i64 x.T, .sl 3 (List.map eVal x.F)] = (m.set i x).map eObj by rw [List.map_set]; rfl]
        refine CW.region (by kernel_rfl) (by kernel_rfl) ?_ -- r10
        refine CWops.run htt 3 (by simp only [go_sem, reduceIte, reduceCtorEq, reduceEqDiff, reduceAdd, reduceLT, reduceLeDiff, reduceToNat, wrap_succ (show i < MX by unfold MX; omega)]; exact rfl) (by simp [go_sem, reduceIte, reduceCtorEq, reduceEqDiff, reduceAdd, reduceLT, reduceLeDiff, reduceToNat, wrap_succ (show i < MX by unfold MX; omega)]) ?_
        refine CWops.done ?_
        refine CW.region (by kernel_rfl) (by kernel_rfl) ?_ -- r6
        refine CWops.run htt 3 (by simp only [go_sem, reduceIte, reduceCtorEq, reduceEqDiff, reduceAdd, reduceLT, reduceLeDiff, reduceToNat, wrap_succ (show j < MX by unfold MX; omega)]; exact rfl) (by simp [go_sem, reduceIte, reduceCtorEq, reduceEqDiff, reduceAdd, reduceLT, reduceLeDiff, reduceToNat, wrap_succ (show j < MX by unfold MX; omega)]) ?_
        refine CWops.done ?_
        refine ⟨q', ?_, ?_, ?_⟩
        · subst hq'; refine Sh.wk0 ?_; simp [Wk, go_sem, reduceIte, reduceCtorEq, reduceEqDiff, reduceAdd, reduceLT, reduceLeDiff, reduceToNat, SubL_refl hc, ex_func, SubL, Sub]
        · subst hq'; first | exact ⟨hw.keep hij hx hpx, by simp only; omega⟩ | exact ⟨hw.skip hx hpx, by simp only; omega⟩
        · subst hq'; simp only; omega
      · have hpx : p x = true := by simpa using ct29
        obtain ⟨q', hq'⟩ : ∃ q' : Nat × Nat × List GObj, q' = (i, j + 1, m) := ⟨_, rfl⟩
        refine CW.skip ?_
        refine CW.region (by kernel_rfl) (by kernel_rfl) ?_ -- r6
        refine CWops.run htt 3 (by simp only [go_sem, reduceIte, reduceCtorEq, reduceEqDiff, reduceAdd, reduceLT, reduceLeDiff, reduceToNat, wrap_succ (show j < MX by unfold MX; omega)]; exact rfl) (by simp [go_sem, reduceIte, reduceCtorEq, reduceEqDiff, reduceAdd, reduceLT, reduceLeDiff, reduceToNat, wrap_succ (show j < MX by unfold MX; omega)]) ?_
        refine CWops.done ?_
        refine ⟨q', ?_, ?_, ?_⟩
        · subst hq'; refine Sh.wk0 ?_; simp [Wk, go_sem, reduceIte, reduceCtorEq, reduceEqDiff, reduceAdd, reduceLT, reduceLeDiff, reduceToNat, SubL_refl hc, ex_func, SubL, Sub]
        · subst hq'; first | exact ⟨hw.keep hij hx hpx, by simp only; omega⟩ | exact ⟨hw.skip hx hpx, by simp only; omega⟩
        · subst hq'; simp only; omega
    · have hj : j = xs.length := by have := hw.jl; simp at ct19; omega
      subst hj
      have him : i ≤ m.length := by omega
      have hcut : ∀ z, ((List.map eObj m).take i ++ z).take i = (del p xs).map eObj := fun z => by rw [List.take_left' (by simp; omega), ← List.map_take, hw.done]
      refine CW.exit ?_
      refine CW.seq ?_
      refine CW.region (by kernel_rfl) (by kernel_rfl) ?_ -- r11
      refine CWops.run htt 2 (by simp only [go_sem, reduceIte, reduceCtorEq, reduceEqDiff, reduceAdd, reduceLT, reduceLeDiff, reduceToNat]; exact rfl) (by simp [go_sem, reduceIte, reduceCtorEq, reduceEqDiff, reduceAdd, reduceLT, reduceLeDiff, reduceToNat]) ?_
      refine CWops.clearFrom (y := 0) (q := i) (k := .i64) (es := m.map eObj) htt (by simp only [go_sem, reduceIte, reduceCtorEq, reduceEqDiff, reduceAdd, reduceLT, reduceLeDiff, reduceToNat]) (by simp only [go_sem, reduceIte, reduceCtorEq, reduceEqDiff, reduceAdd, reduceLT, reduceLeDiff, reduceToNat]) tt_25 rfl tt_40 rfl (by simp only [go_sem, reduceIte, reduceCtorEq, reduceEqDiff, reduceAdd, reduceLT, reduceLeDiff, reduceToNat]) (by simp only [go_sem, reduceIte, reduceCtorEq, reduceEqDiff, reduceAdd, reduceLT, reduceLeDiff, reduceToNat]; first | done | exact rfl) (by simp only [go_sem, reduceIte, reduceCtorEq, reduceEqDiff, reduceAdd, reduceLT, reduceLeDiff, reduceToNat]) (by rw [List.length_map]; exact him) ?_
      simp only [go_sem, reduceIte, reduceCtorEq, reduceEqDiff, reduceAdd, reduceLT, reduceLeDiff, reduceToNat]
      refine CWops.done ?_
      refine CW.seq ?_
      refine CW.region (by kernel_rfl) (by kernel_rfl) ?_ -- r12
      refine CWops.run htt 2 (by simp only [go_sem, reduceIte, reduceCtorEq, reduceEqDiff, reduceAdd, reduceLT, reduceLeDiff, reduceToNat]; exact rfl) (by simp [go_sem, reduceIte, reduceCtorEq, reduceEqDiff, reduceAdd, reduceLT, reduceLeDiff, reduceToNat]) ?_
      refine CWops.cutTo (y := 0) (q := i) (k := .i64) htt (by simp only [go_sem, reduceIte, reduceCtorEq, reduceEqDiff, reduceAdd, reduceLT, reduceLeDiff, reduceToNat]) tt_25 rfl tt_40 (by simp only [go_sem, reduceIte, reduceCtorEq, reduceEqDiff, reduceAdd, reduceLT, reduceLeDiff, reduceToNat]) (by simp only [go_sem, reduceIte, reduceCtorEq, reduceEqDiff, reduceAdd, reduceLT, reduceLeDiff, reduceToNat]; first | done | exact rfl) (by simp only [go_sem, reduceIte, reduceCtorEq, reduceEqDiff, reduceAdd, reduceLT, reduceLeDiff, reduceToNat]) (by simp; omega) ?_
      simp only [go_sem, reduceIte, reduceCtorEq, reduceEqDiff, reduceAdd, reduceLT, reduceLeDiff, reduceToNat, hcut]
      refine CWops.run htt 1 (by simp only [go_sem, reduceIte, reduceCtorEq, reduceEqDiff, reduceAdd, reduceLT, reduceLeDiff, reduceToNat]; exact rfl) (by simp [go_sem, reduceIte, reduceCtorEq, reduceEqDiff, reduceAdd, reduceLT, reduceLeDiff, reduceToNat]) ?_
      refine CWops.done ?_
      refine CW.ret ?_
      refine ⟨⟨2, [(4, .ref 1 [] 0)], [(1, ⟨false, [.own 3 (List.map eObj (del p xs))]⟩)]⟩, ?_, .inr rfl, by simp [ptrOK, go_sem, reduceIte, reduceCtorEq, reduceEqDiff, reduceAdd, reduceLT, reduceLeDiff, reduceToNat], _, by simp only [f84, go_sem, reduceIte, reduceCtorEq, reduceEqDiff, reduceAdd, reduceLT, reduceLeDiff, reduceToNat]; exact rfl, ?_⟩ -- ret1
      · refine Sh.wk0 ?_
        simp [Wk, go_sem, reduceIte, reduceCtorEq, reduceEqDiff, reduceAdd, reduceLT, reduceLeDiff, reduceToNat]
      · exact ⟨rfl, rfl, rfl⟩
theorem deleteFunc (up : Bool) (xs : List GObj) (p : GObj → Bool) (fn : FuncId) (caps : List AV) (hc : pureL caps = true) (hcv : ∀ σ, caps.map (view 8 σ) = caps) (hx8 : xs.length < 1000) (hp : ∀ x ∈ xs, PCall prog up fn (.agg (eObj x) :: caps) (· = .bool (p x))) : GCall prog up 84 [.ref 0 [] 0, .func (.func fn) [] caps] 1 [(0, ⟨false, [.own 3 (List.map eObj xs)]⟩)] (fun r σ' => r = .ref 1 [] 0 ∧ σ'.n = 2 ∧ σ'.s = [(1, ⟨false, [.own 3 ((del p xs).map eObj)]⟩)]) := by
  cases h : xs.findIdx? p with
  | none =>
    have h1 := List.findIdx?_eq_none_iff.1 h
    exact deleteFunc_none up xs p fn caps hc hcv hx8 hp (by unfold fnd; rw [h]) (del_none fun j y hy => h1 y (List.mem_of_getElem? hy))
  | some i =>
    obtain ⟨h1, h2, h3⟩ := List.findIdx?_eq_some_iff_getElem.1 h
    exact deleteFunc_some up xs p fn caps hc hcv hx8 hp i xs[i] (by unfold fnd; rw [h]) (List.getElem?_eq_getElem h1) h2 fun j y hj hy => by
      obtain ⟨h4, h5⟩ := List.getElem?_eq_some_iff.1 hy
      have := h3 j hj
      rw [h5] at this; simpa using this
end Go.Ab
namespace Go.Ab
open Go Go.Proofs.Try
open Nat (reduceEqDiff reduceAdd reduceLT reduceLeDiff reduceBEq reduceSub reduceMul)
open Int (reduceToNat)
set_option maxRecDepth 100000
set_option linter.unusedSimpArgs false
set_option linter.unusedVariables false
theorem May.sz {g : Graph} (h : May g) : GSz g := by
  obtain ⟨h1, h2, h3⟩ := h.small
  have h4 := h.o
  have h5 := h.r
  exact ⟨by unfold MX; omega, fun x hx => by have := h2 x hx; unfold MX; omega, by unfold MX; omega, fun x hx => by have := h3 x hx; unfold MX; omega, by unfold MX; omega⟩
theorem gReach_len {g : Graph} (h : May g) : (gReach g).length ≤ 8 := by
  have := h.o
  unfold gReach
  rw [if_pos ((may_iff g).2 h), List.length_map]
  exact Nat.le_trans (List.length_filter_le _ _) this
theorem graph_Sweep (up : Bool) (g : Graph) : PCall prog up 37 [.agg (eGraph g)] (· = .agg (eGraph (gSweep g))) := by
  refine PCall.intro htt func37 (by kernel_rfl) rfl (Nat.le_of_ble_eq_true rfl) fun hl => ?_

  simp only [tmps0, Nat.reduceAdd]
  refine CW.seq ?_
  refine CW.region (by kernel_rfl) (by kernel_rfl) ?_ -- r0
  refine CWops.run htt 2 (by simp only [go_sem, reduceIte, reduceCtorEq, reduceEqDiff, reduceAdd, reduceLT, reduceLeDiff, reduceToNat, eGraph]; exact rfl) (by simp [go_sem, reduceIte, reduceCtorEq, reduceEqDiff, reduceAdd, reduceLT, reduceLeDiff, reduceToNat, eGraph]) ?_
  refine CWops.done ?_
  refine CW.seq ?_
  refine CW.seq ?_
  refine CW.region (by kernel_rfl) (by kernel_rfl) ?_ -- r1
  refine CWops.run htt 1 (by simp only [go_sem, reduceIte, reduceCtorEq, reduceEqDiff, reduceAdd, reduceLT, reduceLeDiff, reduceToNat, eGraph]; exact rfl) (by simp [go_sem, reduceIte, reduceCtorEq, reduceEqDiff, reduceAdd, reduceLT, reduceLeDiff, reduceToNat, eGraph]) ?_
  refine CWops.call (graph_May up g) (by simp only [go_sem, reduceIte, reduceCtorEq, reduceEqDiff, reduceAdd, reduceLT, reduceLeDiff, reduceToNat, eGraph]) (by simp only [go_sem, reduceIte, reduceCtorEq, reduceEqDiff, reduceAdd, reduceLT, reduceLeDiff, reduceToNat, eGraph]; first | done | exact rfl) (by simp only [go_sem, reduceIte, reduceCtorEq, reduceEqDiff, reduceAdd, reduceLT, reduceLeDiff, reduceToNat, eGraph]) (fun rt6 hrt6 => ?_)
  subst hrt6; refine ⟨rfl, ?_⟩
  refine CWops.run htt 1 (by simp only [go_sem, reduceIte, reduceCtorEq, reduceEqDiff, reduceAdd, reduceLT, reduceLeDiff, reduceToNat, eGraph]; exact rfl) (by simp [go_sem, reduceIte, reduceCtorEq, reduceEqDiff, reduceAdd, reduceLT, reduceLeDiff, reduceToNat, eGraph]) ?_
  refine CWops.done ?_
  refine CW.cond (by simp only [go_sem, reduceIte, reduceCtorEq, reduceEqDiff, reduceAdd, reduceLT, reduceLeDiff, reduceToNat]; first | done | exact rfl) (fun ct7 => ?_) (fun ct7 => ?_)
  · simp only [Bool.not_eq_true'] at ct7
    refine CW.seq ?_
    refine CW.region (by kernel_rfl) (by kernel_rfl) ?_ -- r2
    refine CWops.run htt 2 (by simp only [go_sem, reduceIte, reduceCtorEq, reduceEqDiff, reduceAdd, reduceLT, reduceLeDiff, reduceToNat]; exact rfl) (by simp [go_sem, reduceIte, reduceCtorEq, reduceEqDiff, reduceAdd, reduceLT, reduceLeDiff, reduceToNat]) ?_
    refine CWops.done ?_
    refine CW.ret ?_
    refine retQ.ret (by simp only [f37, go_sem, reduceIte, reduceCtorEq, reduceEqDiff, reduceAdd, reduceLT, reduceLeDiff, reduceToNat]; exact rfl) (by simp only [go_sem, reduceIte, reduceCtorEq, reduceEqDiff, reduceAdd, reduceLT, reduceLeDiff, reduceToNat]; exact rfl) ?_ -- ret1
    refine ⟨_, ?_, rfl⟩
    have : gSweep g = ⟨[], [], []⟩ := by unfold gSweep; rw [ct7]; rfl
    simp [leP, leL, this, eGraph]
  · simp only [Bool.not_eq_false'] at ct7
    have hm := (may_iff g).1 ct7
    refine CW.skip ?_
    refine CW.seq ?_
    refine CW.region (by kernel_rfl) (by kernel_rfl) ?_ -- r3
    refine CWops.run htt 1 (by simp only [go_sem, reduceIte, reduceCtorEq, reduceEqDiff, reduceAdd, reduceLT, reduceLeDiff, reduceToNat, eGraph]; exact rfl) (by simp [go_sem, reduceIte, reduceCtorEq, reduceEqDiff, reduceAdd, reduceLT, reduceLeDiff, reduceToNat, eGraph]) ?_
    refine CWops.callA (graph_Reach up g) (by simp only [go_sem, reduceIte, reduceCtorEq, reduceEqDiff, reduceAdd, reduceLT, reduceLeDiff, reduceToNat, eGraph]) (by simp only [go_sem, reduceIte, reduceCtorEq, reduceEqDiff, reduceAdd, reduceLT, reduceLeDiff, reduceToNat, eGraph]; first | done | exact rfl) (by simp only [go_sem, reduceIte, reduceCtorEq, reduceEqDiff, reduceAdd, reduceLT, reduceLeDiff, reduceToNat, eGraph]) (by simp only [go_sem, reduceIte, reduceCtorEq, reduceEqDiff, reduceAdd, reduceLT, reduceLeDiff, reduceToNat, eGraph]) (fun rt10 hrt10 => ?_)
    subst hrt10
    refine CWops.run htt 2 (by simp only [go_sem, reduceIte, reduceCtorEq, reduceEqDiff, reduceAdd, reduceLT, reduceLeDiff, reduceToNat, eGraph]; exact rfl) (by simp [go_sem, reduceIte, reduceCtorEq, reduceEqDiff, reduceAdd, reduceLT, reduceLeDiff, reduceToNat, eGraph]) ?_
    refine CWops.done ?_
    refine CW.seq ?_
    refine CW.region (by kernel_rfl) (by kernel_rfl) ?_ -- r4
    refine CWops.run htt 1 (by simp only [go_sem, reduceIte, reduceCtorEq, reduceEqDiff, reduceAdd, reduceLT, reduceLeDiff, reduceToNat, eGraph, OWN]; exact rfl) (by simp [go_sem, reduceIte, reduceCtorEq, reduceEqDiff, reduceAdd, reduceLT, reduceLeDiff, reduceToNat, eGraph, OWN]) ?_
    refine CWops.callG [] rfl (graph_own up g hm.sz) (by simp only [go_sem, reduceIte, reduceCtorEq, reduceEqDiff, reduceAdd, reduceLT, reduceLeDiff, reduceToNat]) (by simp only [go_sem, reduceIte, reduceCtorEq, reduceEqDiff, reduceAdd, reduceLT, reduceLeDiff, reduceToNat]; first | done | exact rfl) (by decide) (by simp [go_sem, reduceIte, reduceCtorEq, reduceEqDiff, reduceAdd, reduceLT, reduceLeDiff, reduceToNat, mName, memB]) (by simp [go_sem, reduceIte, reduceCtorEq, reduceEqDiff, reduceAdd, reduceLT, reduceLeDiff, reduceToNat, mName]) (by simp [go_sem, reduceIte, reduceCtorEq, reduceEqDiff, reduceAdd, reduceLT, reduceLeDiff, reduceToNat]) (by simp [go_sem, reduceIte, reduceCtorEq, reduceEqDiff, reduceAdd, reduceLT, reduceLeDiff, reduceToNat]) (by simp [go_sem, reduceIte, reduceCtorEq, reduceEqDiff, reduceAdd, reduceLT, reduceLeDiff, reduceToNat, mName, eGraph]) (fun r σ' hσ => ?_)
    obtain ⟨σn, σt, σs⟩ := σ'
    simp only at hσ
    obtain ⟨rfl, rfl, rfl⟩ := hσ
    simp only [aftS, renS, delAll, memB, mName, List.getD_nil, killH, kref, ren, Nat.beq_eq, go_sem, reduceIte, reduceCtorEq, reduceEqDiff, reduceAdd, reduceLT, reduceLeDiff, reduceToNat]
    refine CWops.run htt 2 (by simp only [go_sem, reduceIte, reduceCtorEq, reduceEqDiff, reduceAdd, reduceLT, reduceLeDiff, reduceToNat, eGraph, OWN]; exact rfl) (by simp [go_sem, reduceIte, reduceCtorEq, reduceEqDiff, reduceAdd, reduceLT, reduceLeDiff, reduceToNat, eGraph, OWN]) ?_
    refine CWops.done ?_
    refine CW.seq ?_
    refine CW.sh (Sh.frzB 2 rfl rfl rfl) ?_
    simp only [go_sem, reduceIte, reduceCtorEq, reduceEqDiff, reduceAdd, reduceLT, reduceLeDiff, reduceToNat, mapT, mapS, frzF, List.map_cons, List.map_nil, delS, OWN]
    refine CW.sh (Sh.out 3 1 rfl rfl rfl) ?_
    simp only [go_sem, reduceIte, reduceCtorEq, reduceEqDiff, reduceAdd, reduceLT, reduceLeDiff, reduceToNat, mapT, mapS, outF, List.map_cons, List.map_nil, putAt, List.set_cons_zero, List.set_cons_succ]
    refine CW.sh (Sh.frzRows (x := 6) (n := 3) (m := 3) (c := 2) (b := false) (l := g.O) (e := eObjO) (f := eObj) (rs := fun o => o.F.map eVal) rfl (fun v _ => rfl) (fun v _ => by simp [eObj, eObjO, AV.freeze, eVal])) ?_
    simp only [go_sem, reduceIte, reduceCtorEq, reduceEqDiff, reduceAdd, reduceLT, reduceLeDiff, reduceToNat]
    refine CW.region (by kernel_rfl) (by kernel_rfl) ?_ -- r5
    refine CWops.run htt 3 (by simp only [go_sem, reduceIte, reduceCtorEq, reduceEqDiff, reduceAdd, reduceLT, reduceLeDiff, reduceToNat]; exact rfl) (by simp [go_sem, reduceIte, reduceCtorEq, reduceEqDiff, reduceAdd, reduceLT, reduceLeDiff, reduceToNat]) ?_
    refine CWops.callG [6] rfl (deleteFunc up g.O (fun o => !decide (o.Id ∈ gReach g)) 85 [.fp [.sl 1 ((gReach g).map eI)]] rfl (fun σ => by simp [view]) (by have := hm.o; omega) (fun x _ => sweep_1 up (gReach g) x (gReach_pw hm) (by have := gReach_len hm; omega))) (by simp only [go_sem, reduceIte, reduceCtorEq, reduceEqDiff, reduceAdd, reduceLT, reduceLeDiff, reduceToNat]) (by simp only [go_sem, reduceIte, reduceCtorEq, reduceEqDiff, reduceAdd, reduceLT, reduceLeDiff, reduceToNat]; first | done | exact rfl) (by decide) (by simp [go_sem, reduceIte, reduceCtorEq, reduceEqDiff, reduceAdd, reduceLT, reduceLeDiff, reduceToNat, mName, memB, ex_func, SubL, Sub, eGraph]) (by simp [go_sem, reduceIte, reduceCtorEq, reduceEqDiff, reduceAdd, reduceLT, reduceLeDiff, reduceToNat, mName, ex_func, SubL, Sub, eGraph]) (by simp [go_sem, reduceIte, reduceCtorEq, reduceEqDiff, reduceAdd, reduceLT, reduceLeDiff, reduceToNat, ex_func, SubL, Sub, eGraph]) (by intro x hx; rcases x with _ | _ | _ | _ | x <;> first | (simp [go_sem, reduceIte, reduceCtorEq, reduceEqDiff, reduceAdd, reduceLT, reduceLeDiff, reduceToNat]; done) | omega | (simp at hx; done) | (simp at hx; omega)) (by simp [go_sem, reduceIte, reduceCtorEq, reduceEqDiff, reduceAdd, reduceLT, reduceLeDiff, reduceToNat, mName, ex_func, SubL, Sub, eGraph]) (fun r σ' hσ => ?_)
    obtain ⟨σn, σt, σs⟩ := σ'
    simp only at hσ
    obtain ⟨rfl, rfl, rfl⟩ := hσ
    simp only [aftS, renS, delAll, memB, mName, List.getD_nil, killH, kref, ren, Nat.beq_eq, go_sem, reduceIte, reduceCtorEq, reduceEqDiff, reduceAdd, reduceLT, reduceLeDiff, reduceToNat]
    refine CWops.run htt 2 (by simp only [go_sem, reduceIte, reduceCtorEq, reduceEqDiff, reduceAdd, reduceLT, reduceLeDiff, reduceToNat]; exact rfl) (by simp [go_sem, reduceIte, reduceCtorEq, reduceEqDiff, reduceAdd, reduceLT, reduceLeDiff, reduceToNat]) ?_
    refine CWops.done ?_
    refine CW.seq ?_
    have hdel : del (fun o => !decide (o.Id ∈ gReach g)) g.O = (gSweep g).O := by unfold gSweep del; rw [if_pos ct7]; simp
    rw [hdel]
    refine CW.sh (Sh.frz 5 1 rfl rfl) ?_
    simp only [go_sem, reduceIte, reduceCtorEq, reduceEqDiff, reduceAdd, reduceLT, reduceLeDiff, reduceToNat]
    refine CW.sh (Sh.frzC 3 0 5 0 (by decide) rfl rfl rfl) ?_
    simp only [go_sem, reduceIte, reduceCtorEq, reduceEqDiff, reduceAdd, reduceLT, reduceLeDiff, reduceToNat]
    refine CW.sh (Sh.frzC 3 2 5 2 (by decide) rfl rfl rfl) ?_
    simp only [go_sem, reduceIte, reduceCtorEq, reduceEqDiff, reduceAdd, reduceLT, reduceLeDiff, reduceToNat]
    refine CW.region (by kernel_rfl) (by kernel_rfl) ?_ -- r6
    refine CWops.run htt 2 (by simp only [go_sem, reduceIte, reduceCtorEq, reduceEqDiff, reduceAdd, reduceLT, reduceLeDiff, reduceToNat]; exact rfl) (by simp [go_sem, reduceIte, reduceCtorEq, reduceEqDiff, reduceAdd, reduceLT, reduceLeDiff, reduceToNat]) ?_
    refine CWops.done ?_
    refine CW.ret ?_
    refine retQ.ret (by simp only [f37, go_sem, reduceIte, reduceCtorEq, reduceEqDiff, reduceAdd, reduceLT, reduceLeDiff, reduceToNat]; exact rfl) (by simp only [go_sem, reduceIte, reduceCtorEq, reduceEqDiff, reduceAdd, reduceLT, reduceLeDiff, reduceToNat]; exact rfl) ?_ -- ret2
    refine ⟨_, ?_, rfl⟩
    have h1 : (gSweep g).S = g.S := by unfold gSweep; rw [if_pos ct7]
    have h2 : (gSweep g).Roots = g.Roots := by unfold gSweep; rw [if_pos ct7]
    simp [leP, leL, eGraph, h1, h2]
end Go.Ab
namespace Go.Ab
open Go Go.Proofs.Try
open Nat (reduceEqDiff reduceAdd reduceLT reduceLeDiff reduceBEq reduceSub reduceMul)
open Int (reduceToNat)
set_option maxRecDepth 100000
set_option maxHeartbeats 1600000
set_option linter.unusedSimpArgs false
set_option linter.unusedVariables false
theorem law14_DiffSwept (up : Bool) (g : Graph) : PCall prog up 9 [.agg (eGraph g)] (· = .bool true) := by
  refine PCall.intro htt func9 (by kernel_rfl) rfl (Nat.le_of_ble_eq_true rfl) fun hl => ?_

  simp only [tmps0, Nat.reduceAdd]
  refine CW.seq ?_
  refine CW.region (by kernel_rfl) (by kernel_rfl) ?_ -- r0
  refine CWops.run htt 2 (by simp only [go_sem, reduceIte, reduceCtorEq, reduceEqDiff, reduceAdd, reduceLT, reduceLeDiff, reduceToNat, eGraph]; exact rfl) (by simp [go_sem, reduceIte, reduceCtorEq, reduceEqDiff, reduceAdd, reduceLT, reduceLeDiff, reduceToNat, eGraph]) ?_
  refine CWops.done ?_
  refine CW.seq ?_
  refine CW.region (by kernel_rfl) (by kernel_rfl) ?_ -- r1
  refine CWops.callA (law14_awake up) (by simp only [go_sem, reduceIte, reduceCtorEq, reduceEqDiff, reduceAdd, reduceLT, reduceLeDiff, reduceToNat]) (by simp only [go_sem, reduceIte, reduceCtorEq, reduceEqDiff, reduceAdd, reduceLT, reduceLeDiff, reduceToNat]; first | done | exact rfl) (by simp only [go_sem, reduceIte, reduceCtorEq, reduceEqDiff, reduceAdd, reduceLT, reduceLeDiff, reduceToNat]) (by simp only [go_sem, reduceIte, reduceCtorEq, reduceEqDiff, reduceAdd, reduceLT, reduceLeDiff, reduceToNat]) (fun rt10 hrt10 => ?_)
  subst hrt10
  refine CWops.run htt 1 (by simp only [go_sem, reduceIte, reduceCtorEq, reduceEqDiff, reduceAdd, reduceLT, reduceLeDiff, reduceToNat]; exact rfl) (by simp [go_sem, reduceIte, reduceCtorEq, reduceEqDiff, reduceAdd, reduceLT, reduceLeDiff, reduceToNat]) ?_
  refine CWops.done ?_
  refine CW.seq ?_
  refine CW.region (by kernel_rfl) (by kernel_rfl) ?_ -- r2
  refine CWops.run htt 1 (by simp only [go_sem, reduceIte, reduceCtorEq, reduceEqDiff, reduceAdd, reduceLT, reduceLeDiff, reduceToNat, eGraph]; exact rfl) (by simp [go_sem, reduceIte, reduceCtorEq, reduceEqDiff, reduceAdd, reduceLT, reduceLeDiff, reduceToNat, eGraph]) ?_
  refine CWops.call (law08_Few up g) (by simp only [go_sem, reduceIte, reduceCtorEq, reduceEqDiff, reduceAdd, reduceLT, reduceLeDiff, reduceToNat, eGraph]) (by simp only [go_sem, reduceIte, reduceCtorEq, reduceEqDiff, reduceAdd, reduceLT, reduceLeDiff, reduceToNat, eGraph]; first | done | exact rfl) (by simp only [go_sem, reduceIte, reduceCtorEq, reduceEqDiff, reduceAdd, reduceLT, reduceLeDiff, reduceToNat, eGraph]) (fun rt12 hrt12 => ?_)
  subst hrt12; refine ⟨rfl, ?_⟩
  refine CWops.run htt 1 (by simp only [go_sem, reduceIte, reduceCtorEq, reduceEqDiff, reduceAdd, reduceLT, reduceLeDiff, reduceToNat, eGraph]; exact rfl) (by simp [go_sem, reduceIte, reduceCtorEq, reduceEqDiff, reduceAdd, reduceLT, reduceLeDiff, reduceToNat, eGraph]) ?_
  refine CWops.done ?_
  refine CW.seq ?_
  refine CW.cut ⟨1, [(1, .lv 0 [] 0), (3, .bool true), (23, .bool (!(fewG g && gMay g)))], [(0, ⟨true, eGraph g⟩)]⟩ ?_ ?_
  · refine CW.region (by kernel_rfl) (by kernel_rfl) ?_ -- r3
    refine CWops.run htt 3 (by simp only [go_sem, reduceIte, reduceCtorEq, reduceEqDiff, reduceAdd, reduceLT, reduceLeDiff, reduceToNat, eGraph]; exact rfl) (by simp [go_sem, reduceIte, reduceCtorEq, reduceEqDiff, reduceAdd, reduceLT, reduceLeDiff, reduceToNat, eGraph]) ?_
    all_goals (first | refine CWops.guard 15 (by simp only [go_sem, reduceIte, reduceCtorEq, reduceEqDiff, reduceAdd, reduceLT, reduceLeDiff, reduceToNat, eGraph]; exact rfl) (fun g15 => ?_) (fun g15 => ?_) | skip)
    all_goals (refine CWops.run htt 4 (by simp only [go_sem, reduceIte, reduceCtorEq, reduceEqDiff, reduceAdd, reduceLT, reduceLeDiff, reduceToNat, eGraph]; exact rfl) (by simp [go_sem, reduceIte, reduceCtorEq, reduceEqDiff, reduceAdd, reduceLT, reduceLeDiff, reduceToNat, eGraph]) ?_)
    all_goals (first | refine CWops.guard 19 (by simp only [go_sem, reduceIte, reduceCtorEq, reduceEqDiff, reduceAdd, reduceLT, reduceLeDiff, reduceToNat, eGraph]; exact rfl) (fun g19 => ?_) (fun g19 => ?_) | skip)
    all_goals (refine CWops.run htt 1 (by simp only [go_sem, reduceIte, reduceCtorEq, reduceEqDiff, reduceAdd, reduceLT, reduceLeDiff, reduceToNat, eGraph]; exact rfl) (by simp [go_sem, reduceIte, reduceCtorEq, reduceEqDiff, reduceAdd, reduceLT, reduceLeDiff, reduceToNat, eGraph]) ?_)
    all_goals (first | (refine CWops.skip ?_ ?_; next => (simp only [go_sem, reduceIte, reduceCtorEq, reduceEqDiff, reduceAdd, reduceLT, reduceLeDiff, reduceToNat]; done)) | (refine CWops.call (graph_May up g) (by simp only [go_sem, reduceIte, reduceCtorEq, reduceEqDiff, reduceAdd, reduceLT, reduceLeDiff, reduceToNat, eGraph]) (by simp only [go_sem, reduceIte, reduceCtorEq, reduceEqDiff, reduceAdd, reduceLT, reduceLeDiff, reduceToNat, eGraph]; first | done | exact rfl) (by simp only [go_sem, reduceIte, reduceCtorEq, reduceEqDiff, reduceAdd, reduceLT, reduceLeDiff, reduceToNat, eGraph]) (fun rt21 hrt21 => ?_); subst hrt21; refine ⟨rfl, ?_⟩))
    all_goals (refine CWops.run htt 2 (by simp only [go_sem, reduceIte, reduceCtorEq, reduceEqDiff, reduceAdd, reduceLT, reduceLeDiff, reduceToNat, eGraph]; exact rfl) (by simp [go_sem, reduceIte, reduceCtorEq, reduceEqDiff, reduceAdd, reduceLT, reduceLeDiff, reduceToNat, eGraph]) ?_)
    all_goals (refine CWops.done ?_)
    all_goals (
      first | refine ⟨rfl, Sh.wk0 ?_⟩ | refine Sh.wk0 ?_
      simp_all [Wk, go_sem, reduceIte, reduceCtorEq, reduceEqDiff, reduceAdd, reduceLT, reduceLeDiff, reduceToNat, eGraph, eVal] <;> first | done | rfl | omega | (intro h; omega) | (rw [Bool.eq_iff_iff]; simp; done))
  refine CW.cond (by simp only [go_sem, reduceIte, reduceCtorEq, reduceEqDiff, reduceAdd, reduceLT, reduceLeDiff, reduceToNat]; first | done | exact rfl) (fun ct23 => ?_) (fun ct23 => ?_)
  · refine CW.seq ?_
    refine CW.region (by kernel_rfl) (by kernel_rfl) ?_ -- r4
    refine CWops.run htt 2 (by simp only [go_sem, reduceIte, reduceCtorEq, reduceEqDiff, reduceAdd, reduceLT, reduceLeDiff, reduceToNat]; exact rfl) (by simp [go_sem, reduceIte, reduceCtorEq, reduceEqDiff, reduceAdd, reduceLT, reduceLeDiff, reduceToNat]) ?_
    refine CWops.done ?_
    refine CW.ret ?_
    refine retQ.ret (by simp only [f9, go_sem, reduceIte, reduceCtorEq, reduceEqDiff, reduceAdd, reduceLT, reduceLeDiff, reduceToNat]; exact rfl) (by simp only [go_sem, reduceIte, reduceCtorEq, reduceEqDiff, reduceAdd, reduceLT, reduceLeDiff, reduceToNat]; exact rfl) ?_ -- ret1
    refine ⟨_, ?_, rfl⟩
    first | (simp [leP]; done) | (simp_all [leP]; done)
  · simp only [Bool.not_eq_false', Bool.and_eq_true] at ct23
    obtain ⟨hfew, hm⟩ := ct23
    have hM := (may_iff g).1 hm
    obtain ⟨l, hd, hlen, hgone⟩ := diff_swept hm
    have ho8 := hM.o
    have hw : IntKind.i64.wrap ((l.length : Int) + ((gReach g).length : Int)) = (g.O.length : Int) := by rw [wrap_add (by unfold MX; omega), hlen]
    refine CW.skip ?_
    refine CW.seq ?_
    refine CW.drawnF mixed 8 9 [6] (D := [31]) (by decide) (by decide) (by kernel_rfl) (by kernel_rfl) rfl (by kernel_rfl) (by kernel_rfl) ?_ -- r5
    refine Seg.run htt 2 (by simp only [go_sem, reduceIte, reduceCtorEq, reduceEqDiff, reduceAdd, reduceLT, reduceLeDiff, reduceToNat, eGraph, eChange]; exact rfl) ?_
    refine Seg.callA (graph_Sweep up g) (by simp only [go_sem, reduceIte, reduceCtorEq, reduceEqDiff, reduceAdd, reduceLT, reduceLeDiff, reduceToNat, eGraph, eChange]) (by simp only [go_sem, reduceIte, reduceCtorEq, reduceEqDiff, reduceAdd, reduceLT, reduceLeDiff, reduceToNat, eGraph, eChange]; first | done | exact rfl) (by simp only [go_sem, reduceIte, reduceCtorEq, reduceEqDiff, reduceAdd, reduceLT, reduceLeDiff, reduceToNat, eGraph, eChange]) (by simp only [go_sem, reduceIte, reduceCtorEq, reduceEqDiff, reduceAdd, reduceLT, reduceLeDiff, reduceToNat, eGraph, eChange]) ?_
    refine Seg.callA ((by have := diff_Of up g (gSweep g); rw [hd] at this; exact this)) (by simp only [go_sem, reduceIte, reduceCtorEq, reduceEqDiff, reduceAdd, reduceLT, reduceLeDiff, reduceToNat, eGraph, eChange]) (by simp only [go_sem, reduceIte, reduceCtorEq, reduceEqDiff, reduceAdd, reduceLT, reduceLeDiff, reduceToNat, eGraph, eChange]; first | done | exact rfl) (by simp only [go_sem, reduceIte, reduceCtorEq, reduceEqDiff, reduceAdd, reduceLT, reduceLeDiff, reduceToNat, eGraph, eChange]) (by simp only [go_sem, reduceIte, reduceCtorEq, reduceEqDiff, reduceAdd, reduceLT, reduceLeDiff, reduceToNat, eGraph, eChange]) ?_
    refine Seg.run htt 4 (by simp only [go_sem, reduceIte, reduceCtorEq, reduceEqDiff, reduceAdd, reduceLT, reduceLeDiff, reduceToNat, eGraph, eChange]; exact rfl) ?_
    refine Seg.done ?_
    refine Mid.sto htt (Flo.cons htt rfl rfl (by simp only [go_sem, reduceIte, reduceCtorEq, reduceEqDiff, reduceAdd, reduceLT, reduceLeDiff, reduceToNat, eGraph, eChange]; first | done | exact rfl) (Flo.nil)) (fun u => by simp only [go_sem, reduceIte, reduceCtorEq, reduceEqDiff, reduceAdd, reduceLT, reduceLeDiff, reduceToNat, eGraph, eChange]; exact rfl) ?_
    refine Mid.done (Flo.cons htt rfl rfl (by simp only [go_sem, reduceIte, reduceCtorEq, reduceEqDiff, reduceAdd, reduceLT, reduceLeDiff, reduceToNat, eGraph, eChange]; first | done | exact rfl) (Flo.nil)) ?_
    refine CWops.run htt 1 (by simp only [go_sem, reduceIte, reduceCtorEq, reduceEqDiff, reduceAdd, reduceLT, reduceLeDiff, reduceToNat, eGraph, eChange]; exact rfl) (by simp [go_sem, reduceIte, reduceCtorEq, reduceEqDiff, reduceAdd, reduceLT, reduceLeDiff, reduceToNat, eGraph, eChange]) ?_
    refine CWops.done ?_
    refine CW.seq ?_
    refine CW.region (by kernel_rfl) (by kernel_rfl) ?_ -- r6
    refine CWops.run htt 1 (by simp only [go_sem, reduceIte, reduceCtorEq, reduceEqDiff, reduceAdd, reduceLT, reduceLeDiff, reduceToNat, eGraph]; exact rfl) (by simp [go_sem, reduceIte, reduceCtorEq, reduceEqDiff, reduceAdd, reduceLT, reduceLeDiff, reduceToNat, eGraph]) ?_
    refine CWops.callA (graph_Reach up g) (by simp only [go_sem, reduceIte, reduceCtorEq, reduceEqDiff, reduceAdd, reduceLT, reduceLeDiff, reduceToNat, eGraph]) (by simp only [go_sem, reduceIte, reduceCtorEq, reduceEqDiff, reduceAdd, reduceLT, reduceLeDiff, reduceToNat, eGraph]; first | done | exact rfl) (by simp only [go_sem, reduceIte, reduceCtorEq, reduceEqDiff, reduceAdd, reduceLT, reduceLeDiff, reduceToNat, eGraph]) (by simp only [go_sem, reduceIte, reduceCtorEq, reduceEqDiff, reduceAdd, reduceLT, reduceLeDiff, reduceToNat, eGraph]) (fun rt33 hrt33 => ?_)
    subst hrt33
    refine CWops.run htt 1 (by simp only [go_sem, reduceIte, reduceCtorEq, reduceEqDiff, reduceAdd, reduceLT, reduceLeDiff, reduceToNat, eGraph]; exact rfl) (by simp [go_sem, reduceIte, reduceCtorEq, reduceEqDiff, reduceAdd, reduceLT, reduceLeDiff, reduceToNat, eGraph]) ?_
    refine CWops.done ?_
    refine CW.seq ?_
    refine CW.seq ?_
    refine CW.region (by kernel_rfl) (by kernel_rfl) ?_ -- r7
    refine CWops.run htt 1 (by simp only [go_sem, reduceIte, reduceCtorEq, reduceEqDiff, reduceAdd, reduceLT, reduceLeDiff, reduceToNat]; exact rfl) (by simp [go_sem, reduceIte, reduceCtorEq, reduceEqDiff, reduceAdd, reduceLT, reduceLeDiff, reduceToNat]) ?_
    refine CWops.done ?_
    refine CW.block ?_
    refine CW.loop (S := Nat) (fun n => ⟨2, [(1, .lv 0 [] 0), (5, .lv 1 [] 0), (6, .int .i64 0), (7, .sl 1 ((gReach g).map eI)), (8, .int .i64 n)], [(0, ⟨true, eGraph g⟩), (1, ⟨true, eChange ⟨[], l, [], []⟩⟩)]⟩) (fun n => n ≤ l.length) (fun n => l.length - n) (0) ?_ (Nat.zero_le _) (fun n h1 => ?_)
    · refine Sh.wk0 ?_; simp [Wk, go_sem, reduceIte, reduceCtorEq, reduceEqDiff, reduceAdd, reduceLT, reduceLeDiff, reduceToNat, eGraph, eChange]
    refine CW.seq ?_
    refine CW.seq ?_
    refine CW.region (by kernel_rfl) (by kernel_rfl) ?_ -- r8
    refine CWops.run htt 5 (by simp only [go_sem, reduceIte, reduceCtorEq, reduceEqDiff, reduceAdd, reduceLT, reduceLeDiff, reduceToNat, eChange]; exact rfl) (by simp [go_sem, reduceIte, reduceCtorEq, reduceEqDiff, reduceAdd, reduceLT, reduceLeDiff, reduceToNat, eChange]) ?_
    refine CWops.done ?_
    refine CW.cond (by simp only [go_sem, reduceIte, reduceCtorEq, reduceEqDiff, reduceAdd, reduceLT, reduceLeDiff, reduceToNat]; first | done | exact rfl) (fun ct38 => ?_) (fun ct38 => ?_)
    · have hn : n < l.length := by simpa [eChange] using ct38
      obtain ⟨x, hx⟩ : ∃ x, l[n]? = some x := ⟨l[n], List.getElem?_eq_getElem hn⟩
      have hno : ((gReach g).any fun y => decide (y = x)) = false := by
        rw [List.any_eq_false]
        intro y hy
        have := hgone x (List.mem_of_getElem? hx)
        simp only [decide_eq_true_eq]
        rintro rfl
        exact this hy
      refine CW.skip ?_
      refine CW.seq ?_
      refine CW.block ?_
      refine CW.seq ?_
      refine CW.region (by kernel_rfl) (by kernel_rfl) ?_ -- r10
      refine CWops.run htt 6 (by simp only [go_sem, reduceIte, reduceCtorEq, reduceEqDiff, reduceAdd, reduceLT, reduceLeDiff, reduceToNat, eChange, hx, eI, hn, hno]; exact rfl) (by simp [go_sem, reduceIte, reduceCtorEq, reduceEqDiff, reduceAdd, reduceLT, reduceLeDiff, reduceToNat, eChange, hx, eI, hn, hno]) ?_
      refine CWops.callA ((by have := ref08_Has up (gReach g) x; rw [hno] at this; exact this)) (by simp only [go_sem, reduceIte, reduceCtorEq, reduceEqDiff, reduceAdd, reduceLT, reduceLeDiff, reduceToNat, eChange, hx, eI, hn, hno]) (by simp only [go_sem, reduceIte, reduceCtorEq, reduceEqDiff, reduceAdd, reduceLT, reduceLeDiff, reduceToNat, eChange, hx, eI, hn, hno]; first | done | exact rfl) (by simp only [go_sem, reduceIte, reduceCtorEq, reduceEqDiff, reduceAdd, reduceLT, reduceLeDiff, reduceToNat, eChange, hx, eI, hn, hno]) (by simp only [go_sem, reduceIte, reduceCtorEq, reduceEqDiff, reduceAdd, reduceLT, reduceLeDiff, reduceToNat, eChange, hx, eI, hn, hno]) (fun rt47 hrt47 => ?_)
      subst hrt47
      refine CWops.run htt 1 (by simp only [go_sem, reduceIte, reduceCtorEq, reduceEqDiff, reduceAdd, reduceLT, reduceLeDiff, reduceToNat, eChange, hx, eI, hn, hno]; exact rfl) (by simp [go_sem, reduceIte, reduceCtorEq, reduceEqDiff, reduceAdd, reduceLT, reduceLeDiff, reduceToNat, eChange, hx, eI, hn, hno]) ?_
      refine CWops.done ?_
      refine CW.seq ?_
      refine CW.region (by kernel_rfl) (by kernel_rfl) ?_ -- r11
      refine CWops.run htt 1 (by simp only [go_sem, reduceIte, reduceCtorEq, reduceEqDiff, reduceAdd, reduceLT, reduceLeDiff, reduceToNat]; exact rfl) (by simp [go_sem, reduceIte, reduceCtorEq, reduceEqDiff, reduceAdd, reduceLT, reduceLeDiff, reduceToNat]) ?_
      refine CWops.done ?_
      refine CW.cond (by simp only [go_sem, reduceIte, reduceCtorEq, reduceEqDiff, reduceAdd, reduceLT, reduceLeDiff, reduceToNat]; first | done | exact rfl) (fun ct48 => ?_) (fun ct48 => ?_)
      · cases ct48 
      · refine CW.skip ?_
        refine CW.region (by kernel_rfl) (by kernel_rfl) ?_ -- r9
        refine CWops.run htt 3 (by simp only [go_sem, reduceIte, reduceCtorEq, reduceEqDiff, reduceAdd, reduceLT, reduceLeDiff, reduceToNat, wrap_succ (show n < MX by unfold MX; omega)]; exact rfl) (by simp [go_sem, reduceIte, reduceCtorEq, reduceEqDiff, reduceAdd, reduceLT, reduceLeDiff, reduceToNat, wrap_succ (show n < MX by unfold MX; omega)]) ?_
        refine CWops.done ?_
        refine ⟨n + 1, ?_, ?_, ?_⟩
        · refine Sh.wk0 ?_; simp [Wk, go_sem, reduceIte, reduceCtorEq, reduceEqDiff, reduceAdd, reduceLT, reduceLeDiff, reduceToNat, eGraph, eChange]
        · exact hn
        · simp only; omega
    · have hn : n = l.length := by simp [eChange] at ct38; omega
      refine CW.exit ?_
      refine CW.seq ?_
      refine CW.region (by kernel_rfl) (by kernel_rfl) ?_ -- r13
      refine CWops.run htt 3 (by simp only [go_sem, reduceIte, reduceCtorEq, reduceEqDiff, reduceAdd, reduceLT, reduceLeDiff, reduceToNat, eGraph, eChange, hw]; exact rfl) (by simp [go_sem, reduceIte, reduceCtorEq, reduceEqDiff, reduceAdd, reduceLT, reduceLeDiff, reduceToNat, eGraph, eChange, hw]) ?_
      all_goals (first | refine CWops.guard 51 (by simp only [go_sem, reduceIte, reduceCtorEq, reduceEqDiff, reduceAdd, reduceLT, reduceLeDiff, reduceToNat, eGraph, eChange, hw]; exact rfl) (fun g51 => ?_) (fun g51 => ?_) | skip)
      all_goals (first | (simp at g51; done) | (cases g51; done) | skip)
      all_goals (refine CWops.run htt 6 (by simp only [go_sem, reduceIte, reduceCtorEq, reduceEqDiff, reduceAdd, reduceLT, reduceLeDiff, reduceToNat, eGraph, eChange, hw]; exact rfl) (by simp [go_sem, reduceIte, reduceCtorEq, reduceEqDiff, reduceAdd, reduceLT, reduceLeDiff, reduceToNat, eGraph, eChange, hw]) ?_)
      all_goals (first | refine CWops.guard 57 (by simp only [go_sem, reduceIte, reduceCtorEq, reduceEqDiff, reduceAdd, reduceLT, reduceLeDiff, reduceToNat, eGraph, eChange, hw]; exact rfl) (fun g57 => ?_) (fun g57 => ?_) | skip)
      all_goals (first | (simp at g57; done) | (cases g57; done) | skip)
      all_goals (refine CWops.run htt 6 (by simp only [go_sem, reduceIte, reduceCtorEq, reduceEqDiff, reduceAdd, reduceLT, reduceLeDiff, reduceToNat, eGraph, eChange, hw]; exact rfl) (by simp [go_sem, reduceIte, reduceCtorEq, reduceEqDiff, reduceAdd, reduceLT, reduceLeDiff, reduceToNat, eGraph, eChange, hw]) ?_)
      all_goals (first | refine CWops.guard 63 (by simp only [go_sem, reduceIte, reduceCtorEq, reduceEqDiff, reduceAdd, reduceLT, reduceLeDiff, reduceToNat, eGraph, eChange, hw]; exact rfl) (fun g63 => ?_) (fun g63 => ?_) | skip)
      all_goals (first | (simp at g63; done) | (cases g63; done) | skip)
      all_goals (refine CWops.run htt 6 (by simp only [go_sem, reduceIte, reduceCtorEq, reduceEqDiff, reduceAdd, reduceLT, reduceLeDiff, reduceToNat, eGraph, eChange, hw]; exact rfl) (by simp [go_sem, reduceIte, reduceCtorEq, reduceEqDiff, reduceAdd, reduceLT, reduceLeDiff, reduceToNat, eGraph, eChange, hw]) ?_)
      all_goals (first | refine CWops.guard 69 (by simp only [go_sem, reduceIte, reduceCtorEq, reduceEqDiff, reduceAdd, reduceLT, reduceLeDiff, reduceToNat, eGraph, eChange, hw]; exact rfl) (fun g69 => ?_) (fun g69 => ?_) | skip)
      all_goals (first | (simp at g69; done) | (cases g69; done) | skip)
      all_goals (refine CWops.run htt 12 (by simp only [go_sem, reduceIte, reduceCtorEq, reduceEqDiff, reduceAdd, reduceLT, reduceLeDiff, reduceToNat, eGraph, eChange, hw]; exact rfl) (by simp [go_sem, reduceIte, reduceCtorEq, reduceEqDiff, reduceAdd, reduceLT, reduceLeDiff, reduceToNat, eGraph, eChange, hw]) ?_)
      all_goals (refine CWops.done ?_)
      all_goals (
        refine CW.ret ?_
        refine retQ.ret (by simp only [f9, go_sem, reduceIte, reduceCtorEq, reduceEqDiff, reduceAdd, reduceLT, reduceLeDiff, reduceToNat]; exact rfl) (by simp only [go_sem, reduceIte, reduceCtorEq, reduceEqDiff, reduceAdd, reduceLT, reduceLeDiff, reduceToNat]; exact rfl) ?_ -- ret2
        refine ⟨_, ?_, rfl⟩
        first | (simp [leP]; done) | (simp_all [leP]; done))
end Go.Ab
