/-
  What functions of the program answer: each by its contract. No condition but those of each theorem.
-/
import Derived.Test.YtgnkdehaknhieaaProg
import Derived.WalkKit
import Derived.Below
import Derived.Scope
import Derived.Orders
import Derived.Still
import Derived.Deep.RegionLaw
import Derived.Lib.AppendZerosOnto
import Derived.Lib.Walk
import Derived.Lib.SliceRun
import Derived.Test.YtgnkdehaknhieaaFa
import Derived.Test.YtgnkdehaknhieaaFb
import Derived.Test.YtgnkdehaknhieaaFc
import Derived.Test.YtgnkdehaknhieaaFd
import Derived.Test.YtgnkdehaknhieaaFe
import Derived.Test.YtgnkdehaknhieaaDa
import Derived.Test.YtgnkdehaknhieaaVa
import Derived.Test.YtgnkdehaknhieaaVb
set_option linter.unusedVariables false
set_option linter.unusedSimpArgs false
namespace Go.Ab
open Go Go.Proofs.Try
open Nat (reduceEqDiff reduceAdd reduceLT reduceLeDiff reduceBEq reduceSub reduceMul)
open Int (reduceToNat)
set_option maxRecDepth 100000
set_option maxHeartbeats 3200000
set_option linter.unusedSimpArgs false
set_option linter.unusedVariables false
theorem grade_Between (up : Bool) (s t : List GType) : PCall prog up 22 [.agg (eSchema s), .agg (eSchema t)] (· = .tup [.sl 5 ((gBetween s t).1.map eStep), .bool (gBetween s t).2]) := by
  refine PCall.intro htt func22 (by kernel_rfl) rfl (Nat.le_of_ble_eq_true rfl) fun hl => ?_

  simp only [tmps0, Nat.reduceAdd]
  refine CW.seq ?_
  refine CW.region (by kernel_rfl) (by kernel_rfl) ?_ -- r0
  refine CWops.run htt 4 (by simp only [go_sem, reduceIte, reduceCtorEq, reduceEqDiff, reduceAdd, reduceLT, reduceLeDiff, reduceToNat, eSchema]; exact rfl) (by simp [go_sem, reduceIte, reduceCtorEq, reduceEqDiff, reduceAdd, reduceLT, reduceLeDiff, reduceToNat, eSchema]) ?_
  refine CWops.done ?_
  refine CW.seq ?_
  refine CW.cut ⟨2, [(2, .lv 0 [] 0), (3, .lv 1 [] 0), (27, .bool (!((schemaMay s && schemaMay t) && decide (s.length = t.length))))], [(0, ⟨true, eSchema s⟩), (1, ⟨true, eSchema t⟩)]⟩ ?_ ?_
  · refine CW.region (by kernel_rfl) (by kernel_rfl) ?_ -- r1
    refine CWops.run htt 1 (by simp only [go_sem, reduceIte, reduceCtorEq, reduceEqDiff, reduceAdd, reduceLT, reduceLeDiff, reduceToNat, eSchema]; exact rfl) (by simp [go_sem, reduceIte, reduceCtorEq, reduceEqDiff, reduceAdd, reduceLT, reduceLeDiff, reduceToNat, eSchema]) ?_
    refine CWops.call (schema_May up s) (by simp only [go_sem, reduceIte, reduceCtorEq, reduceEqDiff, reduceAdd, reduceLT, reduceLeDiff, reduceToNat, eSchema]) (by simp only [go_sem, reduceIte, reduceCtorEq, reduceEqDiff, reduceAdd, reduceLT, reduceLeDiff, reduceToNat, eSchema]; first | done | exact rfl) (by simp only [go_sem, reduceIte, reduceCtorEq, reduceEqDiff, reduceAdd, reduceLT, reduceLeDiff, reduceToNat, eSchema]) (fun rt12 hrt12 => ?_)
    subst hrt12; refine ⟨rfl, ?_⟩
    refine CWops.run htt 2 (by simp only [go_sem, reduceIte, reduceCtorEq, reduceEqDiff, reduceAdd, reduceLT, reduceLeDiff, reduceToNat, eSchema]; exact rfl) (by simp [go_sem, reduceIte, reduceCtorEq, reduceEqDiff, reduceAdd, reduceLT, reduceLeDiff, reduceToNat, eSchema]) ?_
    all_goals (first | refine CWops.guard 14 (by simp only [go_sem, reduceIte, reduceCtorEq, reduceEqDiff, reduceAdd, reduceLT, reduceLeDiff, reduceToNat, eSchema]; exact rfl) (fun g14 => ?_) (fun g14 => ?_) | skip)
    all_goals (refine CWops.run htt 1 (by simp only [go_sem, reduceIte, reduceCtorEq, reduceEqDiff, reduceAdd, reduceLT, reduceLeDiff, reduceToNat, eSchema]; exact rfl) (by simp [go_sem, reduceIte, reduceCtorEq, reduceEqDiff, reduceAdd, reduceLT, reduceLeDiff, reduceToNat, eSchema]) ?_)
    all_goals (first | (refine CWops.skip ?_ ?_; next => (simp only [go_sem, reduceIte, reduceCtorEq, reduceEqDiff, reduceAdd, reduceLT, reduceLeDiff, reduceToNat]; done)) | (refine CWops.call (schema_May up t) (by simp only [go_sem, reduceIte, reduceCtorEq, reduceEqDiff, reduceAdd, reduceLT, reduceLeDiff, reduceToNat, eSchema]) (by simp only [go_sem, reduceIte, reduceCtorEq, reduceEqDiff, reduceAdd, reduceLT, reduceLeDiff, reduceToNat, eSchema]; first | done | exact rfl) (by simp only [go_sem, reduceIte, reduceCtorEq, reduceEqDiff, reduceAdd, reduceLT, reduceLeDiff, reduceToNat, eSchema]) (fun rt16 hrt16 => ?_); subst hrt16; refine ⟨rfl, ?_⟩))
    all_goals (refine CWops.run htt 3 (by simp only [go_sem, reduceIte, reduceCtorEq, reduceEqDiff, reduceAdd, reduceLT, reduceLeDiff, reduceToNat, eSchema]; exact rfl) (by simp [go_sem, reduceIte, reduceCtorEq, reduceEqDiff, reduceAdd, reduceLT, reduceLeDiff, reduceToNat, eSchema]) ?_)
    all_goals (first | refine CWops.guard 19 (by simp only [go_sem, reduceIte, reduceCtorEq, reduceEqDiff, reduceAdd, reduceLT, reduceLeDiff, reduceToNat, eSchema]; exact rfl) (fun g19 => ?_) (fun g19 => ?_) | skip)
    all_goals (refine CWops.run htt 8 (by simp only [go_sem, reduceIte, reduceCtorEq, reduceEqDiff, reduceAdd, reduceLT, reduceLeDiff, reduceToNat, eSchema]; exact rfl) (by simp [go_sem, reduceIte, reduceCtorEq, reduceEqDiff, reduceAdd, reduceLT, reduceLeDiff, reduceToNat, eSchema]) ?_)
    all_goals (refine CWops.done ?_)
    all_goals (
      first | refine ⟨rfl, Sh.wk0 ?_⟩ | refine Sh.wk0 ?_
      by_cases b1 : s.length = t.length <;> cases hs1 : schemaMay s <;> cases hs2 : schemaMay t <;> simp_all [Wk, go_sem, reduceIte, reduceCtorEq, reduceEqDiff, reduceAdd, reduceLT, reduceLeDiff, reduceToNat, eSchema] <;> first | done | omega)
  refine CW.cond (by simp only [go_sem, reduceIte, reduceCtorEq, reduceEqDiff, reduceAdd, reduceLT, reduceLeDiff, reduceToNat]; first | done | exact rfl) (fun ct27 => ?_) (fun ct27 => ?_)
  · have hbad : gBetween s t = ([], false) := by
      have h0 : ((schemaMay s && schemaMay t) && decide (s.length = t.length)) = false := by simp only [Bool.not_eq_true'] at ct27; exact ct27
      unfold gBetween; rw [h0]; rfl
    refine CW.seq ?_
    refine CW.region (by kernel_rfl) (by kernel_rfl) ?_ -- r2
    refine CWops.run htt 2 (by simp only [go_sem, reduceIte, reduceCtorEq, reduceEqDiff, reduceAdd, reduceLT, reduceLeDiff, reduceToNat]; exact rfl) (by simp [go_sem, reduceIte, reduceCtorEq, reduceEqDiff, reduceAdd, reduceLT, reduceLeDiff, reduceToNat]) ?_
    refine CWops.done ?_
    refine CW.ret ?_
    refine retQ.ret (by simp only [f22, go_sem, reduceIte, reduceCtorEq, reduceEqDiff, reduceAdd, reduceLT, reduceLeDiff, reduceToNat]; exact rfl) (by simp only [go_sem, reduceIte, reduceCtorEq, reduceEqDiff, reduceAdd, reduceLT, reduceLeDiff, reduceToNat]; exact rfl) ?_ -- ret1
    refine ⟨_, ?_, rfl⟩
    first | (rw [hbad]; simp [leP, leL]; done) | (rw [hdone]; simp [leP, leL]; done)
  · have hok : ((schemaMay s && schemaMay t) && decide (s.length = t.length)) = true := by simp only [Bool.not_eq_false'] at ct27; exact ct27
    have hok2 := hok
    simp only [Bool.and_eq_true, decide_eq_true_eq] at hok2
    obtain ⟨⟨hms, hmt⟩, hlen⟩ := hok2
    have hS := (smay_iff s).1 hms
    have hT := (smay_iff t).1 hmt
    have hs4 := hS.len
    refine CW.skip ?_
    refine CW.seq ?_
    refine CW.region (by kernel_rfl) (by kernel_rfl) ?_ -- r3
    refine CWops.run htt 1 (by simp only [go_sem, reduceIte, reduceCtorEq, reduceEqDiff, reduceAdd, reduceLT, reduceLeDiff, reduceToNat]; exact rfl) (by simp [go_sem, reduceIte, reduceCtorEq, reduceEqDiff, reduceAdd, reduceLT, reduceLeDiff, reduceToNat]) ?_
    refine CWops.done ?_
    refine CW.seq ?_
    refine CW.seq ?_
    refine CW.region (by kernel_rfl) (by kernel_rfl) ?_ -- r4
    refine CWops.run htt 4 (by simp only [go_sem, reduceIte, reduceCtorEq, reduceEqDiff, reduceAdd, reduceLT, reduceLeDiff, reduceToNat, eSchema]; exact rfl) (by simp [go_sem, reduceIte, reduceCtorEq, reduceEqDiff, reduceAdd, reduceLT, reduceLeDiff, reduceToNat, eSchema]) ?_
    refine CWops.done ?_
    refine CW.block ?_
    refine CW.loop (S := Nat × List GStep) (fun p => ⟨3, [(2, .lv 0 [] 0), (3, .lv 1 [] 0), (6, .ref 2 [] 0), (29, .sl 2 (s.map eType)), (30, .int .i64 s.length), (31, .int .i64 p.1)], [(0, ⟨true, eSchema s⟩), (1, ⟨true, eSchema t⟩), (2, ⟨false, [.own 5 (p.2.map eStep)]⟩)]⟩) (fun p => p.1 ≤ s.length ∧ bwFold s t p.1 = some p.2 ∧ p.2.length ≤ 15 * p.1) (fun p => s.length - p.1) ((0, [])) ?_ ⟨Nat.zero_le _, rfl, Nat.le_refl _⟩ (fun ⟨i, l⟩ hB => ?_)
    · refine Sh.trans (Sh.nilRoot 6 5 (by simp only [go_sem, reduceIte, reduceCtorEq, reduceEqDiff, reduceAdd, reduceLT, reduceLeDiff, reduceToNat]) rfl) (Sh.wk0 ?_); simp [Wk, go_sem, reduceIte, reduceCtorEq, reduceEqDiff, reduceAdd, reduceLT, reduceLeDiff, reduceToNat, eSchema]
    simp only at hB
    refine CW.seq ?_
    refine CW.region (by kernel_rfl) (by kernel_rfl) ?_ -- r5
    refine CWops.run htt 1 (by simp only [go_sem, reduceIte, reduceCtorEq, reduceEqDiff, reduceAdd, reduceLT, reduceLeDiff, reduceToNat]; exact rfl) (by simp [go_sem, reduceIte, reduceCtorEq, reduceEqDiff, reduceAdd, reduceLT, reduceLeDiff, reduceToNat]) ?_
    refine CWops.done ?_
    refine CW.seq ?_
    refine CW.cond (by simp only [go_sem, reduceIte, reduceCtorEq, reduceEqDiff, reduceAdd, reduceLT, reduceLeDiff, reduceToNat]; first | done | exact rfl) (fun ct32 => ?_) (fun ct32 => ?_)
    · have hi : i < s.length := by simpa using ct32
      obtain ⟨a, ha⟩ : ∃ x, s[i]? = some x := ⟨s[i], List.getElem?_eq_getElem hi⟩
      have hit : i < t.length := by omega
      obtain ⟨b, hbt⟩ : ∃ x, t[i]? = some x := ⟨t[i], List.getElem?_eq_getElem hit⟩
      have hF5 := hS.flen i a ha
      have hG5 := hT.flen i b hbt
      have hll := betw_len hF5 hG5
      have hsucc := bwFold_succ ha hbt
      rw [hB.2.1] at hsucc
      have hB2 := hB.2.2
      refine CW.skip ?_
      refine CW.seq ?_
      refine CW.block ?_
      refine CW.seq ?_
      refine CW.region (by kernel_rfl) (by kernel_rfl) ?_ -- r6
      refine CWops.run htt 6 (by simp only [go_sem, reduceIte, reduceCtorEq, reduceEqDiff, reduceAdd, reduceLT, reduceLeDiff, reduceToNat, hi, ha, eType]; exact rfl) (by simp [go_sem, reduceIte, reduceCtorEq, reduceEqDiff, reduceAdd, reduceLT, reduceLeDiff, reduceToNat, hi, ha, eType]) ?_
      refine CWops.done ?_
      refine CW.seq ?_
      refine CW.drawn mixed 11 (by decide) (by kernel_rfl) (by kernel_rfl) (by kernel_rfl) ?_ -- r7
      refine Seg.run htt 6 (by simp only [go_sem, reduceIte, reduceCtorEq, reduceEqDiff, reduceAdd, reduceLT, reduceLeDiff, reduceToNat, eType, eSchema, hit, hbt]; exact rfl) ?_
      refine Seg.callA (grade_between up a b hF5 hG5) (by simp only [go_sem, reduceIte, reduceCtorEq, reduceEqDiff, reduceAdd, reduceLT, reduceLeDiff, reduceToNat, eType, eSchema, hit, hbt]) (by simp only [go_sem, reduceIte, reduceCtorEq, reduceEqDiff, reduceAdd, reduceLT, reduceLeDiff, reduceToNat, eType, eSchema, hit, hbt]; first | done | exact rfl) (by simp only [go_sem, reduceIte, reduceCtorEq, reduceEqDiff, reduceAdd, reduceLT, reduceLeDiff, reduceToNat, eType, eSchema, hit, hbt]) (by simp only [go_sem, reduceIte, reduceCtorEq, reduceEqDiff, reduceAdd, reduceLT, reduceLeDiff, reduceToNat, eType, eSchema, hit, hbt]) ?_
      refine Seg.run htt 4 (by simp only [go_sem, reduceIte, reduceCtorEq, reduceEqDiff, reduceAdd, reduceLT, reduceLeDiff, reduceToNat, eType, eSchema, hit, hbt]; exact rfl) ?_
      refine Seg.done ?_
      refine CWops.run htt 1 (by simp only [go_sem, reduceIte, reduceCtorEq, reduceEqDiff, reduceAdd, reduceLT, reduceLeDiff, reduceToNat, eType, eSchema, hit, hbt]; exact rfl) (by simp [go_sem, reduceIte, reduceCtorEq, reduceEqDiff, reduceAdd, reduceLT, reduceLeDiff, reduceToNat, eType, eSchema, hit, hbt]) ?_
      refine CWops.done ?_
      refine CW.seq ?_
      refine CW.seq ?_
      refine CW.drawn mixed 11 (by decide) (by kernel_rfl) (by kernel_rfl) (by kernel_rfl) ?_ -- r8
      refine Seg.run htt 3 (by simp only [go_sem, reduceIte, reduceCtorEq, reduceEqDiff, reduceAdd, reduceLT, reduceLeDiff, reduceToNat, eType, eSchema, hit, hbt]; exact rfl) ?_
      all_goals (first | refine Seg.guard 48 (by simp only [go_sem, reduceIte, reduceCtorEq, reduceEqDiff, reduceAdd, reduceLT, reduceLeDiff, reduceToNat, eType, eSchema, hit, hbt]; exact rfl) (fun g48 => ?_) (fun g48 => ?_) | skip)
      all_goals (refine Seg.run htt 8 (by simp only [go_sem, reduceIte, reduceCtorEq, reduceEqDiff, reduceAdd, reduceLT, reduceLeDiff, reduceToNat, eType, eSchema, hit, hbt]; exact rfl) ?_)
      all_goals (refine Seg.done ?_)
      all_goals (refine CWops.run htt 2 (by simp only [go_sem, reduceIte, reduceCtorEq, reduceEqDiff, reduceAdd, reduceLT, reduceLeDiff, reduceToNat, eType, eSchema, hit, hbt]; exact rfl) (by simp [go_sem, reduceIte, reduceCtorEq, reduceEqDiff, reduceAdd, reduceLT, reduceLeDiff, reduceToNat, eType, eSchema, hit, hbt]) ?_)
      all_goals (refine CWops.done ?_)
      all_goals (
        refine CW.cond (by simp only [go_sem, reduceIte, reduceCtorEq, reduceEqDiff, reduceAdd, reduceLT, reduceLeDiff, reduceToNat]; first | done | exact rfl) (fun ct58 => ?_) (fun ct58 => ?_)
        · have hbad : gBetween s t = ([], false) := by
            have h0 : ((betw a b).2 && decide (a.Name = b.Name)) = false := by
              cases h1 : (betw a b).2 <;> by_cases h2 : a.Name = b.Name <;> simp_all
            have : bwFold s t (i + 1) = none := by rw [hsucc]; simp only [bwStep]; rw [h0]; rfl
            unfold gBetween; rw [if_pos hok, bwFold_dead this hlen]
          refine CW.seq ?_
          refine CW.region (by kernel_rfl) (by kernel_rfl) ?_ -- r9
          refine CWops.run htt 2 (by simp only [go_sem, reduceIte, reduceCtorEq, reduceEqDiff, reduceAdd, reduceLT, reduceLeDiff, reduceToNat]; exact rfl) (by simp [go_sem, reduceIte, reduceCtorEq, reduceEqDiff, reduceAdd, reduceLT, reduceLeDiff, reduceToNat]) ?_
          refine CWops.done ?_
          refine CW.ret ?_
          refine retQ.ret (by simp only [f22, go_sem, reduceIte, reduceCtorEq, reduceEqDiff, reduceAdd, reduceLT, reduceLeDiff, reduceToNat]; exact rfl) (by simp only [go_sem, reduceIte, reduceCtorEq, reduceEqDiff, reduceAdd, reduceLT, reduceLeDiff, reduceToNat]; exact rfl) ?_ -- ret2
          refine ⟨_, ?_, rfl⟩
          first | (rw [hbad]; simp [leP, leL]; done) | (rw [hdone]; simp [leP, leL]; done)
        · have hgo : bwFold s t (i + 1) = some (l ++ (betw a b).1) := by
            have h0 : ((betw a b).2 && decide (a.Name = b.Name)) = true := by
              cases h1 : (betw a b).2 <;> by_cases h2 : a.Name = b.Name <;> simp_all
            rw [hsucc]; simp only [bwStep]; rw [if_pos h0]
          refine CW.skip ?_
          refine CW.region (by kernel_rfl) (by kernel_rfl) ?_ -- r10
          refine CWops.run htt 4 (by simp only [go_sem, reduceIte, reduceCtorEq, reduceEqDiff, reduceAdd, reduceLT, reduceLeDiff, reduceToNat]; exact rfl) (by refine ⟨?_, ?_, ?_⟩ <;> first | (simp [eStep, AV.cell]; done) | (simp [MX]; omega)) ?_
          refine CWops.done ?_
          refine CW.region (by kernel_rfl) (by kernel_rfl) ?_ -- r11
          refine CWops.run htt 2 (by simp only [go_sem, reduceIte, reduceCtorEq, reduceEqDiff, reduceAdd, reduceLT, reduceLeDiff, reduceToNat, wrap_succ (show i < MX by unfold MX; omega)]; exact rfl) (by simp [go_sem, reduceIte, reduceCtorEq, reduceEqDiff, reduceAdd, reduceLT, reduceLeDiff, reduceToNat, wrap_succ (show i < MX by unfold MX; omega)]) ?_
          refine CWops.done ?_
          refine ⟨(i + 1, l ++ (betw a b).1), ?_, ?_, ?_⟩
          · refine Sh.wk (fun x => if x = 2 then 4 else x) ?_; simp [Wk, go_sem, reduceIte, reduceCtorEq, reduceEqDiff, reduceAdd, reduceLT, reduceLeDiff, reduceToNat, eSchema]
          · exact ⟨hi, hgo, by simp; omega⟩
          · simp only; omega)
    · have hi : i = s.length := by have := hB.1; simp at ct32; omega
      subst hi
      have hdone : gBetween s t = (l, true) := by unfold gBetween; rw [if_pos hok, hB.2.1]
      refine CW.exit ?_
      refine CW.seq ?_
      refine CW.region (by kernel_rfl) (by kernel_rfl) ?_ -- r12
      refine CWops.run htt 3 (by simp only [go_sem, reduceIte, reduceCtorEq, reduceEqDiff, reduceAdd, reduceLT, reduceLeDiff, reduceToNat]; exact rfl) (by simp [go_sem, reduceIte, reduceCtorEq, reduceEqDiff, reduceAdd, reduceLT, reduceLeDiff, reduceToNat]) ?_
      refine CWops.done ?_
      refine CW.ret ?_
      refine retQ.ret (by simp only [f22, go_sem, reduceIte, reduceCtorEq, reduceEqDiff, reduceAdd, reduceLT, reduceLeDiff, reduceToNat]; exact rfl) (by simp only [go_sem, reduceIte, reduceCtorEq, reduceEqDiff, reduceAdd, reduceLT, reduceLeDiff, reduceToNat]; exact rfl) ?_ -- ret3
      refine ⟨_, ?_, rfl⟩
      first | (rw [hbad]; simp [leP, leL]; done) | (rw [hdone]; simp [leP, leL]; done)
end Go.Ab
namespace Go.Ab
open Go Go.Proofs.Try
open Nat (reduceEqDiff reduceAdd reduceLT reduceLeDiff reduceBEq reduceSub reduceMul)
open Int (reduceToNat)
set_option maxRecDepth 100000
set_option maxHeartbeats 3200000
set_option linter.unusedSimpArgs false
set_option linter.unusedVariables false
theorem nil_MX : (Array.size (#[] : Array UInt8) ≤ MX) = True := eq_true (Nat.zero_le _)
theorem grade_Graph (up : Bool) (g : Graph) (x : GStep) : PCall prog up 13 [.agg (eGraph g), .agg (eStep x)] (· = .tup [.agg (eGraph (gGrade g x).1), .int .i64 (gGrade g x).2]) := by
  cases hm : gMay g with
  | false => exact grade_Graph_bad up g x hm
  | true =>
    by_cases h0 : (gDo g.S x).1 = 0
    · exact grade_Graph_ok up g x hm h0
    · exact grade_Graph_err up g x hm h0
theorem aw13Graph (up : Bool) : PCall prog up 13 [.agg (eGraph aG), .agg (eStep aX)] (· = .tup [.agg (eGraph aG2), .int .i64 0]) := by
  have h := grade_Graph up aG aX
  rw [aG_grade] at h
  exact h
theorem aw13Between (up : Bool) : ∃ l : List GStep, l.length = 1 ∧ PCall prog up 22 [.agg (eSchema aS), .agg (eSchema aS2)] (· = .tup [.sl 5 (l.map eStep), .bool true]) := by
  have h := grade_Between up aS aS2
  rw [aS_btw.1] at h
  exact ⟨_, aS_btw.2, h⟩
theorem law13_awake (up : Bool) : PCall prog up 10 [] (· = .bool true) := by
  refine PCall.intro htt func10 (by kernel_rfl) rfl (Nat.le_of_ble_eq_true rfl) fun hl => ?_
  obtain ⟨l, hl1, hbt⟩ := aw13Between up
  simp only [tmps0, Nat.reduceAdd]
  refine CW.seq ?_
  refine CW.region (by kernel_rfl) (by kernel_rfl) ?_ -- r0
  refine CWops.run htt 1 (by simp only [go_sem, reduceIte, reduceCtorEq, reduceEqDiff, reduceAdd, reduceLT, reduceLeDiff, reduceToNat]; exact rfl) (by simp [go_sem, reduceIte, reduceCtorEq, reduceEqDiff, reduceAdd, reduceLT, reduceLeDiff, reduceToNat]) ?_
  refine CWops.done ?_
  refine CW.seq ?_
  refine CW.region (by kernel_rfl) (by kernel_rfl) ?_ -- r1
  refine CWops.run htt 1 (by simp only [go_sem, reduceIte, reduceCtorEq, reduceEqDiff, reduceAdd, reduceLT, reduceLeDiff, reduceToNat, one_MX, nil_MX]; exact rfl) (by simp [go_sem, reduceIte, reduceCtorEq, reduceEqDiff, reduceAdd, reduceLT, reduceLeDiff, reduceToNat, one_MX, nil_MX]) ?_
  refine CWops.run htt 1 (by simp only [go_sem, reduceIte, reduceCtorEq, reduceEqDiff, reduceAdd, reduceLT, reduceLeDiff, reduceToNat, List.replicate, one_MX, nil_MX]; exact rfl) (by simp [go_sem, reduceIte, reduceCtorEq, reduceEqDiff, reduceAdd, reduceLT, reduceLeDiff, reduceToNat]) ?_
  refine CWops.sh (Sh.frzT 8 0 (by simp only [go_sem, reduceIte, reduceCtorEq, reduceEqDiff, reduceAdd, reduceLT, reduceLeDiff, reduceToNat]) (by simp only [go_sem, reduceIte, reduceCtorEq, reduceEqDiff, reduceAdd, reduceLT, reduceLeDiff, reduceToNat]; first | done | exact rfl) rfl) ?_
  simp only [go_sem, reduceIte, reduceCtorEq, reduceEqDiff, reduceAdd, reduceLT, reduceLeDiff, reduceToNat, AV.freeze]
  refine CWops.run htt 1 (by simp only [go_sem, reduceIte, reduceCtorEq, reduceEqDiff, reduceAdd, reduceLT, reduceLeDiff, reduceToNat, one_MX, nil_MX]; exact rfl) (by simp [go_sem, reduceIte, reduceCtorEq, reduceEqDiff, reduceAdd, reduceLT, reduceLeDiff, reduceToNat, one_MX, nil_MX]) ?_
  refine CWops.run htt 1 (by simp only [go_sem, reduceIte, reduceCtorEq, reduceEqDiff, reduceAdd, reduceLT, reduceLeDiff, reduceToNat, List.replicate, one_MX, nil_MX]; exact rfl) (by simp [go_sem, reduceIte, reduceCtorEq, reduceEqDiff, reduceAdd, reduceLT, reduceLeDiff, reduceToNat]) ?_
  refine CWops.sh (Sh.frzT 10 1 (by simp only [go_sem, reduceIte, reduceCtorEq, reduceEqDiff, reduceAdd, reduceLT, reduceLeDiff, reduceToNat]) (by simp only [go_sem, reduceIte, reduceCtorEq, reduceEqDiff, reduceAdd, reduceLT, reduceLeDiff, reduceToNat]; first | done | exact rfl) rfl) ?_
  simp only [go_sem, reduceIte, reduceCtorEq, reduceEqDiff, reduceAdd, reduceLT, reduceLeDiff, reduceToNat, AV.freeze]
  refine CWops.run htt 3 (by simp only [go_sem, reduceIte, reduceCtorEq, reduceEqDiff, reduceAdd, reduceLT, reduceLeDiff, reduceToNat, one_MX, nil_MX]; exact rfl) (by simp [go_sem, reduceIte, reduceCtorEq, reduceEqDiff, reduceAdd, reduceLT, reduceLeDiff, reduceToNat, one_MX, nil_MX]) ?_
  refine CWops.done ?_
  refine CW.seq ?_
  refine CW.region (by kernel_rfl) (by kernel_rfl) ?_ -- r2
  refine CWops.run htt 2 (by simp only [go_sem, reduceIte, reduceCtorEq, reduceEqDiff, reduceAdd, reduceLT, reduceLeDiff, reduceToNat, one_MX, nil_MX]; exact rfl) (by simp [go_sem, reduceIte, reduceCtorEq, reduceEqDiff, reduceAdd, reduceLT, reduceLeDiff, reduceToNat, one_MX, nil_MX]) ?_
  refine CWops.run htt 1 (by simp only [go_sem, reduceIte, reduceCtorEq, reduceEqDiff, reduceAdd, reduceLT, reduceLeDiff, reduceToNat, List.replicate, one_MX, nil_MX]; exact rfl) (by simp [go_sem, reduceIte, reduceCtorEq, reduceEqDiff, reduceAdd, reduceLT, reduceLeDiff, reduceToNat]) ?_
  refine CWops.sh (Sh.frzT 14 3 (by simp only [go_sem, reduceIte, reduceCtorEq, reduceEqDiff, reduceAdd, reduceLT, reduceLeDiff, reduceToNat]) (by simp only [go_sem, reduceIte, reduceCtorEq, reduceEqDiff, reduceAdd, reduceLT, reduceLeDiff, reduceToNat]; first | done | exact rfl) rfl) ?_
  simp only [go_sem, reduceIte, reduceCtorEq, reduceEqDiff, reduceAdd, reduceLT, reduceLeDiff, reduceToNat, AV.freeze]
  refine CWops.run htt 1 (by simp only [go_sem, reduceIte, reduceCtorEq, reduceEqDiff, reduceAdd, reduceLT, reduceLeDiff, reduceToNat, one_MX, nil_MX]; exact rfl) (by simp [go_sem, reduceIte, reduceCtorEq, reduceEqDiff, reduceAdd, reduceLT, reduceLeDiff, reduceToNat, one_MX, nil_MX]) ?_
  refine CWops.run htt 1 (by simp only [go_sem, reduceIte, reduceCtorEq, reduceEqDiff, reduceAdd, reduceLT, reduceLeDiff, reduceToNat, List.replicate, one_MX, nil_MX]; exact rfl) (by simp [go_sem, reduceIte, reduceCtorEq, reduceEqDiff, reduceAdd, reduceLT, reduceLeDiff, reduceToNat]) ?_
  refine CWops.sh (Sh.frzT 16 4 (by simp only [go_sem, reduceIte, reduceCtorEq, reduceEqDiff, reduceAdd, reduceLT, reduceLeDiff, reduceToNat]) (by simp only [go_sem, reduceIte, reduceCtorEq, reduceEqDiff, reduceAdd, reduceLT, reduceLeDiff, reduceToNat]; first | done | exact rfl) rfl) ?_
  simp only [go_sem, reduceIte, reduceCtorEq, reduceEqDiff, reduceAdd, reduceLT, reduceLeDiff, reduceToNat, AV.freeze]
  refine CWops.run htt 3 (by simp only [go_sem, reduceIte, reduceCtorEq, reduceEqDiff, reduceAdd, reduceLT, reduceLeDiff, reduceToNat, one_MX, nil_MX]; exact rfl) (by simp [go_sem, reduceIte, reduceCtorEq, reduceEqDiff, reduceAdd, reduceLT, reduceLeDiff, reduceToNat, one_MX, nil_MX]) ?_
  refine CWops.done ?_
  refine CW.seq ?_
  refine CW.region (by kernel_rfl) (by kernel_rfl) ?_ -- r3
  refine CWops.run htt 3 (by simp only [go_sem, reduceIte, reduceCtorEq, reduceEqDiff, reduceAdd, reduceLT, reduceLeDiff, reduceToNat, one_MX, nil_MX, aG, aS, aX, aG2, aS2, eGraph, eSchema, eType, eField, eObj, eVal, eStep, List.map_cons, List.map_nil]; exact rfl) (by simp [go_sem, reduceIte, reduceCtorEq, reduceEqDiff, reduceAdd, reduceLT, reduceLeDiff, reduceToNat, one_MX, nil_MX, aG, aS, aX, aG2, aS2, eGraph, eSchema, eType, eField, eObj, eVal, eStep, List.map_cons, List.map_nil]) ?_
  refine CWops.callA (aw13Graph up) (by simp only [go_sem, reduceIte, reduceCtorEq, reduceEqDiff, reduceAdd, reduceLT, reduceLeDiff, reduceToNat, one_MX, nil_MX, aG, aS, aX, aG2, aS2, eGraph, eSchema, eType, eField, eObj, eVal, eStep, List.map_cons, List.map_nil]) (by simp only [go_sem, reduceIte, reduceCtorEq, reduceEqDiff, reduceAdd, reduceLT, reduceLeDiff, reduceToNat, one_MX, nil_MX, aG, aS, aX, aG2, aS2, eGraph, eSchema, eType, eField, eObj, eVal, eStep, List.map_cons, List.map_nil]; first | done | exact rfl) (by simp only [go_sem, reduceIte, reduceCtorEq, reduceEqDiff, reduceAdd, reduceLT, reduceLeDiff, reduceToNat, one_MX, nil_MX, aG, aS, aX, aG2, aS2, eGraph, eSchema, eType, eField, eObj, eVal, eStep, List.map_cons, List.map_nil]) (by simp only [go_sem, reduceIte, reduceCtorEq, reduceEqDiff, reduceAdd, reduceLT, reduceLeDiff, reduceToNat, one_MX, nil_MX, aG, aS, aX, aG2, aS2, eGraph, eSchema, eType, eField, eObj, eVal, eStep, List.map_cons, List.map_nil]) (fun rt22 hrt22 => ?_)
  subst hrt22
  refine CWops.run htt 6 (by simp only [go_sem, reduceIte, reduceCtorEq, reduceEqDiff, reduceAdd, reduceLT, reduceLeDiff, reduceToNat, one_MX, nil_MX, aG, aS, aX, aG2, aS2, eGraph, eSchema, eType, eField, eObj, eVal, eStep, List.map_cons, List.map_nil]; exact rfl) (by simp [go_sem, reduceIte, reduceCtorEq, reduceEqDiff, reduceAdd, reduceLT, reduceLeDiff, reduceToNat, one_MX, nil_MX, aG, aS, aX, aG2, aS2, eGraph, eSchema, eType, eField, eObj, eVal, eStep, List.map_cons, List.map_nil]) ?_
  refine CWops.done ?_
  refine CW.seq ?_
  refine CW.region (by kernel_rfl) (by kernel_rfl) ?_ -- r4
  refine CWops.run htt 3 (by simp only [go_sem, reduceIte, reduceCtorEq, reduceEqDiff, reduceAdd, reduceLT, reduceLeDiff, reduceToNat, one_MX, nil_MX, aG, aS, aX, aG2, aS2, eGraph, eSchema, eType, eField, eObj, eVal, eStep, List.map_cons, List.map_nil]; exact rfl) (by simp [go_sem, reduceIte, reduceCtorEq, reduceEqDiff, reduceAdd, reduceLT, reduceLeDiff, reduceToNat, one_MX, nil_MX, aG, aS, aX, aG2, aS2, eGraph, eSchema, eType, eField, eObj, eVal, eStep, List.map_cons, List.map_nil]) ?_
  refine CWops.callA (hbt) (by simp only [go_sem, reduceIte, reduceCtorEq, reduceEqDiff, reduceAdd, reduceLT, reduceLeDiff, reduceToNat, one_MX, nil_MX, aG, aS, aX, aG2, aS2, eGraph, eSchema, eType, eField, eObj, eVal, eStep, List.map_cons, List.map_nil]) (by simp only [go_sem, reduceIte, reduceCtorEq, reduceEqDiff, reduceAdd, reduceLT, reduceLeDiff, reduceToNat, one_MX, nil_MX, aG, aS, aX, aG2, aS2, eGraph, eSchema, eType, eField, eObj, eVal, eStep, List.map_cons, List.map_nil]; first | done | exact rfl) (by simp only [go_sem, reduceIte, reduceCtorEq, reduceEqDiff, reduceAdd, reduceLT, reduceLeDiff, reduceToNat, one_MX, nil_MX, aG, aS, aX, aG2, aS2, eGraph, eSchema, eType, eField, eObj, eVal, eStep, List.map_cons, List.map_nil]) (by simp only [go_sem, reduceIte, reduceCtorEq, reduceEqDiff, reduceAdd, reduceLT, reduceLeDiff, reduceToNat, one_MX, nil_MX, aG, aS, aX, aG2, aS2, eGraph, eSchema, eType, eField, eObj, eVal, eStep, List.map_cons, List.map_nil]) (fun rt29 hrt29 => ?_)
  subst hrt29
  refine CWops.run htt 5 (by simp only [go_sem, reduceIte, reduceCtorEq, reduceEqDiff, reduceAdd, reduceLT, reduceLeDiff, reduceToNat, one_MX, nil_MX, aG, aS, aX, aG2, aS2, eGraph, eSchema, eType, eField, eObj, eVal, eStep, List.map_cons, List.map_nil]; exact rfl) (by simp [go_sem, reduceIte, reduceCtorEq, reduceEqDiff, reduceAdd, reduceLT, reduceLeDiff, reduceToNat, one_MX, nil_MX, aG, aS, aX, aG2, aS2, eGraph, eSchema, eType, eField, eObj, eVal, eStep, List.map_cons, List.map_nil]) ?_
  refine CWops.done ?_
  refine CW.seq ?_
  refine CW.region (by kernel_rfl) (by kernel_rfl) ?_ -- r5
  refine CWops.run htt 3 (by simp only [go_sem, reduceIte, reduceCtorEq, reduceEqDiff, reduceAdd, reduceLT, reduceLeDiff, reduceToNat, one_MX, nil_MX, aG, aS, aX, aG2, aS2, eGraph, eSchema, eType, eField, eObj, eVal, eStep, List.map_cons, List.map_nil, hl1, List.getElem?_cons_zero, List.length_cons, List.length_nil]; exact rfl) (by simp [go_sem, reduceIte, reduceCtorEq, reduceEqDiff, reduceAdd, reduceLT, reduceLeDiff, reduceToNat, one_MX, nil_MX, aG, aS, aX, aG2, aS2, eGraph, eSchema, eType, eField, eObj, eVal, eStep, List.map_cons, List.map_nil, hl1, List.getElem?_cons_zero, List.length_cons, List.length_nil]) ?_
  all_goals (first | refine CWops.guard 34 (by simp only [go_sem, reduceIte, reduceCtorEq, reduceEqDiff, reduceAdd, reduceLT, reduceLeDiff, reduceToNat, one_MX, nil_MX, aG, aS, aX, aG2, aS2, eGraph, eSchema, eType, eField, eObj, eVal, eStep, List.map_cons, List.map_nil, hl1, List.getElem?_cons_zero, List.length_cons, List.length_nil]; exact rfl) (fun g34 => ?_) (fun g34 => ?_) | skip)
  all_goals (first | (simp at g34; done) | (cases g34; done) | skip)
  all_goals (refine CWops.run htt 6 (by simp only [go_sem, reduceIte, reduceCtorEq, reduceEqDiff, reduceAdd, reduceLT, reduceLeDiff, reduceToNat, one_MX, nil_MX, aG, aS, aX, aG2, aS2, eGraph, eSchema, eType, eField, eObj, eVal, eStep, List.map_cons, List.map_nil, hl1, List.getElem?_cons_zero, List.length_cons, List.length_nil]; exact rfl) (by simp [go_sem, reduceIte, reduceCtorEq, reduceEqDiff, reduceAdd, reduceLT, reduceLeDiff, reduceToNat, one_MX, nil_MX, aG, aS, aX, aG2, aS2, eGraph, eSchema, eType, eField, eObj, eVal, eStep, List.map_cons, List.map_nil, hl1, List.getElem?_cons_zero, List.length_cons, List.length_nil]) ?_)
  all_goals (first | refine CWops.guard 40 (by simp only [go_sem, reduceIte, reduceCtorEq, reduceEqDiff, reduceAdd, reduceLT, reduceLeDiff, reduceToNat, one_MX, nil_MX, aG, aS, aX, aG2, aS2, eGraph, eSchema, eType, eField, eObj, eVal, eStep, List.map_cons, List.map_nil, hl1, List.getElem?_cons_zero, List.length_cons, List.length_nil]; exact rfl) (fun g40 => ?_) (fun g40 => ?_) | skip)
  all_goals (first | (simp at g40; done) | (cases g40; done) | skip)
  all_goals (refine CWops.run htt 11 (by simp only [go_sem, reduceIte, reduceCtorEq, reduceEqDiff, reduceAdd, reduceLT, reduceLeDiff, reduceToNat, one_MX, nil_MX, aG, aS, aX, aG2, aS2, eGraph, eSchema, eType, eField, eObj, eVal, eStep, List.map_cons, List.map_nil, hl1, List.getElem?_cons_zero, List.length_cons, List.length_nil]; exact rfl) (by simp [go_sem, reduceIte, reduceCtorEq, reduceEqDiff, reduceAdd, reduceLT, reduceLeDiff, reduceToNat, one_MX, nil_MX, aG, aS, aX, aG2, aS2, eGraph, eSchema, eType, eField, eObj, eVal, eStep, List.map_cons, List.map_nil, hl1, List.getElem?_cons_zero, List.length_cons, List.length_nil]) ?_)
  all_goals (first | refine CWops.guard 51 (by simp only [go_sem, reduceIte, reduceCtorEq, reduceEqDiff, reduceAdd, reduceLT, reduceLeDiff, reduceToNat, one_MX, nil_MX, aG, aS, aX, aG2, aS2, eGraph, eSchema, eType, eField, eObj, eVal, eStep, List.map_cons, List.map_nil, hl1, List.getElem?_cons_zero, List.length_cons, List.length_nil]; exact rfl) (fun g51 => ?_) (fun g51 => ?_) | skip)
  all_goals (first | (simp at g51; done) | (cases g51; done) | skip)
  all_goals (refine CWops.run htt 12 (by simp only [go_sem, reduceIte, reduceCtorEq, reduceEqDiff, reduceAdd, reduceLT, reduceLeDiff, reduceToNat, one_MX, nil_MX, aG, aS, aX, aG2, aS2, eGraph, eSchema, eType, eField, eObj, eVal, eStep, List.map_cons, List.map_nil, hl1, List.getElem?_cons_zero, List.length_cons, List.length_nil]; exact rfl) (by simp [go_sem, reduceIte, reduceCtorEq, reduceEqDiff, reduceAdd, reduceLT, reduceLeDiff, reduceToNat, one_MX, nil_MX, aG, aS, aX, aG2, aS2, eGraph, eSchema, eType, eField, eObj, eVal, eStep, List.map_cons, List.map_nil, hl1, List.getElem?_cons_zero, List.length_cons, List.length_nil]) ?_)
  all_goals (first | refine CWops.guard 63 (by simp only [go_sem, reduceIte, reduceCtorEq, reduceEqDiff, reduceAdd, reduceLT, reduceLeDiff, reduceToNat, one_MX, nil_MX, aG, aS, aX, aG2, aS2, eGraph, eSchema, eType, eField, eObj, eVal, eStep, List.map_cons, List.map_nil, hl1, List.getElem?_cons_zero, List.length_cons, List.length_nil]; exact rfl) (fun g63 => ?_) (fun g63 => ?_) | skip)
  all_goals (first | (simp at g63; done) | (cases g63; done) | skip)
  all_goals (refine CWops.run htt 3 (by simp only [go_sem, reduceIte, reduceCtorEq, reduceEqDiff, reduceAdd, reduceLT, reduceLeDiff, reduceToNat, one_MX, nil_MX, aG, aS, aX, aG2, aS2, eGraph, eSchema, eType, eField, eObj, eVal, eStep, List.map_cons, List.map_nil, hl1, List.getElem?_cons_zero, List.length_cons, List.length_nil]; exact rfl) (by simp [go_sem, reduceIte, reduceCtorEq, reduceEqDiff, reduceAdd, reduceLT, reduceLeDiff, reduceToNat, one_MX, nil_MX, aG, aS, aX, aG2, aS2, eGraph, eSchema, eType, eField, eObj, eVal, eStep, List.map_cons, List.map_nil, hl1, List.getElem?_cons_zero, List.length_cons, List.length_nil]) ?_)
  all_goals (first | refine CWops.guard 66 (by simp only [go_sem, reduceIte, reduceCtorEq, reduceEqDiff, reduceAdd, reduceLT, reduceLeDiff, reduceToNat, one_MX, nil_MX, aG, aS, aX, aG2, aS2, eGraph, eSchema, eType, eField, eObj, eVal, eStep, List.map_cons, List.map_nil, hl1, List.getElem?_cons_zero, List.length_cons, List.length_nil]; exact rfl) (fun g66 => ?_) (fun g66 => ?_) | skip)
  all_goals (first | (simp at g66; done) | (cases g66; done) | skip)
  all_goals (refine CWops.run htt 5 (by simp only [go_sem, reduceIte, reduceCtorEq, reduceEqDiff, reduceAdd, reduceLT, reduceLeDiff, reduceToNat, one_MX, nil_MX, aG, aS, aX, aG2, aS2, eGraph, eSchema, eType, eField, eObj, eVal, eStep, List.map_cons, List.map_nil, hl1, List.getElem?_cons_zero, List.length_cons, List.length_nil]; exact rfl) (by simp [go_sem, reduceIte, reduceCtorEq, reduceEqDiff, reduceAdd, reduceLT, reduceLeDiff, reduceToNat, one_MX, nil_MX, aG, aS, aX, aG2, aS2, eGraph, eSchema, eType, eField, eObj, eVal, eStep, List.map_cons, List.map_nil, hl1, List.getElem?_cons_zero, List.length_cons, List.length_nil]) ?_)
  all_goals (refine CWops.done ?_)
  all_goals (
    refine CW.ret ?_
    refine retQ.ret (by simp only [f10, go_sem, reduceIte, reduceCtorEq, reduceEqDiff, reduceAdd, reduceLT, reduceLeDiff, reduceToNat]; exact rfl) (by simp only [go_sem, reduceIte, reduceCtorEq, reduceEqDiff, reduceAdd, reduceLT, reduceLeDiff, reduceToNat]; exact rfl) ?_ -- ret1
    refine ⟨_, ?_, rfl⟩
    first | (simp [leP]; done) | (simp_all [leP]; done))
end Go.Ab
namespace Go.Ab
open Go Go.Proofs.Try
open Nat (reduceEqDiff reduceAdd reduceLT reduceLeDiff reduceBEq reduceSub reduceMul)
open Int (reduceToNat)
set_option maxRecDepth 100000
set_option maxHeartbeats 3200000
set_option linter.unusedSimpArgs false
set_option linter.unusedVariables false
theorem law13_GradeValues (up : Bool) (g : Graph) (x : GStep) (i : Int) : PCall prog up 3 [.agg (eGraph g), .agg (eStep x), .int .i64 i] (· = .bool true) := by
  refine PCall.intro htt func3 (by kernel_rfl) rfl (Nat.le_of_ble_eq_true rfl) fun hl => ?_
  obtain ⟨⟨h, e⟩, hA⟩ : ∃ p, gGrade g x = p := ⟨_, rfl⟩
  simp only [tmps0, Nat.reduceAdd]
  refine CW.seq ?_
  refine CW.region (by kernel_rfl) (by kernel_rfl) ?_ -- r0
  refine CWops.run htt 3 (by simp only [go_sem, reduceIte, reduceCtorEq, reduceEqDiff, reduceAdd, reduceLT, reduceLeDiff, reduceToNat, eGraph, eStep]; exact rfl) (by simp [go_sem, reduceIte, reduceCtorEq, reduceEqDiff, reduceAdd, reduceLT, reduceLeDiff, reduceToNat, eGraph, eStep]) ?_
  refine CWops.done ?_
  refine CW.seq ?_
  refine CW.region (by kernel_rfl) (by kernel_rfl) ?_ -- r1
  refine CWops.callA (law13_awake up) (by simp only [go_sem, reduceIte, reduceCtorEq, reduceEqDiff, reduceAdd, reduceLT, reduceLeDiff, reduceToNat]) (by simp only [go_sem, reduceIte, reduceCtorEq, reduceEqDiff, reduceAdd, reduceLT, reduceLeDiff, reduceToNat]; first | done | exact rfl) (by simp only [go_sem, reduceIte, reduceCtorEq, reduceEqDiff, reduceAdd, reduceLT, reduceLeDiff, reduceToNat]) (by simp only [go_sem, reduceIte, reduceCtorEq, reduceEqDiff, reduceAdd, reduceLT, reduceLeDiff, reduceToNat]) (fun rt16 hrt16 => ?_)
  subst hrt16
  refine CWops.run htt 1 (by simp only [go_sem, reduceIte, reduceCtorEq, reduceEqDiff, reduceAdd, reduceLT, reduceLeDiff, reduceToNat]; exact rfl) (by simp [go_sem, reduceIte, reduceCtorEq, reduceEqDiff, reduceAdd, reduceLT, reduceLeDiff, reduceToNat]) ?_
  refine CWops.done ?_
  refine CW.seq ?_
  refine CW.region (by kernel_rfl) (by kernel_rfl) ?_ -- r2
  refine CWops.run htt 1 (by simp only [go_sem, reduceIte, reduceCtorEq, reduceEqDiff, reduceAdd, reduceLT, reduceLeDiff, reduceToNat, eGraph]; exact rfl) (by simp [go_sem, reduceIte, reduceCtorEq, reduceEqDiff, reduceAdd, reduceLT, reduceLeDiff, reduceToNat, eGraph]) ?_
  refine CWops.call (law08_Few up g) (by simp only [go_sem, reduceIte, reduceCtorEq, reduceEqDiff, reduceAdd, reduceLT, reduceLeDiff, reduceToNat, eGraph]) (by simp only [go_sem, reduceIte, reduceCtorEq, reduceEqDiff, reduceAdd, reduceLT, reduceLeDiff, reduceToNat, eGraph]; first | done | exact rfl) (by simp only [go_sem, reduceIte, reduceCtorEq, reduceEqDiff, reduceAdd, reduceLT, reduceLeDiff, reduceToNat, eGraph]) (fun rt18 hrt18 => ?_)
  subst hrt18; refine ⟨rfl, ?_⟩
  refine CWops.run htt 1 (by simp only [go_sem, reduceIte, reduceCtorEq, reduceEqDiff, reduceAdd, reduceLT, reduceLeDiff, reduceToNat, eGraph]; exact rfl) (by simp [go_sem, reduceIte, reduceCtorEq, reduceEqDiff, reduceAdd, reduceLT, reduceLeDiff, reduceToNat, eGraph]) ?_
  refine CWops.done ?_
  refine CW.seq ?_
  refine CW.cut ⟨2, [(2, .int .i64 i), (3, .lv 0 [] 0), (4, .lv 1 [] 0), (7, .bool true), (40, .bool (!((fewG g && gMay g) && (decide (0 ≤ i) && decide (i < g.O.length)))))], [(0, ⟨true, eGraph g⟩), (1, ⟨true, eStep x⟩)]⟩ ?_ ?_
  · refine CW.region (by kernel_rfl) (by kernel_rfl) ?_ -- r3
    refine CWops.run htt 3 (by simp only [go_sem, reduceIte, reduceCtorEq, reduceEqDiff, reduceAdd, reduceLT, reduceLeDiff, reduceToNat, eGraph]; exact rfl) (by simp [go_sem, reduceIte, reduceCtorEq, reduceEqDiff, reduceAdd, reduceLT, reduceLeDiff, reduceToNat, eGraph]) ?_
    all_goals (first | refine CWops.guard 21 (by simp only [go_sem, reduceIte, reduceCtorEq, reduceEqDiff, reduceAdd, reduceLT, reduceLeDiff, reduceToNat, eGraph]; exact rfl) (fun g21 => ?_) (fun g21 => ?_) | skip)
    all_goals (refine CWops.run htt 4 (by simp only [go_sem, reduceIte, reduceCtorEq, reduceEqDiff, reduceAdd, reduceLT, reduceLeDiff, reduceToNat, eGraph]; exact rfl) (by simp [go_sem, reduceIte, reduceCtorEq, reduceEqDiff, reduceAdd, reduceLT, reduceLeDiff, reduceToNat, eGraph]) ?_)
    all_goals (first | refine CWops.guard 25 (by simp only [go_sem, reduceIte, reduceCtorEq, reduceEqDiff, reduceAdd, reduceLT, reduceLeDiff, reduceToNat, eGraph]; exact rfl) (fun g25 => ?_) (fun g25 => ?_) | skip)
    all_goals (refine CWops.run htt 1 (by simp only [go_sem, reduceIte, reduceCtorEq, reduceEqDiff, reduceAdd, reduceLT, reduceLeDiff, reduceToNat, eGraph]; exact rfl) (by simp [go_sem, reduceIte, reduceCtorEq, reduceEqDiff, reduceAdd, reduceLT, reduceLeDiff, reduceToNat, eGraph]) ?_)
    all_goals (first | (refine CWops.skip ?_ ?_; next => (simp only [go_sem, reduceIte, reduceCtorEq, reduceEqDiff, reduceAdd, reduceLT, reduceLeDiff, reduceToNat]; done)) | (refine CWops.call (graph_May up g) (by simp only [go_sem, reduceIte, reduceCtorEq, reduceEqDiff, reduceAdd, reduceLT, reduceLeDiff, reduceToNat, eGraph]) (by simp only [go_sem, reduceIte, reduceCtorEq, reduceEqDiff, reduceAdd, reduceLT, reduceLeDiff, reduceToNat, eGraph]; first | done | exact rfl) (by simp only [go_sem, reduceIte, reduceCtorEq, reduceEqDiff, reduceAdd, reduceLT, reduceLeDiff, reduceToNat, eGraph]) (fun rt27 hrt27 => ?_); subst hrt27; refine ⟨rfl, ?_⟩))
    all_goals (refine CWops.run htt 3 (by simp only [go_sem, reduceIte, reduceCtorEq, reduceEqDiff, reduceAdd, reduceLT, reduceLeDiff, reduceToNat, eGraph]; exact rfl) (by simp [go_sem, reduceIte, reduceCtorEq, reduceEqDiff, reduceAdd, reduceLT, reduceLeDiff, reduceToNat, eGraph]) ?_)
    all_goals (first | refine CWops.guard 30 (by simp only [go_sem, reduceIte, reduceCtorEq, reduceEqDiff, reduceAdd, reduceLT, reduceLeDiff, reduceToNat, eGraph]; exact rfl) (fun g30 => ?_) (fun g30 => ?_) | skip)
    all_goals (refine CWops.run htt 4 (by simp only [go_sem, reduceIte, reduceCtorEq, reduceEqDiff, reduceAdd, reduceLT, reduceLeDiff, reduceToNat, eGraph]; exact rfl) (by simp [go_sem, reduceIte, reduceCtorEq, reduceEqDiff, reduceAdd, reduceLT, reduceLeDiff, reduceToNat, eGraph]) ?_)
    all_goals (first | refine CWops.guard 34 (by simp only [go_sem, reduceIte, reduceCtorEq, reduceEqDiff, reduceAdd, reduceLT, reduceLeDiff, reduceToNat, eGraph]; exact rfl) (fun g34 => ?_) (fun g34 => ?_) | skip)
    all_goals (refine CWops.run htt 6 (by simp only [go_sem, reduceIte, reduceCtorEq, reduceEqDiff, reduceAdd, reduceLT, reduceLeDiff, reduceToNat, eGraph]; exact rfl) (by simp [go_sem, reduceIte, reduceCtorEq, reduceEqDiff, reduceAdd, reduceLT, reduceLeDiff, reduceToNat, eGraph]) ?_)
    all_goals (refine CWops.done ?_)
    all_goals (
      first | refine ⟨rfl, Sh.wk0 ?_⟩ | refine Sh.wk0 ?_
      simp_all [Wk, go_sem, reduceIte, reduceCtorEq, reduceEqDiff, reduceAdd, reduceLT, reduceLeDiff, reduceToNat, eGraph, eStep] <;> first | done | rfl | omega | (intro h; omega) | (rw [Bool.eq_iff_iff]; simp; done))
  refine CW.cond (by simp only [go_sem, reduceIte, reduceCtorEq, reduceEqDiff, reduceAdd, reduceLT, reduceLeDiff, reduceToNat]; first | done | exact rfl) (fun ct40 => ?_) (fun ct40 => ?_)
  · refine CW.seq ?_
    refine CW.region (by kernel_rfl) (by kernel_rfl) ?_ -- r4
    refine CWops.run htt 2 (by simp only [go_sem, reduceIte, reduceCtorEq, reduceEqDiff, reduceAdd, reduceLT, reduceLeDiff, reduceToNat]; exact rfl) (by simp [go_sem, reduceIte, reduceCtorEq, reduceEqDiff, reduceAdd, reduceLT, reduceLeDiff, reduceToNat]) ?_
    refine CWops.done ?_
    refine CW.ret ?_
    refine retQ.ret (by simp only [f3, go_sem, reduceIte, reduceCtorEq, reduceEqDiff, reduceAdd, reduceLT, reduceLeDiff, reduceToNat]; exact rfl) (by simp only [go_sem, reduceIte, reduceCtorEq, reduceEqDiff, reduceAdd, reduceLT, reduceLeDiff, reduceToNat]; exact rfl) ?_ -- ret1
    refine ⟨_, ?_, rfl⟩
    first | (simp [leP]; done) | (simp [leP, hl]; done) | (simp_all [leP]; done) | (simp [leP]; simp [hd0] at hl; omega) | (simp [leP]; simp [hd0, hd1] at hl; omega)
  · simp only [Bool.not_eq_false', Bool.and_eq_true, decide_eq_true_eq] at ct40
    obtain ⟨⟨hfew, hm⟩, hi0, hil⟩ := ct40
    obtain ⟨n, rfl⟩ := Int.eq_ofNat_of_zero_le hi0
    have hn : n < g.O.length := by omega
    obtain ⟨o, ho⟩ : ∃ o, g.O[n]? = some o := ⟨g.O[n], List.getElem?_eq_getElem hn⟩
    refine CW.skip ?_
    refine CW.seq ?_
    refine CW.region (by kernel_rfl) (by kernel_rfl) ?_ -- r5
    refine CWops.run htt 2 (by simp only [go_sem, reduceIte, reduceCtorEq, reduceEqDiff, reduceAdd, reduceLT, reduceLeDiff, reduceToNat, eGraph, eStep]; exact rfl) (by simp [go_sem, reduceIte, reduceCtorEq, reduceEqDiff, reduceAdd, reduceLT, reduceLeDiff, reduceToNat, eGraph, eStep]) ?_
    refine CWops.callA ((by have := grade_Graph up g x; rw [hA] at this; exact this)) (by simp only [go_sem, reduceIte, reduceCtorEq, reduceEqDiff, reduceAdd, reduceLT, reduceLeDiff, reduceToNat, eGraph, eStep]) (by simp only [go_sem, reduceIte, reduceCtorEq, reduceEqDiff, reduceAdd, reduceLT, reduceLeDiff, reduceToNat, eGraph, eStep]; first | done | exact rfl) (by simp only [go_sem, reduceIte, reduceCtorEq, reduceEqDiff, reduceAdd, reduceLT, reduceLeDiff, reduceToNat, eGraph, eStep]) (by simp only [go_sem, reduceIte, reduceCtorEq, reduceEqDiff, reduceAdd, reduceLT, reduceLeDiff, reduceToNat, eGraph, eStep]) (fun rt45 hrt45 => ?_)
    subst hrt45
    refine CWops.run htt 6 (by simp only [go_sem, reduceIte, reduceCtorEq, reduceEqDiff, reduceAdd, reduceLT, reduceLeDiff, reduceToNat, eGraph, eStep]; exact rfl) (by simp [go_sem, reduceIte, reduceCtorEq, reduceEqDiff, reduceAdd, reduceLT, reduceLeDiff, reduceToNat, eGraph, eStep]) ?_
    refine CWops.done ?_
    refine CW.seq ?_
    refine CW.seq ?_
    refine CW.region (by kernel_rfl) (by kernel_rfl) ?_ -- r6
    refine CWops.run htt 2 (by simp only [go_sem, reduceIte, reduceCtorEq, reduceEqDiff, reduceAdd, reduceLT, reduceLeDiff, reduceToNat]; exact rfl) (by simp [go_sem, reduceIte, reduceCtorEq, reduceEqDiff, reduceAdd, reduceLT, reduceLeDiff, reduceToNat]) ?_
    refine CWops.done ?_
    refine CW.cond (by simp only [go_sem, reduceIte, reduceCtorEq, reduceEqDiff, reduceAdd, reduceLT, reduceLeDiff, reduceToNat]; first | done | exact rfl) (fun ct49 => ?_) (fun ct49 => ?_)
    · refine CW.seq ?_
      refine CW.region (by kernel_rfl) (by kernel_rfl) ?_ -- r7
      refine CWops.run htt 1 (by simp only [go_sem, reduceIte, reduceCtorEq, reduceEqDiff, reduceAdd, reduceLT, reduceLeDiff, reduceToNat]; exact rfl) (by simp [go_sem, reduceIte, reduceCtorEq, reduceEqDiff, reduceAdd, reduceLT, reduceLeDiff, reduceToNat]) ?_
      refine CWops.done ?_
      refine CW.ret ?_
      refine retQ.ret (by simp only [f3, go_sem, reduceIte, reduceCtorEq, reduceEqDiff, reduceAdd, reduceLT, reduceLeDiff, reduceToNat]; exact rfl) (by simp only [go_sem, reduceIte, reduceCtorEq, reduceEqDiff, reduceAdd, reduceLT, reduceLeDiff, reduceToNat]; exact rfl) ?_ -- ret2
      refine ⟨_, ?_, rfl⟩
      first | (simp [leP]; done) | (simp [leP, hl]; done) | (simp_all [leP]; done) | (simp [leP]; simp [hd0] at hl; omega) | (simp [leP]; simp [hd0, hd1] at hl; omega)
    · have he : e = 0 := by simpa using ct49
      subst he
      have hA0 : (gGrade g x).2 = 0 := by rw [hA]
      obtain ⟨ti, o', a, b, hti, ho', hti', ha, hb, hfl, hfl', hval, hne, hsame⟩ := grade_values hA0 ho
      have hlen : h.O.length = g.O.length := by have := (grade_ok hA0).2.2; rw [hA] at this; simp only at this; rw [this]; simp
      have hmh : gMay h = true := by have := grade_may hA0; rw [hA] at this; exact this
      rw [hA] at ho' hb
      simp only at ho' hb
      have hnh : n < h.O.length := by omega
      have hal := (List.getElem?_eq_some_iff.1 ha).1
      have hbl := (List.getElem?_eq_some_iff.1 hb).1
      have hM := (may_iff g).1 hm
      have hMh := (may_iff h).1 hmh
      have ha5 := hM.small.2.1 a (List.mem_of_getElem? ha)
      have hb5 := hMh.small.2.1 b (List.mem_of_getElem? hb)
      refine CW.skip ?_
      refine CW.seq ?_
      refine CW.seq ?_
      refine CW.drawn mixed 25 (by decide) (by kernel_rfl) (by kernel_rfl) (by kernel_rfl) ?_ -- r8
      refine Seg.run htt 8 (by simp only [go_sem, reduceIte, reduceCtorEq, reduceEqDiff, reduceAdd, reduceLT, reduceLeDiff, reduceToNat, eGraph, hlen, hmh, ho, ho', hn, hnh, eObj, hti, hti']; exact rfl) ?_
      all_goals (first | refine Seg.guard 57 (by simp only [go_sem, reduceIte, reduceCtorEq, reduceEqDiff, reduceAdd, reduceLT, reduceLeDiff, reduceToNat, eGraph, hlen, hmh, ho, ho', hn, hnh, eObj, hti, hti']; exact rfl) (fun g57 => ?_) (fun g57 => ?_) | skip)
      all_goals (first | (exfalso; simp at g57; done) | skip)
      all_goals (refine Seg.run htt 1 (by simp only [go_sem, reduceIte, reduceCtorEq, reduceEqDiff, reduceAdd, reduceLT, reduceLeDiff, reduceToNat, eGraph, hlen, hmh, ho, ho', hn, hnh, eObj, hti, hti']; exact rfl) ?_)
      all_goals (first | (refine Seg.skip ?_ ?_; next => (simp only [go_sem, reduceIte, reduceCtorEq, reduceEqDiff, reduceAdd, reduceLT, reduceLeDiff, reduceToNat]; done)) | (refine Seg.call (graph_May up h) (by simp only [go_sem, reduceIte, reduceCtorEq, reduceEqDiff, reduceAdd, reduceLT, reduceLeDiff, reduceToNat, eGraph, hlen, hmh, ho, ho', hn, hnh, eObj, hti, hti']) (by simp only [go_sem, reduceIte, reduceCtorEq, reduceEqDiff, reduceAdd, reduceLT, reduceLeDiff, reduceToNat, eGraph, hlen, hmh, ho, ho', hn, hnh, eObj, hti, hti']; first | done | exact rfl) (by simp only [go_sem, reduceIte, reduceCtorEq, reduceEqDiff, reduceAdd, reduceLT, reduceLeDiff, reduceToNat, eGraph, hlen, hmh, ho, ho', hn, hnh, eObj, hti, hti']) (by simp only [go_sem, reduceIte, reduceCtorEq, reduceEqDiff, reduceAdd, reduceLT, reduceLeDiff, reduceToNat, eGraph, hlen, hmh, ho, ho', hn, hnh, eObj, hti, hti']) rfl ?_))
      all_goals (refine Seg.run htt 3 (by simp only [go_sem, reduceIte, reduceCtorEq, reduceEqDiff, reduceAdd, reduceLT, reduceLeDiff, reduceToNat, eGraph, hlen, hmh, ho, ho', hn, hnh, eObj, hti, hti']; exact rfl) ?_)
      all_goals (first | refine Seg.guard 62 (by simp only [go_sem, reduceIte, reduceCtorEq, reduceEqDiff, reduceAdd, reduceLT, reduceLeDiff, reduceToNat, eGraph, hlen, hmh, ho, ho', hn, hnh, eObj, hti, hti']; exact rfl) (fun g62 => ?_) (fun g62 => ?_) | skip)
      all_goals (first | (exfalso; simp at g62; done) | skip)
      all_goals (refine Seg.run htt 12 (by simp only [go_sem, reduceIte, reduceCtorEq, reduceEqDiff, reduceAdd, reduceLT, reduceLeDiff, reduceToNat, eGraph, hlen, hmh, ho, ho', hn, hnh, eObj, hti, hti']; exact rfl) ?_)
      all_goals (refine Seg.done ?_)
      all_goals (refine CWops.run htt 2 (by simp only [go_sem, reduceIte, reduceCtorEq, reduceEqDiff, reduceAdd, reduceLT, reduceLeDiff, reduceToNat, eGraph, hlen, hmh, ho, ho', hn, hnh, eObj, hti, hti']; exact rfl) (by simp [go_sem, reduceIte, reduceCtorEq, reduceEqDiff, reduceAdd, reduceLT, reduceLeDiff, reduceToNat, eGraph, hlen, hmh, ho, ho', hn, hnh, eObj, hti, hti']) ?_)
      all_goals (refine CWops.done ?_)
      all_goals (
        refine CW.cond (by simp only [go_sem, reduceIte, reduceCtorEq, reduceEqDiff, reduceAdd, reduceLT, reduceLeDiff, reduceToNat]; first | done | exact rfl) (fun ct76 => ?_) (fun ct76 => ?_)
        · exfalso; simp at ct76 
        · refine CW.skip ?_
          refine CW.seq ?_
          refine CW.drawn mixed 12 (by decide) (by kernel_rfl) (by kernel_rfl) (by kernel_rfl) ?_ -- r10
          refine Seg.run htt 12 (by simp only [go_sem, reduceIte, reduceCtorEq, reduceEqDiff, reduceAdd, reduceLT, reduceLeDiff, reduceToNat, eGraph, eSchema, ho, hn, eObj, hti, ha, hal, eType]; exact rfl) ?_
          refine Seg.done ?_
          refine CWops.run htt 1 (by simp only [go_sem, reduceIte, reduceCtorEq, reduceEqDiff, reduceAdd, reduceLT, reduceLeDiff, reduceToNat, eGraph, eSchema, ho, hn, eObj, hti, ha, hal, eType]; exact rfl) (by simp [go_sem, reduceIte, reduceCtorEq, reduceEqDiff, reduceAdd, reduceLT, reduceLeDiff, reduceToNat, eGraph, eSchema, ho, hn, eObj, hti, ha, hal, eType]) ?_
          refine CWops.done ?_
          refine CW.seq ?_
          refine CW.drawn mixed 12 (by decide) (by kernel_rfl) (by kernel_rfl) (by kernel_rfl) ?_ -- r11
          refine Seg.run htt 12 (by simp only [go_sem, reduceIte, reduceCtorEq, reduceEqDiff, reduceAdd, reduceLT, reduceLeDiff, reduceToNat, eGraph, eSchema, ho', hnh, eObj, hti', hb, hbl, eType]; exact rfl) ?_
          refine Seg.done ?_
          refine CWops.run htt 1 (by simp only [go_sem, reduceIte, reduceCtorEq, reduceEqDiff, reduceAdd, reduceLT, reduceLeDiff, reduceToNat, eGraph, eSchema, ho', hnh, eObj, hti', hb, hbl, eType]; exact rfl) (by simp [go_sem, reduceIte, reduceCtorEq, reduceEqDiff, reduceAdd, reduceLT, reduceLeDiff, reduceToNat, eGraph, eSchema, ho', hnh, eObj, hti', hb, hbl, eType]) ?_
          refine CWops.done ?_
          refine CW.seq ?_
          refine CW.seq ?_
          refine CW.region (by kernel_rfl) (by kernel_rfl) ?_ -- r12
          refine CWops.run htt 1 (by simp only [go_sem, reduceIte, reduceCtorEq, reduceEqDiff, reduceAdd, reduceLT, reduceLeDiff, reduceToNat]; exact rfl) (by simp [go_sem, reduceIte, reduceCtorEq, reduceEqDiff, reduceAdd, reduceLT, reduceLeDiff, reduceToNat]) ?_
          refine CWops.done ?_
          refine CW.block ?_
          refine CW.loop (S := Nat) (fun k => ⟨5, [(2, .int .i64 n), (3, .lv 0 [] 0), (4, .lv 1 [] 0), (9, .lv 2 [] 0), (11, .lv 3 [] 0), (12, .lv 4 [] 0), (13, .int .i64 k)], [(0, ⟨true, eGraph g⟩), (1, ⟨true, eStep x⟩), (2, ⟨true, eGraph h⟩), (3, ⟨true, eType a⟩), (4, ⟨true, eType b⟩)]⟩) (fun k => k ≤ b.F.length) (fun k => b.F.length - k) (0) ?_ (Nat.zero_le _) (fun k h1 => ?_)
          · refine Sh.wk0 ?_; simp [Wk, go_sem, reduceIte, reduceCtorEq, reduceEqDiff, reduceAdd, reduceLT, reduceLeDiff, reduceToNat, eGraph, eStep, eType]
          refine CW.seq ?_
          refine CW.seq ?_
          refine CW.region (by kernel_rfl) (by kernel_rfl) ?_ -- r13
          refine CWops.run htt 5 (by simp only [go_sem, reduceIte, reduceCtorEq, reduceEqDiff, reduceAdd, reduceLT, reduceLeDiff, reduceToNat, eType]; exact rfl) (by simp [go_sem, reduceIte, reduceCtorEq, reduceEqDiff, reduceAdd, reduceLT, reduceLeDiff, reduceToNat, eType]) ?_
          refine CWops.done ?_
          refine CW.cond (by simp only [go_sem, reduceIte, reduceCtorEq, reduceEqDiff, reduceAdd, reduceLT, reduceLeDiff, reduceToNat]; first | done | exact rfl) (fun ct103 => ?_) (fun ct103 => ?_)
          · have hk : k < b.F.length := by simpa using ct103
            obtain ⟨f, hf⟩ : ∃ f, b.F[k]? = some f := ⟨b.F[k], List.getElem?_eq_getElem hk⟩
            have hokl : k < o'.F.length := by omega
            have hcase : ∃ (j : Nat) (w z : GVal), (fnd (fun y => decide (y.Name = f.Name)) a.F = j ∧ o.F[j]? = some w ∧ j < o.F.length ∧ o'.F[k]? = some w ∧ z = w) ∨ (fnd (fun y => decide (y.Name = f.Name)) a.F = -1 ∧ True ∧ True ∧ o'.F[k]? = some (zeroV f) ∧ True) := by
              rcases hval k f hf with ⟨j, w, h1, h2, h3⟩ | ⟨h1, h2⟩
              · exact ⟨j, w, w, .inl ⟨h1, h2, (List.getElem?_eq_some_iff.1 h2).1, h3, rfl⟩⟩
              · exact ⟨0, zeroV f, zeroV f, .inr ⟨h1, trivial, trivial, h2, trivial⟩⟩
            refine CW.skip ?_
            refine CW.seq ?_
            refine CW.block ?_
            refine CW.seq ?_
            refine CW.drawn mixed 7 (by decide) (by kernel_rfl) (by kernel_rfl) (by kernel_rfl) ?_ -- r15
            refine Seg.run htt 7 (by simp only [go_sem, reduceIte, reduceCtorEq, reduceEqDiff, reduceAdd, reduceLT, reduceLeDiff, reduceToNat, eType, hk, hf, eField]; exact rfl) ?_
            refine Seg.done ?_
            refine CWops.call (schema_Field up a f.Name) (by simp only [go_sem, reduceIte, reduceCtorEq, reduceEqDiff, reduceAdd, reduceLT, reduceLeDiff, reduceToNat, eType, hk, hf, eField]) (by simp only [go_sem, reduceIte, reduceCtorEq, reduceEqDiff, reduceAdd, reduceLT, reduceLeDiff, reduceToNat, eType, hk, hf, eField]; first | done | exact rfl) (by simp only [go_sem, reduceIte, reduceCtorEq, reduceEqDiff, reduceAdd, reduceLT, reduceLeDiff, reduceToNat, eType, hk, hf, eField]) (fun rt113 hrt113 => ?_)
            subst hrt113; refine ⟨rfl, ?_⟩
            refine CWops.run htt 1 (by simp only [go_sem, reduceIte, reduceCtorEq, reduceEqDiff, reduceAdd, reduceLT, reduceLeDiff, reduceToNat, eType, hk, hf, eField]; exact rfl) (by simp [go_sem, reduceIte, reduceCtorEq, reduceEqDiff, reduceAdd, reduceLT, reduceLeDiff, reduceToNat, eType, hk, hf, eField]) ?_
            refine CWops.done ?_
            refine CW.cut ⟨5, [(2, .int .i64 n), (3, .lv 0 [] 0), (4, .lv 1 [] 0), (9, .lv 2 [] 0), (11, .lv 3 [] 0), (12, .lv 4 [] 0), (13, .int .i64 k), (158, .bool false)], [(0, ⟨true, eGraph g⟩), (1, ⟨true, eStep x⟩), (2, ⟨true, eGraph h⟩), (3, ⟨true, eType a⟩), (4, ⟨true, eType b⟩)]⟩ ?_ ?_
            · obtain ⟨j, w, z, hcase⟩ := hcase
              rcases hcase with ⟨hj, hjw, hjl, hok, hz⟩ | ⟨hj, hjw, hjl, hok, hz⟩
              all_goals (refine CW.drawn mixed 42 (by decide) (by kernel_rfl) (by kernel_rfl) (by kernel_rfl) ?_) -- r16
              all_goals (refine Seg.run htt 3 (by simp only [go_sem, reduceIte, reduceCtorEq, reduceEqDiff, reduceAdd, reduceLT, reduceLeDiff, reduceToNat, hj, eGraph, ho, hn, eObj, hjw, hjl, eVal, ho', hnh, hok, hokl, eType, hk, hf, eField]; exact rfl) ?_)
              all_goals (first | refine Seg.guard 116 (by simp only [go_sem, reduceIte, reduceCtorEq, reduceEqDiff, reduceAdd, reduceLT, reduceLeDiff, reduceToNat, hj, eGraph, ho, hn, eObj, hjw, hjl, eVal, ho', hnh, hok, hokl, eType, hk, hf, eField]; exact rfl) (fun g116 => ?_) (fun g116 => ?_) | skip)
              all_goals (first | (exfalso; simp at g116; done) | (exfalso; simp at g116; omega) | skip)
              all_goals (refine Seg.run htt 21 (by simp only [go_sem, reduceIte, reduceCtorEq, reduceEqDiff, reduceAdd, reduceLT, reduceLeDiff, reduceToNat, hj, eGraph, ho, hn, eObj, hjw, hjl, eVal, ho', hnh, hok, hokl, eType, hk, hf, eField]; exact rfl) ?_)
              all_goals (first | refine Seg.guard 137 (by simp only [go_sem, reduceIte, reduceCtorEq, reduceEqDiff, reduceAdd, reduceLT, reduceLeDiff, reduceToNat, hj, eGraph, ho, hn, eObj, hjw, hjl, eVal, ho', hnh, hok, hokl, eType, hk, hf, eField]; exact rfl) (fun g137 => ?_) (fun g137 => ?_) | skip)
              all_goals (skip)
              all_goals (refine Seg.run htt 3 (by simp only [go_sem, reduceIte, reduceCtorEq, reduceEqDiff, reduceAdd, reduceLT, reduceLeDiff, reduceToNat, hj, eGraph, ho, hn, eObj, hjw, hjl, eVal, ho', hnh, hok, hokl, eType, hk, hf, eField]; exact rfl) ?_)
              all_goals (first | refine Seg.guard 140 (by simp only [go_sem, reduceIte, reduceCtorEq, reduceEqDiff, reduceAdd, reduceLT, reduceLeDiff, reduceToNat, hj, eGraph, ho, hn, eObj, hjw, hjl, eVal, ho', hnh, hok, hokl, eType, hk, hf, eField]; exact rfl) (fun g140 => ?_) (fun g140 => ?_) | skip)
              all_goals (first | (exfalso; simp at g140; done) | (exfalso; simp at g140; omega) | skip)
              all_goals (refine Seg.run htt 14 (by simp only [go_sem, reduceIte, reduceCtorEq, reduceEqDiff, reduceAdd, reduceLT, reduceLeDiff, reduceToNat, hj, eGraph, ho, hn, eObj, hjw, hjl, eVal, ho', hnh, hok, hokl, eType, hk, hf, eField]; exact rfl) ?_)
              all_goals (first | (refine Seg.skip ?_ ?_; next => (simp only [go_sem, reduceIte, reduceCtorEq, reduceEqDiff, reduceAdd, reduceLT, reduceLeDiff, reduceToNat]; done)) | (refine Seg.callA (value_Zero up f) (by simp only [go_sem, reduceIte, reduceCtorEq, reduceEqDiff, reduceAdd, reduceLT, reduceLeDiff, reduceToNat, hj, eGraph, ho, hn, eObj, hjw, hjl, eVal, ho', hnh, hok, hokl, eType, hk, hf, eField]) (by simp only [go_sem, reduceIte, reduceCtorEq, reduceEqDiff, reduceAdd, reduceLT, reduceLeDiff, reduceToNat, hj, eGraph, ho, hn, eObj, hjw, hjl, eVal, ho', hnh, hok, hokl, eType, hk, hf, eField]; first | done | exact rfl) (by simp only [go_sem, reduceIte, reduceCtorEq, reduceEqDiff, reduceAdd, reduceLT, reduceLeDiff, reduceToNat, hj, eGraph, ho, hn, eObj, hjw, hjl, eVal, ho', hnh, hok, hokl, eType, hk, hf, eField]) (by simp only [go_sem, reduceIte, reduceCtorEq, reduceEqDiff, reduceAdd, reduceLT, reduceLeDiff, reduceToNat, hj, eGraph, ho, hn, eObj, hjw, hjl, eVal, ho', hnh, hok, hokl, eType, hk, hf, eField]) ?_))
              all_goals (refine Seg.done ?_)
              all_goals (refine CWops.run htt 3 (by simp only [go_sem, reduceIte, reduceCtorEq, reduceEqDiff, reduceAdd, reduceLT, reduceLeDiff, reduceToNat, hj, eGraph, ho, hn, eObj, hjw, hjl, eVal, ho', hnh, hok, hokl, eType, hk, hf, eField]; exact rfl) (by simp [go_sem, reduceIte, reduceCtorEq, reduceEqDiff, reduceAdd, reduceLT, reduceLeDiff, reduceToNat, hj, eGraph, ho, hn, eObj, hjw, hjl, eVal, ho', hnh, hok, hokl, eType, hk, hf, eField]) ?_)
              all_goals (refine CWops.done ?_)
              all_goals (
                first | refine ⟨rfl, Sh.wk0 ?_⟩ | refine Sh.wk0 ?_
                first | (simp [Wk, go_sem, reduceIte, reduceCtorEq, reduceEqDiff, reduceAdd, reduceLT, reduceLeDiff, reduceToNat, eGraph, eStep, eType, hj]; done) | (simp_all [Wk, go_sem, reduceIte, reduceCtorEq, reduceEqDiff, reduceAdd, reduceLT, reduceLeDiff, reduceToNat, eGraph, eStep, eType]; done) | (simp_all [Wk, go_sem, reduceIte, reduceCtorEq, reduceEqDiff, reduceAdd, reduceLT, reduceLeDiff, reduceToNat, eGraph, eStep, eType]; omega))
            refine CW.cond (by simp only [go_sem, reduceIte, reduceCtorEq, reduceEqDiff, reduceAdd, reduceLT, reduceLeDiff, reduceToNat]; first | done | exact rfl) (fun ct158 => ?_) (fun ct158 => ?_)
            · cases ct158 
            · refine CW.skip ?_
              refine CW.region (by kernel_rfl) (by kernel_rfl) ?_ -- r14
              refine CWops.run htt 3 (by simp only [go_sem, reduceIte, reduceCtorEq, reduceEqDiff, reduceAdd, reduceLT, reduceLeDiff, reduceToNat, wrap_succ (show k < MX by unfold MX; omega)]; exact rfl) (by simp [go_sem, reduceIte, reduceCtorEq, reduceEqDiff, reduceAdd, reduceLT, reduceLeDiff, reduceToNat, wrap_succ (show k < MX by unfold MX; omega)]) ?_
              refine CWops.done ?_
              refine ⟨k + 1, ?_, ?_, ?_⟩
              · refine Sh.wk0 ?_; simp [Wk, go_sem, reduceIte, reduceCtorEq, reduceEqDiff, reduceAdd, reduceLT, reduceLeDiff, reduceToNat, eGraph, eStep, eType]
              · exact hk
              · simp only; omega
          · refine CW.exit ?_
            refine CW.seq ?_
            refine CW.seq ?_
            refine CW.region (by kernel_rfl) (by kernel_rfl) ?_ -- r18
            refine CWops.run htt 5 (by simp only [go_sem, reduceIte, reduceCtorEq, reduceEqDiff, reduceAdd, reduceLT, reduceLeDiff, reduceToNat, eType, eStep]; exact rfl) (by simp [go_sem, reduceIte, reduceCtorEq, reduceEqDiff, reduceAdd, reduceLT, reduceLeDiff, reduceToNat, eType, eStep]) ?_
            refine CWops.done ?_
            refine CW.cond (by simp only [go_sem, reduceIte, reduceCtorEq, reduceEqDiff, reduceAdd, reduceLT, reduceLeDiff, reduceToNat]; first | done | exact rfl) (fun ct163 => ?_) (fun ct163 => ?_)
            · have hN : a.Name ≠ x.Ty := by simpa using ct163
              have hl := hne hN
              refine CW.seq ?_
              refine CW.region (by kernel_rfl) (by kernel_rfl) ?_ -- r19
              refine CWops.run htt 8 (by simp only [go_sem, reduceIte, reduceCtorEq, reduceEqDiff, reduceAdd, reduceLT, reduceLeDiff, reduceToNat, eType]; exact rfl) (by simp [go_sem, reduceIte, reduceCtorEq, reduceEqDiff, reduceAdd, reduceLT, reduceLeDiff, reduceToNat, eType]) ?_
              refine CWops.done ?_
              refine CW.ret ?_
              refine retQ.ret (by simp only [f3, go_sem, reduceIte, reduceCtorEq, reduceEqDiff, reduceAdd, reduceLT, reduceLeDiff, reduceToNat]; exact rfl) (by simp only [go_sem, reduceIte, reduceCtorEq, reduceEqDiff, reduceAdd, reduceLT, reduceLeDiff, reduceToNat]; exact rfl) ?_ -- ret3
              refine ⟨_, ?_, rfl⟩
              first | (simp [leP]; done) | (simp [leP, hl]; done) | (simp_all [leP]; done) | (simp [leP]; simp [hd0] at hl; omega) | (simp [leP]; simp [hd0, hd1] at hl; omega)
            · have hN : a.Name = x.Ty := by simpa using ct163
              have hl := hsame hN
              have hwA : IntKind.i64.wrap ((a.F.length : Int) + 1) = (a.F.length : Int) + 1 := by rw [wrap_id (by omega) (by omega)]
              have hw0 : IntKind.i64.wrap ((a.F.length : Int)) = (a.F.length : Int) := by rw [wrap_id (by omega) (by omega)]
              have hwD : IntKind.i64.wrap ((a.F.length : Int) + (-1)) = (a.F.length : Int) + (-1) := by rw [wrap_id (by omega) (by omega)]
              refine CW.skip ?_
              refine CW.seq ?_
              refine CW.region (by kernel_rfl) (by kernel_rfl) ?_ -- r20
              refine CWops.run htt 1 (by simp only [go_sem, reduceIte, reduceCtorEq, reduceEqDiff, reduceAdd, reduceLT, reduceLeDiff, reduceToNat]; exact rfl) (by simp [go_sem, reduceIte, reduceCtorEq, reduceEqDiff, reduceAdd, reduceLT, reduceLeDiff, reduceToNat]) ?_
              refine CWops.done ?_
              refine CW.seq ?_
              refine CW.seq ?_
              refine CW.region (by kernel_rfl) (by kernel_rfl) ?_ -- r21
              refine CWops.run htt 3 (by simp only [go_sem, reduceIte, reduceCtorEq, reduceEqDiff, reduceAdd, reduceLT, reduceLeDiff, reduceToNat, eStep]; exact rfl) (by simp [go_sem, reduceIte, reduceCtorEq, reduceEqDiff, reduceAdd, reduceLT, reduceLeDiff, reduceToNat, eStep]) ?_
              refine CWops.done ?_
              refine CW.cond (by simp only [go_sem, reduceIte, reduceCtorEq, reduceEqDiff, reduceAdd, reduceLT, reduceLeDiff, reduceToNat]; first | done | exact rfl) (fun ct173 => ?_) (fun ct173 => ?_)
              · have hd0 : x.Do = 0 := by simpa using ct173
                refine CW.region (by kernel_rfl) (by kernel_rfl) ?_ -- r22
                refine CWops.run htt 1 (by simp only [go_sem, reduceIte, reduceCtorEq, reduceEqDiff, reduceAdd, reduceLT, reduceLeDiff, reduceToNat]; exact rfl) (by simp [go_sem, reduceIte, reduceCtorEq, reduceEqDiff, reduceAdd, reduceLT, reduceLeDiff, reduceToNat]) ?_
                refine CWops.done ?_
                refine CW.seq ?_
                refine CW.seq ?_
                refine CW.region (by kernel_rfl) (by kernel_rfl) ?_ -- r23
                refine CWops.run htt 3 (by simp only [go_sem, reduceIte, reduceCtorEq, reduceEqDiff, reduceAdd, reduceLT, reduceLeDiff, reduceToNat, eStep]; exact rfl) (by simp [go_sem, reduceIte, reduceCtorEq, reduceEqDiff, reduceAdd, reduceLT, reduceLeDiff, reduceToNat, eStep]) ?_
                refine CWops.done ?_
                refine CW.cond (by simp only [go_sem, reduceIte, reduceCtorEq, reduceEqDiff, reduceAdd, reduceLT, reduceLeDiff, reduceToNat]; first | done | exact rfl) (fun ct176 => ?_) (fun ct176 => ?_)
                · have hd1 : x.Do = 1 := by simpa using ct176
                  refine CW.region (by kernel_rfl) (by kernel_rfl) ?_ -- r24
                  refine CWops.run htt 1 (by simp only [go_sem, reduceIte, reduceCtorEq, reduceEqDiff, reduceAdd, reduceLT, reduceLeDiff, reduceToNat]; exact rfl) (by simp [go_sem, reduceIte, reduceCtorEq, reduceEqDiff, reduceAdd, reduceLT, reduceLeDiff, reduceToNat]) ?_
                  refine CWops.done ?_
                  refine CW.seq ?_
                  refine CW.region (by kernel_rfl) (by kernel_rfl) ?_ -- r25
                  refine CWops.run htt 10 (by simp only [go_sem, reduceIte, reduceCtorEq, reduceEqDiff, reduceAdd, reduceLT, reduceLeDiff, reduceToNat, eType, hwA, hwD, hw0]; exact rfl) (by simp [go_sem, reduceIte, reduceCtorEq, reduceEqDiff, reduceAdd, reduceLT, reduceLeDiff, reduceToNat, eType, hwA, hwD, hw0]) ?_
                  refine CWops.done ?_
                  refine CW.ret ?_
                  refine retQ.ret (by simp only [f3, go_sem, reduceIte, reduceCtorEq, reduceEqDiff, reduceAdd, reduceLT, reduceLeDiff, reduceToNat]; exact rfl) (by simp only [go_sem, reduceIte, reduceCtorEq, reduceEqDiff, reduceAdd, reduceLT, reduceLeDiff, reduceToNat]; exact rfl) ?_ -- ret4
                  refine ⟨_, ?_, rfl⟩
                  first | (simp [leP]; done) | (simp [leP, hl]; done) | (simp_all [leP]; done) | (simp [leP]; simp [hd0] at hl; omega) | (simp [leP]; simp [hd0, hd1] at hl; omega)
                · have hd1 : ¬ x.Do = 1 := by simpa using ct176
                  refine CW.skip ?_
                  refine CW.seq ?_
                  refine CW.region (by kernel_rfl) (by kernel_rfl) ?_ -- r25
                  refine CWops.run htt 10 (by simp only [go_sem, reduceIte, reduceCtorEq, reduceEqDiff, reduceAdd, reduceLT, reduceLeDiff, reduceToNat, eType, hwA, hwD, hw0]; exact rfl) (by simp [go_sem, reduceIte, reduceCtorEq, reduceEqDiff, reduceAdd, reduceLT, reduceLeDiff, reduceToNat, eType, hwA, hwD, hw0]) ?_
                  refine CWops.done ?_
                  refine CW.ret ?_
                  refine retQ.ret (by simp only [f3, go_sem, reduceIte, reduceCtorEq, reduceEqDiff, reduceAdd, reduceLT, reduceLeDiff, reduceToNat]; exact rfl) (by simp only [go_sem, reduceIte, reduceCtorEq, reduceEqDiff, reduceAdd, reduceLT, reduceLeDiff, reduceToNat]; exact rfl) ?_ -- ret5
                  refine ⟨_, ?_, rfl⟩
                  first | (simp [leP]; done) | (simp [leP, hl]; done) | (simp_all [leP]; done) | (simp [leP]; simp [hd0] at hl; omega) | (simp [leP]; simp [hd0, hd1] at hl; omega)
              · have hd0 : ¬ x.Do = 0 := by simpa using ct173
                refine CW.skip ?_
                refine CW.seq ?_
                refine CW.seq ?_
                refine CW.region (by kernel_rfl) (by kernel_rfl) ?_ -- r23
                refine CWops.run htt 3 (by simp only [go_sem, reduceIte, reduceCtorEq, reduceEqDiff, reduceAdd, reduceLT, reduceLeDiff, reduceToNat, eStep]; exact rfl) (by simp [go_sem, reduceIte, reduceCtorEq, reduceEqDiff, reduceAdd, reduceLT, reduceLeDiff, reduceToNat, eStep]) ?_
                refine CWops.done ?_
                refine CW.cond (by simp only [go_sem, reduceIte, reduceCtorEq, reduceEqDiff, reduceAdd, reduceLT, reduceLeDiff, reduceToNat]; first | done | exact rfl) (fun ct176 => ?_) (fun ct176 => ?_)
                · have hd1 : x.Do = 1 := by simpa using ct176
                  refine CW.region (by kernel_rfl) (by kernel_rfl) ?_ -- r24
                  refine CWops.run htt 1 (by simp only [go_sem, reduceIte, reduceCtorEq, reduceEqDiff, reduceAdd, reduceLT, reduceLeDiff, reduceToNat]; exact rfl) (by simp [go_sem, reduceIte, reduceCtorEq, reduceEqDiff, reduceAdd, reduceLT, reduceLeDiff, reduceToNat]) ?_
                  refine CWops.done ?_
                  refine CW.seq ?_
                  refine CW.region (by kernel_rfl) (by kernel_rfl) ?_ -- r25
                  refine CWops.run htt 10 (by simp only [go_sem, reduceIte, reduceCtorEq, reduceEqDiff, reduceAdd, reduceLT, reduceLeDiff, reduceToNat, eType, hwA, hwD, hw0]; exact rfl) (by simp [go_sem, reduceIte, reduceCtorEq, reduceEqDiff, reduceAdd, reduceLT, reduceLeDiff, reduceToNat, eType, hwA, hwD, hw0]) ?_
                  refine CWops.done ?_
                  refine CW.ret ?_
                  refine retQ.ret (by simp only [f3, go_sem, reduceIte, reduceCtorEq, reduceEqDiff, reduceAdd, reduceLT, reduceLeDiff, reduceToNat]; exact rfl) (by simp only [go_sem, reduceIte, reduceCtorEq, reduceEqDiff, reduceAdd, reduceLT, reduceLeDiff, reduceToNat]; exact rfl) ?_ -- ret6
                  refine ⟨_, ?_, rfl⟩
                  first | (simp [leP]; done) | (simp [leP, hl]; done) | (simp_all [leP]; done) | (simp [leP]; simp [hd0] at hl; omega) | (simp [leP]; simp [hd0, hd1] at hl; omega)
                · have hd1 : ¬ x.Do = 1 := by simpa using ct176
                  refine CW.skip ?_
                  refine CW.seq ?_
                  refine CW.region (by kernel_rfl) (by kernel_rfl) ?_ -- r25
                  refine CWops.run htt 10 (by simp only [go_sem, reduceIte, reduceCtorEq, reduceEqDiff, reduceAdd, reduceLT, reduceLeDiff, reduceToNat, eType, hwA, hwD, hw0]; exact rfl) (by simp [go_sem, reduceIte, reduceCtorEq, reduceEqDiff, reduceAdd, reduceLT, reduceLeDiff, reduceToNat, eType, hwA, hwD, hw0]) ?_
                  refine CWops.done ?_
                  refine CW.ret ?_
                  refine retQ.ret (by simp only [f3, go_sem, reduceIte, reduceCtorEq, reduceEqDiff, reduceAdd, reduceLT, reduceLeDiff, reduceToNat]; exact rfl) (by simp only [go_sem, reduceIte, reduceCtorEq, reduceEqDiff, reduceAdd, reduceLT, reduceLeDiff, reduceToNat]; exact rfl) ?_ -- ret7
                  refine ⟨_, ?_, rfl⟩
                  first | (simp [leP]; done) | (simp [leP, hl]; done) | (simp_all [leP]; done) | (simp [leP]; simp [hd0] at hl; omega) | (simp [leP]; simp [hd0, hd1] at hl; omega))
end Go.Ab
