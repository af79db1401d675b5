/-
  What functions of the program answer: each by its contract. No condition but those of each theorem.
-/
import Derived.WalkKit
import Derived.Below
import Derived.Scope
import Derived.Test.YtgnkdehaknhieaaProg
import Derived.Orders
import Derived.Still
import Derived.Deep.RegionLaw
import Derived.Lib.AppendZerosOnto
import Derived.Lib.Walk
import Derived.Lib.SliceRun
import Derived.Test.YtgnkdehaknhieaaFa
import Derived.Test.YtgnkdehaknhieaaFb
import Derived.Test.YtgnkdehaknhieaaFc
import Derived.Test.YtgnkdehaknhieaaFd
import Derived.Test.YtgnkdehaknhieaaFe
import Derived.Test.YtgnkdehaknhieaaFf
import Derived.Test.YtgnkdehaknhieaaDa
import Derived.Test.YtgnkdehaknhieaaVa
set_option linter.unusedVariables false
set_option linter.unusedSimpArgs false
namespace Go.Ab
open Go Go.Proofs.Try
open Nat (reduceEqDiff reduceAdd reduceLT reduceLeDiff reduceBEq reduceSub reduceMul)
open Int (reduceToNat)
set_option maxRecDepth 100000
set_option maxHeartbeats 1600000
set_option linter.unusedSimpArgs false
set_option linter.unusedVariables false
theorem do_step (up : Bool) (s : List GType) (x : GStep) (h1 : s.length * 40 ≤ MX) (h2 : ∀ x ∈ s, x.F.length * 40 ≤ MX) (hb : (schemaMay s && (decide (0 ≤ x.Do) && decide (x.Do < 3))) = true) (t : Nat) (hf : fnd (fun o => decide (o.Name = x.Ty)) s = t) (ty : GType) (hS : s[t]? = some ty) (at_ : Int) (ha : fnd (fun o => decide (o.Name = x.F.Name)) ty.F = at_) (e : Int) (s2 : List GType) (fm : FuncId) (hsel : (x.Do = 0 ∧ fm = 92) ∨ (x.Do = 1 ∧ fm = 93) ∨ (x.Do = 2 ∧ fm = 91)) (hcall : GCall prog up fm [.lv 1 [] 0] 2 [(0, ⟨false, [.own 2 (List.map eTypeO (s))]⟩), (1, ⟨true, eWork 0 x (t : Int) (at_)⟩)] (fun r σ' => r = .int .i64 (e) ∧ ∃ tt, σ' = ⟨2, tt, [(0, ⟨false, [.own 2 (List.map eTypeO (s2))]⟩), (1, ⟨true, eWork 0 x (t : Int) (at_)⟩)]⟩)) : GCall prog up 43 [.agg (eSchema s), .agg (eStep x)] 0 [] (fun r σ' => (e = 0 ∧ r = .tup [.lv 1 [] 0, .int .i64 0] ∧ σ'.n = 2 ∧ σ'.s = [(0, ⟨false, [.own 2 (List.map eTypeO (s2))]⟩), (1, ⟨true, eWork 0 x (t : Int) (at_)⟩)]) ∨ (e ≠ 0 ∧ r = .tup [.nilp, .int .i64 e] ∧ σ'.n = 0 ∧ σ'.s = [])) := by
  refine GCall.intro htt 0 func43 (by kernel_rfl) rfl (Nat.le_of_ble_eq_true rfl) (CW.told ?_)
  have htl : t < s.length := (List.getElem?_eq_some_iff.1 hS).1
  simp only [tmps0, Nat.reduceAdd]
  refine CW.seq ?_
  refine CW.rg ?_
  refine CWops.run htt 4 (by simp only [go_sem, simprocAttr, eSchema, eStep]; exact rfl) (by simp [go_sem, simprocAttr, eSchema, eStep]) ?_
  refine CWops.done ?_
  refine CW.seq ?_
  refine CW.cut ⟨2, [(2, .lv 0 [] 0), (3, .lv 1 [] 0), (21, .bool (!(schemaMay s && (decide (0 ≤ x.Do) && decide (x.Do < 3)))))], [(0, ⟨true, eSchema s⟩), (1, ⟨true, eStep x⟩)]⟩ ?_ ?_
  · refine CW.rg ?_
    refine CWops.run htt 1 (by simp only [go_sem, simprocAttr, eSchema, eStep]; exact rfl) (by simp [go_sem, simprocAttr, eSchema, eStep]) ?_
    refine CWops.call (schema_May up s) (by simp only [go_sem, simprocAttr, eSchema, eStep]) (by simp only [go_sem, simprocAttr, eSchema, eStep]; first | done | exact rfl) (by simp only [go_sem, simprocAttr, eSchema, eStep]) (fun rt10 hrt10 => ?_)
    subst hrt10; refine ⟨rfl, ?_⟩
    refine CWops.run htt 2 (by simp only [go_sem, simprocAttr, eSchema, eStep]; exact rfl) (by simp [go_sem, simprocAttr, eSchema, eStep]) ?_
    all_goals (first | refine CWops.guard 12 (by simp only [go_sem, simprocAttr, eSchema, eStep]; exact rfl) (fun g12 => ?_) (fun g12 => ?_) | skip)
    all_goals (refine CWops.run htt 5 (by simp only [go_sem, simprocAttr, eSchema, eStep]; exact rfl) (by simp [go_sem, simprocAttr, eSchema, eStep]) ?_)
    all_goals (first | refine CWops.guard 17 (by simp only [go_sem, simprocAttr, eSchema, eStep]; exact rfl) (fun g17 => ?_) (fun g17 => ?_) | skip)
    all_goals (refine CWops.run htt 4 (by simp only [go_sem, simprocAttr, eSchema, eStep]; exact rfl) (by simp [go_sem, simprocAttr, eSchema, eStep]) ?_)
    all_goals (refine CWops.done ?_)
    all_goals (
      first | refine ⟨rfl, Sh.wk0 ?_⟩ | refine Sh.wk0 ?_
      by_cases b1 : 0 ≤ x.Do <;> by_cases b2 : x.Do < 3 <;> cases hsm : schemaMay s <;> simp_all [Wk, go_sem, simprocAttr, eSchema, eStep] <;> first | done | omega)
  refine CW.cond (by simp only [go_sem, simprocAttr]; first | done | exact rfl) (fun ct21 => ?_) (fun ct21 => ?_)
  · rw [hb] at ct21; cases ct21 
  · refine CW.skip ?_
    refine CW.seq ?_
    refine CW.drawn mixed 7 (by decide) (by kernel_rfl) (by kernel_rfl) (by kernel_rfl) ?_
    refine Seg.run htt 1 (by simp only [go_sem, simprocAttr, eSchema, eStep, hf]; exact rfl) ?_
    refine Seg.callNA (grade_own1 up s h1 h2) (by simp only [go_sem, simprocAttr]) (by simp only [go_sem, simprocAttr]; first | done | exact rfl) (by simp [go_sem, simprocAttr, eSchema]) ?_
    refine Seg.run htt 4 (by simp only [go_sem, simprocAttr, eSchema, eStep, hf]; exact rfl) ?_
    refine Seg.call (schema_Find up s x.Ty) (by simp only [go_sem, simprocAttr, eSchema, eStep, hf]) (by simp only [go_sem, simprocAttr, eSchema, eStep, hf]; first | done | exact rfl) (by simp only [go_sem, simprocAttr, eSchema, eStep, hf]) (by simp only [go_sem, simprocAttr, eSchema, eStep, hf]) rfl ?_
    refine Seg.done ?_
    refine CWops.run htt 3 (by simp only [go_sem, simprocAttr, eSchema, eStep, hf]; exact rfl) (by simp [go_sem, simprocAttr, eSchema, eStep, hf]) ?_
    refine CWops.done ?_
    refine CW.seq ?_
    refine CW.seq ?_
    refine CW.sh (Sh.out 3 0 rfl rfl rfl) ?_
    simp only [go_sem, simprocAttr, mapT, mapS, outF, List.map_cons, List.map_nil, putAt, List.set_cons_zero, List.set_cons_succ]
    refine CW.rg ?_
    refine CWops.rn htt 5 ?_
    refine CWops.done ?_
    refine CW.cond (by simp only [go_sem, simprocAttr]; first | done | exact rfl) (fun ct35 => ?_) (fun ct35 => ?_)
    · exfalso; revert ct35; simp <;> omega 
    · refine CW.skip ?_
      refine CW.seq ?_
      refine CW.drawn mixed 9 (by decide) (by kernel_rfl) (by kernel_rfl) (by kernel_rfl) ?_
      refine Seg.run htt 2 (by simp only [go_sem, simprocAttr, eStep, hS, htl, eTypeO, eType, ha]; exact rfl) ?_
      refine Seg.callR (v := .lv 4 [(0, t)] 0) (by simp only [go_sem, simprocAttr]) (by simp only [go_sem, simprocAttr]; first | done | exact rfl) (fun n s' hs => by simp only [go_sem, simprocAttr]; exact kind_R 3 4 t _ _ _ _ _ _ false (s.map eTypeO) n s' (hs _ _ rfl) (hs _ _ rfl) (by simpa using htl)) ?_
      refine Seg.run htt 5 (by simp only [go_sem, simprocAttr, eStep, hS, htl, eTypeO, eType, ha]; exact rfl) ?_
      refine Seg.call (schema_Field up ty x.F.Name) (by simp only [go_sem, simprocAttr, eStep, hS, htl, eTypeO, eType, ha]) (by simp only [go_sem, simprocAttr, eStep, hS, htl, eTypeO, eType, ha]; first | done | exact rfl) (by simp only [go_sem, simprocAttr, eStep, hS, htl, eTypeO, eType, ha]) (by simp only [go_sem, simprocAttr, eStep, hS, htl, eTypeO, eType, ha]) rfl ?_
      refine Seg.done ?_
      refine CWops.run htt 3 (by simp only [go_sem, simprocAttr, eStep, hS, htl, eTypeO, eType, ha]; exact rfl) (by simp [go_sem, simprocAttr, eStep, hS, htl, eTypeO, eType, ha]) ?_
      refine CWops.done ?_
      refine CW.seq ?_
      refine CW.rg ?_
      refine CWops.run htt 3 (by simp only [go_sem, simprocAttr, eStep]; exact rfl) (by simp [go_sem, simprocAttr, eStep]) ?_
      refine CWops.done ?_
      refine CW.seq ?_
      refine CW.seq ?_
      refine CW.rg ?_
      refine CWops.run htt 2 (by simp only [go_sem, simprocAttr, eStep]; exact rfl) (by simp [go_sem, simprocAttr, eStep]) ?_
      refine CWops.done ?_
      refine CW.block ?_
      refine CW.seq ?_
      refine CW.rg ?_
      refine CWops.rn htt 2 ?_
      refine CWops.done ?_
      refine CW.cond (by simp only [go_sem, simprocAttr]; first | done | exact rfl) (fun ct51 => ?_) (fun ct51 => ?_)
      · have hd : x.Do = 0 := by simpa using ct51
        have hfm : fm = 92 := by rcases hsel with ⟨h, h'⟩ | ⟨h, h'⟩ | ⟨h, h'⟩ <;> first | exact h' | (exfalso; omega)
        subst hfm
        refine CW.rg ?_
        refine CWops.rn htt 3 ?_
        refine CWops.done ?_
        refine CW.seq ?_
        refine CW.seq ?_
        refine CW.rg ?_
        refine CWops.rn htt 1 ?_
        refine CWops.callG [4, 3] rfl (hcall) (by simp only [go_sem, simprocAttr]) (by simp only [go_sem, simprocAttr]; first | done | exact rfl) (by decide) (by simp [go_sem, simprocAttr, mName, memB, eWork]) (by simp [go_sem, simprocAttr, mName]) (by simp [go_sem, simprocAttr]) (by intro y hy; rcases y with _ | _ | y <;> first | (simp [go_sem, simprocAttr]; done) | (exfalso; simp at hy; done) | (exfalso; simp at hy; omega)) (by simp [go_sem, simprocAttr, mName]) (fun r σ' hσ => ?_)
        obtain ⟨rfl, tt, rfl⟩ := hσ
        simp only [aftS, renS, delAll, memB, mName, List.getD_nil, killH, kref, ren, Nat.beq_eq, go_sem, simprocAttr, eWork]
        refine CWops.rn htt 1 ?_
        refine CWops.done ?_
        refine CW.seq ?_
        refine CW.rg ?_
        refine CWops.rn htt 2 ?_
        refine CWops.done ?_
        refine CW.cond (by simp only [go_sem, simprocAttr]; first | done | exact rfl) (fun ct62 => ?_) (fun ct62 => ?_)
        · refine CW.seq ?_
          refine CW.rg ?_
          refine CWops.rn htt 3 ?_
          refine CWops.done ?_
          refine CW.ret ?_
          refine ⟨⟨0, [(4, .nilp), (5, .int .i64 e)], []⟩, ?_, .inr rfl, by simp [ptrOK, go_sem, simprocAttr], _, by simp only [f43, go_sem, simprocAttr]; exact rfl, ?_⟩ -- ret1
          · refine Sh.wk0 ?_
            simp [Wk, go_sem, simprocAttr]
          · exact .inr ⟨by simpa using ct62, rfl, rfl, rfl⟩
        · refine CW.skip ?_
          refine CW.seq ?_
          refine CW.rg ?_
          refine CWops.rn htt 3 ?_
          refine CWops.done ?_
          refine CW.ret ?_
          refine ⟨⟨2, [(4, .lv 1 [] 0), (5, .int .i64 0)], [(0, ⟨false, [.own 2 (List.map eTypeO (s2))]⟩), (1, ⟨true, eWork 0 x (t : Int) (at_)⟩)]⟩, ?_, .inr rfl, by simp [ptrOK, go_sem, simprocAttr], _, by simp only [f43, go_sem, simprocAttr]; exact rfl, ?_⟩ -- ret2
          · refine Sh.wk (fun x => if x = 0 then 4 else if x = 1 then 3 else x) ?_
            simp [Wk, go_sem, simprocAttr, eWork]
          · exact .inl ⟨by simpa using ct62, rfl, rfl, rfl⟩
      · have hd0 : ¬ x.Do = 0 := by simpa using ct51
        refine CW.seq ?_
        refine CW.rg ?_
        refine CWops.rn htt 2 ?_
        refine CWops.done ?_
        refine CW.cond (by simp only [go_sem, simprocAttr]; first | done | exact rfl) (fun ct55 => ?_) (fun ct55 => ?_)
        · have hd : x.Do = 1 := by simpa using ct55
          have hfm : fm = 93 := by rcases hsel with ⟨h, h'⟩ | ⟨h, h'⟩ | ⟨h, h'⟩ <;> first | exact h' | (exfalso; omega)
          subst hfm
          refine CW.rg ?_
          refine CWops.rn htt 3 ?_
          refine CWops.done ?_
          refine CW.seq ?_
          refine CW.seq ?_
          refine CW.rg ?_
          refine CWops.rn htt 1 ?_
          refine CWops.callG [4, 3] rfl (hcall) (by simp only [go_sem, simprocAttr]) (by simp only [go_sem, simprocAttr]; first | done | exact rfl) (by decide) (by simp [go_sem, simprocAttr, mName, memB, eWork]) (by simp [go_sem, simprocAttr, mName]) (by simp [go_sem, simprocAttr]) (by intro y hy; rcases y with _ | _ | y <;> first | (simp [go_sem, simprocAttr]; done) | (exfalso; simp at hy; done) | (exfalso; simp at hy; omega)) (by simp [go_sem, simprocAttr, mName]) (fun r σ' hσ => ?_)
          obtain ⟨rfl, tt, rfl⟩ := hσ
          simp only [aftS, renS, delAll, memB, mName, List.getD_nil, killH, kref, ren, Nat.beq_eq, go_sem, simprocAttr, eWork]
          refine CWops.rn htt 1 ?_
          refine CWops.done ?_
          refine CW.seq ?_
          refine CW.rg ?_
          refine CWops.rn htt 2 ?_
          refine CWops.done ?_
          refine CW.cond (by simp only [go_sem, simprocAttr]; first | done | exact rfl) (fun ct62 => ?_) (fun ct62 => ?_)
          · refine CW.seq ?_
            refine CW.rg ?_
            refine CWops.rn htt 3 ?_
            refine CWops.done ?_
            refine CW.ret ?_
            refine ⟨⟨0, [(4, .nilp), (5, .int .i64 e)], []⟩, ?_, .inr rfl, by simp [ptrOK, go_sem, simprocAttr], _, by simp only [f43, go_sem, simprocAttr]; exact rfl, ?_⟩ -- ret3
            · refine Sh.wk0 ?_
              simp [Wk, go_sem, simprocAttr]
            · exact .inr ⟨by simpa using ct62, rfl, rfl, rfl⟩
          · refine CW.skip ?_
            refine CW.seq ?_
            refine CW.rg ?_
            refine CWops.rn htt 3 ?_
            refine CWops.done ?_
            refine CW.ret ?_
            refine ⟨⟨2, [(4, .lv 1 [] 0), (5, .int .i64 0)], [(0, ⟨false, [.own 2 (List.map eTypeO (s2))]⟩), (1, ⟨true, eWork 0 x (t : Int) (at_)⟩)]⟩, ?_, .inr rfl, by simp [ptrOK, go_sem, simprocAttr], _, by simp only [f43, go_sem, simprocAttr]; exact rfl, ?_⟩ -- ret4
            · refine Sh.wk (fun x => if x = 0 then 4 else if x = 1 then 3 else x) ?_
              simp [Wk, go_sem, simprocAttr, eWork]
            · exact .inl ⟨by simpa using ct62, rfl, rfl, rfl⟩
        · have hd1 : ¬ x.Do = 1 := by simpa using ct55
          have hd : x.Do = 2 := by rcases hsel with ⟨h, _⟩ | ⟨h, _⟩ | ⟨h, _⟩ <;> omega
          have hfm : fm = 91 := by rcases hsel with ⟨h, h'⟩ | ⟨h, h'⟩ | ⟨h, h'⟩ <;> first | exact h' | (exfalso; omega)
          subst hfm
          refine CW.skip ?_
          refine CW.seq ?_
          refine CW.seq ?_
          refine CW.rg ?_
          refine CWops.rn htt 1 ?_
          refine CWops.callG [4, 3] rfl (hcall) (by simp only [go_sem, simprocAttr]) (by simp only [go_sem, simprocAttr]; first | done | exact rfl) (by decide) (by simp [go_sem, simprocAttr, mName, memB, eWork]) (by simp [go_sem, simprocAttr, mName]) (by simp [go_sem, simprocAttr]) (by intro y hy; rcases y with _ | _ | y <;> first | (simp [go_sem, simprocAttr]; done) | (exfalso; simp at hy; done) | (exfalso; simp at hy; omega)) (by simp [go_sem, simprocAttr, mName]) (fun r σ' hσ => ?_)
          obtain ⟨rfl, tt, rfl⟩ := hσ
          simp only [aftS, renS, delAll, memB, mName, List.getD_nil, killH, kref, ren, Nat.beq_eq, go_sem, simprocAttr, eWork]
          refine CWops.rn htt 1 ?_
          refine CWops.done ?_
          refine CW.seq ?_
          refine CW.rg ?_
          refine CWops.rn htt 2 ?_
          refine CWops.done ?_
          refine CW.cond (by simp only [go_sem, simprocAttr]; first | done | exact rfl) (fun ct62 => ?_) (fun ct62 => ?_)
          · refine CW.seq ?_
            refine CW.rg ?_
            refine CWops.rn htt 3 ?_
            refine CWops.done ?_
            refine CW.ret ?_
            refine ⟨⟨0, [(4, .nilp), (5, .int .i64 e)], []⟩, ?_, .inr rfl, by simp [ptrOK, go_sem, simprocAttr], _, by simp only [f43, go_sem, simprocAttr]; exact rfl, ?_⟩ -- ret5
            · refine Sh.wk0 ?_
              simp [Wk, go_sem, simprocAttr]
            · exact .inr ⟨by simpa using ct62, rfl, rfl, rfl⟩
          · refine CW.skip ?_
            refine CW.seq ?_
            refine CW.rg ?_
            refine CWops.rn htt 3 ?_
            refine CWops.done ?_
            refine CW.ret ?_
            refine ⟨⟨2, [(4, .lv 1 [] 0), (5, .int .i64 0)], [(0, ⟨false, [.own 2 (List.map eTypeO (s2))]⟩), (1, ⟨true, eWork 0 x (t : Int) (at_)⟩)]⟩, ?_, .inr rfl, by simp [ptrOK, go_sem, simprocAttr], _, by simp only [f43, go_sem, simprocAttr]; exact rfl, ?_⟩ -- ret6
            · refine Sh.wk (fun x => if x = 0 then 4 else if x = 1 then 3 else x) ?_
              simp [Wk, go_sem, simprocAttr, eWork]
            · exact .inl ⟨by simpa using ct62, rfl, rfl, rfl⟩
end Go.Ab
namespace Go.Ab
open Go Go.Proofs.Try
open Nat (reduceEqDiff reduceAdd reduceLT reduceLeDiff reduceBEq reduceSub reduceMul)
open Int (reduceToNat)
set_option maxRecDepth 100000
set_option maxHeartbeats 1600000
set_option linter.unusedSimpArgs false
set_option linter.unusedVariables false
theorem do_G (up : Bool) (s : List GType) (x : GStep) (h1 : s.length * 40 ≤ MX) (h2 : ∀ x ∈ s, x.F.length * 40 ≤ MX) : GCall prog up 43 [.agg (eSchema s), .agg (eStep x)] 0 [] (fun r σ' => ((gDo s x).1 = 0 ∧ (fun r σ' => r = .tup [.lv 1 [] 0, .int .i64 0] ∧ σ'.n = 2 ∧ σ'.s = [(0, ⟨false, [.own 2 (List.map eTypeO (gDo s x).2.1)]⟩), (1, ⟨true, eWork 0 x ((gDo s x).2.2.1 : Int) (gDo s x).2.2.2⟩)]) r σ') ∨ ((gDo s x).1 ≠ 0 ∧ (fun r σ' => r = .tup [.nilp, .int .i64 (gDo s x).1] ∧ σ'.n = 0 ∧ σ'.s = []) r σ')) := by
  by_cases hb : (schemaMay s && (decide (0 ≤ x.Do) && decide (x.Do < 3))) = true
  · have hs : schemaMay s = true := by simp only [Bool.and_eq_true] at hb; exact hb.1
    have hD : 0 ≤ x.Do ∧ x.Do < 3 := by simp only [Bool.and_eq_true, decide_eq_true_eq] at hb; exact hb.2
    have hSM := (smay_iff s).1 hs
    rcases find_cases (fun o : GType => decide (o.Name = x.Ty)) s with ⟨f1, f2, f3⟩ | ⟨t, ty, f1, f2, f3, f4, f5⟩
    · have e : gDo s x = (11, [], 0, -1) := by unfold gDo; rw [if_pos hb, f3]
      rw [e]
      exact (do_none up s x h1 h2 hb f1).mono fun r σ' h => .inr ⟨by decide, h⟩
    · have e : gDo s x = if (gStepF s x ty.F).1 = 0 then (0, s.set t ⟨ty.Name, (gStepF s x ty.F).2⟩, t, fFind ty.F x.F.Name) else ((gStepF s x ty.F).1, [], 0, -1) := by
        unfold gDo; rw [if_pos hb, f4]; simp only [f2]
      have h5 := hSM.flen t ty f2
      have key : ∃ (fm : FuncId) (e1 : Int) (s2 : List GType), ((x.Do = 0 ∧ fm = 92) ∨ (x.Do = 1 ∧ fm = 93) ∨ (x.Do = 2 ∧ fm = 91)) ∧ GCall prog up fm [.lv 1 [] 0] 2 [(0, ⟨false, [.own 2 (List.map eTypeO (s))]⟩), (1, ⟨true, eWork 0 x (t : Int) (fFind ty.F x.F.Name)⟩)] (fun r σ' => r = .int .i64 e1 ∧ ∃ tt, σ' = ⟨2, tt, [(0, ⟨false, [.own 2 (List.map eTypeO (s2))]⟩), (1, ⟨true, eWork 0 x (t : Int) (fFind ty.F x.F.Name)⟩)]⟩) ∧ e1 = (gStepF s x ty.F).1 ∧ (e1 = 0 → s2 = s.set t ⟨ty.Name, (gStepF s x ty.F).2⟩) := by
        rcases (by omega : x.Do = 0 ∨ x.Do = 1 ∨ x.Do = 2) with h | h | h
        · refine ⟨_, _, _, .inl ⟨h, rfl⟩, work_add up s x t _ ty f2 h5, ?_, ?_⟩
          · unfold gStepF fFind; rw [if_pos h]; split <;> (try split) <;> simp_all
          · unfold gStepF fFind; rw [if_pos h]; intro h0; split at h0
            · rename_i hok; rw [if_pos hok]; split at h0
              · exact absurd h0 (by decide)
              · rename_i hl; rw [if_neg hl, if_pos ⟨hok, hl⟩]
            · exact absurd h0 (by decide)
        · rcases find_cases (fun f : GField => decide (f.Name = x.F.Name)) ty.F with ⟨g1, g2, g3⟩ | ⟨q, f0, g1, g2, g3, g4, g5⟩
          · exact ⟨_, 11, s, .inr (.inl ⟨h, rfl⟩), by rw [show fFind ty.F x.F.Name = -1 from g1]; exact work_drop_no up s x t, by unfold gStepF; rw [if_neg (show ¬ x.Do = 0 by omega), g3], fun h => absurd h (by decide)⟩
          · exact ⟨_, 0, _, .inr (.inl ⟨h, rfl⟩), by rw [show fFind ty.F x.F.Name = q from g1]; exact work_drop_at up s x t ty f2 q f0 g2 h5, by unfold gStepF; rw [if_neg (show ¬ x.Do = 0 by omega), g4]; simp only; rw [if_pos h], fun _ => by unfold gStepF; rw [if_neg (show ¬ x.Do = 0 by omega), g4]; simp only; rw [if_pos h]⟩
        · rcases find_cases (fun f : GField => decide (f.Name = x.F.Name)) ty.F with ⟨g1, g2, g3⟩ | ⟨q, f0, g1, g2, g3, g4, g5⟩
          · exact ⟨_, 11, s, .inr (.inr ⟨h, rfl⟩), by rw [show fFind ty.F x.F.Name = -1 from g1]; exact work_widen_no up s x t, by unfold gStepF; rw [if_neg (show ¬ x.Do = 0 by omega), g3], fun h => absurd h (by decide)⟩
          · refine ⟨_, _, _, .inr (.inr ⟨h, rfl⟩), by rw [show fFind ty.F x.F.Name = q from g1]; exact work_widen_at up s x t ty f2 q f0 g2, ?_, ?_⟩
            · unfold gStepF; rw [if_neg (show ¬ x.Do = 0 by omega), g4]; simp only; rw [if_neg (show ¬ x.Do = 1 by omega), g2]; simp only; split <;> rfl
            · unfold gStepF; rw [if_neg (show ¬ x.Do = 0 by omega), g4]; simp only; rw [if_neg (show ¬ x.Do = 1 by omega), g2]; simp only
              intro h0
              split at h0
              · rename_i hw; rw [if_pos hw, if_pos hw]
              · exact absurd h0 (by decide)
      obtain ⟨fm, e1, s2, hsel, hcall, he, hs2⟩ := key
      refine (do_step up s x h1 h2 hb t f1 ty f2 _ rfl e1 s2 fm hsel hcall).mono fun r σ' h => ?_
      rcases h with ⟨h0, hr, hn, hσ⟩ | ⟨h0, h⟩
      · left
        rw [e, if_pos (by rw [← he]; exact h0)]
        rw [hs2 h0] at hσ
        exact ⟨rfl, hr, hn, hσ⟩
      · right
        rw [e, if_neg (by rw [← he]; exact h0)]
        simp only
        rw [← he]
        exact ⟨h0, h⟩
  · have hb' : (schemaMay s && (decide (0 ≤ x.Do) && decide (x.Do < 3))) = false := by simpa only [Bool.not_eq_true] using hb
    have e : gDo s x = (1, [], 0, -1) := by unfold gDo; rw [if_neg hb]
    rw [e]
    exact (do_bad up s x hb').mono fun r σ' h => .inr ⟨by decide, h⟩
theorem doG_ok (up : Bool) (s : List GType) (x : GStep) (h1 : s.length * 40 ≤ MX) (h2 : ∀ x ∈ s, x.F.length * 40 ≤ MX) (h0 : (gDo s x).1 = 0) : GCall prog up 43 [.agg (eSchema s), .agg (eStep x)] 0 [] (fun r σ' => r = .tup [.lv 1 [] 0, .int .i64 0] ∧ σ'.n = 2 ∧ σ'.s = [(0, ⟨false, [.own 2 (List.map eTypeO (gDo s x).2.1)]⟩), (1, ⟨true, eWork 0 x ((gDo s x).2.2.1 : Int) (gDo s x).2.2.2⟩)]) := (do_G up s x h1 h2).mono fun r σ' h => (h.resolve_right fun h => h.1 h0).2
theorem doG_err (up : Bool) (s : List GType) (x : GStep) (h1 : s.length * 40 ≤ MX) (h2 : ∀ x ∈ s, x.F.length * 40 ≤ MX) (h0 : (gDo s x).1 ≠ 0) : GCall prog up 43 [.agg (eSchema s), .agg (eStep x)] 0 [] (fun r σ' => r = .tup [.nilp, .int .i64 (gDo s x).1] ∧ σ'.n = 0 ∧ σ'.s = []) := (do_G up s x h1 h2).mono fun r σ' h => (h.resolve_left fun h => h0 h.1).2
theorem Schema_ok (up : Bool) (s : List GType) (x : GStep) (h1 : s.length * 40 ≤ MX) (h2 : ∀ x ∈ s, x.F.length * 40 ≤ MX) (h0 : (gDo s x).1 = 0) : PCall prog up 17 [.agg (eSchema s), .agg (eStep x)] (· = .tup [.agg (eSchema (gDo s x).2.1), .int .i64 0]) := by
  refine PCall.intro htt func17 (by kernel_rfl) rfl (Nat.le_of_ble_eq_true rfl) fun hl => ?_

  simp only [tmps0, Nat.reduceAdd]
  refine CW.seq ?_
  refine CW.rg ?_
  refine CWops.run htt 4 (by simp only [go_sem, simprocAttr, eSchema, eStep]; exact rfl) (by simp [go_sem, simprocAttr, eSchema, eStep]) ?_
  refine CWops.done ?_
  refine CW.seq ?_
  refine CW.rg ?_
  refine CWops.run htt 2 (by simp only [go_sem, simprocAttr, eSchema, eStep]; exact rfl) (by simp [go_sem, simprocAttr, eSchema, eStep]) ?_
  refine CWops.callG [] rfl (doG_ok up s x h1 h2 h0) (by simp only [go_sem, simprocAttr]) (by simp only [go_sem, simprocAttr]; first | done | exact rfl) (by decide) (by simp [go_sem, simprocAttr, mName, memB]) (by simp [go_sem, simprocAttr, mName]) (by simp [go_sem, simprocAttr]) (by simp [go_sem, simprocAttr]) (by simp [go_sem, simprocAttr, mName, eSchema, eStep]) (fun r σ' hσ => ?_)
  obtain ⟨σn, σt, σs⟩ := σ'
  simp only at hσ
  obtain ⟨rfl, rfl, rfl⟩ := hσ
  simp only [aftS, renS, delAll, memB, mName, List.getD_nil, killH, kref, ren, Nat.beq_eq, go_sem, simprocAttr, eWork]
  refine CWops.run htt 5 (by simp only [go_sem, simprocAttr, eSchema, eStep]; exact rfl) (by simp [go_sem, simprocAttr, eSchema, eStep]) ?_
  refine CWops.done ?_
  refine CW.seq ?_
  refine CW.seq ?_
  refine CW.rg ?_
  refine CWops.rn htt 2 ?_
  refine CWops.done ?_
  refine CW.cond (by simp only [go_sem, simprocAttr]; first | done | exact rfl) (fun ct15 => ?_) (fun ct15 => ?_)
  · simp at ct15 
  · refine CW.skip ?_
    refine CW.seq ?_
    refine CW.rg ?_
    refine CWops.run htt 6 (by simp only [go_sem, simprocAttr, eWork]; exact rfl) (by simp [go_sem, simprocAttr, eWork]) ?_
    refine CWops.done ?_
    refine CW.ret ?_
    refine retQ.ret (by simp only [f17, go_sem, simprocAttr]; exact rfl) (by simp only [go_sem, simprocAttr]; exact rfl) ?_ -- ret1
    refine ⟨_, ?_, rfl⟩
    simp [leP, leL, eSchema, frz_TypeO]
theorem Schema_err (up : Bool) (s : List GType) (x : GStep) (h1 : s.length * 40 ≤ MX) (h2 : ∀ x ∈ s, x.F.length * 40 ≤ MX) (h0 : (gDo s x).1 ≠ 0) : PCall prog up 17 [.agg (eSchema s), .agg (eStep x)] (· = .tup [.agg (eSchema []), .int .i64 (gDo s x).1]) := by
  refine PCall.intro htt func17 (by kernel_rfl) rfl (Nat.le_of_ble_eq_true rfl) fun hl => ?_

  simp only [tmps0, Nat.reduceAdd]
  refine CW.seq ?_
  refine CW.rg ?_
  refine CWops.run htt 4 (by simp only [go_sem, simprocAttr, eSchema, eStep]; exact rfl) (by simp [go_sem, simprocAttr, eSchema, eStep]) ?_
  refine CWops.done ?_
  refine CW.seq ?_
  refine CW.rg ?_
  refine CWops.run htt 2 (by simp only [go_sem, simprocAttr, eSchema, eStep]; exact rfl) (by simp [go_sem, simprocAttr, eSchema, eStep]) ?_
  refine CWops.callG [] rfl (doG_err up s x h1 h2 h0) (by simp only [go_sem, simprocAttr]) (by simp only [go_sem, simprocAttr]; first | done | exact rfl) (by decide) (by simp [go_sem, simprocAttr, mName, memB]) (by simp [go_sem, simprocAttr, mName]) (by simp [go_sem, simprocAttr]) (by simp [go_sem, simprocAttr]) (by simp [go_sem, simprocAttr, mName, eSchema, eStep]) (fun r σ' hσ => ?_)
  obtain ⟨σn, σt, σs⟩ := σ'
  simp only at hσ
  obtain ⟨rfl, rfl, rfl⟩ := hσ
  simp only [aftS, renS, delAll, memB, mName, List.getD_nil, killH, kref, ren, Nat.beq_eq, go_sem, simprocAttr, eWork]
  refine CWops.run htt 5 (by simp only [go_sem, simprocAttr, eSchema, eStep]; exact rfl) (by simp [go_sem, simprocAttr, eSchema, eStep]) ?_
  refine CWops.done ?_
  refine CW.seq ?_
  refine CW.seq ?_
  refine CW.rg ?_
  refine CWops.rn htt 2 ?_
  refine CWops.done ?_
  refine CW.cond (by simp only [go_sem, simprocAttr]; first | done | exact rfl) (fun ct15 => ?_) (fun ct15 => ?_)
  · refine CW.seq ?_
    refine CW.rg ?_
    refine CWops.rn htt 4 ?_
    refine CWops.done ?_
    refine CW.ret ?_
    refine retQ.ret (by simp only [f17, go_sem, simprocAttr]; exact rfl) (by simp only [go_sem, simprocAttr]; exact rfl) ?_ -- ret1
    refine ⟨_, ?_, rfl⟩
    simp [leP, leL, eSchema, frz_TypeO]
  · exfalso; revert ct15; simp [h0]
theorem grade_Schema (up : Bool) (s : List GType) (x : GStep) (h1 : s.length * 40 ≤ MX) (h2 : ∀ x ∈ s, x.F.length * 40 ≤ MX) : PCall prog up 17 [.agg (eSchema s), .agg (eStep x)] (· = .tup [.agg (eSchema (gSchema s x).1), .int .i64 (gSchema s x).2]) := by
  unfold gSchema
  by_cases h0 : (gDo s x).1 = 0
  · rw [h0]; exact Schema_ok up s x h1 h2 h0
  · rw [gDo_err h0]; exact Schema_err up s x h1 h2 h0
end Go.Ab
namespace Go.Ab
open Go Go.Proofs.Try
open Nat (reduceEqDiff reduceAdd reduceLT reduceLeDiff reduceBEq reduceSub reduceMul)
open Int (reduceToNat)
set_option maxRecDepth 100000
set_option maxHeartbeats 3200000
set_option linter.unusedSimpArgs false
set_option linter.unusedVariables false
theorem clone_Int (up : Bool) (xs : List Int) (hx : xs.length * 8 ≤ MX) : PCall prog up 44 [.sl 1 (xs.map eI)] (· = .sl 1 (xs.map eI)) := by
  refine PCall.intro htt func44 (by kernel_rfl) rfl (Nat.le_of_ble_eq_true rfl) fun hl => ?_
  have hx1 : xs.length ≤ MX := by omega
  simp only [tmps0, Nat.reduceAdd]
  refine CW.seq ?_
  refine CW.rg ?_
  refine CWops.rn htt 1 ?_
  refine CWops.done ?_
  refine CW.seq ?_
  refine CW.seq ?_
  refine CW.rg ?_
  refine CWops.rn htt 1 ?_
  refine CWops.nilcmp (n := 1) (l := xs.map eI) htt (by simp only [go_sem, simprocAttr]) (by simp only [go_sem, simprocAttr]) (by simp only [go_sem, simprocAttr]) tt_26 rfl (fun b hb => ⟨_, rfl, ?_⟩)
  refine CWops.done ?_
  refine CW.cond (by simp only [go_sem, simprocAttr]; first | done | exact rfl) (fun ct4 => ?_) (fun ct4 => ?_)
  · refine CW.seq ?_
    refine CW.rg ?_
    refine CWops.rn htt 1 ?_
    refine CWops.done ?_
    refine CW.ret ?_
    refine retQ.ret (by simp only [f44, go_sem, simprocAttr]; exact rfl) (by simp only [go_sem, simprocAttr]; exact rfl) ?_ -- ret1
    refine ⟨_, ?_, rfl⟩
    have h0 := hb ct4; simp [leP, h0]
  · refine CW.skip ?_
    refine CW.seq ?_
    refine CW.rg ?_
    refine CWops.run htt 4 (by simp only [go_sem, simprocAttr]; exact rfl) (by refine ⟨?_, ?_, ?_⟩ <;> first | (simp [eI, AV.cell]; done) | (simp; omega)) ?_
    refine CWops.done ?_
    refine CW.ret ?_
    refine retQ.ret (by simp only [f44, go_sem, simprocAttr]; exact rfl) (by simp only [go_sem, simprocAttr]; exact rfl) ?_ -- ret2
    refine ⟨_, ?_, rfl⟩
    simp [leP, frz_I, frz_Val, frz_Obj, frz_Field, frz_Type]
theorem grade_Graph_bad (up : Bool) (g : Graph) (x : GStep) (hm : gMay g = false) : PCall prog up 13 [.agg (eGraph g), .agg (eStep x)] (· = .tup [.agg (eGraph (gGrade g x).1), .int .i64 (gGrade g x).2]) := by
  refine PCall.intro htt func13 (by kernel_rfl) rfl (Nat.le_of_ble_eq_true rfl) fun hl => ?_

  simp only [tmps0, Nat.reduceAdd]
  refine CW.seq ?_
  refine CW.rg ?_
  refine CWops.run htt 4 (by simp only [go_sem, simprocAttr, eGraph, eStep]; exact rfl) (by simp [go_sem, simprocAttr, eGraph, eStep]) ?_
  refine CWops.done ?_
  refine CW.seq ?_
  refine CW.seq ?_
  refine CW.rg ?_
  refine CWops.run htt 1 (by simp only [go_sem, simprocAttr, eGraph]; exact rfl) (by simp [go_sem, simprocAttr, eGraph]) ?_
  refine CWops.call (graph_May up g) (by simp only [go_sem, simprocAttr, eGraph]) (by simp only [go_sem, simprocAttr, eGraph]; first | done | exact rfl) (by simp only [go_sem, simprocAttr, eGraph]) (fun rt12 hrt12 => ?_)
  subst hrt12; refine ⟨rfl, ?_⟩
  refine CWops.run htt 1 (by simp only [go_sem, simprocAttr, eGraph]; exact rfl) (by simp [go_sem, simprocAttr, eGraph]) ?_
  refine CWops.done ?_
  refine CW.cond (by simp only [go_sem, simprocAttr]; first | done | exact rfl) (fun ct13 => ?_) (fun ct13 => ?_)
  · refine CW.seq ?_
    refine CW.rg ?_
    refine CWops.rn htt 3 ?_
    refine CWops.done ?_
    refine CW.ret ?_
    refine retQ.ret (by simp only [f13, go_sem, simprocAttr]; exact rfl) (by simp only [go_sem, simprocAttr]; exact rfl) ?_ -- ret1
    refine ⟨_, ?_, rfl⟩
    have : gGrade g x = (⟨[], [], []⟩, 1) := by unfold gGrade; rw [if_pos hm]
    simp [leP, leL, this, eGraph]
  · rw [hm] at ct13; cases ct13
theorem grade_Graph_err (up : Bool) (g : Graph) (x : GStep) (hm : gMay g = true) (h0 : (gDo g.S x).1 ≠ 0) : PCall prog up 13 [.agg (eGraph g), .agg (eStep x)] (· = .tup [.agg (eGraph (gGrade g x).1), .int .i64 (gGrade g x).2]) := by
  refine PCall.intro htt func13 (by kernel_rfl) rfl (Nat.le_of_ble_eq_true rfl) fun hl => ?_
  have hM := (may_iff g).1 hm
  have hsm := hM.small
  have hs4 := hsm.1
  have hs5 := hsm.2.1
  have hr3 := hM.r
  have ho8 := hM.o
  have h1 : g.S.length * 40 ≤ MX := by unfold MX; omega
  have h2 : ∀ y ∈ g.S, y.F.length * 40 ≤ MX := fun y hy => by have := hs5 y hy; unfold MX; omega
  simp only [tmps0, Nat.reduceAdd]
  refine CW.seq ?_
  refine CW.rg ?_
  refine CWops.run htt 4 (by simp only [go_sem, simprocAttr, eGraph, eStep]; exact rfl) (by simp [go_sem, simprocAttr, eGraph, eStep]) ?_
  refine CWops.done ?_
  refine CW.seq ?_
  refine CW.seq ?_
  refine CW.rg ?_
  refine CWops.run htt 1 (by simp only [go_sem, simprocAttr, eGraph]; exact rfl) (by simp [go_sem, simprocAttr, eGraph]) ?_
  refine CWops.call (graph_May up g) (by simp only [go_sem, simprocAttr, eGraph]) (by simp only [go_sem, simprocAttr, eGraph]; first | done | exact rfl) (by simp only [go_sem, simprocAttr, eGraph]) (fun rt12 hrt12 => ?_)
  subst hrt12; refine ⟨rfl, ?_⟩
  refine CWops.run htt 1 (by simp only [go_sem, simprocAttr, eGraph]; exact rfl) (by simp [go_sem, simprocAttr, eGraph]) ?_
  refine CWops.done ?_
  refine CW.cond (by simp only [go_sem, simprocAttr]; first | done | exact rfl) (fun ct13 => ?_) (fun ct13 => ?_)
  · rw [hm] at ct13; cases ct13 
  · refine CW.skip ?_
    refine CW.seq ?_
    refine CW.rg ?_
    refine CWops.run htt 3 (by simp only [go_sem, simprocAttr, eGraph, eStep]; exact rfl) (by simp [go_sem, simprocAttr, eGraph, eStep]) ?_
    refine CWops.callG [] rfl (doG_err up g.S x h1 h2 h0) (by simp only [go_sem, simprocAttr]) (by simp only [go_sem, simprocAttr]; first | done | exact rfl) (by decide) (by simp [go_sem, simprocAttr, mName, memB]) (by simp [go_sem, simprocAttr, mName]) (by simp [go_sem, simprocAttr]) (by simp [go_sem, simprocAttr]) (by simp [go_sem, simprocAttr, mName, eSchema, eStep]) (fun r σ' hσ => ?_)
    obtain ⟨σn, σt, σs⟩ := σ'
    simp only at hσ
    obtain ⟨rfl, rfl, rfl⟩ := hσ
    simp only [aftS, renS, delAll, memB, mName, List.getD_nil, killH, kref, ren, Nat.beq_eq, go_sem, simprocAttr, eWork]
    refine CWops.run htt 5 (by simp only [go_sem, simprocAttr, eGraph, eStep]; exact rfl) (by simp [go_sem, simprocAttr, eGraph, eStep]) ?_
    refine CWops.done ?_
    refine CW.seq ?_
    refine CW.seq ?_
    refine CW.rg ?_
    refine CWops.rn htt 2 ?_
    refine CWops.done ?_
    refine CW.cond (by simp only [go_sem, simprocAttr]; first | done | exact rfl) (fun ct23 => ?_) (fun ct23 => ?_)
    · refine CW.seq ?_
      refine CW.rg ?_
      refine CWops.rn htt 4 ?_
      refine CWops.done ?_
      refine CW.ret ?_
      refine retQ.ret (by simp only [f13, go_sem, simprocAttr]; exact rfl) (by simp only [go_sem, simprocAttr]; exact rfl) ?_ -- ret1
      refine ⟨_, ?_, rfl⟩
      have : gGrade g x = (⟨[], [], []⟩, (gDo g.S x).1) := by unfold gGrade; rw [if_neg (by rw [hm]; decide), if_neg h0]
      simp [leP, leL, this, eGraph]
    · exfalso; revert ct23; simp [h0]
theorem grade_Graph_ok (up : Bool) (g : Graph) (x : GStep) (hm : gMay g = true) (h0 : (gDo g.S x).1 = 0) : PCall prog up 13 [.agg (eGraph g), .agg (eStep x)] (· = .tup [.agg (eGraph (gGrade g x).1), .int .i64 (gGrade g x).2]) := by
  refine PCall.intro htt func13 (by kernel_rfl) rfl (Nat.le_of_ble_eq_true rfl) fun hl => ?_
  have hM := (may_iff g).1 hm
  have hsm := hM.small
  have hs4 := hsm.1
  have hs5 := hsm.2.1
  have hr3 := hM.r
  have ho8 := hM.o
  have h1 : g.S.length * 40 ≤ MX := by unfold MX; omega
  have h2 : ∀ y ∈ g.S, y.F.length * 40 ≤ MX := fun y hy => by have := hs5 y hy; unfold MX; omega
  have hdrop := grade_drop hm h0
  have hG : gGrade g x = (⟨(gDo g.S x).2.1, g.O.map (gradeO x (gDo g.S x).2.2.1 (gDo g.S x).2.2.2), g.Roots⟩, 0) := by unfold gGrade; rw [if_neg (by rw [hm]; decide), if_pos h0]
  rw [hG]
  have hdo := doG_ok up g.S x h1 h2 h0
  revert hdrop hdo
  generalize (gDo g.S x).2.1 = S2
  generalize (gDo g.S x).2.2.1 = t
  generalize (gDo g.S x).2.2.2 = at_
  intro hdrop hdo
  simp only [tmps0, Nat.reduceAdd]
  refine CW.seq ?_
  refine CW.rg ?_
  refine CWops.run htt 4 (by simp only [go_sem, simprocAttr, eGraph, eStep]; exact rfl) (by simp [go_sem, simprocAttr, eGraph, eStep]) ?_
  refine CWops.done ?_
  refine CW.seq ?_
  refine CW.seq ?_
  refine CW.rg ?_
  refine CWops.run htt 1 (by simp only [go_sem, simprocAttr, eGraph]; exact rfl) (by simp [go_sem, simprocAttr, eGraph]) ?_
  refine CWops.call (graph_May up g) (by simp only [go_sem, simprocAttr, eGraph]) (by simp only [go_sem, simprocAttr, eGraph]; first | done | exact rfl) (by simp only [go_sem, simprocAttr, eGraph]) (fun rt12 hrt12 => ?_)
  subst hrt12; refine ⟨rfl, ?_⟩
  refine CWops.run htt 1 (by simp only [go_sem, simprocAttr, eGraph]; exact rfl) (by simp [go_sem, simprocAttr, eGraph]) ?_
  refine CWops.done ?_
  refine CW.cond (by simp only [go_sem, simprocAttr]; first | done | exact rfl) (fun ct13 => ?_) (fun ct13 => ?_)
  · rw [hm] at ct13; cases ct13 
  · refine CW.skip ?_
    refine CW.seq ?_
    refine CW.rg ?_
    refine CWops.run htt 3 (by simp only [go_sem, simprocAttr, eGraph, eStep]; exact rfl) (by simp [go_sem, simprocAttr, eGraph, eStep]) ?_
    refine CWops.callG [] rfl (hdo) (by simp only [go_sem, simprocAttr]) (by simp only [go_sem, simprocAttr]; first | done | exact rfl) (by decide) (by simp [go_sem, simprocAttr, mName, memB]) (by simp [go_sem, simprocAttr, mName]) (by simp [go_sem, simprocAttr]) (by simp [go_sem, simprocAttr]) (by simp [go_sem, simprocAttr, mName, eSchema, eStep]) (fun r σ' hσ => ?_)
    obtain ⟨σn, σt, σs⟩ := σ'
    simp only at hσ
    obtain ⟨rfl, rfl, rfl⟩ := hσ
    simp only [aftS, renS, delAll, memB, mName, List.getD_nil, killH, kref, ren, Nat.beq_eq, go_sem, simprocAttr, eWork]
    refine CWops.run htt 5 (by simp only [go_sem, simprocAttr, eGraph, eStep]; exact rfl) (by simp [go_sem, simprocAttr, eGraph, eStep]) ?_
    refine CWops.done ?_
    refine CW.seq ?_
    refine CW.seq ?_
    refine CW.rg ?_
    refine CWops.rn htt 2 ?_
    refine CWops.done ?_
    refine CW.cond (by simp only [go_sem, simprocAttr]; first | done | exact rfl) (fun ct23 => ?_) (fun ct23 => ?_)
    · simp at ct23 
    · refine CW.skip ?_
      refine CW.seq ?_
      refine CW.drawn mixed 9 (by decide) (by kernel_rfl) (by kernel_rfl) (by kernel_rfl) ?_
      refine Seg.run htt 6 (by simp only [go_sem, simprocAttr, eGraph, eWork]; exact rfl) ?_
      refine Seg.callA (clone_Int up g.Roots (by unfold MX; omega)) (by simp only [go_sem, simprocAttr, eGraph, eWork]) (by simp only [go_sem, simprocAttr, eGraph, eWork]; first | done | exact rfl) (by simp only [go_sem, simprocAttr, eGraph, eWork]) (by simp only [go_sem, simprocAttr, eGraph, eWork]) ?_
      refine Seg.run htt 2 (by simp only [go_sem, simprocAttr, eGraph, eWork]; exact rfl) ?_
      refine Seg.done ?_
      refine CWops.run htt 1 (by simp only [go_sem, simprocAttr, eGraph, eWork]; exact rfl) (by simp [go_sem, simprocAttr, eGraph, eWork]) ?_
      refine CWops.done ?_
      refine CW.seq ?_
      refine CW.seq ?_
      refine CW.rg ?_
      refine CWops.run htt 4 (by simp only [go_sem, simprocAttr, eGraph]; exact rfl) (by simp [go_sem, simprocAttr, eGraph]) ?_
      refine CWops.done ?_
      refine CW.block ?_
      refine CW.loop (S := Nat) (fun i => ⟨6, [(2, .lv 0 [] 0), (3, .lv 1 [] 0), (4, .lv 2 [] 0), (6, .lv 4 [] 0), (8, .lv 5 [] 0), (35, .sl 3 (g.O.map eObj)), (36, .int .i64 g.O.length), (37, .int .i64 i)], [(0, ⟨true, eGraph g⟩), (1, ⟨true, eStep x⟩), (2, ⟨true, [.nilsl, .nilsl, .nilsl]⟩), (4, ⟨true, [.undef, .int .i64 x.Do, .str x.Ty, .str x.F.Name, .int .i64 x.F.Kind, .str x.F.To, .int .i64 (t : Int), .int .i64 at_]⟩), (5, ⟨true, [.own 2 (List.map eTypeO S2), .own 3 (List.map eObj (List.map (gradeO x t at_) (g.O.take i))), .sl 1 (g.Roots.map eI)]⟩)]⟩) (fun i => i ≤ g.O.length) (fun i => g.O.length - i) (0) ?_ (Nat.zero_le _) (fun i h3 => ?_)
      · refine Sh.trans (Sh.nilCell 5 [] 1 3 (by simp [go_sem, simprocAttr]) rfl) (Sh.wk0 ?_); simp [Wk, go_sem, simprocAttr, eGraph, eStep, eWork]
      refine CW.seq ?_
      refine CW.rg ?_
      refine CWops.rn htt 1 ?_
      refine CWops.done ?_
      refine CW.seq ?_
      refine CW.cond (by simp only [go_sem, simprocAttr]; first | done | exact rfl) (fun ct38 => ?_) (fun ct38 => ?_)
      · have hi : i < g.O.length := by simpa using ct38
        obtain ⟨o, ho⟩ : ∃ x, g.O[i]? = some x := ⟨g.O[i], List.getElem?_eq_getElem hi⟩
        have ho5 := hsm.2.2 o (List.mem_of_getElem? ho)
        refine CW.skip ?_
        refine CW.seq ?_
        refine CW.block ?_
        refine CW.seq ?_
        refine CW.rg ?_
        refine CWops.run htt 4 (by simp only [go_sem, simprocAttr, hi, ho, eObj]; exact rfl) (by simp [go_sem, simprocAttr, hi, ho, eObj]) ?_
        refine CWops.done ?_
        refine CW.seq ?_
        refine CW.rg ?_
        refine CWops.rn htt 2 ?_
        refine CWops.callG [] rfl (clone_ValG up o.F (by unfold MX; omega)) (by simp only [go_sem, simprocAttr]) (by simp only [go_sem, simprocAttr]; first | done | exact rfl) (by decide) (by simp [go_sem, simprocAttr, mName, memB]) (by simp [go_sem, simprocAttr, mName]) (by simp [go_sem, simprocAttr]) (by simp [go_sem, simprocAttr]) (by simp [go_sem, simprocAttr, mName, eObj]) (fun r σ' hσ => ?_)
        obtain ⟨σn, σt, σs⟩ := σ'
        simp only at hσ
        obtain ⟨rfl, rfl, rfl⟩ := hσ
        simp only [aftS, renS, delAll, memB, mName, List.getD_nil, killH, kref, ren, Nat.beq_eq, go_sem, simprocAttr]
        refine CWops.rn htt 2 ?_
        refine CWops.done ?_
        refine CW.seq ?_
        refine CW.block ?_
        refine CW.seq ?_
        refine CW.drawn mixed 6 (by decide) (by kernel_rfl) (by kernel_rfl) (by kernel_rfl) ?_
        refine Seg.run htt 6 (by simp only [go_sem, simprocAttr, eStep]; exact rfl) ?_
        refine Seg.done ?_
        refine CWops.run htt 2 (by simp only [go_sem, simprocAttr, eStep]; exact rfl) (by simp [go_sem, simprocAttr, eStep]) ?_
        refine CWops.done ?_
        refine CW.cond (by simp only [go_sem, simprocAttr]; first | done | exact rfl) (fun ct45 => ?_) (fun ct45 => ?_)
        · have hT : ¬ o.T = t := by simpa using ct45
          refine CW.skip ?_
          refine CW.sh (Sh.frz 6 2 rfl rfl) ?_
          simp only [go_sem, simprocAttr]
          refine CW.rg ?_
          refine CWops.run htt 7 (by simp only [go_sem, simprocAttr, List.replicate]; exact rfl) (by simp [AV.cell, AV.tree, MX] <;> omega) ?_
          refine CWops.done ?_
          refine CW.rg ?_
          refine CWops.run htt 2 (by simp only [go_sem, simprocAttr, wrap_succ (show i < MX by unfold MX; omega)]; exact rfl) (by simp [go_sem, simprocAttr, wrap_succ (show i < MX by unfold MX; omega)]) ?_
          refine CWops.done ?_
          refine ⟨i + 1, ?_, ?_, ?_⟩
          · refine Sh.wk0 ?_
            dsimp only
            first | (simp [Wk, go_sem, simprocAttr, List.take_add_one, ho, gradeO, hT, eObj, eGraph, eStep]; done) | (simp [Wk, go_sem, simprocAttr, List.take_add_one, ho, gradeO, hT, gradeF, hd0, eObj, eGraph, eStep]; done) | (simp [Wk, go_sem, simprocAttr, List.take_add_one, ho, gradeO, hT, gradeF, hd1, hqa, eObj, eGraph, eStep]; done) | (simp [Wk, go_sem, simprocAttr, List.take_add_one, ho, gradeO, hT, gradeF, hd0, hd1, eObj, eGraph, eStep]; done)
          · exact hi
          · simp only; omega
        · have hT : o.T = t := by simpa using ct45
          refine CW.seq ?_
          refine CW.rg ?_
          refine CWops.run htt 4 (by simp only [go_sem, simprocAttr, eStep]; exact rfl) (by simp [go_sem, simprocAttr, eStep]) ?_
          refine CWops.done ?_
          refine CW.cond (by simp only [go_sem, simprocAttr]; first | done | exact rfl) (fun ct53 => ?_) (fun ct53 => ?_)
          · have hd0 : x.Do = 0 := by simpa using ct53
            refine CW.drawn mixed 6 (by decide) (by kernel_rfl) (by kernel_rfl) (by kernel_rfl) ?_
            refine Seg.run htt 4 (by simp only [go_sem, simprocAttr, eStep, eField, List.replicate]; exact rfl) ?_
            refine Seg.callA (value_Zero up x.F) (by simp only [go_sem, simprocAttr, eStep, eField, List.replicate]) (by simp only [go_sem, simprocAttr, eStep, eField, List.replicate]; first | done | exact rfl) (by simp only [go_sem, simprocAttr, eStep, eField, List.replicate]) (by simp only [go_sem, simprocAttr, eStep, eField, List.replicate]) ?_
            refine Seg.run htt 1 (by simp only [go_sem, simprocAttr, eStep, eField, List.replicate]; exact rfl) ?_
            refine Seg.done ?_
            refine CWops.run htt 3 (by simp only [go_sem, simprocAttr, eStep, eField, List.replicate]; exact rfl) (by unfold zeroV; split <;> simp [AV.cell, AV.tree, eVal, MX] <;> omega) ?_
            refine CWops.done ?_
            rw [show (List.map eVal o.F ++ [eVal (zeroV x.F)]) = List.map eVal (o.F ++ [zeroV x.F]) by simp]
            refine CW.sh (Sh.frz 6 2 rfl rfl) ?_
            simp only [go_sem, simprocAttr]
            refine CW.rg ?_
            refine CWops.run htt 7 (by simp only [go_sem, simprocAttr, List.replicate]; exact rfl) (by simp [AV.cell, AV.tree, MX] <;> omega) ?_
            refine CWops.done ?_
            refine CW.rg ?_
            refine CWops.run htt 2 (by simp only [go_sem, simprocAttr, wrap_succ (show i < MX by unfold MX; omega)]; exact rfl) (by simp [go_sem, simprocAttr, wrap_succ (show i < MX by unfold MX; omega)]) ?_
            refine CWops.done ?_
            refine ⟨i + 1, ?_, ?_, ?_⟩
            · refine Sh.wk0 ?_
              dsimp only
              first | (simp [Wk, go_sem, simprocAttr, List.take_add_one, ho, gradeO, hT, eObj, eGraph, eStep]; done) | (simp [Wk, go_sem, simprocAttr, List.take_add_one, ho, gradeO, hT, gradeF, hd0, eObj, eGraph, eStep]; done) | (simp [Wk, go_sem, simprocAttr, List.take_add_one, ho, gradeO, hT, gradeF, hd1, hqa, eObj, eGraph, eStep]; done) | (simp [Wk, go_sem, simprocAttr, List.take_add_one, ho, gradeO, hT, gradeF, hd0, hd1, eObj, eGraph, eStep]; done)
            · exact hi
            · simp only; omega
          · have hd0 : ¬ x.Do = 0 := by simpa using ct53
            refine CW.seq ?_
            refine CW.rg ?_
            refine CWops.run htt 4 (by simp only [go_sem, simprocAttr, eStep]; exact rfl) (by simp [go_sem, simprocAttr, eStep]) ?_
            refine CWops.done ?_
            refine CW.cond (by simp only [go_sem, simprocAttr]; first | done | exact rfl) (fun ct65 => ?_) (fun ct65 => ?_)
            · have hd1 : x.Do = 1 := by simpa using ct65
              obtain ⟨q, hqa, hqo⟩ := hdrop hd1 o (List.mem_of_getElem? ho) hT
              subst hqa
              have hqa := (rfl : (q : Int) = q)
              have hw1 : IntKind.i64.wrap ((q : Int) + 1) = (q : Int) + 1 := by have := @wrap_succ q (by unfold MX; omega); rw [this]; omega
              refine CW.drawn mixed 11 (by decide) (by kernel_rfl) (by kernel_rfl) (by kernel_rfl) ?_
              refine Seg.run htt 11 (by simp only [go_sem, simprocAttr, eStep, hw1]; exact rfl) ?_
              refine Seg.done ?_
              refine CWops.sh (Sh.outP 70 6 [] 2 (n := 3) (rows := o.F.map eVal) (by simp only [go_sem, simprocAttr]) (by simp only [go_sem, simprocAttr]) rfl) ?_
              simp only [go_sem, simprocAttr]
              refine CWops.callG [8] rfl (delete_Val up o.F q hqo) (by simp only [go_sem, simprocAttr]) (by simp only [go_sem, simprocAttr]; first | done | exact rfl) (by decide) (by simp [go_sem, simprocAttr, mName, memB]) (by simp [go_sem, simprocAttr, mName]) (by simp [go_sem, simprocAttr]) (by simp [go_sem, simprocAttr]) (by simp [go_sem, simprocAttr, mName]) (fun r σ' hσ => ?_)
              obtain ⟨σn, σt, σs⟩ := σ'
              simp only at hσ
              obtain ⟨rfl, rfl, rfl⟩ := hσ
              simp only [aftS, renS, delAll, memB, mName, List.getD_nil, killH, kref, ren, Nat.beq_eq, go_sem, simprocAttr]
              refine CWops.run htt 2 (by simp only [go_sem, simprocAttr, eStep, hw1]; exact rfl) (by simp [go_sem, simprocAttr, eStep, hw1]) ?_
              refine CWops.done ?_
              refine CW.sh (Sh.frz 6 2 rfl rfl) ?_
              simp only [go_sem, simprocAttr]
              refine CW.rg ?_
              refine CWops.run htt 7 (by simp only [go_sem, simprocAttr, List.replicate]; exact rfl) (by simp [AV.cell, AV.tree, MX] <;> omega) ?_
              refine CWops.done ?_
              refine CW.rg ?_
              refine CWops.run htt 2 (by simp only [go_sem, simprocAttr, wrap_succ (show i < MX by unfold MX; omega)]; exact rfl) (by simp [go_sem, simprocAttr, wrap_succ (show i < MX by unfold MX; omega)]) ?_
              refine CWops.done ?_
              refine ⟨i + 1, ?_, ?_, ?_⟩
              · refine Sh.wk0 ?_
                dsimp only
                first | (simp [Wk, go_sem, simprocAttr, List.take_add_one, ho, gradeO, hT, eObj, eGraph, eStep]; done) | (simp [Wk, go_sem, simprocAttr, List.take_add_one, ho, gradeO, hT, gradeF, hd0, eObj, eGraph, eStep]; done) | (simp [Wk, go_sem, simprocAttr, List.take_add_one, ho, gradeO, hT, gradeF, hd1, hqa, eObj, eGraph, eStep]; done) | (simp [Wk, go_sem, simprocAttr, List.take_add_one, ho, gradeO, hT, gradeF, hd0, hd1, eObj, eGraph, eStep]; done)
              · exact hi
              · simp only; omega
            · have hd1 : ¬ x.Do = 1 := by simpa using ct65
              refine CW.skip ?_
              refine CW.sh (Sh.frz 6 2 rfl rfl) ?_
              simp only [go_sem, simprocAttr]
              refine CW.rg ?_
              refine CWops.run htt 7 (by simp only [go_sem, simprocAttr, List.replicate]; exact rfl) (by simp [AV.cell, AV.tree, MX] <;> omega) ?_
              refine CWops.done ?_
              refine CW.rg ?_
              refine CWops.run htt 2 (by simp only [go_sem, simprocAttr, wrap_succ (show i < MX by unfold MX; omega)]; exact rfl) (by simp [go_sem, simprocAttr, wrap_succ (show i < MX by unfold MX; omega)]) ?_
              refine CWops.done ?_
              refine ⟨i + 1, ?_, ?_, ?_⟩
              · refine Sh.wk0 ?_
                dsimp only
                first | (simp [Wk, go_sem, simprocAttr, List.take_add_one, ho, gradeO, hT, eObj, eGraph, eStep]; done) | (simp [Wk, go_sem, simprocAttr, List.take_add_one, ho, gradeO, hT, gradeF, hd0, eObj, eGraph, eStep]; done) | (simp [Wk, go_sem, simprocAttr, List.take_add_one, ho, gradeO, hT, gradeF, hd1, hqa, eObj, eGraph, eStep]; done) | (simp [Wk, go_sem, simprocAttr, List.take_add_one, ho, gradeO, hT, gradeF, hd0, hd1, eObj, eGraph, eStep]; done)
              · exact hi
              · simp only; omega
      · have hi : i = g.O.length := by simp at ct38; omega
        rw [hi, List.take_length]
        refine CW.exit ?_
        refine CW.seq ?_
        refine CW.rg ?_
        refine CWops.rn htt 3 ?_
        refine CWops.done ?_
        refine CW.ret ?_
        refine retQ.ret (by simp only [f13, go_sem, simprocAttr]; exact rfl) (by simp only [go_sem, simprocAttr]; exact rfl) ?_ -- ret1
        refine ⟨_, ?_, rfl⟩
        simp [leP, leL, eGraph]
end Go.Ab
namespace Go.Ab
open Go Go.Proofs.Try
open Nat (reduceEqDiff reduceAdd reduceLT reduceLeDiff reduceBEq reduceSub reduceMul)
open Int (reduceToNat)
set_option maxRecDepth 100000
set_option maxHeartbeats 3200000
set_option linter.unusedSimpArgs false
set_option linter.unusedVariables false
@[go_sem] theorem tt_49 : tiOf prog 49 = some ⟨.slice 32, 1, 24, [.nilsl], false⟩ := by kernel_rfl
@[go_sem] theorem tt_149 : tiOf prog 149 = some ⟨.slice 49, 1, 24, [.nilsl], false⟩ := by kernel_rfl
open Go.RowKit
theorem inf32 : (prog.info? 32).map (fun i => (i.zero, i.size, i.bytes)) = some (some (.agg #[.int .i64 0, .string ⟨#[]⟩, .string ⟨#[]⟩, .int .i64 0, .string ⟨#[]⟩]), 5, 64) := by kernel_rfl
theorem grow_none (w : World) : Calls prog 122 #[.slice none 0 0, .int .i64 0] w fun e w' => e = .returned (.slice none 0 0) ∧ w' = w := by
  go_enter func122, ntmps122
  go_wp2
  go_ret
  exact ⟨rfl, rfl⟩
theorem grow_some (n : Nat) (w : World) (hn : 0 < n) (hbig : n * 64 ≤ 140737488355328) :
    ∃ (cap : Nat) (vs : Array Value), vs.size = cap * 5 ∧ cap ≤ maxLen ∧ Calls prog 122 #[.slice none 0 0, .int .i64 n] w fun e w' => e = .returned (.slice (some ⟨w.heap.size, 0, none⟩) 0 cap) ∧ w' = w.drew.alloc (.cells vs 32) := by
  obtain ⟨i0, hi0, hz0, hz1, hz2⟩ := info_parts inf32
  have h1 : ¬ ((n : Int) < 0) := by omega
  have h4 : (n : Int) > 0 := by omega
  have hrz : ∀ ty, (Builtin.append_ #[49, 3] ty #[.slice none 0 0, .int .i64 (n : Int)]).run prog w =
      .ok (.slice (some ⟨w.heap.size, 0, none⟩) n (grownCap w n 0 32)) (w.drew.alloc (.cells (#[] ++ Builtin.zeroCells (Value.cells (.agg #[.int .i64 0, .string ⟨#[]⟩, .string ⟨#[]⟩, .int .i64 0, .string ⟨#[]⟩])) n ++ Builtin.zeroCells (Value.cells (.agg #[.int .i64 0, .string ⟨#[]⟩, .string ⟨#[]⟩, .int .i64 0, .string ⟨#[]⟩])) (grownCap w n 0 32 - n)) 32)) := fun ty => by
    have h := Lib.run_append_grow_zeros w 49 3 ty 32 i0 _ .i64 .i64 underlying49 underlying3 hi0 hz0 none 0 0 [] (run_firstCells_none w.drew i0.size 0 0 0) n hn (by rw [hz1]; decide) (by omega) (by omega) (by rw [hz2]; omega) (growslice_fits (by omega) (by rw [hz2]; omega))
    simpa only [Nat.zero_add] using h
  have hGn : n ≤ grownCap w n 0 32 := grownCap_ge w _ _ _
  have hG63 := grownCap_le_maxLen w n 0 32 (by unfold maxLen; omega)
  obtain ⟨G, hG⟩ : ∃ G, G = grownCap w n 0 32 := ⟨_, rfl⟩
  rw [← hG] at hrz hGn hG63
  obtain ⟨vs, hvs⟩ : ∃ vs, vs = (#[] ++ Builtin.zeroCells (Value.cells (.agg #[.int .i64 0, .string ⟨#[]⟩, .string ⟨#[]⟩, .int .i64 0, .string ⟨#[]⟩])) n ++ Builtin.zeroCells (Value.cells (.agg #[.int .i64 0, .string ⟨#[]⟩, .string ⟨#[]⟩, .int .i64 0, .string ⟨#[]⟩])) (G - n)) := ⟨_, rfl⟩
  have hsz : vs.size = G * 5 := by
    have h5 : (Value.cells (.agg #[.int .i64 0, .string ⟨#[]⟩, .string ⟨#[]⟩, .int .i64 0, .string ⟨#[]⟩])).size = 5 := by kernel_rfl
    rw [hvs]; simp [Builtin.zeroCells, h5]; omega
  rw [← hvs] at hrz
  clear hvs hG
  have hG9 : G ≤ 9223372036854775807 := by unfold maxLen at hG63; omega
  refine ⟨G, vs, hsz, hG63, ?_⟩
  go_enter func122, ntmps122
  go_wp2_with (at_builtin; refine Lib.wpList_append_run _ rfl _ _ _ _ rfl _ _ rfl rfl _ _ (hrz _) ?_)
  all_goals (go_ret; exact ⟨rfl, rfl⟩)
theorem grow_Step (up : Bool) (n : Nat) (hbig : n * 64 ≤ 140737488355328) : GCall prog up 122 [.nilsl, .int .i64 (n : Int)] 0 [] (fun r σ' => r = .ref 0 [] 0 ∧ σ'.n = 1 ∧ σ'.s = [(0, ⟨false, [.own 5 []]⟩)]) := by
  refine ⟨⟨_, func122, by kernel_rfl, rfl⟩, fun w A G vs hA hinv hvl hrel => ?_⟩
  have hH : Holds A (GFp G) w 0 { n := 0, t := [], s := [] } ⟨#[], []⟩ w G := ⟨hinv, rfl, rfl, fun i hi => by omega, fun i _ => rfl, ⟨rfl, rfl, rfl, Nat.le_refl _, fun _ _ _ => rfl⟩, fun b hb => .inl hb, hA⟩
  obtain ⟨v0, v1, rfl⟩ : ∃ v0 v1, vs = [v0, v1] := by
    match vs, hvl with
    | [a, b], _ => exact ⟨a, b, rfl⟩
  have e0 : v0 = .slice none 0 0 := (hrel 0 _ rfl).nilsl_inv
  have e1 : v1 = .int .i64 (n : Int) := (hrel 1 _ rfl).int_inv
  subst e0 e1
  have hsep : ∀ v : Value, Sep (.own 5 v []) := fun v => .own _ _ _ (fun i r jj g hr => by simp at hr) (fun i r jj g hr => by simp at hr) (fun i r jj g i' r' j' g' hr => by simp at hr)
  rcases Nat.eq_zero_or_pos n with h | h
  · subst h
    refine (grow_none w).mono fun e w' he => ?_
    obtain ⟨rfl, rfl⟩ := he
    obtain ⟨G', q1, q2⟩ := hH.newDet (.own 5 (.slice none 0 0) []) (w' := w') (fun _ _ => rfl) ⟨rfl, rfl, rfl, Nat.le_refl _⟩ rfl (hsep _) (fun k hk => by cases hk with | own _ _ _ i r jj g _ hr => simp at hr) (fun A _ => .onil 5)
    exact ⟨_, G', .ref 0 [] 0, ⟨rfl, rfl, by simp [GT.er]⟩, q1.inv, q2, q1.fr, q1.own, fun x g g' hx => absurd hx (Nat.not_lt_zero x), fun x hx => by cases hx⟩
  · obtain ⟨cap, vs, hs, hcap, hc⟩ := grow_some n w h hbig
    refine hc.mono fun e w' he => ?_
    obtain ⟨rfl, rfl⟩ := he
    have hheap : (w.drew.alloc (.cells vs 32)).heap[w.heap.size]? = some (.cells vs 32 (0, 0)) := Go.heap_alloc_new w.drew _
    obtain ⟨G', q1, q2⟩ := hH.newDet (.own 5 (.slice (some ⟨w.heap.size, 0, none⟩) ([] : List (List GT)).length cap) []) (w' := w.drew.alloc (.cells vs 32)) (fun b hb => Below.heap_alloc w.drew _ b hb) ⟨rfl, rfl, rfl, by show w.heap.size ≤ (w.heap.push _).size; simp⟩ rfl (hsep _) (fun k hk => by
        cases hk with
        | own0 => exact Nat.le_refl _
        | own _ _ _ i r jj g _ hr => simp at hr) (fun A _ => .own 5 _ cap vs _ [] hheap hs (Nat.zero_le _) hcap (Nat.zero_le _) (fun i r hr => by simp at hr) (fun i r jj g hr => by simp at hr) (fun i r jj g hr => by simp at hr))
    exact ⟨_, G', .ref 0 [] 0, ⟨rfl, rfl, by simp [GT.er]⟩, q1.inv, q2, q1.fr, q1.own, fun x g g' hx => absurd hx (Nat.not_lt_zero x), fun x hx => by cases hx⟩
end Go.Ab
namespace Go.Ab
open Go Go.Proofs.Try
open Nat (reduceEqDiff reduceAdd reduceLT reduceLeDiff reduceBEq reduceSub reduceMul)
open Int (reduceToNat)
set_option maxRecDepth 100000
set_option maxHeartbeats 3200000
set_option linter.unusedSimpArgs false
set_option linter.unusedVariables false
theorem concat_Step (up : Bool) (L : List (List GStep)) (hL : L.length ≤ 1000) (hb : L.flatten.length * 64 ≤ MX) : PCall prog up 101 [.sl 1 (L.map eSteps)] (· = .sl 5 (L.flatten.map eStep)) := by
  refine PCall.intro htt func101 (by kernel_rfl) rfl (Nat.le_of_ble_eq_true rfl) fun hl => ?_

  simp only [tmps0, Nat.reduceAdd]
  refine CW.seq ?_
  refine CW.rg ?_
  refine CWops.rn htt 1 ?_
  refine CWops.done ?_
  refine CW.seq ?_
  refine CW.rg ?_
  refine CWops.rn htt 1 ?_
  refine CWops.done ?_
  refine CW.seq ?_
  refine CW.seq ?_
  refine CW.rg ?_
  refine CWops.rn htt 3 ?_
  refine CWops.done ?_
  refine CW.block ?_
  refine CW.loop (S := Nat) (fun i => ⟨0, [(0, .sl 1 (L.map eSteps)), (3, .int .i64 (((L.take i).flatten).length : Int)), (9, .sl 1 (L.map eSteps)), (10, .int .i64 L.length), (11, .int .i64 i)], []⟩) (fun i => i ≤ L.length) (fun i => L.length - i) (0) ?_ (Nat.zero_le _) (fun i h1 => ?_)
  · refine Sh.wk0 ?_; simp [Wk, go_sem, simprocAttr]
  refine CW.seq ?_
  refine CW.rg ?_
  refine CWops.rn htt 1 ?_
  refine CWops.done ?_
  refine CW.seq ?_
  refine CW.cond (by simp only [go_sem, simprocAttr]; first | done | exact rfl) (fun ct12 => ?_) (fun ct12 => ?_)
  · have hi : i < L.length := by simpa using ct12
    obtain ⟨l, hl0⟩ : ∃ l, L[i]? = some l := ⟨L[i], List.getElem?_eq_getElem hi⟩
    have hs := flat_succ hl0
    have hle := flat_le (L := L) (i + 1)
    rw [hs, List.length_append] at hle
    have hw : IntKind.i64.wrap ((((L.take i).flatten).length : Int) + (l.length : Int)) = ((((L.take i).flatten).length + l.length : Nat) : Int) := wrap_add (by omega)
    refine CW.skip ?_
    refine CW.seq ?_
    refine CW.block ?_
    refine CW.seq ?_
    refine CW.rg ?_
    refine CWops.run htt 3 (by simp only [go_sem, simprocAttr, hi, hl0, eSteps]; exact rfl) (by simp [go_sem, simprocAttr, hi, hl0, eSteps]) ?_
    refine CWops.done ?_
    refine CW.seq ?_
    refine CW.rg ?_
    refine CWops.run htt 5 (by simp only [go_sem, simprocAttr, hw]; exact rfl) (by simp [go_sem, simprocAttr, hw]) ?_
    refine CWops.done ?_
    refine CW.seq ?_
    refine CW.rg ?_
    refine CWops.rn htt 2 ?_
    refine CWops.done ?_
    refine CW.cond (by simp only [go_sem, simprocAttr]; first | done | exact rfl) (fun ct20 => ?_) (fun ct20 => ?_)
    · exfalso; revert ct20; simp <;> omega 
    · refine CW.skip ?_
      refine CW.rg ?_
      refine CWops.run htt 2 (by simp only [go_sem, simprocAttr, wrap_succ (show i < MX by unfold MX; omega)]; exact rfl) (by simp [go_sem, simprocAttr, wrap_succ (show i < MX by unfold MX; omega)]) ?_
      refine CWops.done ?_
      refine ⟨i + 1, ?_, ?_, ?_⟩
      · refine Sh.wk0 ?_
        dsimp only
        rw [hs]; simp [Wk, go_sem, simprocAttr]
      · exact hi
      · simp only; omega
  · have hi : i = L.length := by simp at ct12; omega
    rw [hi, List.take_length]
    refine CW.exit ?_
    refine CW.seq ?_
    refine CW.rg ?_
    refine CWops.rn htt 1 ?_
    refine CWops.callG [] rfl (grow_Step up L.flatten.length (by unfold MX at hb; omega)) (by simp only [go_sem, simprocAttr]) (by simp only [go_sem, simprocAttr]; first | done | exact rfl) (by decide) (by simp [go_sem, simprocAttr, mName, memB]) (by simp [go_sem, simprocAttr, mName]) (by simp [go_sem, simprocAttr]) (by simp [go_sem, simprocAttr]) (by simp [go_sem, simprocAttr, mName, eGraph]) (fun r σ' hσ => ?_)
    obtain ⟨σn, σt, σs⟩ := σ'
    simp only at hσ
    obtain ⟨rfl, rfl, rfl⟩ := hσ
    simp only [aftS, renS, delAll, memB, mName, List.getD_nil, killH, kref, ren, Nat.beq_eq, go_sem, simprocAttr]
    refine CWops.rn htt 1 ?_
    refine CWops.done ?_
    refine CW.seq ?_
    refine CW.seq ?_
    refine CW.rg ?_
    refine CWops.rn htt 3 ?_
    refine CWops.done ?_
    refine CW.block ?_
    refine CW.loop (S := Nat) (fun i => ⟨1, [(0, .sl 1 (L.map eSteps)), (6, .ref 0 [] 0), (25, .sl 1 (L.map eSteps)), (26, .int .i64 L.length), (27, .int .i64 i)], [(0, ⟨false, [.own 5 (((L.take i).flatten).map eStep)]⟩)]⟩) (fun i => i ≤ L.length) (fun i => L.length - i) (0) ?_ (Nat.zero_le _) (fun i h2 => ?_)
    · refine Sh.wk0 ?_; simp [Wk, go_sem, simprocAttr]
    refine CW.seq ?_
    refine CW.rg ?_
    refine CWops.rn htt 1 ?_
    refine CWops.done ?_
    refine CW.seq ?_
    refine CW.cond (by simp only [go_sem, simprocAttr]; first | done | exact rfl) (fun ct28 => ?_) (fun ct28 => ?_)
    · have hi : i < L.length := by simpa using ct28
      obtain ⟨l, hl0⟩ : ∃ l, L[i]? = some l := ⟨L[i], List.getElem?_eq_getElem hi⟩
      have hs := flat_succ hl0
      have hle := flat_le (L := L) (i + 1)
      rw [hs, List.length_append] at hle
      refine CW.skip ?_
      refine CW.seq ?_
      refine CW.block ?_
      refine CW.seq ?_
      refine CW.rg ?_
      refine CWops.run htt 3 (by simp only [go_sem, simprocAttr, hi, hl0, eSteps]; exact rfl) (by simp [go_sem, simprocAttr, hi, hl0, eSteps]) ?_
      refine CWops.done ?_
      refine CW.rg ?_
      refine CWops.run htt 4 (by simp only [go_sem, simprocAttr]; exact rfl) (by refine ⟨?_, ?_, ?_⟩ <;> first | (simp [eStep, AV.cell]; done) | (simp only [List.length_map]; omega) | (simp at hle ⊢; simp at hb; omega)) ?_
      refine CWops.done ?_
      refine CW.rg ?_
      refine CWops.run htt 2 (by simp only [go_sem, simprocAttr, wrap_succ (show i < MX by unfold MX; omega)]; exact rfl) (by simp [go_sem, simprocAttr, wrap_succ (show i < MX by unfold MX; omega)]) ?_
      refine CWops.done ?_
      refine ⟨i + 1, ?_, ?_, ?_⟩
      · refine Sh.wk (fun x => x + 1) ?_
        dsimp only
        rw [hs]; simp [Wk, go_sem, simprocAttr]
      · exact hi
      · simp only; omega
    · have hi : i = L.length := by simp at ct28; omega
      rw [hi, List.take_length]
      refine CW.exit ?_
      refine CW.seq ?_
      refine CW.rg ?_
      refine CWops.rn htt 2 ?_
      refine CWops.done ?_
      refine CW.ret ?_
      refine retQ.ret (by simp only [f101, go_sem, simprocAttr]; exact rfl) (by simp only [go_sem, simprocAttr]; exact rfl) ?_ -- ret1
      refine ⟨_, ?_, rfl⟩
      simp [leP, frz_Step]
end Go.Ab
namespace Go.Ab
open Go Go.Proofs.Try
open Nat (reduceEqDiff reduceAdd reduceLT reduceLeDiff reduceBEq reduceSub reduceMul)
open Int (reduceToNat)
set_option maxRecDepth 100000
set_option maxHeartbeats 3200000
set_option linter.unusedSimpArgs false
set_option linter.unusedVariables false
@[go_sem] theorem tt_129 : tiOf prog 129 = some ⟨.func, 1, 8, [.nilfunc], false⟩ := by kernel_rfl
theorem between_step (up : Bool) (k : Int) (f : GField) (a : GType) : PCall prog up 99 [.int .i64 k, .agg (eField f), .fp (eType a)] (· = .agg (eStep ⟨k, a.Name, f⟩)) := by
  refine PCall.intro htt func99 (by kernel_rfl) rfl (Nat.le_of_ble_eq_true rfl) fun hl => ?_

  simp only [tmps0, Nat.reduceAdd]
  refine CW.seq ?_
  refine CW.rg ?_
  refine CWops.run htt 2 (by simp only [go_sem, simprocAttr, eField]; exact rfl) (by simp [go_sem, simprocAttr, eField]) ?_
  refine CWops.done ?_
  refine CW.seq ?_
  refine CW.rg ?_
  refine CWops.run htt 6 (by simp only [go_sem, simprocAttr, eField, eType]; exact rfl) (by simp [go_sem, simprocAttr, eField, eType]) ?_
  refine CWops.done ?_
  refine CW.ret ?_
  refine retQ.ret (by simp only [f99, go_sem, simprocAttr]; exact rfl) (by simp only [go_sem, simprocAttr]; exact rfl) ?_ -- ret1
  refine ⟨_, ?_, rfl⟩
  simp [leP, leL, eStep]
theorem grade_between (up : Bool) (a b : GType) (ha : a.F.length ≤ 5) (hb5 : b.F.length ≤ 5) : PCall prog up 58 [.agg (eType a), .agg (eType b)] (· = .tup [.sl 5 ((betw a b).1.map eStep), .bool (betw a b).2]) := by
  refine PCall.intro htt func58 (by kernel_rfl) rfl (Nat.le_of_ble_eq_true rfl) fun hl => ?_

  simp only [tmps0, Nat.reduceAdd]
  refine CW.seq ?_
  refine CW.rg ?_
  refine CWops.run htt 4 (by simp only [go_sem, simprocAttr, eType]; exact rfl) (by simp [go_sem, simprocAttr, eType]) ?_
  refine CWops.done ?_
  refine CW.seq ?_
  refine CW.rg ?_
  refine CWops.run htt 3 (by simp only [go_sem, simprocAttr, eType]; exact rfl) (by simp [go_sem, simprocAttr, eType]) ?_
  refine CWops.done ?_
  refine CW.seq ?_
  refine CW.rg ?_
  refine CWops.run htt 2 (by simp only [go_sem, simprocAttr, eType]; exact rfl) (by simp [go_sem, simprocAttr, eType]) ?_
  refine CWops.done ?_
  refine CW.seq ?_
  refine CW.sh (Sh.frzB 0 rfl rfl rfl) ?_
  simp only [go_sem, simprocAttr, mapT, mapS, frzF, List.map_cons, List.map_nil, delS]
  refine CW.rg ?_
  refine CWops.rn htt 1 ?_
  refine CWops.done ?_
  refine CW.seq ?_
  refine CW.seq ?_
  refine CW.rg ?_
  refine CWops.run htt 4 (by simp only [go_sem, simprocAttr, eType]; exact rfl) (by simp [go_sem, simprocAttr, eType]) ?_
  refine CWops.done ?_
  refine CW.block ?_
  refine CW.loop (S := Nat × Nat × List GStep × List GStep) (fun p => ⟨4, [(3, .lv 1 [] 0), (9, .func (.func 99) [] [.fp (eType a)]), (6, .ref 2 [] 0), (7, .ref 3 [] 0), (8, .nilsl), (10, .int .i64 p.2.1), (18, .sl 3 (a.F.map eField)), (19, .int .i64 a.F.length), (20, .int .i64 p.1)], [(1, ⟨true, eType b⟩), (2, ⟨false, [.own 5 (p.2.2.1.map eStep)]⟩), (3, ⟨false, [.own 5 (p.2.2.2.map eStep)]⟩)]⟩) (fun p => BI a b p.1 p.2.1 p.2.2.1 p.2.2.2) (fun p => a.F.length - p.1) ((0, 0, [], [])) ?_ (BI.start a b) (fun ⟨i, kept, d, w⟩ hB => ?_)
  · refine Sh.trans (Sh.nilRoot 6 5 (by simp only [go_sem, simprocAttr]) rfl) (Sh.trans (Sh.nilRoot 7 5 (by simp only [go_sem, simprocAttr]) rfl) (Sh.wk0 ?_)); simp [Wk, go_sem, simprocAttr, eType, ex_func, SubL, Sub]
  simp only at hB
  refine CW.seq ?_
  refine CW.rg ?_
  refine CWops.rn htt 1 ?_
  refine CWops.done ?_
  refine CW.seq ?_
  refine CW.cond (by simp only [go_sem, simprocAttr]; first | done | exact rfl) (fun ct21 => ?_) (fun ct21 => ?_)
  · have hi : i < a.F.length := by simpa using ct21
    obtain ⟨f, hf⟩ : ∃ x, a.F[i]? = some x := ⟨a.F[i], List.getElem?_eq_getElem hi⟩
    have hld := hB.ld
    have hlw := hB.lw
    have hlk := hB.lk
    refine CW.skip ?_
    refine CW.seq ?_
    refine CW.block ?_
    refine CW.seq ?_
    refine CW.rg ?_
    refine CWops.run htt 4 (by simp only [go_sem, simprocAttr, hi, hf, eField]; exact rfl) (by simp [go_sem, simprocAttr, hi, hf, eField]) ?_
    refine CWops.done ?_
    refine CW.seq ?_
    refine CW.rg ?_
    refine CWops.run htt 3 (by simp only [go_sem, simprocAttr, eType, eField]; exact rfl) (by simp [go_sem, simprocAttr, eType, eField]) ?_
    refine CWops.call (schema_Field up b f.Name) (by simp only [go_sem, simprocAttr, eType, eField]) (by simp only [go_sem, simprocAttr, eType, eField]; first | done | exact rfl) (by simp only [go_sem, simprocAttr, eType, eField]) (fun rt27 hrt27 => ?_)
    subst hrt27; refine ⟨rfl, ?_⟩
    refine CWops.run htt 1 (by simp only [go_sem, simprocAttr, eType, eField]; exact rfl) (by simp [go_sem, simprocAttr, eType, eField]) ?_
    refine CWops.done ?_
    refine CW.seq ?_
    refine CW.block ?_
    refine CW.seq ?_
    refine CW.rg ?_
    refine CWops.rn htt 3 ?_
    refine CWops.done ?_
    refine CW.cond (by simp only [go_sem, simprocAttr]; first | done | exact rfl) (fun ct28 => ?_) (fun ct28 => ?_)
    · have hn : b.F.findIdx? (fun g => decide (g.Name = f.Name)) = none := by
        have h0 : fnd (fun o : GField => decide (o.Name = f.Name)) b.F = -1 := by simpa using ct28
        rcases find_cases (fun o : GField => decide (o.Name = f.Name)) b.F with ⟨_, _, h⟩ | ⟨k, g, h1, _⟩
        · exact h
        · omega
      obtain ⟨p', hp'⟩ : ∃ p' : Nat × Nat × List GStep × List GStep, p' = (i + 1, kept, d ++ [⟨1, a.Name, f⟩], w) := ⟨_, rfl⟩
      refine CW.seq ?_
      refine CW.rg ?_
      refine CWops.run htt 3 (by simp only [go_sem, simprocAttr, eField, eType, eStep, List.replicate]; exact rfl) (by simp [AV.cell, AV.tree, eStep, MX] <;> omega) ?_
      refine CWops.callA (between_step up 1 f a) (by simp only [go_sem, simprocAttr, eField, eType, eStep, List.replicate]) (by simp only [go_sem, simprocAttr, eField, eType, eStep, List.replicate]; first | done | exact rfl) (by simp only [go_sem, simprocAttr, eField, eType, eStep, List.replicate]) (by simp only [go_sem, simprocAttr, eField, eType, eStep, List.replicate]) (fun rt34 hrt34 => ?_)
      subst hrt34
      refine CWops.run htt 3 (by simp only [go_sem, simprocAttr, eField, eType, eStep, List.replicate]; exact rfl) (by simp [AV.cell, AV.tree, eStep, MX] <;> omega) ?_
      refine CWops.done ?_
      refine CW.exit ?_
      refine CW.rg ?_
      refine CWops.run htt 2 (by simp only [go_sem, simprocAttr, wrap_succ (show i < MX by unfold MX; omega)]; exact rfl) (by simp [go_sem, simprocAttr, wrap_succ (show i < MX by unfold MX; omega)]) ?_
      refine CWops.done ?_
      refine ⟨p', ?_, ?_, ?_⟩
      · subst hp'; first | (refine Sh.wk (fun x => if x = 2 then 6 else x) ?_; simp [Wk, go_sem, simprocAttr, eType, eStep, ex_func, SubL, Sub]; done) | (refine Sh.wk (fun x => if x = 3 then 6 else x) ?_; simp [Wk, go_sem, simprocAttr, eType, eStep, ex_func, SubL, Sub]; done) | (refine Sh.wk0 ?_; simp [Wk, go_sem, simprocAttr, eType, eStep, ex_func, SubL, Sub]; done)
      · subst hp'; first | exact hB.drop hf hn | exact hB.wide hf hn hg hw | exact hB.same hf hn hg hw
      · subst hp'; simp only; omega
    · obtain ⟨k, g, hk1, hg, hn⟩ : ∃ (k : Nat) (g : GField), fnd (fun o : GField => decide (o.Name = f.Name)) b.F = k ∧ b.F[k]? = some g ∧ b.F.findIdx? (fun g => decide (g.Name = f.Name)) = some k := by
        have h0 : ¬ fnd (fun o : GField => decide (o.Name = f.Name)) b.F = -1 := by simpa using ct28
        rcases find_cases (fun o : GField => decide (o.Name = f.Name)) b.F with ⟨h, _, _⟩ | ⟨k, g, h1, h2, _, h4, _⟩
        · exact absurd h h0
        · exact ⟨k, g, h1, h2, h4⟩
      simp only [hk1]
      refine CW.seq ?_
      refine CW.rg ?_
      refine CWops.rn htt 4 ?_
      refine CWops.done ?_
      refine CW.cond (by simp only [go_sem, simprocAttr]; first | done | exact rfl) (fun ct37 => ?_) (fun ct37 => ?_)
      · have hne : ¬ k = kept := by simp at ct37; omega
        have hbad := hB.bad1 hf hn hne
        refine CW.seq ?_
        refine CW.rg ?_
        refine CWops.rn htt 2 ?_
        refine CWops.done ?_
        refine CW.ret ?_
        refine retQ.ret (by simp only [f58, go_sem, simprocAttr]; exact rfl) (by simp only [go_sem, simprocAttr]; exact rfl) ?_ -- ret1
        refine ⟨_, ?_, rfl⟩
        first | (rw [hbad]; simp [leP, leL]; done) | (rw [hB.done]; simp [leP, leL]; done)
      · have hke : kept = k := by simp at ct37; omega
        subst hke
        have hkl := (List.getElem?_eq_some_iff.1 hg).1
        refine CW.seq ?_
        refine CW.drawn mixed 8 (by decide) (by kernel_rfl) (by kernel_rfl) (by kernel_rfl) ?_
        refine Seg.run htt 8 (by simp only [go_sem, simprocAttr, eType, eField, hkl, hg]; exact rfl) ?_
        refine Seg.done ?_
        refine CWops.callA (grade_wider up g.Kind f.Kind) (by simp only [go_sem, simprocAttr, eType, eField, hkl, hg]) (by simp only [go_sem, simprocAttr, eType, eField, hkl, hg]; first | done | exact rfl) (by simp only [go_sem, simprocAttr, eType, eField, hkl, hg]) (by simp only [go_sem, simprocAttr, eType, eField, hkl, hg]) (fun rt50 hrt50 => ?_)
        subst hrt50
        refine CWops.run htt 1 (by simp only [go_sem, simprocAttr, eType, eField, hkl, hg]; exact rfl) (by simp [go_sem, simprocAttr, eType, eField, hkl, hg]) ?_
        refine CWops.done ?_
        refine CW.cond (by simp only [go_sem, simprocAttr]; first | done | exact rfl) (fun ct41 => ?_) (fun ct41 => ?_)
        · have hw : wider g.Kind f.Kind = true := by simpa using ct41
          obtain ⟨p', hp'⟩ : ∃ p' : Nat × Nat × List GStep × List GStep, p' = (i + 1, kept + 1, d, w ++ [⟨2, a.Name, g⟩]) := ⟨_, rfl⟩
          refine CW.rg ?_
          refine CWops.run htt 7 (by simp only [go_sem, simprocAttr, eType, eField, eStep, hkl, hg, List.replicate]; exact rfl) (by simp [AV.cell, AV.tree, eStep, MX] <;> omega) ?_
          refine CWops.callA (between_step up 2 g a) (by simp only [go_sem, simprocAttr, eType, eField, eStep, hkl, hg, List.replicate]) (by simp only [go_sem, simprocAttr, eType, eField, eStep, hkl, hg, List.replicate]; first | done | exact rfl) (by simp only [go_sem, simprocAttr, eType, eField, eStep, hkl, hg, List.replicate]) (by simp only [go_sem, simprocAttr, eType, eField, eStep, hkl, hg, List.replicate]) (fun rt58 hrt58 => ?_)
          subst hrt58
          refine CWops.run htt 3 (by simp only [go_sem, simprocAttr, eType, eField, eStep, hkl, hg, List.replicate]; exact rfl) (by simp [AV.cell, AV.tree, eStep, MX] <;> omega) ?_
          refine CWops.done ?_
          refine CW.rg ?_
          refine CWops.run htt 3 (by simp only [go_sem, simprocAttr, wrap_succ (show kept < MX by unfold MX; omega)]; exact rfl) (by simp [go_sem, simprocAttr, wrap_succ (show kept < MX by unfold MX; omega)]) ?_
          refine CWops.done ?_
          refine CW.rg ?_
          refine CWops.run htt 2 (by simp only [go_sem, simprocAttr, wrap_succ (show i < MX by unfold MX; omega)]; exact rfl) (by simp [go_sem, simprocAttr, wrap_succ (show i < MX by unfold MX; omega)]) ?_
          refine CWops.done ?_
          refine ⟨p', ?_, ?_, ?_⟩
          · subst hp'; first | (refine Sh.wk (fun x => if x = 2 then 6 else x) ?_; simp [Wk, go_sem, simprocAttr, eType, eStep, ex_func, SubL, Sub]; done) | (refine Sh.wk (fun x => if x = 3 then 6 else x) ?_; simp [Wk, go_sem, simprocAttr, eType, eStep, ex_func, SubL, Sub]; done) | (refine Sh.wk0 ?_; simp [Wk, go_sem, simprocAttr, eType, eStep, ex_func, SubL, Sub]; done)
          · subst hp'; first | exact hB.drop hf hn | exact hB.wide hf hn hg hw | exact hB.same hf hn hg hw
          · subst hp'; simp only; omega
        · have hw : wider g.Kind f.Kind = false := by simpa using ct41
          refine CW.seq ?_
          refine CW.drawn mixed 6 (by decide) (by kernel_rfl) (by kernel_rfl) (by kernel_rfl) ?_
          refine Seg.run htt 6 (by simp only [go_sem, simprocAttr, eType, eField, hkl, hg]; exact rfl) ?_
          refine Seg.done ?_
          refine CWops.run htt 2 (by simp only [go_sem, simprocAttr, eType, eField, hkl, hg]; exact rfl) (by simp [go_sem, simprocAttr, eType, eField, hkl, hg]) ?_
          refine CWops.done ?_
          refine CW.cond (by simp only [go_sem, simprocAttr]; first | done | exact rfl) (fun ct61 => ?_) (fun ct61 => ?_)
          · have hne : ¬ g = f := by
              intro e; subst e; simp at ct61
            have hbad := hB.bad2 hf hn hg hw hne
            refine CW.seq ?_
            refine CW.rg ?_
            refine CWops.rn htt 2 ?_
            refine CWops.done ?_
            refine CW.ret ?_
            refine retQ.ret (by simp only [f58, go_sem, simprocAttr]; exact rfl) (by simp only [go_sem, simprocAttr]; exact rfl) ?_ -- ret2
            refine ⟨_, ?_, rfl⟩
            first | (rw [hbad]; simp [leP, leL]; done) | (rw [hB.done]; simp [leP, leL]; done)
          · have hge : g = f := by
              obtain ⟨n1, k1, t1⟩ := g; obtain ⟨n2, k2, t2⟩ := f
              simpa [and_assoc] using ct61
            subst hge
            obtain ⟨p', hp'⟩ : ∃ p' : Nat × Nat × List GStep × List GStep, p' = (i + 1, kept + 1, d, w) := ⟨_, rfl⟩
            refine CW.skip ?_
            refine CW.rg ?_
            refine CWops.run htt 3 (by simp only [go_sem, simprocAttr, wrap_succ (show kept < MX by unfold MX; omega)]; exact rfl) (by simp [go_sem, simprocAttr, wrap_succ (show kept < MX by unfold MX; omega)]) ?_
            refine CWops.done ?_
            refine CW.rg ?_
            refine CWops.run htt 2 (by simp only [go_sem, simprocAttr, wrap_succ (show i < MX by unfold MX; omega)]; exact rfl) (by simp [go_sem, simprocAttr, wrap_succ (show i < MX by unfold MX; omega)]) ?_
            refine CWops.done ?_
            refine ⟨p', ?_, ?_, ?_⟩
            · subst hp'; first | (refine Sh.wk (fun x => if x = 2 then 6 else x) ?_; simp [Wk, go_sem, simprocAttr, eType, eStep, ex_func, SubL, Sub]; done) | (refine Sh.wk (fun x => if x = 3 then 6 else x) ?_; simp [Wk, go_sem, simprocAttr, eType, eStep, ex_func, SubL, Sub]; done) | (refine Sh.wk0 ?_; simp [Wk, go_sem, simprocAttr, eType, eStep, ex_func, SubL, Sub]; done)
            · subst hp'; first | exact hB.drop hf hn | exact hB.wide hf hn hg hw | exact hB.same hf hn hg hw
            · subst hp'; simp only; omega
  · have hi : i = a.F.length := by have := hB.li; simp at ct21; omega
    subst hi
    have hlk := hB.lk
    have hld := hB.ld
    have hlw := hB.lw
    refine CW.exit ?_
    refine CW.seq ?_
    refine CW.seq ?_
    refine CW.rg ?_
    refine CWops.run htt 3 (by simp only [go_sem, simprocAttr, eType]; exact rfl) (by simp [go_sem, simprocAttr, eType]) ?_
    refine CWops.slFrom (q := kept) (k := .i64) (l := b.F.map eField) htt (by simp only [go_sem, simprocAttr]) tt_41 rfl tt_30 (by simp only [go_sem, simprocAttr, eType]; first | done | exact rfl) (by simp only [go_sem, simprocAttr]) (by simpa using hlk) ?_
    rw [← List.map_drop]
    simp only [go_sem, simprocAttr]
    refine CWops.run htt 2 (by simp only [go_sem, simprocAttr, eType]; exact rfl) (by simp [go_sem, simprocAttr, eType]) ?_
    refine CWops.done ?_
    refine CW.block ?_
    refine CW.loop (S := Nat) (fun j => ⟨5, [(3, .lv 1 [] 0), (9, .func (.func 99) [] [.fp (eType a)]), (6, .ref 2 [] 0), (7, .ref 3 [] 0), (8, .ref 4 [] 0), (75, .sl 3 ((b.F.drop kept).map eField)), (76, .int .i64 (b.F.drop kept).length), (77, .int .i64 j)], [(1, ⟨true, eType b⟩), (2, ⟨false, [.own 5 (d.map eStep)]⟩), (3, ⟨false, [.own 5 (w.map eStep)]⟩), (4, ⟨false, [.own 5 ((((b.F.drop kept).take j).map fun f => (⟨0, a.Name, f⟩ : GStep)).map eStep)]⟩)]⟩) (fun j => j ≤ (b.F.drop kept).length) (fun j => (b.F.drop kept).length - j) (0) ?_ (Nat.zero_le _) (fun j h3 => ?_)
    · refine Sh.trans (Sh.nilRoot 8 5 (by simp only [go_sem, simprocAttr]) rfl) (Sh.wk0 ?_); simp [Wk, go_sem, simprocAttr, eType, ex_func, SubL, Sub]
    refine CW.seq ?_
    refine CW.rg ?_
    refine CWops.rn htt 1 ?_
    refine CWops.done ?_
    refine CW.seq ?_
    refine CW.cond (by simp only [go_sem, simprocAttr]; first | done | exact rfl) (fun ct78 => ?_) (fun ct78 => ?_)
    · have hj : j < (b.F.drop kept).length := by simp at ct78 ⊢; omega
      obtain ⟨fj, hfj⟩ : ∃ x, (b.F.drop kept)[j]? = some x := ⟨_, List.getElem?_eq_getElem hj⟩
      have hj5 : j < 5 := by simp at hj; omega
      refine CW.skip ?_
      refine CW.seq ?_
      refine CW.block ?_
      refine CW.seq ?_
      refine CW.rg ?_
      refine CWops.run htt 4 (by simp only [go_sem, simprocAttr, hj, hfj, eField]; exact rfl) (by simp [go_sem, simprocAttr, hj, hfj, eField]) ?_
      refine CWops.done ?_
      refine CW.rg ?_
      refine CWops.run htt 3 (by simp only [go_sem, simprocAttr, eField, eType, eStep, List.replicate]; exact rfl) (by simp [AV.cell, AV.tree, eStep, MX] <;> omega) ?_
      refine CWops.callA (between_step up 0 fj a) (by simp only [go_sem, simprocAttr, eField, eType, eStep, List.replicate]) (by simp only [go_sem, simprocAttr, eField, eType, eStep, List.replicate]; first | done | exact rfl) (by simp only [go_sem, simprocAttr, eField, eType, eStep, List.replicate]) (by simp only [go_sem, simprocAttr, eField, eType, eStep, List.replicate]) (fun rt84 hrt84 => ?_)
      subst hrt84
      refine CWops.run htt 3 (by simp only [go_sem, simprocAttr, eField, eType, eStep, List.replicate]; exact rfl) (by simp [AV.cell, AV.tree, eStep, MX] <;> omega) ?_
      refine CWops.done ?_
      refine CW.rg ?_
      refine CWops.run htt 2 (by simp only [go_sem, simprocAttr, wrap_succ (show j < MX by unfold MX; omega)]; exact rfl) (by simp [go_sem, simprocAttr, wrap_succ (show j < MX by unfold MX; omega)]) ?_
      refine CWops.done ?_
      refine ⟨j + 1, ?_, ?_, ?_⟩
      · refine Sh.wk (fun x => if x = 4 then 7 else x) ?_
        dsimp only
        simp [Wk, go_sem, simprocAttr, eType, List.take_add_one, hfj, eStep, ex_func, SubL, Sub]
      · exact hj
      · simp only; omega
    · have hj : j = (b.F.drop kept).length := by have h9 := h3; simp at ct78 h9 ⊢; omega
      rw [hj, List.take_length]
      refine CW.exit ?_
      refine CW.seq ?_
      refine CW.sh (Sh.frzT 6 2 rfl rfl rfl) ?_
      simp only [go_sem, simprocAttr]
      refine CW.sh (Sh.frzT 7 3 rfl rfl rfl) ?_
      simp only [go_sem, simprocAttr]
      refine CW.sh (Sh.frzT 8 4 rfl rfl rfl) ?_
      simp only [go_sem, simprocAttr]
      refine CW.rg ?_
      refine CWops.run htt 4 (by simp only [go_sem, simprocAttr, List.replicate, eSteps, List.map_cons, List.map_nil]; exact rfl) (by simp [AV.cell, AV.tree, MX] <;> omega) ?_
      refine CWops.sh (Sh.frzT 91 5 rfl rfl rfl) ?_
      simp only [go_sem, simprocAttr, List.replicate, List.set_cons_zero, List.set_cons_succ, AV.freeze, List.map_cons, List.map_nil]
      refine CWops.callA (concat_Step up [d, w, (b.F.drop kept).map fun f => ⟨0, a.Name, f⟩] (by simp) (by simp only [List.flatten_cons, List.flatten_nil, List.append_nil, List.length_append, List.length_map, List.length_drop]; unfold MX; omega)) (by simp only [go_sem, simprocAttr, List.replicate, eSteps, List.map_cons, List.map_nil]) (by simp only [go_sem, simprocAttr, List.replicate, eSteps, List.map_cons, List.map_nil]; first | done | exact rfl) (by simp only [go_sem, simprocAttr, List.replicate, eSteps, List.map_cons, List.map_nil]) (by simp only [go_sem, simprocAttr, List.replicate, eSteps, List.map_cons, List.map_nil]) (fun rt92 hrt92 => ?_)
      subst hrt92
      refine CWops.run htt 2 (by simp only [go_sem, simprocAttr, List.replicate, eSteps, List.map_cons, List.map_nil]; exact rfl) (by simp [AV.cell, AV.tree, MX] <;> omega) ?_
      refine CWops.done ?_
      refine CW.ret ?_
      refine retQ.ret (by simp only [f58, go_sem, simprocAttr]; exact rfl) (by simp only [go_sem, simprocAttr]; exact rfl) ?_ -- ret3
      refine ⟨_, ?_, rfl⟩
      first | (rw [hbad]; simp [leP, leL]; done) | (rw [hB.done]; simp [leP, leL]; done)
end Go.Ab
namespace Go.Ab
open Go Go.Proofs.Try
open Nat (reduceEqDiff reduceAdd reduceLT reduceLeDiff reduceBEq reduceSub reduceMul)
open Int (reduceToNat)
set_option maxRecDepth 100000
set_option maxHeartbeats 3200000
set_option linter.unusedSimpArgs false
set_option linter.unusedVariables false
theorem grade_Between (up : Bool) (s t : List GType) : PCall prog up 22 [.agg (eSchema s), .agg (eSchema t)] (· = .tup [.sl 5 ((gBetween s t).1.map eStep), .bool (gBetween s t).2]) := by
  refine PCall.intro htt func22 (by kernel_rfl) rfl (Nat.le_of_ble_eq_true rfl) fun hl => ?_

  simp only [tmps0, Nat.reduceAdd]
  refine CW.seq ?_
  refine CW.rg ?_
  refine CWops.run htt 4 (by simp only [go_sem, simprocAttr, eSchema]; exact rfl) (by simp [go_sem, simprocAttr, eSchema]) ?_
  refine CWops.done ?_
  refine CW.seq ?_
  refine CW.cut ⟨2, [(2, .lv 0 [] 0), (3, .lv 1 [] 0), (27, .bool (!((schemaMay s && schemaMay t) && decide (s.length = t.length))))], [(0, ⟨true, eSchema s⟩), (1, ⟨true, eSchema t⟩)]⟩ ?_ ?_
  · refine CW.rg ?_
    refine CWops.run htt 1 (by simp only [go_sem, simprocAttr, eSchema]; exact rfl) (by simp [go_sem, simprocAttr, eSchema]) ?_
    refine CWops.call (schema_May up s) (by simp only [go_sem, simprocAttr, eSchema]) (by simp only [go_sem, simprocAttr, eSchema]; first | done | exact rfl) (by simp only [go_sem, simprocAttr, eSchema]) (fun rt12 hrt12 => ?_)
    subst hrt12; refine ⟨rfl, ?_⟩
    refine CWops.run htt 2 (by simp only [go_sem, simprocAttr, eSchema]; exact rfl) (by simp [go_sem, simprocAttr, eSchema]) ?_
    all_goals (first | refine CWops.guard 14 (by simp only [go_sem, simprocAttr, eSchema]; exact rfl) (fun g14 => ?_) (fun g14 => ?_) | skip)
    all_goals (refine CWops.run htt 1 (by simp only [go_sem, simprocAttr, eSchema]; exact rfl) (by simp [go_sem, simprocAttr, eSchema]) ?_)
    all_goals (first | (refine CWops.skip ?_ ?_; next => (simp only [go_sem, simprocAttr]; done)) | (refine CWops.call (schema_May up t) (by simp only [go_sem, simprocAttr, eSchema]) (by simp only [go_sem, simprocAttr, eSchema]; first | done | exact rfl) (by simp only [go_sem, simprocAttr, eSchema]) (fun rt16 hrt16 => ?_); subst hrt16; refine ⟨rfl, ?_⟩))
    all_goals (refine CWops.run htt 3 (by simp only [go_sem, simprocAttr, eSchema]; exact rfl) (by simp [go_sem, simprocAttr, eSchema]) ?_)
    all_goals (first | refine CWops.guard 19 (by simp only [go_sem, simprocAttr, eSchema]; exact rfl) (fun g19 => ?_) (fun g19 => ?_) | skip)
    all_goals (refine CWops.run htt 8 (by simp only [go_sem, simprocAttr, eSchema]; exact rfl) (by simp [go_sem, simprocAttr, eSchema]) ?_)
    all_goals (refine CWops.done ?_)
    all_goals (
      first | refine ⟨rfl, Sh.wk0 ?_⟩ | refine Sh.wk0 ?_
      by_cases b1 : s.length = t.length <;> cases hs1 : schemaMay s <;> cases hs2 : schemaMay t <;> simp_all [Wk, go_sem, simprocAttr, eSchema] <;> first | done | omega)
  refine CW.cond (by simp only [go_sem, simprocAttr]; first | done | exact rfl) (fun ct27 => ?_) (fun ct27 => ?_)
  · have hbad : gBetween s t = ([], false) := by
      have h0 : ((schemaMay s && schemaMay t) && decide (s.length = t.length)) = false := by simp only [Bool.not_eq_true'] at ct27; exact ct27
      unfold gBetween; rw [h0]; rfl
    refine CW.seq ?_
    refine CW.rg ?_
    refine CWops.rn htt 2 ?_
    refine CWops.done ?_
    refine CW.ret ?_
    refine retQ.ret (by simp only [f22, go_sem, simprocAttr]; exact rfl) (by simp only [go_sem, simprocAttr]; exact rfl) ?_ -- ret1
    refine ⟨_, ?_, rfl⟩
    first | (rw [hbad]; simp [leP, leL]; done) | (rw [hdone]; simp [leP, leL]; done)
  · have hok : ((schemaMay s && schemaMay t) && decide (s.length = t.length)) = true := by simp only [Bool.not_eq_false'] at ct27; exact ct27
    have hok2 := hok
    simp only [Bool.and_eq_true, decide_eq_true_eq] at hok2
    obtain ⟨⟨hms, hmt⟩, hlen⟩ := hok2
    have hS := (smay_iff s).1 hms
    have hT := (smay_iff t).1 hmt
    have hs4 := hS.len
    refine CW.skip ?_
    refine CW.seq ?_
    refine CW.rg ?_
    refine CWops.rn htt 1 ?_
    refine CWops.done ?_
    refine CW.seq ?_
    refine CW.seq ?_
    refine CW.rg ?_
    refine CWops.run htt 4 (by simp only [go_sem, simprocAttr, eSchema]; exact rfl) (by simp [go_sem, simprocAttr, eSchema]) ?_
    refine CWops.done ?_
    refine CW.block ?_
    refine CW.loop (S := Nat × List GStep) (fun p => ⟨3, [(2, .lv 0 [] 0), (3, .lv 1 [] 0), (6, .ref 2 [] 0), (29, .sl 2 (s.map eType)), (30, .int .i64 s.length), (31, .int .i64 p.1)], [(0, ⟨true, eSchema s⟩), (1, ⟨true, eSchema t⟩), (2, ⟨false, [.own 5 (p.2.map eStep)]⟩)]⟩) (fun p => p.1 ≤ s.length ∧ bwFold s t p.1 = some p.2 ∧ p.2.length ≤ 15 * p.1) (fun p => s.length - p.1) ((0, [])) ?_ ⟨Nat.zero_le _, rfl, Nat.le_refl _⟩ (fun ⟨i, l⟩ hB => ?_)
    · refine Sh.trans (Sh.nilRoot 6 5 (by simp only [go_sem, simprocAttr]) rfl) (Sh.wk0 ?_); simp [Wk, go_sem, simprocAttr, eSchema]
    simp only at hB
    refine CW.seq ?_
    refine CW.rg ?_
    refine CWops.rn htt 1 ?_
    refine CWops.done ?_
    refine CW.seq ?_
    refine CW.cond (by simp only [go_sem, simprocAttr]; first | done | exact rfl) (fun ct32 => ?_) (fun ct32 => ?_)
    · have hi : i < s.length := by simpa using ct32
      obtain ⟨a, ha⟩ : ∃ x, s[i]? = some x := ⟨s[i], List.getElem?_eq_getElem hi⟩
      have hit : i < t.length := by omega
      obtain ⟨b, hbt⟩ : ∃ x, t[i]? = some x := ⟨t[i], List.getElem?_eq_getElem hit⟩
      have hF5 := hS.flen i a ha
      have hG5 := hT.flen i b hbt
      have hll := betw_len hF5 hG5
      have hsucc := bwFold_succ ha hbt
      rw [hB.2.1] at hsucc
      have hB2 := hB.2.2
      refine CW.skip ?_
      refine CW.seq ?_
      refine CW.block ?_
      refine CW.seq ?_
      refine CW.rg ?_
      refine CWops.run htt 6 (by simp only [go_sem, simprocAttr, hi, ha, eType]; exact rfl) (by simp [go_sem, simprocAttr, hi, ha, eType]) ?_
      refine CWops.done ?_
      refine CW.seq ?_
      refine CW.drawn mixed 11 (by decide) (by kernel_rfl) (by kernel_rfl) (by kernel_rfl) ?_
      refine Seg.run htt 6 (by simp only [go_sem, simprocAttr, eType, eSchema, hit, hbt]; exact rfl) ?_
      refine Seg.callA (grade_between up a b hF5 hG5) (by simp only [go_sem, simprocAttr, eType, eSchema, hit, hbt]) (by simp only [go_sem, simprocAttr, eType, eSchema, hit, hbt]; first | done | exact rfl) (by simp only [go_sem, simprocAttr, eType, eSchema, hit, hbt]) (by simp only [go_sem, simprocAttr, eType, eSchema, hit, hbt]) ?_
      refine Seg.run htt 4 (by simp only [go_sem, simprocAttr, eType, eSchema, hit, hbt]; exact rfl) ?_
      refine Seg.done ?_
      refine CWops.run htt 1 (by simp only [go_sem, simprocAttr, eType, eSchema, hit, hbt]; exact rfl) (by simp [go_sem, simprocAttr, eType, eSchema, hit, hbt]) ?_
      refine CWops.done ?_
      refine CW.seq ?_
      refine CW.seq ?_
      refine CW.drawn mixed 11 (by decide) (by kernel_rfl) (by kernel_rfl) (by kernel_rfl) ?_
      refine Seg.run htt 3 (by simp only [go_sem, simprocAttr, eType, eSchema, hit, hbt]; exact rfl) ?_
      all_goals (first | refine Seg.guard 48 (by simp only [go_sem, simprocAttr, eType, eSchema, hit, hbt]; exact rfl) (fun g48 => ?_) (fun g48 => ?_) | skip)
      all_goals (refine Seg.run htt 8 (by simp only [go_sem, simprocAttr, eType, eSchema, hit, hbt]; exact rfl) ?_)
      all_goals (refine Seg.done ?_)
      all_goals (refine CWops.run htt 2 (by simp only [go_sem, simprocAttr, eType, eSchema, hit, hbt]; exact rfl) (by simp [go_sem, simprocAttr, eType, eSchema, hit, hbt]) ?_)
      all_goals (refine CWops.done ?_)
      all_goals (
        refine CW.cond (by simp only [go_sem, simprocAttr]; first | done | exact rfl) (fun ct58 => ?_) (fun ct58 => ?_)
        · have hbad : gBetween s t = ([], false) := by
            have h0 : ((betw a b).2 && decide (a.Name = b.Name)) = false := by
              cases h1 : (betw a b).2 <;> by_cases h2 : a.Name = b.Name <;> simp_all
            have : bwFold s t (i + 1) = none := by rw [hsucc]; simp only [bwStep]; rw [h0]; rfl
            unfold gBetween; rw [if_pos hok, bwFold_dead this hlen]
          refine CW.seq ?_
          refine CW.rg ?_
          refine CWops.rn htt 2 ?_
          refine CWops.done ?_
          refine CW.ret ?_
          refine retQ.ret (by simp only [f22, go_sem, simprocAttr]; exact rfl) (by simp only [go_sem, simprocAttr]; exact rfl) ?_ -- ret2
          refine ⟨_, ?_, rfl⟩
          first | (rw [hbad]; simp [leP, leL]; done) | (rw [hdone]; simp [leP, leL]; done)
        · have hgo : bwFold s t (i + 1) = some (l ++ (betw a b).1) := by
            have h0 : ((betw a b).2 && decide (a.Name = b.Name)) = true := by
              cases h1 : (betw a b).2 <;> by_cases h2 : a.Name = b.Name <;> simp_all
            rw [hsucc]; simp only [bwStep]; rw [if_pos h0]
          refine CW.skip ?_
          refine CW.rg ?_
          refine CWops.run htt 4 (by simp only [go_sem, simprocAttr]; exact rfl) (by refine ⟨?_, ?_, ?_⟩ <;> first | (simp [eStep, AV.cell]; done) | (simp [MX]; omega)) ?_
          refine CWops.done ?_
          refine CW.rg ?_
          refine CWops.run htt 2 (by simp only [go_sem, simprocAttr, wrap_succ (show i < MX by unfold MX; omega)]; exact rfl) (by simp [go_sem, simprocAttr, wrap_succ (show i < MX by unfold MX; omega)]) ?_
          refine CWops.done ?_
          refine ⟨(i + 1, l ++ (betw a b).1), ?_, ?_, ?_⟩
          · refine Sh.wk (fun x => if x = 2 then 4 else x) ?_; simp [Wk, go_sem, simprocAttr, eSchema]
          · exact ⟨hi, hgo, by simp; omega⟩
          · simp only; omega)
    · have hi : i = s.length := by have := hB.1; simp at ct32; omega
      subst hi
      have hdone : gBetween s t = (l, true) := by unfold gBetween; rw [if_pos hok, hB.2.1]
      refine CW.exit ?_
      refine CW.seq ?_
      refine CW.rg ?_
      refine CWops.rn htt 3 ?_
      refine CWops.done ?_
      refine CW.ret ?_
      refine retQ.ret (by simp only [f22, go_sem, simprocAttr]; exact rfl) (by simp only [go_sem, simprocAttr]; exact rfl) ?_ -- ret3
      refine ⟨_, ?_, rfl⟩
      first | (rw [hbad]; simp [leP, leL]; done) | (rw [hdone]; simp [leP, leL]; done)
end Go.Ab
namespace Go.Ab
open Go Go.Proofs.Try
open Nat (reduceEqDiff reduceAdd reduceLT reduceLeDiff reduceBEq reduceSub reduceMul)
open Int (reduceToNat)
set_option maxRecDepth 100000
set_option maxHeartbeats 3200000
set_option linter.unusedSimpArgs false
set_option linter.unusedVariables false
theorem nil_MX : (Array.size (#[] : Array UInt8) ≤ MX) = True := eq_true (Nat.zero_le _)
theorem grade_Graph (up : Bool) (g : Graph) (x : GStep) : PCall prog up 13 [.agg (eGraph g), .agg (eStep x)] (· = .tup [.agg (eGraph (gGrade g x).1), .int .i64 (gGrade g x).2]) := by
  cases hm : gMay g with
  | false => exact grade_Graph_bad up g x hm
  | true =>
    by_cases h0 : (gDo g.S x).1 = 0
    · exact grade_Graph_ok up g x hm h0
    · exact grade_Graph_err up g x hm h0
theorem aw13Graph (up : Bool) : PCall prog up 13 [.agg (eGraph aG), .agg (eStep aX)] (· = .tup [.agg (eGraph aG2), .int .i64 0]) := by
  have h := grade_Graph up aG aX
  rw [aG_grade] at h
  exact h
theorem aw13Between (up : Bool) : ∃ l : List GStep, l.length = 1 ∧ PCall prog up 22 [.agg (eSchema aS), .agg (eSchema aS2)] (· = .tup [.sl 5 (l.map eStep), .bool true]) := by
  have h := grade_Between up aS aS2
  rw [aS_btw.1] at h
  exact ⟨_, aS_btw.2, h⟩
theorem law13_awake (up : Bool) : PCall prog up 10 [] (· = .bool true) := by
  refine PCall.intro htt func10 (by kernel_rfl) rfl (Nat.le_of_ble_eq_true rfl) fun hl => ?_
  obtain ⟨l, hl1, hbt⟩ := aw13Between up
  simp only [tmps0, Nat.reduceAdd]
  refine CW.seq ?_
  refine CW.rg ?_
  refine CWops.rn htt 1 ?_
  refine CWops.done ?_
  refine CW.seq ?_
  refine CW.rg ?_
  refine CWops.run htt 1 (by simp only [go_sem, simprocAttr, one_MX, nil_MX]; exact rfl) (by simp [go_sem, simprocAttr, one_MX, nil_MX]) ?_
  refine CWops.run htt 1 (by simp only [go_sem, simprocAttr, List.replicate, one_MX, nil_MX]; exact rfl) (by simp [go_sem, simprocAttr]) ?_
  refine CWops.sh (Sh.frzT 8 0 (by simp only [go_sem, simprocAttr]) (by simp only [go_sem, simprocAttr]; first | done | exact rfl) rfl) ?_
  simp only [go_sem, simprocAttr, AV.freeze]
  refine CWops.run htt 1 (by simp only [go_sem, simprocAttr, one_MX, nil_MX]; exact rfl) (by simp [go_sem, simprocAttr, one_MX, nil_MX]) ?_
  refine CWops.run htt 1 (by simp only [go_sem, simprocAttr, List.replicate, one_MX, nil_MX]; exact rfl) (by simp [go_sem, simprocAttr]) ?_
  refine CWops.sh (Sh.frzT 10 1 (by simp only [go_sem, simprocAttr]) (by simp only [go_sem, simprocAttr]; first | done | exact rfl) rfl) ?_
  simp only [go_sem, simprocAttr, AV.freeze]
  refine CWops.run htt 3 (by simp only [go_sem, simprocAttr, one_MX, nil_MX]; exact rfl) (by simp [go_sem, simprocAttr, one_MX, nil_MX]) ?_
  refine CWops.done ?_
  refine CW.seq ?_
  refine CW.rg ?_
  refine CWops.run htt 2 (by simp only [go_sem, simprocAttr, one_MX, nil_MX]; exact rfl) (by simp [go_sem, simprocAttr, one_MX, nil_MX]) ?_
  refine CWops.run htt 1 (by simp only [go_sem, simprocAttr, List.replicate, one_MX, nil_MX]; exact rfl) (by simp [go_sem, simprocAttr]) ?_
  refine CWops.sh (Sh.frzT 14 3 (by simp only [go_sem, simprocAttr]) (by simp only [go_sem, simprocAttr]; first | done | exact rfl) rfl) ?_
  simp only [go_sem, simprocAttr, AV.freeze]
  refine CWops.run htt 1 (by simp only [go_sem, simprocAttr, one_MX, nil_MX]; exact rfl) (by simp [go_sem, simprocAttr, one_MX, nil_MX]) ?_
  refine CWops.run htt 1 (by simp only [go_sem, simprocAttr, List.replicate, one_MX, nil_MX]; exact rfl) (by simp [go_sem, simprocAttr]) ?_
  refine CWops.sh (Sh.frzT 16 4 (by simp only [go_sem, simprocAttr]) (by simp only [go_sem, simprocAttr]; first | done | exact rfl) rfl) ?_
  simp only [go_sem, simprocAttr, AV.freeze]
  refine CWops.run htt 3 (by simp only [go_sem, simprocAttr, one_MX, nil_MX]; exact rfl) (by simp [go_sem, simprocAttr, one_MX, nil_MX]) ?_
  refine CWops.done ?_
  refine CW.seq ?_
  refine CW.rg ?_
  refine CWops.run htt 3 (by simp only [go_sem, simprocAttr, one_MX, nil_MX, aG, aS, aX, aG2, aS2, eGraph, eSchema, eType, eField, eObj, eVal, eStep, List.map_cons, List.map_nil]; exact rfl) (by simp [go_sem, simprocAttr, one_MX, nil_MX, aG, aS, aX, aG2, aS2, eGraph, eSchema, eType, eField, eObj, eVal, eStep, List.map_cons, List.map_nil]) ?_
  refine CWops.callA (aw13Graph up) (by simp only [go_sem, simprocAttr, one_MX, nil_MX, aG, aS, aX, aG2, aS2, eGraph, eSchema, eType, eField, eObj, eVal, eStep, List.map_cons, List.map_nil]) (by simp only [go_sem, simprocAttr, one_MX, nil_MX, aG, aS, aX, aG2, aS2, eGraph, eSchema, eType, eField, eObj, eVal, eStep, List.map_cons, List.map_nil]; first | done | exact rfl) (by simp only [go_sem, simprocAttr, one_MX, nil_MX, aG, aS, aX, aG2, aS2, eGraph, eSchema, eType, eField, eObj, eVal, eStep, List.map_cons, List.map_nil]) (by simp only [go_sem, simprocAttr, one_MX, nil_MX, aG, aS, aX, aG2, aS2, eGraph, eSchema, eType, eField, eObj, eVal, eStep, List.map_cons, List.map_nil]) (fun rt22 hrt22 => ?_)
  subst hrt22
  refine CWops.run htt 6 (by simp only [go_sem, simprocAttr, one_MX, nil_MX, aG, aS, aX, aG2, aS2, eGraph, eSchema, eType, eField, eObj, eVal, eStep, List.map_cons, List.map_nil]; exact rfl) (by simp [go_sem, simprocAttr, one_MX, nil_MX, aG, aS, aX, aG2, aS2, eGraph, eSchema, eType, eField, eObj, eVal, eStep, List.map_cons, List.map_nil]) ?_
  refine CWops.done ?_
  refine CW.seq ?_
  refine CW.rg ?_
  refine CWops.run htt 3 (by simp only [go_sem, simprocAttr, one_MX, nil_MX, aG, aS, aX, aG2, aS2, eGraph, eSchema, eType, eField, eObj, eVal, eStep, List.map_cons, List.map_nil]; exact rfl) (by simp [go_sem, simprocAttr, one_MX, nil_MX, aG, aS, aX, aG2, aS2, eGraph, eSchema, eType, eField, eObj, eVal, eStep, List.map_cons, List.map_nil]) ?_
  refine CWops.callA (hbt) (by simp only [go_sem, simprocAttr, one_MX, nil_MX, aG, aS, aX, aG2, aS2, eGraph, eSchema, eType, eField, eObj, eVal, eStep, List.map_cons, List.map_nil]) (by simp only [go_sem, simprocAttr, one_MX, nil_MX, aG, aS, aX, aG2, aS2, eGraph, eSchema, eType, eField, eObj, eVal, eStep, List.map_cons, List.map_nil]; first | done | exact rfl) (by simp only [go_sem, simprocAttr, one_MX, nil_MX, aG, aS, aX, aG2, aS2, eGraph, eSchema, eType, eField, eObj, eVal, eStep, List.map_cons, List.map_nil]) (by simp only [go_sem, simprocAttr, one_MX, nil_MX, aG, aS, aX, aG2, aS2, eGraph, eSchema, eType, eField, eObj, eVal, eStep, List.map_cons, List.map_nil]) (fun rt29 hrt29 => ?_)
  subst hrt29
  refine CWops.run htt 5 (by simp only [go_sem, simprocAttr, one_MX, nil_MX, aG, aS, aX, aG2, aS2, eGraph, eSchema, eType, eField, eObj, eVal, eStep, List.map_cons, List.map_nil]; exact rfl) (by simp [go_sem, simprocAttr, one_MX, nil_MX, aG, aS, aX, aG2, aS2, eGraph, eSchema, eType, eField, eObj, eVal, eStep, List.map_cons, List.map_nil]) ?_
  refine CWops.done ?_
  refine CW.seq ?_
  refine CW.rg ?_
  refine CWops.run htt 3 (by simp only [go_sem, simprocAttr, one_MX, nil_MX, aG, aS, aX, aG2, aS2, eGraph, eSchema, eType, eField, eObj, eVal, eStep, List.map_cons, List.map_nil, hl1, List.getElem?_cons_zero, List.length_cons, List.length_nil]; exact rfl) (by simp [go_sem, simprocAttr, one_MX, nil_MX, aG, aS, aX, aG2, aS2, eGraph, eSchema, eType, eField, eObj, eVal, eStep, List.map_cons, List.map_nil, hl1, List.getElem?_cons_zero, List.length_cons, List.length_nil]) ?_
  all_goals (first | refine CWops.guard 34 (by simp only [go_sem, simprocAttr, one_MX, nil_MX, aG, aS, aX, aG2, aS2, eGraph, eSchema, eType, eField, eObj, eVal, eStep, List.map_cons, List.map_nil, hl1, List.getElem?_cons_zero, List.length_cons, List.length_nil]; exact rfl) (fun g34 => ?_) (fun g34 => ?_) | skip)
  all_goals (first | (simp at g34; done) | (cases g34; done) | skip)
  all_goals (refine CWops.run htt 6 (by simp only [go_sem, simprocAttr, one_MX, nil_MX, aG, aS, aX, aG2, aS2, eGraph, eSchema, eType, eField, eObj, eVal, eStep, List.map_cons, List.map_nil, hl1, List.getElem?_cons_zero, List.length_cons, List.length_nil]; exact rfl) (by simp [go_sem, simprocAttr, one_MX, nil_MX, aG, aS, aX, aG2, aS2, eGraph, eSchema, eType, eField, eObj, eVal, eStep, List.map_cons, List.map_nil, hl1, List.getElem?_cons_zero, List.length_cons, List.length_nil]) ?_)
  all_goals (first | refine CWops.guard 40 (by simp only [go_sem, simprocAttr, one_MX, nil_MX, aG, aS, aX, aG2, aS2, eGraph, eSchema, eType, eField, eObj, eVal, eStep, List.map_cons, List.map_nil, hl1, List.getElem?_cons_zero, List.length_cons, List.length_nil]; exact rfl) (fun g40 => ?_) (fun g40 => ?_) | skip)
  all_goals (first | (simp at g40; done) | (cases g40; done) | skip)
  all_goals (refine CWops.run htt 11 (by simp only [go_sem, simprocAttr, one_MX, nil_MX, aG, aS, aX, aG2, aS2, eGraph, eSchema, eType, eField, eObj, eVal, eStep, List.map_cons, List.map_nil, hl1, List.getElem?_cons_zero, List.length_cons, List.length_nil]; exact rfl) (by simp [go_sem, simprocAttr, one_MX, nil_MX, aG, aS, aX, aG2, aS2, eGraph, eSchema, eType, eField, eObj, eVal, eStep, List.map_cons, List.map_nil, hl1, List.getElem?_cons_zero, List.length_cons, List.length_nil]) ?_)
  all_goals (first | refine CWops.guard 51 (by simp only [go_sem, simprocAttr, one_MX, nil_MX, aG, aS, aX, aG2, aS2, eGraph, eSchema, eType, eField, eObj, eVal, eStep, List.map_cons, List.map_nil, hl1, List.getElem?_cons_zero, List.length_cons, List.length_nil]; exact rfl) (fun g51 => ?_) (fun g51 => ?_) | skip)
  all_goals (first | (simp at g51; done) | (cases g51; done) | skip)
  all_goals (refine CWops.run htt 12 (by simp only [go_sem, simprocAttr, one_MX, nil_MX, aG, aS, aX, aG2, aS2, eGraph, eSchema, eType, eField, eObj, eVal, eStep, List.map_cons, List.map_nil, hl1, List.getElem?_cons_zero, List.length_cons, List.length_nil]; exact rfl) (by simp [go_sem, simprocAttr, one_MX, nil_MX, aG, aS, aX, aG2, aS2, eGraph, eSchema, eType, eField, eObj, eVal, eStep, List.map_cons, List.map_nil, hl1, List.getElem?_cons_zero, List.length_cons, List.length_nil]) ?_)
  all_goals (first | refine CWops.guard 63 (by simp only [go_sem, simprocAttr, one_MX, nil_MX, aG, aS, aX, aG2, aS2, eGraph, eSchema, eType, eField, eObj, eVal, eStep, List.map_cons, List.map_nil, hl1, List.getElem?_cons_zero, List.length_cons, List.length_nil]; exact rfl) (fun g63 => ?_) (fun g63 => ?_) | skip)
  all_goals (first | (simp at g63; done) | (cases g63; done) | skip)
  all_goals (refine CWops.run htt 3 (by simp only [go_sem, simprocAttr, one_MX, nil_MX, aG, aS, aX, aG2, aS2, eGraph, eSchema, eType, eField, eObj, eVal, eStep, List.map_cons, List.map_nil, hl1, List.getElem?_cons_zero, List.length_cons, List.length_nil]; exact rfl) (by simp [go_sem, simprocAttr, one_MX, nil_MX, aG, aS, aX, aG2, aS2, eGraph, eSchema, eType, eField, eObj, eVal, eStep, List.map_cons, List.map_nil, hl1, List.getElem?_cons_zero, List.length_cons, List.length_nil]) ?_)
  all_goals (first | refine CWops.guard 66 (by simp only [go_sem, simprocAttr, one_MX, nil_MX, aG, aS, aX, aG2, aS2, eGraph, eSchema, eType, eField, eObj, eVal, eStep, List.map_cons, List.map_nil, hl1, List.getElem?_cons_zero, List.length_cons, List.length_nil]; exact rfl) (fun g66 => ?_) (fun g66 => ?_) | skip)
  all_goals (first | (simp at g66; done) | (cases g66; done) | skip)
  all_goals (refine CWops.run htt 5 (by simp only [go_sem, simprocAttr, one_MX, nil_MX, aG, aS, aX, aG2, aS2, eGraph, eSchema, eType, eField, eObj, eVal, eStep, List.map_cons, List.map_nil, hl1, List.getElem?_cons_zero, List.length_cons, List.length_nil]; exact rfl) (by simp [go_sem, simprocAttr, one_MX, nil_MX, aG, aS, aX, aG2, aS2, eGraph, eSchema, eType, eField, eObj, eVal, eStep, List.map_cons, List.map_nil, hl1, List.getElem?_cons_zero, List.length_cons, List.length_nil]) ?_)
  all_goals (refine CWops.done ?_)
  all_goals (
    refine CW.ret ?_
    refine retQ.ret (by simp only [f10, go_sem, simprocAttr]; exact rfl) (by simp only [go_sem, simprocAttr]; exact rfl) ?_ -- ret1
    refine ⟨_, ?_, rfl⟩
    first | (simp [leP]; done) | (simp_all [leP]; done))
end Go.Ab
namespace Go.Ab
open Go Go.Proofs.Try
open Nat (reduceEqDiff reduceAdd reduceLT reduceLeDiff reduceBEq reduceSub reduceMul)
open Int (reduceToNat)
set_option maxRecDepth 100000
set_option maxHeartbeats 3200000
set_option linter.unusedSimpArgs false
set_option linter.unusedVariables false
theorem grade_ownP (up : Bool) (s : List GType) (h1 : s.length * 40 ≤ MX) (h2 : ∀ x ∈ s, x.F.length * 40 ≤ MX) : PCall prog up 89 [.agg (eSchema s)] (· = .agg (eSchema s)) := by
  refine PCall.intro htt func89 (by kernel_rfl) rfl (Nat.le_of_ble_eq_true rfl) fun hl => ?_
  have hb : s.length ≤ MX := by omega
  simp only [tmps0, Nat.reduceAdd]
  refine CW.seq ?_
  refine CW.rg ?_
  refine CWops.run htt 2 (by simp only [go_sem, simprocAttr, eSchema]; exact rfl) (by simp [go_sem, simprocAttr, eSchema]) ?_
  refine CWops.done ?_
  refine CW.seq ?_
  refine CW.rg ?_
  refine CWops.run htt 2 (by simp only [go_sem, simprocAttr, eSchema]; exact rfl) (by simp [go_sem, simprocAttr, eSchema]) ?_
  refine CWops.callG [] rfl (clone_TypeG up s h1) (by simp only [go_sem, simprocAttr]) (by simp only [go_sem, simprocAttr]; first | done | exact rfl) (by decide) (by simp [go_sem, simprocAttr, mName, memB]) (by simp [go_sem, simprocAttr, mName]) (by simp [go_sem, simprocAttr]) (by simp [go_sem, simprocAttr]) (by simp [go_sem, simprocAttr, mName]) (fun r σ' hσ => ?_)
  obtain ⟨σn, σt, σs⟩ := σ'
  simp only at hσ
  obtain ⟨rfl, rfl, rfl⟩ := hσ
  simp only [aftS, renS, delAll, memB, mName, List.getD_nil, killH, kref, ren, Nat.beq_eq, go_sem, simprocAttr]
  refine CWops.run htt 2 (by simp only [go_sem, simprocAttr, eSchema]; exact rfl) (by simp [go_sem, simprocAttr, eSchema]) ?_
  refine CWops.done ?_
  refine CW.seq ?_
  refine CW.seq ?_
  refine CW.rg ?_
  refine CWops.rn htt 4 ?_
  refine CWops.done ?_
  refine CW.block ?_
  refine CW.loop (S := Nat) (fun i => ⟨2, [(1, .lv 0 [] 0), (2, .lv 1 [] 0), (10, .ref 0 [] 0), (11, .int .i64 s.length), (12, .int .i64 i)], [(0, ⟨true, [.own 2 (s.map eType)]⟩), (1, ⟨true, [.nilsl]⟩)]⟩) (fun i => i ≤ s.length) (fun i => s.length - i) (0) ?_ (Nat.zero_le _) (fun i h3 => ?_)
  · refine Sh.wk0 ?_; simp [Wk, go_sem, simprocAttr]
  refine CW.seq ?_
  refine CW.rg ?_
  refine CWops.rn htt 1 ?_
  refine CWops.done ?_
  refine CW.seq ?_
  refine CW.cond (by simp only [go_sem, simprocAttr]; first | done | exact rfl) (fun ct13 => ?_) (fun ct13 => ?_)
  · have hi : i < s.length := by simpa using ct13
    obtain ⟨x, hx⟩ : ∃ x, s[i]? = some x := ⟨s[i], List.getElem?_eq_getElem hi⟩
    refine CW.skip ?_
    refine CW.seq ?_
    refine CW.block ?_
    refine CW.seq ?_
    refine CW.rg ?_
    refine CWops.run htt 6 (by simp only [go_sem, simprocAttr, hi, hx, eType]; exact rfl) (by simp [go_sem, simprocAttr, hi, hx, eType]) ?_
    refine CWops.done ?_
    refine CW.drawn mixed 6 (by decide) (by kernel_rfl) (by kernel_rfl) (by kernel_rfl) ?_
    refine Seg.run htt 5 (by simp only [go_sem, simprocAttr, hi, hx, eType]; exact rfl) ?_
    refine Seg.callA (clone_Field up x.F (h2 x (List.mem_of_getElem? hx))) (by simp only [go_sem, simprocAttr, hi, hx, eType]) (by simp only [go_sem, simprocAttr, hi, hx, eType]; first | done | exact rfl) (by simp only [go_sem, simprocAttr, hi, hx, eType]) (by simp only [go_sem, simprocAttr, hi, hx, eType]) ?_
    refine Seg.done ?_
    refine CWops.run htt 3 (by simp only [go_sem, simprocAttr, hi, hx, eType]; exact rfl) (by simp [go_sem, simprocAttr, hi, hx, eType]) ?_
    refine CWops.done ?_
    refine CW.rg ?_
    refine CWops.run htt 2 (by simp only [go_sem, simprocAttr, wrap_succ (Nat.lt_of_lt_of_le hi hb)]; exact rfl) (by simp [go_sem, simprocAttr, wrap_succ (Nat.lt_of_lt_of_le hi hb)]) ?_
    refine CWops.done ?_
    refine ⟨i + 1, ?_, ?_, ?_⟩
    · refine Sh.wk0 ?_
      have hss : (s.map eType).set i [.str x.Name, .sl 3 (x.F.map eField)] = s.map eType := set_same (by rw [List.getElem?_map, hx]; rfl)
      simp [Wk, go_sem, simprocAttr, hss]
    · exact hi
    · simp only; omega
  · have hi : i = s.length := by simp at ct13; omega
    refine CW.exit ?_
    refine CW.seq ?_
    refine CW.rg ?_
    refine CWops.rn htt 2 ?_
    refine CWops.done ?_
    refine CW.ret ?_
    refine retQ.ret (by simp only [f89, go_sem, simprocAttr]; exact rfl) (by simp only [go_sem, simprocAttr]; exact rfl) ?_ -- ret1
    refine ⟨_, ?_, rfl⟩
    simp [leP, leL, eSchema, frz_Type]
theorem grade_copied (up : Bool) (g : Graph) (hz : GSz g) : PCall prog up 57 [.agg (eGraph g)] (· = .agg (eGraph g)) := by
  refine PCall.intro htt func57 (by kernel_rfl) rfl (Nat.le_of_ble_eq_true rfl) fun hl => ?_
  have hb2 : g.O.length ≤ MX := by have := hz.o; omega
  simp only [tmps0, Nat.reduceAdd]
  refine CW.seq ?_
  refine CW.rg ?_
  refine CWops.run htt 2 (by simp only [go_sem, simprocAttr, eGraph]; exact rfl) (by simp [go_sem, simprocAttr, eGraph]) ?_
  refine CWops.done ?_
  refine CW.seq ?_
  refine CW.drawn mixed 10 (by decide) (by kernel_rfl) (by kernel_rfl) (by kernel_rfl) ?_
  refine Seg.run htt 2 (by simp only [go_sem, simprocAttr, eGraph, eSchema]; exact rfl) ?_
  refine Seg.callA (grade_ownP up g.S hz.s hz.sf) (by simp only [go_sem, simprocAttr, eGraph, eSchema]) (by simp only [go_sem, simprocAttr, eGraph, eSchema]; first | done | exact rfl) (by simp only [go_sem, simprocAttr, eGraph, eSchema]) (by simp only [go_sem, simprocAttr, eGraph, eSchema]) ?_
  refine Seg.run htt 2 (by simp only [go_sem, simprocAttr, eGraph, eSchema]; exact rfl) ?_
  refine Seg.callN (clone_ObjG up g.O hz.o) (by simp only [go_sem, simprocAttr]) (by simp only [go_sem, simprocAttr]; first | done | exact rfl) (by simp [go_sem, simprocAttr]) ?_
  refine Seg.run htt 2 (by simp only [go_sem, simprocAttr, eGraph, eSchema]; exact rfl) ?_
  refine Seg.callA (clone_Int up g.Roots hz.r) (by simp only [go_sem, simprocAttr, eGraph, eSchema]) (by simp only [go_sem, simprocAttr, eGraph, eSchema]; first | done | exact rfl) (by simp only [go_sem, simprocAttr, eGraph, eSchema]) (by simp only [go_sem, simprocAttr, eGraph, eSchema]) ?_
  refine Seg.run htt 1 (by simp only [go_sem, simprocAttr, eGraph, eSchema]; exact rfl) ?_
  refine Seg.done ?_
  refine CWops.run htt 5 (by simp only [go_sem, simprocAttr, eGraph, eSchema]; exact rfl) (by simp [go_sem, simprocAttr, eGraph, eSchema]) ?_
  refine CWops.done ?_
  refine CW.seq ?_
  refine CW.seq ?_
  refine CW.rg ?_
  refine CWops.rn htt 4 ?_
  refine CWops.done ?_
  refine CW.block ?_
  refine CW.loop (S := Nat) (fun i => ⟨2, [(1, .lv 0 [] 0), (2, .lv 1 [] 0), (18, .ref 0 [] 1), (19, .int .i64 g.O.length), (20, .int .i64 i)], [(0, ⟨true, [.sl 2 (g.S.map eType), .own 3 (g.O.map eObj), .sl 1 (g.Roots.map eI)]⟩), (1, ⟨true, [.nilsl, .nilsl, .nilsl]⟩)]⟩) (fun i => i ≤ g.O.length) (fun i => g.O.length - i) (0) ?_ (Nat.zero_le _) (fun i h3 => ?_)
  · refine Sh.wk0 ?_; simp [Wk, go_sem, simprocAttr, eSchema]
  refine CW.seq ?_
  refine CW.rg ?_
  refine CWops.rn htt 1 ?_
  refine CWops.done ?_
  refine CW.seq ?_
  refine CW.cond (by simp only [go_sem, simprocAttr]; first | done | exact rfl) (fun ct21 => ?_) (fun ct21 => ?_)
  · have hi : i < g.O.length := by simpa using ct21
    obtain ⟨x, hx⟩ : ∃ x, g.O[i]? = some x := ⟨g.O[i], List.getElem?_eq_getElem hi⟩
    refine CW.skip ?_
    refine CW.seq ?_
    refine CW.block ?_
    refine CW.seq ?_
    refine CW.rg ?_
    refine CWops.run htt 6 (by simp only [go_sem, simprocAttr, hi, hx, eObj]; exact rfl) (by simp [go_sem, simprocAttr, hi, hx, eObj]) ?_
    refine CWops.done ?_
    refine CW.drawn mixed 6 (by decide) (by kernel_rfl) (by kernel_rfl) (by kernel_rfl) ?_
    refine Seg.run htt 5 (by simp only [go_sem, simprocAttr, hi, hx, eObj]; exact rfl) ?_
    refine Seg.callA (clone_Val up x.F (hz.of_ x (List.mem_of_getElem? hx))) (by simp only [go_sem, simprocAttr, hi, hx, eObj]) (by simp only [go_sem, simprocAttr, hi, hx, eObj]; first | done | exact rfl) (by simp only [go_sem, simprocAttr, hi, hx, eObj]) (by simp only [go_sem, simprocAttr, hi, hx, eObj]) ?_
    refine Seg.done ?_
    refine CWops.run htt 3 (by simp only [go_sem, simprocAttr, hi, hx, eObj]; exact rfl) (by simp [go_sem, simprocAttr, hi, hx, eObj]) ?_
    refine CWops.done ?_
    refine CW.rg ?_
    refine CWops.run htt 2 (by simp only [go_sem, simprocAttr, wrap_succ (Nat.lt_of_lt_of_le hi hb2)]; exact rfl) (by simp [go_sem, simprocAttr, wrap_succ (Nat.lt_of_lt_of_le hi hb2)]) ?_
    refine CWops.done ?_
    refine ⟨i + 1, ?_, ?_, ?_⟩
    · refine Sh.wk0 ?_
      have hss : (g.O.map eObj).set i [.int .i64 x.Id, .int .i64 x.T, .sl 3 (x.F.map eVal)] = g.O.map eObj := set_same (by rw [List.getElem?_map, hx]; rfl)
      simp [Wk, go_sem, simprocAttr, hss]
    · exact hi
    · simp only; omega
  · have hi : i = g.O.length := by simp at ct21; omega
    refine CW.exit ?_
    refine CW.seq ?_
    refine CW.rg ?_
    refine CWops.rn htt 2 ?_
    refine CWops.done ?_
    refine CW.ret ?_
    refine retQ.ret (by simp only [f57, go_sem, simprocAttr]; exact rfl) (by simp only [go_sem, simprocAttr]; exact rfl) ?_ -- ret1
    refine ⟨_, ?_, rfl⟩
    simp [leP, leL, eGraph, frz_Obj]
theorem grade_All (up : Bool) (g : Graph) (l : List GStep) : PCall prog up 20 [.agg (eGraph g), .sl 5 (l.map eStep)] (· = .tup [.agg (eGraph (gAll g l).1), .int .i64 (gAll g l).2]) := by
  refine PCall.intro htt func20 (by kernel_rfl) rfl (Nat.le_of_ble_eq_true rfl) fun hl => ?_

  simp only [tmps0, Nat.reduceAdd]
  refine CW.seq ?_
  refine CW.rg ?_
  refine CWops.run htt 3 (by simp only [go_sem, simprocAttr, eGraph]; exact rfl) (by simp [go_sem, simprocAttr, eGraph]) ?_
  refine CWops.done ?_
  refine CW.seq ?_
  refine CW.seq ?_
  refine CW.rg ?_
  refine CWops.run htt 1 (by simp only [go_sem, simprocAttr, eGraph]; exact rfl) (by simp [go_sem, simprocAttr, eGraph]) ?_
  refine CWops.call (graph_May up g) (by simp only [go_sem, simprocAttr, eGraph]) (by simp only [go_sem, simprocAttr, eGraph]; first | done | exact rfl) (by simp only [go_sem, simprocAttr, eGraph]) (fun rt11 hrt11 => ?_)
  subst hrt11; refine ⟨rfl, ?_⟩
  refine CWops.run htt 1 (by simp only [go_sem, simprocAttr, eGraph]; exact rfl) (by simp [go_sem, simprocAttr, eGraph]) ?_
  refine CWops.done ?_
  refine CW.cond (by simp only [go_sem, simprocAttr]; first | done | exact rfl) (fun ct12 => ?_) (fun ct12 => ?_)
  · have hm : gMay g = false := by simpa using ct12
    refine CW.seq ?_
    refine CW.rg ?_
    refine CWops.rn htt 3 ?_
    refine CWops.done ?_
    refine CW.ret ?_
    refine retQ.ret (by simp only [f20, go_sem, simprocAttr]; exact rfl) (by simp only [go_sem, simprocAttr]; exact rfl) ?_ -- ret1
    refine ⟨_, ?_, rfl⟩
    simp [leP, leL, gAll, hm, eGraph]
  · have hm : gMay g = true := by simpa using ct12
    have hM := (may_iff g).1 hm
    have hsm := hM.small
    have hz : GSz g := by
      have h1 := hsm.1; have h2 := hsm.2.1; have h3 := hsm.2.2; have h4 := hM.r; have h5 := hM.o
      refine ⟨by unfold MX; omega, fun y hy => by have := h2 y hy; unfold MX; omega, by unfold MX; omega, fun y hy => by have := h3 y hy; unfold MX; omega, by unfold MX; omega⟩
    refine CW.skip ?_
    refine CW.seq ?_
    refine CW.seq ?_
    refine CW.rg ?_
    refine CWops.rn htt 3 ?_
    refine CWops.done ?_
    refine CW.cond (by simp only [go_sem, simprocAttr]; first | done | exact rfl) (fun ct16 => ?_) (fun ct16 => ?_)
    · have h8 : 8 < l.length := by simp at ct16; omega
      refine CW.seq ?_
      refine CW.rg ?_
      refine CWops.rn htt 3 ?_
      refine CWops.done ?_
      refine CW.ret ?_
      refine retQ.ret (by simp only [f20, go_sem, simprocAttr]; exact rfl) (by simp only [go_sem, simprocAttr]; exact rfl) ?_ -- ret2
      refine ⟨_, ?_, rfl⟩
      simp [leP, leL, gAll, hm, h8, eGraph]
    · have h8 : l.length ≤ 8 := by simp at ct16; omega
      refine CW.skip ?_
      refine CW.seq ?_
      refine CW.rg ?_
      refine CWops.run htt 1 (by simp only [go_sem, simprocAttr, eGraph]; exact rfl) (by simp [go_sem, simprocAttr, eGraph]) ?_
      refine CWops.callA (grade_copied up g hz) (by simp only [go_sem, simprocAttr, eGraph]) (by simp only [go_sem, simprocAttr, eGraph]; first | done | exact rfl) (by simp only [go_sem, simprocAttr, eGraph]) (by simp only [go_sem, simprocAttr, eGraph]) (fun rt19 hrt19 => ?_)
      subst hrt19
      refine CWops.run htt 1 (by simp only [go_sem, simprocAttr, eGraph]; exact rfl) (by simp [go_sem, simprocAttr, eGraph]) ?_
      refine CWops.done ?_
      refine CW.seq ?_
      refine CW.seq ?_
      refine CW.rg ?_
      refine CWops.rn htt 3 ?_
      refine CWops.done ?_
      refine CW.block ?_
      refine CW.loop (S := Nat × Graph) (fun p => ⟨2, [(2, .lv 0 [] 0), (4, .lv 1 [] 0), (5, .int .i64 0), (20, .sl 5 (l.map eStep)), (21, .int .i64 l.length), (22, .int .i64 p.1)], [(0, ⟨true, eGraph p.2⟩), (1, ⟨true, [.nilsl, .nilsl, .nilsl]⟩)]⟩) (fun p => p.1 ≤ l.length ∧ gAllF (l.drop p.1) p.2 = gAllF l g) (fun p => l.length - p.1) ((0, g)) ?_ ⟨Nat.zero_le _, rfl⟩ (fun ⟨i, r⟩ hI => ?_)
      · refine Sh.wk0 ?_; simp [Wk, go_sem, simprocAttr, eGraph]
      simp only at hI
      refine CW.seq ?_
      refine CW.rg ?_
      refine CWops.rn htt 1 ?_
      refine CWops.done ?_
      refine CW.seq ?_
      refine CW.cond (by simp only [go_sem, simprocAttr]; first | done | exact rfl) (fun ct23 => ?_) (fun ct23 => ?_)
      · have hi : i < l.length := by simpa using ct23
        obtain ⟨x, hx⟩ : ∃ x, l[i]? = some x := ⟨l[i], List.getElem?_eq_getElem hi⟩
        have hdr : l.drop i = x :: l.drop (i + 1) := by
          rw [List.drop_eq_getElem_cons hi]; congr 1; exact (List.getElem?_eq_some_iff.1 hx).2
        have hst := hI.2
        rw [hdr] at hst
        obtain ⟨⟨h, e⟩, hG⟩ : ∃ p, gGrade r x = p := ⟨_, rfl⟩
        simp only [gAllF, hG] at hst
        refine CW.skip ?_
        refine CW.seq ?_
        refine CW.block ?_
        refine CW.seq ?_
        refine CW.rg ?_
        refine CWops.run htt 4 (by simp only [go_sem, simprocAttr, hi, hx, eStep]; exact rfl) (by simp [go_sem, simprocAttr, hi, hx, eStep]) ?_
        refine CWops.done ?_
        refine CW.seq ?_
        refine CW.rg ?_
        refine CWops.run htt 2 (by simp only [go_sem, simprocAttr, eGraph, eStep]; exact rfl) (by simp [go_sem, simprocAttr, eGraph, eStep]) ?_
        refine CWops.callA ((by have := grade_Graph up r x; rw [hG] at this; exact this)) (by simp only [go_sem, simprocAttr, eGraph, eStep]) (by simp only [go_sem, simprocAttr, eGraph, eStep]; first | done | exact rfl) (by simp only [go_sem, simprocAttr, eGraph, eStep]) (by simp only [go_sem, simprocAttr, eGraph, eStep]) (fun rt29 hrt29 => ?_)
        subst hrt29
        refine CWops.run htt 6 (by simp only [go_sem, simprocAttr, eGraph, eStep]; exact rfl) (by simp [go_sem, simprocAttr, eGraph, eStep]) ?_
        refine CWops.done ?_
        refine CW.seq ?_
        refine CW.seq ?_
        refine CW.rg ?_
        refine CWops.rn htt 2 ?_
        refine CWops.done ?_
        refine CW.cond (by simp only [go_sem, simprocAttr]; first | done | exact rfl) (fun ct33 => ?_) (fun ct33 => ?_)
        · have he : ¬ e = 0 := by simpa using ct33
          rw [if_neg he] at hst
          refine CW.seq ?_
          refine CW.rg ?_
          refine CWops.rn htt 4 ?_
          refine CWops.done ?_
          refine CW.ret ?_
          refine retQ.ret (by simp only [f20, go_sem, simprocAttr]; exact rfl) (by simp only [go_sem, simprocAttr]; exact rfl) ?_ -- ret3
          refine ⟨_, ?_, rfl⟩
          have e2 : gAll g l = (⟨[], [], []⟩, e) := by unfold gAll; rw [if_neg (by rw [hm]; decide), if_neg (by omega), ← hst]
          simp [leP, leL, e2, eGraph]
        · have he : e = 0 := by simpa using ct33
          rw [if_pos he] at hst
          refine CW.skip ?_
          refine CW.rg ?_
          refine CWops.run htt 2 (by simp only [go_sem, simprocAttr, eGraph]; exact rfl) (by simp [go_sem, simprocAttr, eGraph]) ?_
          refine CWops.done ?_
          refine CW.rg ?_
          refine CWops.run htt 2 (by simp only [go_sem, simprocAttr, wrap_succ (show i < MX by unfold MX; omega)]; exact rfl) (by simp [go_sem, simprocAttr, wrap_succ (show i < MX by unfold MX; omega)]) ?_
          refine CWops.done ?_
          refine ⟨(i + 1, h), ?_, ?_, ?_⟩
          · refine Sh.wk0 ?_; simp [Wk, go_sem, simprocAttr, eGraph]
          · exact ⟨hi, hst⟩
          · simp only; omega
      · have hi : i = l.length := by have := hI.1; simp at ct23; omega
        have hst := hI.2
        rw [hi, List.drop_length] at hst
        simp only [gAllF] at hst
        refine CW.exit ?_
        refine CW.seq ?_
        refine CW.rg ?_
        refine CWops.run htt 3 (by simp only [go_sem, simprocAttr, eGraph]; exact rfl) (by simp [go_sem, simprocAttr, eGraph]) ?_
        refine CWops.done ?_
        refine CW.ret ?_
        refine retQ.ret (by simp only [f20, go_sem, simprocAttr]; exact rfl) (by simp only [go_sem, simprocAttr]; exact rfl) ?_ -- ret4
        refine ⟨_, ?_, rfl⟩
        have e2 : gAll g l = (r, 0) := by unfold gAll; rw [if_neg (by rw [hm]; decide), if_neg (by omega), ← hst]
        simp [leP, leL, e2, eGraph]
end Go.Ab
namespace Go.Ab
open Go Go.Proofs.Try
open Nat (reduceEqDiff reduceAdd reduceLT reduceLeDiff reduceBEq reduceSub reduceMul)
open Int (reduceToNat)
set_option maxRecDepth 100000
set_option linter.unusedSimpArgs false
set_option linter.unusedVariables false
set_option maxHeartbeats 1000000
theorem wrap_byte (c : UInt8) : IntKind.i64.wrap (c.toNat : Int) = (c.toNat : Int) := by
  have := c.toNat_lt
  simp only [IntKind.wrap, IntKind.bits, IntKind.signed]
  simp
  omega
theorem wrap_bt (s : ByteArray) (k : Nat) : IntKind.i64.wrap (bt s k : Int) = (bt s k : Int) := wrap_byte (s.get! k)
theorem wrap_nat {n : Nat} (h : n < 1000000000000) : IntKind.i64.wrap (n : Int) = (n : Int) := by
  simp only [IntKind.wrap, IntKind.bits, IntKind.signed]
  simp
  omega
theorem ref05_letter (up : Bool) (c : Int) : PCall prog up 119 [.int .i64 c] (· = .bool (letterB c)) := by
  refine PCall.intro htt func119 (by kernel_rfl) rfl (Nat.le_of_ble_eq_true rfl) fun hl => ?_

  simp only [tmps0, Nat.reduceAdd]
  refine CW.seq ?_
  refine CW.rg ?_
  refine CWops.rn htt 1 ?_
  refine CWops.done ?_
  refine CW.seq ?_
  refine CW.rg ?_
  refine CWops.rn htt 3 ?_
  all_goals (first | refine CWops.guard 5 (by simp only [go_sem, simprocAttr]; exact rfl) (fun g5 => ?_) (fun g5 => ?_) | skip)
  all_goals (refine CWops.rn htt 4 ?_)
  all_goals (first | refine CWops.guard 9 (by simp only [go_sem, simprocAttr]; exact rfl) (fun g9 => ?_) (fun g9 => ?_) | skip)
  all_goals (refine CWops.rn htt 3 ?_)
  all_goals (first | refine CWops.guard 12 (by simp only [go_sem, simprocAttr]; exact rfl) (fun g12 => ?_) (fun g12 => ?_) | skip)
  all_goals (refine CWops.rn htt 4 ?_)
  all_goals (first | refine CWops.guard 16 (by simp only [go_sem, simprocAttr]; exact rfl) (fun g16 => ?_) (fun g16 => ?_) | skip)
  all_goals (refine CWops.rn htt 5 ?_)
  all_goals (refine CWops.done ?_)
  all_goals (
    refine CW.ret ?_
    refine retQ.ret (by simp only [f119, go_sem, simprocAttr]; exact rfl) (by simp only [go_sem, simprocAttr]; exact rfl) ?_ -- ret1
    refine ⟨_, ?_, rfl⟩
    simp_all [leP, letterB] <;> (intros; omega))
theorem ref05_digit (up : Bool) (c : Int) : PCall prog up 120 [.int .i64 c] (· = .bool (digitB c)) := by
  refine PCall.intro htt func120 (by kernel_rfl) rfl (Nat.le_of_ble_eq_true rfl) fun hl => ?_

  simp only [tmps0, Nat.reduceAdd]
  refine CW.seq ?_
  refine CW.rg ?_
  refine CWops.rn htt 1 ?_
  refine CWops.done ?_
  refine CW.seq ?_
  refine CW.rg ?_
  refine CWops.rn htt 3 ?_
  all_goals (first | refine CWops.guard 5 (by simp only [go_sem, simprocAttr]; exact rfl) (fun g5 => ?_) (fun g5 => ?_) | skip)
  all_goals (refine CWops.rn htt 4 ?_)
  all_goals (refine CWops.done ?_)
  all_goals (
    refine CW.ret ?_
    refine retQ.ret (by simp only [f120, go_sem, simprocAttr]; exact rfl) (by simp only [go_sem, simprocAttr]; exact rfl) ?_ -- ret1
    refine ⟨_, ?_, rfl⟩
    simp_all [leP, digitB] <;> (intros; omega))
theorem ref05_sign_1 (up : Bool) (s : ByteArray) (h0 : 0 < s.size) (hr : bt s 0 < 128) : PCall prog up 139 [.str s] (· = .tup [.int .i64 ((Utf8.decode s 0).1 : Nat), .int .i64 ((Utf8.decode s 0).2 : Nat)]) := by
  refine PCall.intro htt func139 (by kernel_rfl) rfl (Nat.le_of_ble_eq_true rfl) fun hl => ?_
  obtain ⟨ch, hch, hcb⟩ := bt_at h0
  simp only [tmps0, Nat.reduceAdd]
  refine CW.seq ?_
  refine CW.rg ?_
  refine CWops.rn htt 2 ?_
  refine CWops.done ?_
  refine CW.seq ?_
  refine CW.rg ?_
  refine CWops.run htt 2 (by simp only [go_sem, simprocAttr, hch]; exact rfl) (by simp [go_sem, simprocAttr, hch]) ?_
  refine CWops.conv htt (by simp only [go_sem, simprocAttr]) tt_5 rfl tt_3 rfl (by simp only [go_sem, simprocAttr]; first | done | exact rfl) ?_
  simp only [wrap_byte, wrap_bt, hcb]
  refine CWops.run htt 1 (by simp only [go_sem, simprocAttr, hch]; exact rfl) (by simp [go_sem, simprocAttr, hch]) ?_
  refine CWops.done ?_
  refine CW.seq ?_
  refine CW.seq ?_
  refine CW.rg ?_
  refine CWops.rn htt 2 ?_
  refine CWops.done ?_
  refine CW.cond (by simp only [go_sem, simprocAttr]; first | done | exact rfl) (fun ct13 => ?_) (fun ct13 => ?_)
  · refine CW.seq ?_
    refine CW.rg ?_
    refine CWops.rn htt 3 ?_
    refine CWops.done ?_
    refine CW.ret ?_
    refine retQ.ret (by simp only [f139, go_sem, simprocAttr]; exact rfl) (by simp only [go_sem, simprocAttr]; exact rfl) ?_ -- ret1
    refine ⟨_, ?_, rfl⟩
    simp [leP, leL, dec_one hr]
  · exfalso; simp at ct13; omega
theorem ref05_sign_0 (up : Bool) (s : ByteArray) (h0 : 0 < s.size) (hr : 128 ≤ bt s 0 ∧ (bt s 0 < 194 ∨ 245 ≤ bt s 0)) : PCall prog up 139 [.str s] (· = .tup [.int .i64 ((Utf8.decode s 0).1 : Nat), .int .i64 ((Utf8.decode s 0).2 : Nat)]) := by
  refine PCall.intro htt func139 (by kernel_rfl) rfl (Nat.le_of_ble_eq_true rfl) fun hl => ?_
  obtain ⟨ch, hch, hcb⟩ := bt_at h0
  simp only [tmps0, Nat.reduceAdd]
  refine CW.seq ?_
  refine CW.rg ?_
  refine CWops.rn htt 2 ?_
  refine CWops.done ?_
  refine CW.seq ?_
  refine CW.rg ?_
  refine CWops.run htt 2 (by simp only [go_sem, simprocAttr, hch]; exact rfl) (by simp [go_sem, simprocAttr, hch]) ?_
  refine CWops.conv htt (by simp only [go_sem, simprocAttr]) tt_5 rfl tt_3 rfl (by simp only [go_sem, simprocAttr]; first | done | exact rfl) ?_
  simp only [wrap_byte, wrap_bt, hcb]
  refine CWops.run htt 1 (by simp only [go_sem, simprocAttr, hch]; exact rfl) (by simp [go_sem, simprocAttr, hch]) ?_
  refine CWops.done ?_
  refine CW.seq ?_
  refine CW.seq ?_
  refine CW.rg ?_
  refine CWops.rn htt 2 ?_
  refine CWops.done ?_
  refine CW.cond (by simp only [go_sem, simprocAttr]; first | done | exact rfl) (fun ct13 => ?_) (fun ct13 => ?_)
  · exfalso; simp at ct13; omega 
  · refine CW.skip ?_
    refine CW.seq ?_
    refine CW.rg ?_
    refine CWops.rn htt 1 ?_
    refine CWops.done ?_
    refine CW.seq ?_
    refine CW.rg ?_
    refine CWops.rn htt 1 ?_
    refine CWops.done ?_
    refine CW.seq ?_
    refine CW.rg ?_
    refine CWops.rn htt 1 ?_
    refine CWops.done ?_
    refine CW.seq ?_
    refine CW.cut ⟨0, [(0, .str s), (4, .int .i64 (bt s 0 : Int)), (5, .int .i64 0), (6, .int .i64 0), (7, .int .i64 0), (20, .bool false)], []⟩ ?_ ?_
    · refine CW.rg ?_
      refine CWops.rn htt 3 ?_
      all_goals (first | refine CWops.guard 17 (by simp only [go_sem, simprocAttr]; exact rfl) (fun g17 => ?_) (fun g17 => ?_) | skip)
      all_goals (first | (exfalso; simp at g17; omega) | skip)
      all_goals (refine CWops.rn htt 3 ?_)
      all_goals (refine CWops.done ?_)
      all_goals (
        refine ⟨rfl, Sh.wk0 ?_⟩
        first | (simp [Wk, go_sem, simprocAttr]; done) | (simp [Wk, go_sem, simprocAttr]; omega) | (simp_all [Wk, go_sem, simprocAttr]; done) | (simp_all [Wk, go_sem, simprocAttr]; omega) | skip)
    refine CW.cond (by simp only [go_sem, simprocAttr]; first | done | exact rfl) (fun ct20 => ?_) (fun ct20 => ?_)
    · cases ct20 
    · refine CW.skip ?_
      refine CW.seq ?_
      refine CW.cut ⟨0, [(0, .str s), (4, .int .i64 (bt s 0 : Int)), (5, .int .i64 0), (6, .int .i64 0), (7, .int .i64 0), (28, .bool false)], []⟩ ?_ ?_
      · refine CW.rg ?_
        refine CWops.rn htt 3 ?_
        all_goals (first | refine CWops.guard 25 (by simp only [go_sem, simprocAttr]; exact rfl) (fun g25 => ?_) (fun g25 => ?_) | skip)
        all_goals (first | (exfalso; simp at g25; omega) | skip)
        all_goals (refine CWops.rn htt 3 ?_)
        all_goals (refine CWops.done ?_)
        all_goals (
          refine ⟨rfl, Sh.wk0 ?_⟩
          first | (simp [Wk, go_sem, simprocAttr]; done) | (simp [Wk, go_sem, simprocAttr]; omega) | (simp_all [Wk, go_sem, simprocAttr]; done) | (simp_all [Wk, go_sem, simprocAttr]; omega) | skip)
      refine CW.cond (by simp only [go_sem, simprocAttr]; first | done | exact rfl) (fun ct28 => ?_) (fun ct28 => ?_)
      · cases ct28 
      · refine CW.skip ?_
        refine CW.seq ?_
        refine CW.cut ⟨0, [(0, .str s), (4, .int .i64 (bt s 0 : Int)), (5, .int .i64 0), (6, .int .i64 0), (7, .int .i64 0), (36, .bool false)], []⟩ ?_ ?_
        · refine CW.rg ?_
          refine CWops.rn htt 3 ?_
          all_goals (first | refine CWops.guard 33 (by simp only [go_sem, simprocAttr]; exact rfl) (fun g33 => ?_) (fun g33 => ?_) | skip)
          all_goals (first | (exfalso; simp at g33; omega) | skip)
          all_goals (refine CWops.rn htt 3 ?_)
          all_goals (refine CWops.done ?_)
          all_goals (
            refine ⟨rfl, Sh.wk0 ?_⟩
            first | (simp [Wk, go_sem, simprocAttr]; done) | (simp [Wk, go_sem, simprocAttr]; omega) | (simp_all [Wk, go_sem, simprocAttr]; done) | (simp_all [Wk, go_sem, simprocAttr]; omega) | skip)
        refine CW.cond (by simp only [go_sem, simprocAttr]; first | done | exact rfl) (fun ct36 => ?_) (fun ct36 => ?_)
        · cases ct36 
        · refine CW.skip ?_
          refine CW.seq ?_
          refine CW.cut ⟨0, [(0, .str s), (4, .int .i64 (bt s 0 : Int)), (5, .int .i64 0), (6, .int .i64 0), (7, .int .i64 0), (46, .bool true)], []⟩ ?_ ?_
          · refine CW.rg ?_
            refine CWops.run htt 3 (by simp only [go_sem, simprocAttr, Int.reduceEq]; exact rfl) (by simp [go_sem, simprocAttr, Int.reduceEq]) ?_
            all_goals (first | refine CWops.guard 41 (by simp only [go_sem, simprocAttr, Int.reduceEq]; exact rfl) (fun g41 => ?_) (fun g41 => ?_) | skip)
            all_goals (try (simp only [Bool.true_eq_false, Bool.false_eq_true] at g41; done))
            all_goals (refine CWops.run htt 5 (by simp only [go_sem, simprocAttr, Int.reduceEq]; exact rfl) (by simp [go_sem, simprocAttr, Int.reduceEq]) ?_)
            all_goals (refine CWops.done ?_)
            all_goals (
              refine ⟨rfl, Sh.wk0 ?_⟩
              first | (simp [Wk, go_sem, simprocAttr]; done) | (simp [Wk, go_sem, simprocAttr]; omega) | (simp_all [Wk, go_sem, simprocAttr]; done) | (simp_all [Wk, go_sem, simprocAttr]; omega) | skip)
          refine CW.cond (by simp only [go_sem, simprocAttr]; first | done | exact rfl) (fun ct46 => ?_) (fun ct46 => ?_)
          · refine CW.seq ?_
            refine CW.rg ?_
            refine CWops.rn htt 2 ?_
            refine CWops.done ?_
            refine CW.ret ?_
            refine retQ.ret (by simp only [f139, go_sem, simprocAttr]; exact rfl) (by simp only [go_sem, simprocAttr]; exact rfl) ?_ -- ret1
            refine ⟨_, ?_, rfl⟩
            simp [leP, leL, dec_none hr.1 hr.2]
          · cases ct46
theorem ref05_sign_2 (up : Bool) (s : ByteArray) (h0 : 0 < s.size) (hr : 194 ≤ bt s 0 ∧ bt s 0 < 224) : PCall prog up 139 [.str s] (· = .tup [.int .i64 ((Utf8.decode s 0).1 : Nat), .int .i64 ((Utf8.decode s 0).2 : Nat)]) := by
  refine PCall.intro htt func139 (by kernel_rfl) rfl (Nat.le_of_ble_eq_true rfl) fun hl => ?_
  obtain ⟨ch, hch, hcb⟩ := bt_at h0
  have hw : IntKind.i64.wrap ((bt s 0 : Int) - 192) = ((bt s 0 - 192 : Nat) : Int) := by
    have hb := bt_lt s 0
    rw [show (bt s 0 : Int) - 192 = ((bt s 0 - 192 : Nat) : Int) by omega]; exact wrap_nat (by omega)
  simp only [tmps0, Nat.reduceAdd]
  refine CW.seq ?_
  refine CW.rg ?_
  refine CWops.rn htt 2 ?_
  refine CWops.done ?_
  refine CW.seq ?_
  refine CW.rg ?_
  refine CWops.run htt 2 (by simp only [go_sem, simprocAttr, hch]; exact rfl) (by simp [go_sem, simprocAttr, hch]) ?_
  refine CWops.conv htt (by simp only [go_sem, simprocAttr]) tt_5 rfl tt_3 rfl (by simp only [go_sem, simprocAttr]; first | done | exact rfl) ?_
  simp only [wrap_byte, wrap_bt, hcb]
  refine CWops.run htt 1 (by simp only [go_sem, simprocAttr, hch]; exact rfl) (by simp [go_sem, simprocAttr, hch]) ?_
  refine CWops.done ?_
  refine CW.seq ?_
  refine CW.seq ?_
  refine CW.rg ?_
  refine CWops.rn htt 2 ?_
  refine CWops.done ?_
  refine CW.cond (by simp only [go_sem, simprocAttr]; first | done | exact rfl) (fun ct13 => ?_) (fun ct13 => ?_)
  · exfalso; simp at ct13; omega 
  · refine CW.skip ?_
    refine CW.seq ?_
    refine CW.rg ?_
    refine CWops.rn htt 1 ?_
    refine CWops.done ?_
    refine CW.seq ?_
    refine CW.rg ?_
    refine CWops.rn htt 1 ?_
    refine CWops.done ?_
    refine CW.seq ?_
    refine CW.rg ?_
    refine CWops.rn htt 1 ?_
    refine CWops.done ?_
    refine CW.seq ?_
    refine CW.cut ⟨0, [(0, .str s), (4, .int .i64 (bt s 0 : Int)), (5, .int .i64 0), (6, .int .i64 0), (7, .int .i64 0), (20, .bool true)], []⟩ ?_ ?_
    · refine CW.rg ?_
      refine CWops.rn htt 3 ?_
      all_goals (first | refine CWops.guard 17 (by simp only [go_sem, simprocAttr]; exact rfl) (fun g17 => ?_) (fun g17 => ?_) | skip)
      all_goals (first | (exfalso; simp at g17; omega) | skip)
      all_goals (refine CWops.rn htt 3 ?_)
      all_goals (refine CWops.done ?_)
      all_goals (
        refine ⟨rfl, Sh.wk0 ?_⟩
        first | (simp [Wk, go_sem, simprocAttr]; done) | (simp [Wk, go_sem, simprocAttr]; omega) | (simp_all [Wk, go_sem, simprocAttr]; done) | (simp_all [Wk, go_sem, simprocAttr]; omega) | skip)
    refine CW.cond (by simp only [go_sem, simprocAttr]; first | done | exact rfl) (fun ct20 => ?_) (fun ct20 => ?_)
    · refine CW.seq ?_
      refine CW.rg ?_
      refine CWops.rn htt 1 ?_
      refine CWops.done ?_
      refine CW.seq ?_
      refine CW.rg ?_
      refine CWops.rn htt 1 ?_
      refine CWops.done ?_
      refine CW.rg ?_
      refine CWops.run htt 3 (by simp only [go_sem, simprocAttr, hw]; exact rfl) (by simp [go_sem, simprocAttr, hw]) ?_
      refine CWops.done ?_
      refine CW.seq ?_
      refine CW.cut ⟨0, [(0, .str s), (4, .int .i64 (bt s 0 : Int)), (5, .int .i64 2), (6, .int .i64 128), (7, .int .i64 ((bt s 0 - 192 : Nat) : Int)), (28, .bool false)], []⟩ ?_ ?_
      · refine CW.rg ?_
        refine CWops.rn htt 3 ?_
        all_goals (first | refine CWops.guard 25 (by simp only [go_sem, simprocAttr]; exact rfl) (fun g25 => ?_) (fun g25 => ?_) | skip)
        all_goals (first | (exfalso; simp at g25; omega) | skip)
        all_goals (refine CWops.rn htt 3 ?_)
        all_goals (refine CWops.done ?_)
        all_goals (
          refine ⟨rfl, Sh.wk0 ?_⟩
          first | (simp [Wk, go_sem, simprocAttr]; done) | (simp [Wk, go_sem, simprocAttr]; omega) | (simp_all [Wk, go_sem, simprocAttr]; done) | (simp_all [Wk, go_sem, simprocAttr]; omega) | skip)
      refine CW.cond (by simp only [go_sem, simprocAttr]; first | done | exact rfl) (fun ct28 => ?_) (fun ct28 => ?_)
      · cases ct28 
      · refine CW.skip ?_
        refine CW.seq ?_
        refine CW.cut ⟨0, [(0, .str s), (4, .int .i64 (bt s 0 : Int)), (5, .int .i64 2), (6, .int .i64 128), (7, .int .i64 ((bt s 0 - 192 : Nat) : Int)), (36, .bool false)], []⟩ ?_ ?_
        · refine CW.rg ?_
          refine CWops.rn htt 3 ?_
          all_goals (first | refine CWops.guard 33 (by simp only [go_sem, simprocAttr]; exact rfl) (fun g33 => ?_) (fun g33 => ?_) | skip)
          all_goals (first | (exfalso; simp at g33; omega) | skip)
          all_goals (refine CWops.rn htt 3 ?_)
          all_goals (refine CWops.done ?_)
          all_goals (
            refine ⟨rfl, Sh.wk0 ?_⟩
            first | (simp [Wk, go_sem, simprocAttr]; done) | (simp [Wk, go_sem, simprocAttr]; omega) | (simp_all [Wk, go_sem, simprocAttr]; done) | (simp_all [Wk, go_sem, simprocAttr]; omega) | skip)
        refine CW.cond (by simp only [go_sem, simprocAttr]; first | done | exact rfl) (fun ct36 => ?_) (fun ct36 => ?_)
        · cases ct36 
        · refine CW.skip ?_
          refine CW.seq ?_
          refine CW.cut ⟨0, [(0, .str s), (4, .int .i64 (bt s 0 : Int)), (5, .int .i64 2), (6, .int .i64 128), (7, .int .i64 ((bt s 0 - 192 : Nat) : Int)), (46, .bool (decide (s.size < 2)))], []⟩ ?_ ?_
          · refine CW.rg ?_
            refine CWops.run htt 3 (by simp only [go_sem, simprocAttr, Int.reduceEq]; exact rfl) (by simp [go_sem, simprocAttr, Int.reduceEq]) ?_
            all_goals (first | refine CWops.guard 41 (by simp only [go_sem, simprocAttr, Int.reduceEq]; exact rfl) (fun g41 => ?_) (fun g41 => ?_) | skip)
            all_goals (try (simp only [Bool.true_eq_false, Bool.false_eq_true] at g41; done))
            all_goals (refine CWops.run htt 5 (by simp only [go_sem, simprocAttr, Int.reduceEq]; exact rfl) (by simp [go_sem, simprocAttr, Int.reduceEq]) ?_)
            all_goals (refine CWops.done ?_)
            all_goals (
              refine ⟨rfl, Sh.wk0 ?_⟩
              first | (simp [Wk, go_sem, simprocAttr]; done) | (simp [Wk, go_sem, simprocAttr]; omega) | (simp_all [Wk, go_sem, simprocAttr]; done) | (simp_all [Wk, go_sem, simprocAttr]; omega) | skip)
          refine CW.cond (by simp only [go_sem, simprocAttr]; first | done | exact rfl) (fun ct46 => ?_) (fun ct46 => ?_)
          · have hsz : ¬ 2 ≤ s.size := by simpa using ct46
            refine CW.seq ?_
            refine CW.rg ?_
            refine CWops.rn htt 2 ?_
            refine CWops.done ?_
            refine CW.ret ?_
            refine retQ.ret (by simp only [f139, go_sem, simprocAttr]; exact rfl) (by simp only [go_sem, simprocAttr]; exact rfl) ?_ -- ret1
            refine ⟨_, ?_, rfl⟩
            have hd : Utf8.decode s 0 = (65533, 1) := by rw [dec_two hr.1 hr.2, decide_eq_false hsz]; rfl
            simp [leP, leL, hd]
          · have hsz : 2 ≤ s.size := by simpa using ct46
            refine CW.skip ?_
            refine CW.seq ?_
            refine CW.seq ?_
            refine CW.rg ?_
            refine CWops.rn htt 1 ?_
            refine CWops.done ?_
            refine CW.block ?_
            refine CW.loop (S := Nat) (fun j => ⟨0, [(0, .str s), (4, .int .i64 (bt s 0 : Int)), (5, .int .i64 2), (6, .int .i64 128), (7, .int .i64 (cAt s (bt s 0 - 192) j : Nat)), (8, .int .i64 ((j + 1 : Nat) : Int))], []⟩) (fun j => j + 1 ≤ 2 ∧ conts s j = true) (fun j => 2 - j) (0) ?_ ⟨by decide, rfl⟩ (fun j ⟨j1, j2⟩ => ?_)
            · refine Sh.wk0 ?_; simp [Wk, go_sem, simprocAttr, cAt]
            refine CW.seq ?_
            refine CW.seq ?_
            refine CW.rg ?_
            refine CWops.rn htt 3 ?_
            refine CWops.done ?_
            refine CW.cond (by simp only [go_sem, simprocAttr]; first | done | exact rfl) (fun ct49 => ?_) (fun ct49 => ?_)
            · have hj : j + 1 < 2 := by simp at ct49; omega
              obtain ⟨ch', hch', hcb'⟩ := bt_at (s := s) (k := j + 1) (by omega)
              refine CW.skip ?_
              refine CW.seq ?_
              refine CW.block ?_
              refine CW.seq ?_
              refine CW.cut ⟨0, [(0, .str s), (4, .int .i64 (bt s 0 : Int)), (5, .int .i64 2), (6, .int .i64 128), (7, .int .i64 (cAt s (bt s 0 - 192) j : Nat)), (8, .int .i64 ((j + 1 : Nat) : Int)), (61, .bool (!(decide (128 ≤ bt s (j + 1)) && decide (bt s (j + 1) ≤ 191))))], []⟩ ?_ ?_
              · refine CW.rg ?_
                refine CWops.run htt 5 (by simp only [go_sem, simprocAttr, hch']; exact rfl) (by simp [go_sem, simprocAttr, hch']) ?_
                all_goals (first | refine CWops.guard 56 (by simp only [go_sem, simprocAttr, hch']; exact rfl) (fun g56 => ?_) (fun g56 => ?_) | skip)
                all_goals (skip)
                all_goals (refine CWops.run htt 5 (by simp only [go_sem, simprocAttr, hch']; exact rfl) (by simp [go_sem, simprocAttr, hch']) ?_)
                all_goals (refine CWops.done ?_)
                all_goals (
                  refine ⟨rfl, Sh.wk0 ?_⟩
                  rw [← hcb']
                  first | (simp [Wk, go_sem, simprocAttr]; done) | (simp [Wk, go_sem, simprocAttr]; omega) | (simp at g56; simp [Wk, go_sem, simprocAttr]; rw [Bool.eq_iff_iff]; simp; omega) | (simp at g56; simp [Wk, go_sem, simprocAttr]; omega) | (simp at g56; simp [Wk, go_sem, simprocAttr]; intros; omega) | skip)
              refine CW.cond (by simp only [go_sem, simprocAttr]; first | done | exact rfl) (fun ct61 => ?_) (fun ct61 => ?_)
              · have hbd : conts s (j + 1) = false := by simp only [conts, j2, Bool.true_and]; exact (Bool.not_eq_true' _).mp ct61
                refine CW.seq ?_
                refine CW.rg ?_
                refine CWops.rn htt 2 ?_
                refine CWops.done ?_
                refine CW.ret ?_
                refine retQ.ret (by simp only [f139, go_sem, simprocAttr]; exact rfl) (by simp only [go_sem, simprocAttr]; exact rfl) ?_ -- ret2
                refine ⟨_, ?_, rfl⟩
                have hd : Utf8.decode s 0 = (65533, 1) := by rw [dec_two hr.1 hr.2, conts_no 1 hbd (by omega), Bool.and_false]; rfl
                simp [leP, leL, hd]
              · have hcs : conts s (j + 1) = true := by simp only [conts, j2, Bool.true_and]; exact (Bool.not_eq_false' _).mp ct61
                have hb1 := bt_lt s (j + 1)
                have hcl := cAt_lt (c0 := (bt s 0 - 192)) (by have := bt_lt s 0; omega) j2 (by omega)
                have hcm : 128 ≤ bt s (j + 1) := by simp only [conts, Bool.and_eq_true, decide_eq_true_eq] at hcs; exact hcs.2.1
                have hwm : IntKind.i64.wrap (64 * (cAt s (bt s 0 - 192) j : Int)) = ((64 * cAt s (bt s 0 - 192) j : Nat) : Int) := by rw [show (64 * (cAt s (bt s 0 - 192) j : Int)) = ((64 * cAt s (bt s 0 - 192) j : Nat) : Int) by omega]; exact wrap_nat (by omega)
                have hwa : IntKind.i64.wrap (((64 * cAt s (bt s 0 - 192) j : Nat) : Int) + (bt s (j + 1) : Int)) = ((64 * cAt s (bt s 0 - 192) j + bt s (j + 1) : Nat) : Int) := by rw [show ((64 * cAt s (bt s 0 - 192) j : Nat) : Int) + (bt s (j + 1) : Int) = ((64 * cAt s (bt s 0 - 192) j + bt s (j + 1) : Nat) : Int) by omega]; exact wrap_nat (by omega)
                have hws : IntKind.i64.wrap (((64 * cAt s (bt s 0 - 192) j + bt s (j + 1) : Nat) : Int) - 128) = (cAt s (bt s 0 - 192) (j + 1) : Int) := by rw [show ((64 * cAt s (bt s 0 - 192) j + bt s (j + 1) : Nat) : Int) - 128 = (cAt s (bt s 0 - 192) (j + 1) : Int) by simp only [cAt]; omega]; exact wrap_nat (by simp only [cAt]; omega)
                refine CW.skip ?_
                refine CW.rg ?_
                refine CWops.run htt 5 (by simp only [go_sem, simprocAttr, hch', hwm, hwa, hws]; exact rfl) (by simp [go_sem, simprocAttr, hch', hwm, hwa, hws]) ?_
                refine CWops.conv htt (by simp only [go_sem, simprocAttr]) tt_5 rfl tt_3 rfl (by simp only [go_sem, simprocAttr]; first | done | exact rfl) ?_
                simp only [wrap_byte, wrap_bt, hcb']
                refine CWops.run htt 3 (by simp only [go_sem, simprocAttr, hch', hwm, hwa, hws]; exact rfl) (by simp [go_sem, simprocAttr, hch', hwm, hwa, hws]) ?_
                refine CWops.done ?_
                refine CW.rg ?_
                refine CWops.run htt 3 (by simp only [go_sem, simprocAttr, wrap_succ (show j + 1 < MX by unfold MX; omega)]; exact rfl) (by simp [go_sem, simprocAttr, wrap_succ (show j + 1 < MX by unfold MX; omega)]) ?_
                refine CWops.done ?_
                refine ⟨j + 1, ?_, ?_, ?_⟩
                · refine Sh.wk0 ?_; simp [Wk, go_sem, simprocAttr]
                · exact ⟨hj, hcs⟩
                · simp only; omega
            · have hj : j + 1 = 2 := by simp at ct49; omega
              obtain rfl : j = 1 := by omega
              refine CW.exit ?_
              refine CW.seq ?_
              refine CW.cut ⟨0, [(5, .int .i64 2), (7, .int .i64 (cAt s (bt s 0 - 192) 1 : Nat)), (84, .bool (!okC 128 (cAt s (bt s 0 - 192) 1)))], []⟩ ?_ ?_
              · refine CW.rg ?_
                refine CWops.rn htt 4 ?_
                all_goals (first | refine CWops.guard 73 (by simp only [go_sem, simprocAttr]; exact rfl) (fun g73 => ?_) (fun g73 => ?_) | skip)
                all_goals (try (simp only [Bool.true_eq_false, Bool.false_eq_true] at g73; done))
                all_goals (refine CWops.rn htt 4 ?_)
                all_goals (first | refine CWops.guard 77 (by simp only [go_sem, simprocAttr]; exact rfl) (fun g77 => ?_) (fun g77 => ?_) | skip)
                all_goals (try (simp only [Bool.true_eq_false, Bool.false_eq_true] at g77; done))
                all_goals (refine CWops.rn htt 3 ?_)
                all_goals (first | refine CWops.guard 80 (by simp only [go_sem, simprocAttr]; exact rfl) (fun g80 => ?_) (fun g80 => ?_) | skip)
                all_goals (try (simp only [Bool.true_eq_false, Bool.false_eq_true] at g80; done))
                all_goals (refine CWops.rn htt 4 ?_)
                all_goals (refine CWops.done ?_)
                all_goals (
                  refine ⟨rfl, Sh.wk0 ?_⟩
                  generalize cAt s (bt s 0 - 192) 1 = cc at *
                  first | (simp [Wk, go_sem, simprocAttr, okC]; done) | (simp [Wk, go_sem, simprocAttr, okC]; omega) | (simp at g73 g77 g80; simp [Wk, go_sem, simprocAttr, okC]; rw [Bool.eq_iff_iff]; simp; omega) | (simp at g73 g77; simp [Wk, go_sem, simprocAttr, okC]; rw [Bool.eq_iff_iff]; simp; omega) | (simp at g73; simp [Wk, go_sem, simprocAttr, okC]; rw [Bool.eq_iff_iff]; simp; omega) | (simp at g73 g77 g80; simp [Wk, go_sem, simprocAttr, okC]; omega) | (simp at g73 g77; simp [Wk, go_sem, simprocAttr, okC]; omega) | (simp at g73; simp [Wk, go_sem, simprocAttr, okC]; omega) | skip)
              refine CW.cond (by simp only [go_sem, simprocAttr]; first | done | exact rfl) (fun ct84 => ?_) (fun ct84 => ?_)
              · have hok : okC 128 (cAt s (bt s 0 - 192) 1) = false := by simpa using ct84
                refine CW.seq ?_
                refine CW.rg ?_
                refine CWops.rn htt 2 ?_
                refine CWops.done ?_
                refine CW.ret ?_
                refine retQ.ret (by simp only [f139, go_sem, simprocAttr]; exact rfl) (by simp only [go_sem, simprocAttr]; exact rfl) ?_ -- ret3
                refine ⟨_, ?_, rfl⟩
                have hd : Utf8.decode s 0 = (65533, 1) := by rw [dec_two hr.1 hr.2, decide_eq_true hsz, j2, hok]; rfl
                simp [leP, leL, hd]
              · have hok : okC 128 (cAt s (bt s 0 - 192) 1) = true := by simpa using ct84
                refine CW.skip ?_
                refine CW.seq ?_
                refine CW.rg ?_
                refine CWops.rn htt 4 ?_
                refine CWops.done ?_
                refine CW.ret ?_
                refine retQ.ret (by simp only [f139, go_sem, simprocAttr]; exact rfl) (by simp only [go_sem, simprocAttr]; exact rfl) ?_ -- ret4
                refine ⟨_, ?_, rfl⟩
                have hd : Utf8.decode s 0 = (cAt s (bt s 0 - 192) 1, 2) := by rw [dec_two hr.1 hr.2, decide_eq_true hsz, j2, hok]; rfl
                simp [leP, leL, hd]
    · cases ct20
theorem ref05_sign_3 (up : Bool) (s : ByteArray) (h0 : 0 < s.size) (hr : 224 ≤ bt s 0 ∧ bt s 0 < 240) : PCall prog up 139 [.str s] (· = .tup [.int .i64 ((Utf8.decode s 0).1 : Nat), .int .i64 ((Utf8.decode s 0).2 : Nat)]) := by
  refine PCall.intro htt func139 (by kernel_rfl) rfl (Nat.le_of_ble_eq_true rfl) fun hl => ?_
  obtain ⟨ch, hch, hcb⟩ := bt_at h0
  have hw : IntKind.i64.wrap ((bt s 0 : Int) - 224) = ((bt s 0 - 224 : Nat) : Int) := by
    have hb := bt_lt s 0
    rw [show (bt s 0 : Int) - 224 = ((bt s 0 - 224 : Nat) : Int) by omega]; exact wrap_nat (by omega)
  simp only [tmps0, Nat.reduceAdd]
  refine CW.seq ?_
  refine CW.rg ?_
  refine CWops.rn htt 2 ?_
  refine CWops.done ?_
  refine CW.seq ?_
  refine CW.rg ?_
  refine CWops.run htt 2 (by simp only [go_sem, simprocAttr, hch]; exact rfl) (by simp [go_sem, simprocAttr, hch]) ?_
  refine CWops.conv htt (by simp only [go_sem, simprocAttr]) tt_5 rfl tt_3 rfl (by simp only [go_sem, simprocAttr]; first | done | exact rfl) ?_
  simp only [wrap_byte, wrap_bt, hcb]
  refine CWops.run htt 1 (by simp only [go_sem, simprocAttr, hch]; exact rfl) (by simp [go_sem, simprocAttr, hch]) ?_
  refine CWops.done ?_
  refine CW.seq ?_
  refine CW.seq ?_
  refine CW.rg ?_
  refine CWops.rn htt 2 ?_
  refine CWops.done ?_
  refine CW.cond (by simp only [go_sem, simprocAttr]; first | done | exact rfl) (fun ct13 => ?_) (fun ct13 => ?_)
  · exfalso; simp at ct13; omega 
  · refine CW.skip ?_
    refine CW.seq ?_
    refine CW.rg ?_
    refine CWops.rn htt 1 ?_
    refine CWops.done ?_
    refine CW.seq ?_
    refine CW.rg ?_
    refine CWops.rn htt 1 ?_
    refine CWops.done ?_
    refine CW.seq ?_
    refine CW.rg ?_
    refine CWops.rn htt 1 ?_
    refine CWops.done ?_
    refine CW.seq ?_
    refine CW.cut ⟨0, [(0, .str s), (4, .int .i64 (bt s 0 : Int)), (5, .int .i64 0), (6, .int .i64 0), (7, .int .i64 0), (20, .bool false)], []⟩ ?_ ?_
    · refine CW.rg ?_
      refine CWops.rn htt 3 ?_
      all_goals (first | refine CWops.guard 17 (by simp only [go_sem, simprocAttr]; exact rfl) (fun g17 => ?_) (fun g17 => ?_) | skip)
      all_goals (first | (exfalso; simp at g17; omega) | skip)
      all_goals (refine CWops.rn htt 3 ?_)
      all_goals (refine CWops.done ?_)
      all_goals (
        refine ⟨rfl, Sh.wk0 ?_⟩
        first | (simp [Wk, go_sem, simprocAttr]; done) | (simp [Wk, go_sem, simprocAttr]; omega) | (simp_all [Wk, go_sem, simprocAttr]; done) | (simp_all [Wk, go_sem, simprocAttr]; omega) | skip)
    refine CW.cond (by simp only [go_sem, simprocAttr]; first | done | exact rfl) (fun ct20 => ?_) (fun ct20 => ?_)
    · cases ct20 
    · refine CW.skip ?_
      refine CW.seq ?_
      refine CW.cut ⟨0, [(0, .str s), (4, .int .i64 (bt s 0 : Int)), (5, .int .i64 0), (6, .int .i64 0), (7, .int .i64 0), (28, .bool true)], []⟩ ?_ ?_
      · refine CW.rg ?_
        refine CWops.rn htt 3 ?_
        all_goals (first | refine CWops.guard 25 (by simp only [go_sem, simprocAttr]; exact rfl) (fun g25 => ?_) (fun g25 => ?_) | skip)
        all_goals (first | (exfalso; simp at g25; omega) | skip)
        all_goals (refine CWops.rn htt 3 ?_)
        all_goals (refine CWops.done ?_)
        all_goals (
          refine ⟨rfl, Sh.wk0 ?_⟩
          first | (simp [Wk, go_sem, simprocAttr]; done) | (simp [Wk, go_sem, simprocAttr]; omega) | (simp_all [Wk, go_sem, simprocAttr]; done) | (simp_all [Wk, go_sem, simprocAttr]; omega) | skip)
      refine CW.cond (by simp only [go_sem, simprocAttr]; first | done | exact rfl) (fun ct28 => ?_) (fun ct28 => ?_)
      · refine CW.seq ?_
        refine CW.rg ?_
        refine CWops.rn htt 1 ?_
        refine CWops.done ?_
        refine CW.seq ?_
        refine CW.rg ?_
        refine CWops.rn htt 1 ?_
        refine CWops.done ?_
        refine CW.rg ?_
        refine CWops.run htt 3 (by simp only [go_sem, simprocAttr, hw]; exact rfl) (by simp [go_sem, simprocAttr, hw]) ?_
        refine CWops.done ?_
        refine CW.seq ?_
        refine CW.cut ⟨0, [(0, .str s), (4, .int .i64 (bt s 0 : Int)), (5, .int .i64 3), (6, .int .i64 2048), (7, .int .i64 ((bt s 0 - 224 : Nat) : Int)), (36, .bool false)], []⟩ ?_ ?_
        · refine CW.rg ?_
          refine CWops.rn htt 3 ?_
          all_goals (first | refine CWops.guard 33 (by simp only [go_sem, simprocAttr]; exact rfl) (fun g33 => ?_) (fun g33 => ?_) | skip)
          all_goals (first | (exfalso; simp at g33; omega) | skip)
          all_goals (refine CWops.rn htt 3 ?_)
          all_goals (refine CWops.done ?_)
          all_goals (
            refine ⟨rfl, Sh.wk0 ?_⟩
            first | (simp [Wk, go_sem, simprocAttr]; done) | (simp [Wk, go_sem, simprocAttr]; omega) | (simp_all [Wk, go_sem, simprocAttr]; done) | (simp_all [Wk, go_sem, simprocAttr]; omega) | skip)
        refine CW.cond (by simp only [go_sem, simprocAttr]; first | done | exact rfl) (fun ct36 => ?_) (fun ct36 => ?_)
        · cases ct36 
        · refine CW.skip ?_
          refine CW.seq ?_
          refine CW.cut ⟨0, [(0, .str s), (4, .int .i64 (bt s 0 : Int)), (5, .int .i64 3), (6, .int .i64 2048), (7, .int .i64 ((bt s 0 - 224 : Nat) : Int)), (46, .bool (decide (s.size < 3)))], []⟩ ?_ ?_
          · refine CW.rg ?_
            refine CWops.run htt 3 (by simp only [go_sem, simprocAttr, Int.reduceEq]; exact rfl) (by simp [go_sem, simprocAttr, Int.reduceEq]) ?_
            all_goals (first | refine CWops.guard 41 (by simp only [go_sem, simprocAttr, Int.reduceEq]; exact rfl) (fun g41 => ?_) (fun g41 => ?_) | skip)
            all_goals (try (simp only [Bool.true_eq_false, Bool.false_eq_true] at g41; done))
            all_goals (refine CWops.run htt 5 (by simp only [go_sem, simprocAttr, Int.reduceEq]; exact rfl) (by simp [go_sem, simprocAttr, Int.reduceEq]) ?_)
            all_goals (refine CWops.done ?_)
            all_goals (
              refine ⟨rfl, Sh.wk0 ?_⟩
              first | (simp [Wk, go_sem, simprocAttr]; done) | (simp [Wk, go_sem, simprocAttr]; omega) | (simp_all [Wk, go_sem, simprocAttr]; done) | (simp_all [Wk, go_sem, simprocAttr]; omega) | skip)
          refine CW.cond (by simp only [go_sem, simprocAttr]; first | done | exact rfl) (fun ct46 => ?_) (fun ct46 => ?_)
          · have hsz : ¬ 3 ≤ s.size := by simpa using ct46
            refine CW.seq ?_
            refine CW.rg ?_
            refine CWops.rn htt 2 ?_
            refine CWops.done ?_
            refine CW.ret ?_
            refine retQ.ret (by simp only [f139, go_sem, simprocAttr]; exact rfl) (by simp only [go_sem, simprocAttr]; exact rfl) ?_ -- ret1
            refine ⟨_, ?_, rfl⟩
            have hd : Utf8.decode s 0 = (65533, 1) := by rw [dec_three hr.1 hr.2, decide_eq_false hsz]; rfl
            simp [leP, leL, hd]
          · have hsz : 3 ≤ s.size := by simpa using ct46
            refine CW.skip ?_
            refine CW.seq ?_
            refine CW.seq ?_
            refine CW.rg ?_
            refine CWops.rn htt 1 ?_
            refine CWops.done ?_
            refine CW.block ?_
            refine CW.loop (S := Nat) (fun j => ⟨0, [(0, .str s), (4, .int .i64 (bt s 0 : Int)), (5, .int .i64 3), (6, .int .i64 2048), (7, .int .i64 (cAt s (bt s 0 - 224) j : Nat)), (8, .int .i64 ((j + 1 : Nat) : Int))], []⟩) (fun j => j + 1 ≤ 3 ∧ conts s j = true) (fun j => 3 - j) (0) ?_ ⟨by decide, rfl⟩ (fun j ⟨j1, j2⟩ => ?_)
            · refine Sh.wk0 ?_; simp [Wk, go_sem, simprocAttr, cAt]
            refine CW.seq ?_
            refine CW.seq ?_
            refine CW.rg ?_
            refine CWops.rn htt 3 ?_
            refine CWops.done ?_
            refine CW.cond (by simp only [go_sem, simprocAttr]; first | done | exact rfl) (fun ct49 => ?_) (fun ct49 => ?_)
            · have hj : j + 1 < 3 := by simp at ct49; omega
              obtain ⟨ch', hch', hcb'⟩ := bt_at (s := s) (k := j + 1) (by omega)
              refine CW.skip ?_
              refine CW.seq ?_
              refine CW.block ?_
              refine CW.seq ?_
              refine CW.cut ⟨0, [(0, .str s), (4, .int .i64 (bt s 0 : Int)), (5, .int .i64 3), (6, .int .i64 2048), (7, .int .i64 (cAt s (bt s 0 - 224) j : Nat)), (8, .int .i64 ((j + 1 : Nat) : Int)), (61, .bool (!(decide (128 ≤ bt s (j + 1)) && decide (bt s (j + 1) ≤ 191))))], []⟩ ?_ ?_
              · refine CW.rg ?_
                refine CWops.run htt 5 (by simp only [go_sem, simprocAttr, hch']; exact rfl) (by simp [go_sem, simprocAttr, hch']) ?_
                all_goals (first | refine CWops.guard 56 (by simp only [go_sem, simprocAttr, hch']; exact rfl) (fun g56 => ?_) (fun g56 => ?_) | skip)
                all_goals (skip)
                all_goals (refine CWops.run htt 5 (by simp only [go_sem, simprocAttr, hch']; exact rfl) (by simp [go_sem, simprocAttr, hch']) ?_)
                all_goals (refine CWops.done ?_)
                all_goals (
                  refine ⟨rfl, Sh.wk0 ?_⟩
                  rw [← hcb']
                  first | (simp [Wk, go_sem, simprocAttr]; done) | (simp [Wk, go_sem, simprocAttr]; omega) | (simp at g56; simp [Wk, go_sem, simprocAttr]; rw [Bool.eq_iff_iff]; simp; omega) | (simp at g56; simp [Wk, go_sem, simprocAttr]; omega) | (simp at g56; simp [Wk, go_sem, simprocAttr]; intros; omega) | skip)
              refine CW.cond (by simp only [go_sem, simprocAttr]; first | done | exact rfl) (fun ct61 => ?_) (fun ct61 => ?_)
              · have hbd : conts s (j + 1) = false := by simp only [conts, j2, Bool.true_and]; exact (Bool.not_eq_true' _).mp ct61
                refine CW.seq ?_
                refine CW.rg ?_
                refine CWops.rn htt 2 ?_
                refine CWops.done ?_
                refine CW.ret ?_
                refine retQ.ret (by simp only [f139, go_sem, simprocAttr]; exact rfl) (by simp only [go_sem, simprocAttr]; exact rfl) ?_ -- ret2
                refine ⟨_, ?_, rfl⟩
                have hd : Utf8.decode s 0 = (65533, 1) := by rw [dec_three hr.1 hr.2, conts_no 2 hbd (by omega), Bool.and_false]; rfl
                simp [leP, leL, hd]
              · have hcs : conts s (j + 1) = true := by simp only [conts, j2, Bool.true_and]; exact (Bool.not_eq_false' _).mp ct61
                have hb1 := bt_lt s (j + 1)
                have hcl := cAt_lt (c0 := (bt s 0 - 224)) (by have := bt_lt s 0; omega) j2 (by omega)
                have hcm : 128 ≤ bt s (j + 1) := by simp only [conts, Bool.and_eq_true, decide_eq_true_eq] at hcs; exact hcs.2.1
                have hwm : IntKind.i64.wrap (64 * (cAt s (bt s 0 - 224) j : Int)) = ((64 * cAt s (bt s 0 - 224) j : Nat) : Int) := by rw [show (64 * (cAt s (bt s 0 - 224) j : Int)) = ((64 * cAt s (bt s 0 - 224) j : Nat) : Int) by omega]; exact wrap_nat (by omega)
                have hwa : IntKind.i64.wrap (((64 * cAt s (bt s 0 - 224) j : Nat) : Int) + (bt s (j + 1) : Int)) = ((64 * cAt s (bt s 0 - 224) j + bt s (j + 1) : Nat) : Int) := by rw [show ((64 * cAt s (bt s 0 - 224) j : Nat) : Int) + (bt s (j + 1) : Int) = ((64 * cAt s (bt s 0 - 224) j + bt s (j + 1) : Nat) : Int) by omega]; exact wrap_nat (by omega)
                have hws : IntKind.i64.wrap (((64 * cAt s (bt s 0 - 224) j + bt s (j + 1) : Nat) : Int) - 128) = (cAt s (bt s 0 - 224) (j + 1) : Int) := by rw [show ((64 * cAt s (bt s 0 - 224) j + bt s (j + 1) : Nat) : Int) - 128 = (cAt s (bt s 0 - 224) (j + 1) : Int) by simp only [cAt]; omega]; exact wrap_nat (by simp only [cAt]; omega)
                refine CW.skip ?_
                refine CW.rg ?_
                refine CWops.run htt 5 (by simp only [go_sem, simprocAttr, hch', hwm, hwa, hws]; exact rfl) (by simp [go_sem, simprocAttr, hch', hwm, hwa, hws]) ?_
                refine CWops.conv htt (by simp only [go_sem, simprocAttr]) tt_5 rfl tt_3 rfl (by simp only [go_sem, simprocAttr]; first | done | exact rfl) ?_
                simp only [wrap_byte, wrap_bt, hcb']
                refine CWops.run htt 3 (by simp only [go_sem, simprocAttr, hch', hwm, hwa, hws]; exact rfl) (by simp [go_sem, simprocAttr, hch', hwm, hwa, hws]) ?_
                refine CWops.done ?_
                refine CW.rg ?_
                refine CWops.run htt 3 (by simp only [go_sem, simprocAttr, wrap_succ (show j + 1 < MX by unfold MX; omega)]; exact rfl) (by simp [go_sem, simprocAttr, wrap_succ (show j + 1 < MX by unfold MX; omega)]) ?_
                refine CWops.done ?_
                refine ⟨j + 1, ?_, ?_, ?_⟩
                · refine Sh.wk0 ?_; simp [Wk, go_sem, simprocAttr]
                · exact ⟨hj, hcs⟩
                · simp only; omega
            · have hj : j + 1 = 3 := by simp at ct49; omega
              obtain rfl : j = 2 := by omega
              refine CW.exit ?_
              refine CW.seq ?_
              refine CW.cut ⟨0, [(5, .int .i64 3), (7, .int .i64 (cAt s (bt s 0 - 224) 2 : Nat)), (84, .bool (!okC 2048 (cAt s (bt s 0 - 224) 2)))], []⟩ ?_ ?_
              · refine CW.rg ?_
                refine CWops.rn htt 4 ?_
                all_goals (first | refine CWops.guard 73 (by simp only [go_sem, simprocAttr]; exact rfl) (fun g73 => ?_) (fun g73 => ?_) | skip)
                all_goals (try (simp only [Bool.true_eq_false, Bool.false_eq_true] at g73; done))
                all_goals (refine CWops.rn htt 4 ?_)
                all_goals (first | refine CWops.guard 77 (by simp only [go_sem, simprocAttr]; exact rfl) (fun g77 => ?_) (fun g77 => ?_) | skip)
                all_goals (try (simp only [Bool.true_eq_false, Bool.false_eq_true] at g77; done))
                all_goals (refine CWops.rn htt 3 ?_)
                all_goals (first | refine CWops.guard 80 (by simp only [go_sem, simprocAttr]; exact rfl) (fun g80 => ?_) (fun g80 => ?_) | skip)
                all_goals (try (simp only [Bool.true_eq_false, Bool.false_eq_true] at g80; done))
                all_goals (refine CWops.rn htt 4 ?_)
                all_goals (refine CWops.done ?_)
                all_goals (
                  refine ⟨rfl, Sh.wk0 ?_⟩
                  generalize cAt s (bt s 0 - 224) 2 = cc at *
                  first | (simp [Wk, go_sem, simprocAttr, okC]; done) | (simp [Wk, go_sem, simprocAttr, okC]; omega) | (simp at g73 g77 g80; simp [Wk, go_sem, simprocAttr, okC]; rw [Bool.eq_iff_iff]; simp; omega) | (simp at g73 g77; simp [Wk, go_sem, simprocAttr, okC]; rw [Bool.eq_iff_iff]; simp; omega) | (simp at g73; simp [Wk, go_sem, simprocAttr, okC]; rw [Bool.eq_iff_iff]; simp; omega) | (simp at g73 g77 g80; simp [Wk, go_sem, simprocAttr, okC]; omega) | (simp at g73 g77; simp [Wk, go_sem, simprocAttr, okC]; omega) | (simp at g73; simp [Wk, go_sem, simprocAttr, okC]; omega) | skip)
              refine CW.cond (by simp only [go_sem, simprocAttr]; first | done | exact rfl) (fun ct84 => ?_) (fun ct84 => ?_)
              · have hok : okC 2048 (cAt s (bt s 0 - 224) 2) = false := by simpa using ct84
                refine CW.seq ?_
                refine CW.rg ?_
                refine CWops.rn htt 2 ?_
                refine CWops.done ?_
                refine CW.ret ?_
                refine retQ.ret (by simp only [f139, go_sem, simprocAttr]; exact rfl) (by simp only [go_sem, simprocAttr]; exact rfl) ?_ -- ret3
                refine ⟨_, ?_, rfl⟩
                have hd : Utf8.decode s 0 = (65533, 1) := by rw [dec_three hr.1 hr.2, decide_eq_true hsz, j2, hok]; rfl
                simp [leP, leL, hd]
              · have hok : okC 2048 (cAt s (bt s 0 - 224) 2) = true := by simpa using ct84
                refine CW.skip ?_
                refine CW.seq ?_
                refine CW.rg ?_
                refine CWops.rn htt 4 ?_
                refine CWops.done ?_
                refine CW.ret ?_
                refine retQ.ret (by simp only [f139, go_sem, simprocAttr]; exact rfl) (by simp only [go_sem, simprocAttr]; exact rfl) ?_ -- ret4
                refine ⟨_, ?_, rfl⟩
                have hd : Utf8.decode s 0 = (cAt s (bt s 0 - 224) 2, 3) := by rw [dec_three hr.1 hr.2, decide_eq_true hsz, j2, hok]; rfl
                simp [leP, leL, hd]
      · cases ct28
theorem ref05_sign_4 (up : Bool) (s : ByteArray) (h0 : 0 < s.size) (hr : 240 ≤ bt s 0 ∧ bt s 0 < 245) : PCall prog up 139 [.str s] (· = .tup [.int .i64 ((Utf8.decode s 0).1 : Nat), .int .i64 ((Utf8.decode s 0).2 : Nat)]) := by
  refine PCall.intro htt func139 (by kernel_rfl) rfl (Nat.le_of_ble_eq_true rfl) fun hl => ?_
  obtain ⟨ch, hch, hcb⟩ := bt_at h0
  have hw : IntKind.i64.wrap ((bt s 0 : Int) - 240) = ((bt s 0 - 240 : Nat) : Int) := by
    have hb := bt_lt s 0
    rw [show (bt s 0 : Int) - 240 = ((bt s 0 - 240 : Nat) : Int) by omega]; exact wrap_nat (by omega)
  obtain ⟨lw, hlw⟩ : ∃ lw : Nat, lw = 65536 := ⟨_, rfl⟩
  simp only [tmps0, Nat.reduceAdd]
  refine CW.seq ?_
  refine CW.rg ?_
  refine CWops.rn htt 2 ?_
  refine CWops.done ?_
  refine CW.seq ?_
  refine CW.rg ?_
  refine CWops.run htt 2 (by simp only [go_sem, simprocAttr, hch]; exact rfl) (by simp [go_sem, simprocAttr, hch]) ?_
  refine CWops.conv htt (by simp only [go_sem, simprocAttr]) tt_5 rfl tt_3 rfl (by simp only [go_sem, simprocAttr]; first | done | exact rfl) ?_
  simp only [wrap_byte, wrap_bt, hcb]
  refine CWops.run htt 1 (by simp only [go_sem, simprocAttr, hch]; exact rfl) (by simp [go_sem, simprocAttr, hch]) ?_
  refine CWops.done ?_
  refine CW.seq ?_
  refine CW.seq ?_
  refine CW.rg ?_
  refine CWops.rn htt 2 ?_
  refine CWops.done ?_
  refine CW.cond (by simp only [go_sem, simprocAttr]; first | done | exact rfl) (fun ct13 => ?_) (fun ct13 => ?_)
  · exfalso; simp at ct13; omega 
  · refine CW.skip ?_
    refine CW.seq ?_
    refine CW.rg ?_
    refine CWops.rn htt 1 ?_
    refine CWops.done ?_
    refine CW.seq ?_
    refine CW.rg ?_
    refine CWops.rn htt 1 ?_
    refine CWops.done ?_
    refine CW.seq ?_
    refine CW.rg ?_
    refine CWops.rn htt 1 ?_
    refine CWops.done ?_
    refine CW.seq ?_
    refine CW.cut ⟨0, [(0, .str s), (4, .int .i64 (bt s 0 : Int)), (5, .int .i64 0), (6, .int .i64 0), (7, .int .i64 0), (20, .bool false)], []⟩ ?_ ?_
    · refine CW.rg ?_
      refine CWops.rn htt 3 ?_
      all_goals (first | refine CWops.guard 17 (by simp only [go_sem, simprocAttr]; exact rfl) (fun g17 => ?_) (fun g17 => ?_) | skip)
      all_goals (first | (exfalso; simp at g17; omega) | skip)
      all_goals (refine CWops.rn htt 3 ?_)
      all_goals (refine CWops.done ?_)
      all_goals (
        refine ⟨rfl, Sh.wk0 ?_⟩
        first | (simp [Wk, go_sem, simprocAttr]; done) | (simp [Wk, go_sem, simprocAttr]; omega) | (simp_all [Wk, go_sem, simprocAttr]; done) | (simp_all [Wk, go_sem, simprocAttr]; omega) | skip)
    refine CW.cond (by simp only [go_sem, simprocAttr]; first | done | exact rfl) (fun ct20 => ?_) (fun ct20 => ?_)
    · cases ct20 
    · refine CW.skip ?_
      refine CW.seq ?_
      refine CW.cut ⟨0, [(0, .str s), (4, .int .i64 (bt s 0 : Int)), (5, .int .i64 0), (6, .int .i64 0), (7, .int .i64 0), (28, .bool false)], []⟩ ?_ ?_
      · refine CW.rg ?_
        refine CWops.rn htt 3 ?_
        all_goals (first | refine CWops.guard 25 (by simp only [go_sem, simprocAttr]; exact rfl) (fun g25 => ?_) (fun g25 => ?_) | skip)
        all_goals (first | (exfalso; simp at g25; omega) | skip)
        all_goals (refine CWops.rn htt 3 ?_)
        all_goals (refine CWops.done ?_)
        all_goals (
          refine ⟨rfl, Sh.wk0 ?_⟩
          first | (simp [Wk, go_sem, simprocAttr]; done) | (simp [Wk, go_sem, simprocAttr]; omega) | (simp_all [Wk, go_sem, simprocAttr]; done) | (simp_all [Wk, go_sem, simprocAttr]; omega) | skip)
      refine CW.cond (by simp only [go_sem, simprocAttr]; first | done | exact rfl) (fun ct28 => ?_) (fun ct28 => ?_)
      · cases ct28 
      · refine CW.skip ?_
        refine CW.seq ?_
        refine CW.cut ⟨0, [(0, .str s), (4, .int .i64 (bt s 0 : Int)), (5, .int .i64 0), (6, .int .i64 0), (7, .int .i64 0), (36, .bool true)], []⟩ ?_ ?_
        · refine CW.rg ?_
          refine CWops.rn htt 3 ?_
          all_goals (first | refine CWops.guard 33 (by simp only [go_sem, simprocAttr]; exact rfl) (fun g33 => ?_) (fun g33 => ?_) | skip)
          all_goals (first | (exfalso; simp at g33; omega) | skip)
          all_goals (refine CWops.rn htt 3 ?_)
          all_goals (refine CWops.done ?_)
          all_goals (
            refine ⟨rfl, Sh.wk0 ?_⟩
            first | (simp [Wk, go_sem, simprocAttr]; done) | (simp [Wk, go_sem, simprocAttr]; omega) | (simp_all [Wk, go_sem, simprocAttr]; done) | (simp_all [Wk, go_sem, simprocAttr]; omega) | skip)
        refine CW.cond (by simp only [go_sem, simprocAttr]; first | done | exact rfl) (fun ct36 => ?_) (fun ct36 => ?_)
        · refine CW.seq ?_
          refine CW.rg ?_
          refine CWops.rn htt 1 ?_
          refine CWops.done ?_
          refine CW.seq ?_
          refine CW.rg ?_
          refine CWops.rn htt 1 ?_
          refine CWops.done ?_
          refine CW.rg ?_
          refine CWops.run htt 3 (by simp only [go_sem, simprocAttr, hw]; exact rfl) (by simp [go_sem, simprocAttr, hw]) ?_
          refine CWops.done ?_
          refine CW.seq ?_
          refine CW.cut ⟨0, [(0, .str s), (4, .int .i64 (bt s 0 : Int)), (5, .int .i64 4), (6, .int .i64 lw), (7, .int .i64 ((bt s 0 - 240 : Nat) : Int)), (46, .bool (decide (s.size < 4)))], []⟩ ?_ ?_
          · refine CW.rg ?_
            refine CWops.run htt 3 (by simp only [go_sem, simprocAttr, Int.reduceEq]; exact rfl) (by simp [go_sem, simprocAttr, Int.reduceEq]) ?_
            all_goals (first | refine CWops.guard 41 (by simp only [go_sem, simprocAttr, Int.reduceEq]; exact rfl) (fun g41 => ?_) (fun g41 => ?_) | skip)
            all_goals (try (simp only [Bool.true_eq_false, Bool.false_eq_true] at g41; done))
            all_goals (refine CWops.run htt 5 (by simp only [go_sem, simprocAttr, Int.reduceEq]; exact rfl) (by simp [go_sem, simprocAttr, Int.reduceEq]) ?_)
            all_goals (refine CWops.done ?_)
            all_goals (
              refine ⟨rfl, Sh.wk0 ?_⟩
              rw [hlw]
              first | (simp [Wk, go_sem, simprocAttr]; done) | (simp [Wk, go_sem, simprocAttr]; omega) | (simp_all [Wk, go_sem, simprocAttr]; done) | (simp_all [Wk, go_sem, simprocAttr]; omega) | skip)
          refine CW.cond (by simp only [go_sem, simprocAttr]; first | done | exact rfl) (fun ct46 => ?_) (fun ct46 => ?_)
          · have hsz : ¬ 4 ≤ s.size := by simpa using ct46
            refine CW.seq ?_
            refine CW.rg ?_
            refine CWops.rn htt 2 ?_
            refine CWops.done ?_
            refine CW.ret ?_
            refine retQ.ret (by simp only [f139, go_sem, simprocAttr]; exact rfl) (by simp only [go_sem, simprocAttr]; exact rfl) ?_ -- ret1
            refine ⟨_, ?_, rfl⟩
            have hd : Utf8.decode s 0 = (65533, 1) := by rw [dec_four hr.1 hr.2, decide_eq_false hsz]; rfl
            simp [leP, leL, hd]
          · have hsz : 4 ≤ s.size := by simpa using ct46
            refine CW.skip ?_
            refine CW.seq ?_
            refine CW.seq ?_
            refine CW.rg ?_
            refine CWops.rn htt 1 ?_
            refine CWops.done ?_
            refine CW.block ?_
            refine CW.loop (S := Nat) (fun j => ⟨0, [(0, .str s), (4, .int .i64 (bt s 0 : Int)), (5, .int .i64 4), (6, .int .i64 lw), (7, .int .i64 (cAt s (bt s 0 - 240) j : Nat)), (8, .int .i64 ((j + 1 : Nat) : Int))], []⟩) (fun j => j + 1 ≤ 4 ∧ conts s j = true) (fun j => 4 - j) (0) ?_ ⟨by decide, rfl⟩ (fun j ⟨j1, j2⟩ => ?_)
            · refine Sh.wk0 ?_; simp [Wk, go_sem, simprocAttr, cAt]
            refine CW.seq ?_
            refine CW.seq ?_
            refine CW.rg ?_
            refine CWops.rn htt 3 ?_
            refine CWops.done ?_
            refine CW.cond (by simp only [go_sem, simprocAttr]; first | done | exact rfl) (fun ct49 => ?_) (fun ct49 => ?_)
            · have hj : j + 1 < 4 := by simp at ct49; omega
              obtain ⟨ch', hch', hcb'⟩ := bt_at (s := s) (k := j + 1) (by omega)
              refine CW.skip ?_
              refine CW.seq ?_
              refine CW.block ?_
              refine CW.seq ?_
              refine CW.cut ⟨0, [(0, .str s), (4, .int .i64 (bt s 0 : Int)), (5, .int .i64 4), (6, .int .i64 lw), (7, .int .i64 (cAt s (bt s 0 - 240) j : Nat)), (8, .int .i64 ((j + 1 : Nat) : Int)), (61, .bool (!(decide (128 ≤ bt s (j + 1)) && decide (bt s (j + 1) ≤ 191))))], []⟩ ?_ ?_
              · refine CW.rg ?_
                refine CWops.run htt 5 (by simp only [go_sem, simprocAttr, hch']; exact rfl) (by simp [go_sem, simprocAttr, hch']) ?_
                all_goals (first | refine CWops.guard 56 (by simp only [go_sem, simprocAttr, hch']; exact rfl) (fun g56 => ?_) (fun g56 => ?_) | skip)
                all_goals (skip)
                all_goals (refine CWops.run htt 5 (by simp only [go_sem, simprocAttr, hch']; exact rfl) (by simp [go_sem, simprocAttr, hch']) ?_)
                all_goals (refine CWops.done ?_)
                all_goals (
                  refine ⟨rfl, Sh.wk0 ?_⟩
                  rw [← hcb']
                  first | (simp [Wk, go_sem, simprocAttr]; done) | (simp [Wk, go_sem, simprocAttr]; omega) | (simp at g56; simp [Wk, go_sem, simprocAttr]; rw [Bool.eq_iff_iff]; simp; omega) | (simp at g56; simp [Wk, go_sem, simprocAttr]; omega) | (simp at g56; simp [Wk, go_sem, simprocAttr]; intros; omega) | skip)
              refine CW.cond (by simp only [go_sem, simprocAttr]; first | done | exact rfl) (fun ct61 => ?_) (fun ct61 => ?_)
              · have hbd : conts s (j + 1) = false := by simp only [conts, j2, Bool.true_and]; exact (Bool.not_eq_true' _).mp ct61
                refine CW.seq ?_
                refine CW.rg ?_
                refine CWops.rn htt 2 ?_
                refine CWops.done ?_
                refine CW.ret ?_
                refine retQ.ret (by simp only [f139, go_sem, simprocAttr]; exact rfl) (by simp only [go_sem, simprocAttr]; exact rfl) ?_ -- ret2
                refine ⟨_, ?_, rfl⟩
                have hd : Utf8.decode s 0 = (65533, 1) := by rw [dec_four hr.1 hr.2, conts_no 3 hbd (by omega), Bool.and_false]; rfl
                simp [leP, leL, hd]
              · have hcs : conts s (j + 1) = true := by simp only [conts, j2, Bool.true_and]; exact (Bool.not_eq_false' _).mp ct61
                have hb1 := bt_lt s (j + 1)
                have hcl := cAt_lt (c0 := (bt s 0 - 240)) (by have := bt_lt s 0; omega) j2 (by omega)
                have hcm : 128 ≤ bt s (j + 1) := by simp only [conts, Bool.and_eq_true, decide_eq_true_eq] at hcs; exact hcs.2.1
                have hwm : IntKind.i64.wrap (64 * (cAt s (bt s 0 - 240) j : Int)) = ((64 * cAt s (bt s 0 - 240) j : Nat) : Int) := by rw [show (64 * (cAt s (bt s 0 - 240) j : Int)) = ((64 * cAt s (bt s 0 - 240) j : Nat) : Int) by omega]; exact wrap_nat (by omega)
                have hwa : IntKind.i64.wrap (((64 * cAt s (bt s 0 - 240) j : Nat) : Int) + (bt s (j + 1) : Int)) = ((64 * cAt s (bt s 0 - 240) j + bt s (j + 1) : Nat) : Int) := by rw [show ((64 * cAt s (bt s 0 - 240) j : Nat) : Int) + (bt s (j + 1) : Int) = ((64 * cAt s (bt s 0 - 240) j + bt s (j + 1) : Nat) : Int) by omega]; exact wrap_nat (by omega)
                have hws : IntKind.i64.wrap (((64 * cAt s (bt s 0 - 240) j + bt s (j + 1) : Nat) : Int) - 128) = (cAt s (bt s 0 - 240) (j + 1) : Int) := by rw [show ((64 * cAt s (bt s 0 - 240) j + bt s (j + 1) : Nat) : Int) - 128 = (cAt s (bt s 0 - 240) (j + 1) : Int) by simp only [cAt]; omega]; exact wrap_nat (by simp only [cAt]; omega)
                refine CW.skip ?_
                refine CW.rg ?_
                refine CWops.run htt 5 (by simp only [go_sem, simprocAttr, hch', hwm, hwa, hws]; exact rfl) (by simp [go_sem, simprocAttr, hch', hwm, hwa, hws]) ?_
                refine CWops.conv htt (by simp only [go_sem, simprocAttr]) tt_5 rfl tt_3 rfl (by simp only [go_sem, simprocAttr]; first | done | exact rfl) ?_
                simp only [wrap_byte, wrap_bt, hcb']
                refine CWops.run htt 3 (by simp only [go_sem, simprocAttr, hch', hwm, hwa, hws]; exact rfl) (by simp [go_sem, simprocAttr, hch', hwm, hwa, hws]) ?_
                refine CWops.done ?_
                refine CW.rg ?_
                refine CWops.run htt 3 (by simp only [go_sem, simprocAttr, wrap_succ (show j + 1 < MX by unfold MX; omega)]; exact rfl) (by simp [go_sem, simprocAttr, wrap_succ (show j + 1 < MX by unfold MX; omega)]) ?_
                refine CWops.done ?_
                refine ⟨j + 1, ?_, ?_, ?_⟩
                · refine Sh.wk0 ?_; simp [Wk, go_sem, simprocAttr]
                · exact ⟨hj, hcs⟩
                · simp only; omega
            · have hj : j + 1 = 4 := by simp at ct49; omega
              obtain rfl : j = 3 := by omega
              refine CW.exit ?_
              refine CW.seq ?_
              refine CW.cut ⟨0, [(5, .int .i64 4), (7, .int .i64 (cAt s (bt s 0 - 240) 3 : Nat)), (84, .bool (!okC lw (cAt s (bt s 0 - 240) 3)))], []⟩ ?_ ?_
              · refine CW.rg ?_
                refine CWops.rn htt 4 ?_
                all_goals (first | refine CWops.guard 73 (by simp only [go_sem, simprocAttr]; exact rfl) (fun g73 => ?_) (fun g73 => ?_) | skip)
                all_goals (try (simp only [Bool.true_eq_false, Bool.false_eq_true] at g73; done))
                all_goals (refine CWops.rn htt 4 ?_)
                all_goals (first | refine CWops.guard 77 (by simp only [go_sem, simprocAttr]; exact rfl) (fun g77 => ?_) (fun g77 => ?_) | skip)
                all_goals (try (simp only [Bool.true_eq_false, Bool.false_eq_true] at g77; done))
                all_goals (refine CWops.rn htt 3 ?_)
                all_goals (first | refine CWops.guard 80 (by simp only [go_sem, simprocAttr]; exact rfl) (fun g80 => ?_) (fun g80 => ?_) | skip)
                all_goals (try (simp only [Bool.true_eq_false, Bool.false_eq_true] at g80; done))
                all_goals (refine CWops.rn htt 4 ?_)
                all_goals (refine CWops.done ?_)
                all_goals (
                  refine ⟨rfl, Sh.wk0 ?_⟩
                  generalize cAt s (bt s 0 - 240) 3 = cc at *
                  first | (simp [Wk, go_sem, simprocAttr, okC]; done) | (simp [Wk, go_sem, simprocAttr, okC]; omega) | (simp at g73 g77 g80; simp [Wk, go_sem, simprocAttr, okC]; rw [Bool.eq_iff_iff]; simp; omega) | (simp at g73 g77; simp [Wk, go_sem, simprocAttr, okC]; rw [Bool.eq_iff_iff]; simp; omega) | (simp at g73; simp [Wk, go_sem, simprocAttr, okC]; rw [Bool.eq_iff_iff]; simp; omega) | (simp at g73 g77 g80; simp [Wk, go_sem, simprocAttr, okC]; omega) | (simp at g73 g77; simp [Wk, go_sem, simprocAttr, okC]; omega) | (simp at g73; simp [Wk, go_sem, simprocAttr, okC]; omega) | skip)
              refine CW.cond (by simp only [go_sem, simprocAttr]; first | done | exact rfl) (fun ct84 => ?_) (fun ct84 => ?_)
              · have hok : okC lw (cAt s (bt s 0 - 240) 3) = false := by simpa using ct84
                subst hlw
                refine CW.seq ?_
                refine CW.rg ?_
                refine CWops.rn htt 2 ?_
                refine CWops.done ?_
                refine CW.ret ?_
                refine retQ.ret (by simp only [f139, go_sem, simprocAttr]; exact rfl) (by simp only [go_sem, simprocAttr]; exact rfl) ?_ -- ret3
                refine ⟨_, ?_, rfl⟩
                have hd : Utf8.decode s 0 = (65533, 1) := by rw [dec_four hr.1 hr.2, decide_eq_true hsz, j2, hok]; rfl
                simp [leP, leL, hd]
              · have hok : okC lw (cAt s (bt s 0 - 240) 3) = true := by simpa using ct84
                subst hlw
                refine CW.skip ?_
                refine CW.seq ?_
                refine CW.rg ?_
                refine CWops.rn htt 4 ?_
                refine CWops.done ?_
                refine CW.ret ?_
                refine retQ.ret (by simp only [f139, go_sem, simprocAttr]; exact rfl) (by simp only [go_sem, simprocAttr]; exact rfl) ?_ -- ret4
                refine ⟨_, ?_, rfl⟩
                have hd : Utf8.decode s 0 = (cAt s (bt s 0 - 240) 3, 4) := by rw [dec_four hr.1 hr.2, decide_eq_true hsz, j2, hok]; rfl
                simp [leP, leL, hd]
        · cases ct36
theorem ref05_sign (up : Bool) (s : ByteArray) (h0 : 0 < s.size) : PCall prog up 139 [.str s] (· = .tup [.int .i64 ((Utf8.decode s 0).1 : Nat), .int .i64 ((Utf8.decode s 0).2 : Nat)]) := by
  by_cases h1 : bt s 0 < 128
  · exact ref05_sign_1 up s h0 h1
  by_cases h2 : bt s 0 < 194
  · exact ref05_sign_0 up s h0 ⟨by omega, .inl h2⟩
  by_cases h3 : bt s 0 < 224
  · exact ref05_sign_2 up s h0 ⟨by omega, h3⟩
  by_cases h4 : bt s 0 < 240
  · exact ref05_sign_3 up s h0 ⟨by omega, h4⟩
  by_cases h5 : bt s 0 < 245
  · exact ref05_sign_4 up s h0 ⟨by omega, h5⟩
  · exact ref05_sign_0 up s h0 ⟨by omega, .inr (by omega)⟩
end Go.Ab
