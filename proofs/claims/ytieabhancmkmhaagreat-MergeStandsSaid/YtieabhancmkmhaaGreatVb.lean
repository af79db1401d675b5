/-
  What functions of the program answer: each by its contract. No condition but those of each theorem.
-/
import Derived.WalkKit
import Derived.Below
import Derived.Scope
import Derived.Test.YtieabhancmkmhaaGreatProg
import Derived.Orders
import Derived.Still
import Derived.Maps.RangeRun
import Derived.Test.YtieabhancmkmhaaGreatFa
import Derived.Test.YtieabhancmkmhaaGreatFb
import Derived.Test.YtieabhancmkmhaaGreatFc
import Derived.Test.YtieabhancmkmhaaGreatFd
import Derived.Test.YtieabhancmkmhaaGreatFe
import Derived.Test.YtieabhancmkmhaaGreatFf
import Derived.Test.YtieabhancmkmhaaGreatDa
import Derived.Test.YtieabhancmkmhaaGreatVa
set_option linter.unusedVariables false
set_option linter.unusedSimpArgs false
namespace Go.Ab
open Go Go.Proofs.Tryz
set_option maxRecDepth 100000
set_option linter.unusedSimpArgs false
set_option linter.unusedVariables false
theorem diff_Of (up : Bool) (o a : Graph) : PCall prog up 15 [.agg (eGraph o), .agg (eGraph a)] (· = .tup [.agg (eChange (gDiff o a).1), .int .i64 (gDiff o a).2]) := by
  refine PCall.intro htt func15 (by kernel_rfl) rfl (Nat.le_of_ble_eq_true rfl) fun hl => ?_

  simp only [tmps0, Nat.reduceAdd]
  refine CW.seq ?_
  refine CW.rg ?_
  refine CWops.run htt 4 (by simp only [go_sem, simprocAttr, eGraph]; exact rfl) (by simp [go_sem, simprocAttr, eGraph]) ?_
  refine CWops.done ?_
  refine CW.seq ?_
  refine CW.cut ⟨3, [(2, .lv 0 [] 0), (3, .lv 1 [] 0), (4, .lv 2 [] 0), (5, .int .i64 0), (24, .bool (!(gMay o && gMay a)))], [(0, ⟨true, eGraph o⟩), (1, ⟨true, eGraph a⟩), (2, ⟨true, [.nilsl, .nilsl, .nilsl, .nilsl]⟩)]⟩ ?_ ?_
  · refine CW.rg ?_
    refine CWops.run htt 1 (by simp only [go_sem, simprocAttr, eGraph]; exact rfl) (by simp [go_sem, simprocAttr, eGraph]) ?_
    refine CWops.call (graph_May up o) (by simp only [go_sem, simprocAttr, eGraph]) (by simp only [go_sem, simprocAttr, eGraph]; first | done | exact rfl) (by simp only [go_sem, simprocAttr, eGraph]) (fun rt18 hrt18 => ?_)
    subst hrt18; refine ⟨rfl, ?_⟩
    refine CWops.run htt 2 (by simp only [go_sem, simprocAttr, eGraph]; exact rfl) (by simp [go_sem, simprocAttr, eGraph]) ?_
    all_goals (first | refine CWops.guard 20 (by simp only [go_sem, simprocAttr, eGraph]; exact rfl) (fun g20 => ?_) (fun g20 => ?_) | skip)
    all_goals (refine CWops.run htt 1 (by simp only [go_sem, simprocAttr, eGraph]; exact rfl) (by simp [go_sem, simprocAttr, eGraph]) ?_)
    all_goals (first | (refine CWops.skip ?_ ?_; next => (simp only [go_sem, simprocAttr]; done)) | (refine CWops.call (graph_May up a) (by simp only [go_sem, simprocAttr, eGraph]) (by simp only [go_sem, simprocAttr, eGraph]; first | done | exact rfl) (by simp only [go_sem, simprocAttr, eGraph]) (fun rt22 hrt22 => ?_); subst hrt22; refine ⟨rfl, ?_⟩))
    all_goals (refine CWops.run htt 2 (by simp only [go_sem, simprocAttr, eGraph]; exact rfl) (by simp [go_sem, simprocAttr, eGraph]) ?_)
    all_goals (refine CWops.done ?_)
    all_goals (
      first | refine ⟨rfl, Sh.wk0 ?_⟩ | refine Sh.wk0 ?_
      simp_all [Wk, go_sem, simprocAttr, eGraph])
  refine CW.cond (by simp only [go_sem, simprocAttr]; first | done | exact rfl) (fun ct24 => ?_) (fun ct24 => ?_)
  · simp only [Bool.not_eq_true'] at ct24
    refine CW.seq ?_
    refine CW.rg ?_
    refine CWops.rn htt 3 ?_
    refine CWops.done ?_
    refine CW.ret ?_
    refine retQ.ret (by simp only [f15, go_sem, simprocAttr]; exact rfl) (by simp only [go_sem, simprocAttr]; exact rfl) ?_ -- ret1
    refine ⟨_, ?_, rfl⟩
    simp [leP, leL, gDiff, ct24, noChange, eChange]
  · simp only [Bool.not_eq_false', Bool.and_eq_true] at ct24
    obtain ⟨hmo', hma'⟩ := ct24
    have hmo := (may_iff o).1 hmo'
    have hma := (may_iff a).1 hma'
    have ho8 := hmo.o
    have ha8 := hma.o
    have hr3 := hmo.r
    have hs3 := hma.r
    have hF5 := hmo.small.2.2
    refine CW.skip ?_
    refine CW.seq ?_
    refine CW.seq ?_
    refine CW.rg ?_
    refine CWops.run htt 4 (by simp only [go_sem, simprocAttr, eGraph, eSchema]; exact rfl) (by simp [go_sem, simprocAttr, eGraph, eSchema]) ?_
    refine CWops.call (schema_Same up o.S a.S) (by simp only [go_sem, simprocAttr, eGraph, eSchema]) (by simp only [go_sem, simprocAttr, eGraph, eSchema]; first | done | exact rfl) (by simp only [go_sem, simprocAttr, eGraph, eSchema]) (fun rt30 hrt30 => ?_)
    subst hrt30; refine ⟨rfl, ?_⟩
    refine CWops.run htt 1 (by simp only [go_sem, simprocAttr, eGraph, eSchema]; exact rfl) (by simp [go_sem, simprocAttr, eGraph, eSchema]) ?_
    refine CWops.done ?_
    refine CW.cond (by simp only [go_sem, simprocAttr]; first | done | exact rfl) (fun ct31 => ?_) (fun ct31 => ?_)
    · have hS : ¬ o.S = a.S := by simpa using ct31
      refine CW.seq ?_
      refine CW.rg ?_
      refine CWops.rn htt 3 ?_
      refine CWops.done ?_
      refine CW.ret ?_
      refine retQ.ret (by simp only [f15, go_sem, simprocAttr]; exact rfl) (by simp only [go_sem, simprocAttr]; exact rfl) ?_ -- ret2
      refine ⟨_, ?_, rfl⟩
      simp [leP, leL, gDiff, hmo', hma', hS, noChange, eChange]
    · have hS : o.S = a.S := by simpa using ct31
      refine CW.skip ?_
      refine CW.seq ?_
      refine CW.rg ?_
      refine CWops.rn htt 1 ?_
      refine CWops.done ?_
      refine CW.seq ?_
      refine CW.seq ?_
      refine CW.rg ?_
      refine CWops.run htt 4 (by simp only [go_sem, simprocAttr, eGraph]; exact rfl) (by simp [go_sem, simprocAttr, eGraph]) ?_
      refine CWops.done ?_
      refine CW.block ?_
      refine CW.loop (S := Nat) (fun i => ⟨4, [(2, .lv 0 [] 0), (3, .lv 1 [] 0), (4, .lv 2 [] 0), (5, .int .i64 0), (6, .lv 3 [] 0), (34, .sl 3 (a.O.map eObj)), (35, .int .i64 a.O.length), (36, .int .i64 i)], [(0, ⟨true, eGraph o⟩), (1, ⟨true, eGraph a⟩), (2, ⟨true, [.nilsl, .nilsl, .nilsl, .nilsl]⟩), (3, ⟨true, [.own 1 ((dNew o (a.O.take i)).map eI), .nilsl, .nilsl, .nilsl]⟩)]⟩) (fun i => i ≤ a.O.length) (fun i => a.O.length - i) (0) ?_ (Nat.zero_le _) (fun i h1 => ?_)
      · refine Sh.trans (Sh.nilCell 3 [] 0 1 (by simp [go_sem, simprocAttr]) rfl) (Sh.wk0 ?_); simp [Wk, go_sem, simprocAttr, eGraph, dNew]
      refine CW.seq ?_
      refine CW.rg ?_
      refine CWops.rn htt 1 ?_
      refine CWops.done ?_
      refine CW.seq ?_
      refine CW.cond (by simp only [go_sem, simprocAttr]; first | done | exact rfl) (fun ct37 => ?_) (fun ct37 => ?_)
      · have hi : i < a.O.length := by simpa using ct37
        obtain ⟨x, hx⟩ : ∃ x, a.O[i]? = some x := ⟨a.O[i], List.getElem?_eq_getElem hi⟩
        have hL : (dNew o (a.O.take i)).length ≤ 8 := Nat.le_trans (dNew_len _ _) (by simp; omega)
        refine CW.skip ?_
        refine CW.seq ?_
        refine CW.block ?_
        refine CW.seq ?_
        refine CW.rg ?_
        refine CWops.run htt 4 (by simp only [go_sem, simprocAttr, hi, hx, eObj]; exact rfl) (by simp [go_sem, simprocAttr, hi, hx, eObj]) ?_
        refine CWops.done ?_
        refine CW.seq ?_
        refine CW.rg ?_
        refine CWops.run htt 3 (by simp only [go_sem, simprocAttr, eGraph, eObj]; exact rfl) (by simp [go_sem, simprocAttr, eGraph, eObj]) ?_
        refine CWops.callA (diff_other up o x.Id) (by simp only [go_sem, simprocAttr, eGraph, eObj]) (by simp only [go_sem, simprocAttr, eGraph, eObj]; first | done | exact rfl) (by simp only [go_sem, simprocAttr, eGraph, eObj]) (by simp only [go_sem, simprocAttr, eGraph, eObj]) (fun rt44 hrt44 => ?_)
        subst hrt44
        refine CWops.run htt 6 (by simp only [go_sem, simprocAttr, eGraph, eObj]; exact rfl) (by simp [go_sem, simprocAttr, eGraph, eObj]) ?_
        refine CWops.done ?_
        refine CW.seq ?_
        refine CW.rg ?_
        refine CWops.rn htt 2 ?_
        refine CWops.done ?_
        refine CW.cond (by simp only [go_sem, simprocAttr]; first | done | exact rfl) (fun ct48 => ?_) (fun ct48 => ?_)
        · have hh : hasId o x.Id = false := by simpa using ct48
          refine CW.rg ?_
          refine CWops.run htt 8 (by simp only [go_sem, simprocAttr, List.replicate, eI]; exact rfl) (by simp [AV.cell, AV.tree, eI, MX] <;> omega) ?_
          refine CWops.done ?_
          refine CW.rg ?_
          refine CWops.run htt 2 (by simp only [go_sem, simprocAttr, wrap_succ (show i < MX by unfold MX; omega)]; exact rfl) (by simp [go_sem, simprocAttr, wrap_succ (show i < MX by unfold MX; omega)]) ?_
          refine CWops.done ?_
          refine ⟨i + 1, ?_, ?_, ?_⟩
          · refine Sh.wk0 ?_
            dsimp only
            first | (rw [dNew_no hx hh]; simp [Wk, go_sem, simprocAttr, eGraph, eI]; done) | (rw [dNew_yes hx hh]; simp [Wk, go_sem, simprocAttr, eGraph]; done) | skip
          · exact hi
          · simp only; omega
        · have hh : hasId o x.Id = true := by simpa using ct48
          refine CW.skip ?_
          refine CW.rg ?_
          refine CWops.run htt 2 (by simp only [go_sem, simprocAttr, wrap_succ (show i < MX by unfold MX; omega)]; exact rfl) (by simp [go_sem, simprocAttr, wrap_succ (show i < MX by unfold MX; omega)]) ?_
          refine CWops.done ?_
          refine ⟨i + 1, ?_, ?_, ?_⟩
          · refine Sh.wk0 ?_
            dsimp only
            first | (rw [dNew_no hx hh]; simp [Wk, go_sem, simprocAttr, eGraph, eI]; done) | (rw [dNew_yes hx hh]; simp [Wk, go_sem, simprocAttr, eGraph]; done) | skip
          · exact hi
          · simp only; omega
      · have hi : i = a.O.length := by simp at ct37; omega
        refine CW.exit ?_
        refine CW.seq ?_
        refine CW.seq ?_
        refine CW.rg ?_
        refine CWops.run htt 4 (by simp only [go_sem, simprocAttr, eGraph]; exact rfl) (by simp [go_sem, simprocAttr, eGraph]) ?_
        refine CWops.done ?_
        refine CW.block ?_
        refine CW.loop (S := Nat) (fun i => ⟨4, [(2, .lv 0 [] 0), (3, .lv 1 [] 0), (4, .lv 2 [] 0), (5, .int .i64 0), (6, .lv 3 [] 0), (58, .sl 3 (o.O.map eObj)), (59, .int .i64 o.O.length), (60, .int .i64 i)], [(0, ⟨true, eGraph o⟩), (1, ⟨true, eGraph a⟩), (2, ⟨true, [.nilsl, .nilsl, .nilsl, .nilsl]⟩), (3, ⟨true, [.own 1 ((dNew o a.O).map eI), .own 1 ((dNew a (o.O.take i)).map eI), .own 2 ((dSet a (o.O.take i)).map eP), .nilsl]⟩)]⟩) (fun i => i ≤ o.O.length ∧ dBad a (o.O.take i) = false) (fun i => o.O.length - i) (0) ?_ ⟨Nat.zero_le _, rfl⟩ (fun i ⟨h1, h2⟩ => ?_)
        · rw [hi, List.take_length]; refine Sh.trans (Sh.nilCell 3 [] 1 1 (by simp [go_sem, simprocAttr]) rfl) (Sh.trans (Sh.nilCell 3 [] 2 2 (by simp [go_sem, simprocAttr]) rfl) (Sh.wk0 ?_)); simp [Wk, go_sem, simprocAttr, eGraph, dNew, dSet]
        refine CW.seq ?_
        refine CW.rg ?_
        refine CWops.rn htt 1 ?_
        refine CWops.done ?_
        refine CW.seq ?_
        refine CW.cond (by simp only [go_sem, simprocAttr]; first | done | exact rfl) (fun ct61 => ?_) (fun ct61 => ?_)
        · have hi : i < o.O.length := by simpa using ct61
          obtain ⟨x, hx⟩ : ∃ x, o.O[i]? = some x := ⟨o.O[i], List.getElem?_eq_getElem hi⟩
          obtain ⟨y, hy⟩ : ∃ y, y = objD a x.Id := ⟨_, rfl⟩
          have hL : (dNew a (o.O.take i)).length ≤ 8 := Nat.le_trans (dNew_len _ _) (by simp; omega)
          have hL2 : (dSet a (o.O.take i)).length ≤ 40 := Nat.le_trans (dSet_len a _ 5 fun z hz => hF5 z (List.mem_of_mem_take hz)) (by simp; omega)
          have hx5 := hF5 x (List.mem_of_getElem? hx)
          refine CW.skip ?_
          refine CW.seq ?_
          refine CW.block ?_
          refine CW.seq ?_
          refine CW.rg ?_
          refine CWops.run htt 4 (by simp only [go_sem, simprocAttr, hi, hx, eObj]; exact rfl) (by simp [go_sem, simprocAttr, hi, hx, eObj]) ?_
          refine CWops.done ?_
          refine CW.seq ?_
          refine CW.rg ?_
          refine CWops.run htt 3 (by simp only [go_sem, simprocAttr, eGraph, eObj]; exact rfl) (by simp [go_sem, simprocAttr, eGraph, eObj]) ?_
          refine CWops.callA ((by have := diff_other up a x.Id; rw [← hy] at this; exact this)) (by simp only [go_sem, simprocAttr, eGraph, eObj]) (by simp only [go_sem, simprocAttr, eGraph, eObj]; first | done | exact rfl) (by simp only [go_sem, simprocAttr, eGraph, eObj]) (by simp only [go_sem, simprocAttr, eGraph, eObj]) (fun rt68 hrt68 => ?_)
          subst hrt68
          refine CWops.run htt 6 (by simp only [go_sem, simprocAttr, eGraph, eObj]; exact rfl) (by simp [go_sem, simprocAttr, eGraph, eObj]) ?_
          refine CWops.done ?_
          refine CW.seq ?_
          refine CW.block ?_
          refine CW.seq ?_
          refine CW.rg ?_
          refine CWops.rn htt 3 ?_
          refine CWops.done ?_
          refine CW.cond (by simp only [go_sem, simprocAttr]; first | done | exact rfl) (fun ct71 => ?_) (fun ct71 => ?_)
          · have hh : hasId a x.Id = false := by simpa using ct71
            refine CW.seq ?_
            refine CW.rg ?_
            refine CWops.run htt 8 (by simp only [go_sem, simprocAttr, List.replicate, eI, eObj]; exact rfl) (by simp [AV.cell, AV.tree, eI, MX] <;> omega) ?_
            refine CWops.done ?_
            refine CW.exit ?_
            refine CW.rg ?_
            refine CWops.run htt 2 (by simp only [go_sem, simprocAttr, wrap_succ (show i < MX by unfold MX; omega)]; exact rfl) (by simp [go_sem, simprocAttr, wrap_succ (show i < MX by unfold MX; omega)]) ?_
            refine CWops.done ?_
            refine ⟨i + 1, ?_, ?_, ?_⟩
            · refine Sh.wk0 ?_
              dsimp only
              first | (rw [dSet_succ hx, dNew_no hx hh, show dSet1 a x = [] by unfold dSet1; rw [hh]; rfl]; simp [Wk, go_sem, simprocAttr, eGraph, eI]; done) | (rw [dSet_succ hx, dNew_yes hx hh, show dSet1 a x = dSetF x.Id x.F y.F k by unfold dSet1; rw [if_pos hh, hy, hk]]; simp [Wk, go_sem, simprocAttr, eGraph]; done) | skip
            · exact ⟨hi, dBad_succ hx h2 (by unfold dBad1; rw [hh]; first | rfl | (rw [← hy]; simp [hT]))⟩
            · simp only; omega
          · have hh : hasId a x.Id = true := by simpa using ct71
            refine CW.seq ?_
            refine CW.rg ?_
            refine CWops.run htt 6 (by simp only [go_sem, simprocAttr, eObj]; exact rfl) (by simp [go_sem, simprocAttr, eObj]) ?_
            refine CWops.done ?_
            refine CW.cond (by simp only [go_sem, simprocAttr]; first | done | exact rfl) (fun ct81 => ?_) (fun ct81 => ?_)
            · have hT : x.T ≠ y.T := by simpa using ct81
              refine CW.seq ?_
              refine CW.rg ?_
              refine CWops.rn htt 3 ?_
              refine CWops.done ?_
              refine CW.ret ?_
              refine retQ.ret (by simp only [f15, go_sem, simprocAttr]; exact rfl) (by simp only [go_sem, simprocAttr]; exact rfl) ?_ -- ret3
              refine ⟨_, ?_, rfl⟩
              have hb := dBad_yes hx (show dBad1 a x = true by unfold dBad1; rw [hh, ← hy]; simp [hT])
              simp [leP, leL, gDiff, hmo', hma', hS, hb, noChange, eChange]
            · have hT : x.T = y.T := by simpa using ct81
              have hyl : y.F.length = x.F.length := by rw [hy] at hT ⊢; exact same_len hmo hma hS hx hh hT
              refine CW.skip ?_
              refine CW.seq ?_
              refine CW.rg ?_
              refine CWops.run htt 4 (by simp only [go_sem, simprocAttr, eObj]; exact rfl) (by simp [go_sem, simprocAttr, eObj]) ?_
              refine CWops.done ?_
              refine CW.block ?_
              refine CW.loop (S := Nat) (fun k => ⟨6, [(2, .lv 0 [] 0), (3, .lv 1 [] 0), (4, .lv 2 [] 0), (5, .int .i64 0), (6, .lv 3 [] 0), (12, .lv 4 [] 0), (13, .lv 5 [] 0), (58, .sl 3 (o.O.map eObj)), (59, .int .i64 o.O.length), (60, .int .i64 i), (89, .sl 3 (x.F.map eVal)), (90, .int .i64 x.F.length), (91, .int .i64 k)], [(0, ⟨true, eGraph o⟩), (1, ⟨true, eGraph a⟩), (2, ⟨true, [.nilsl, .nilsl, .nilsl, .nilsl]⟩), (3, ⟨true, [.own 1 ((dNew o a.O).map eI), .own 1 ((dNew a (o.O.take i)).map eI), .own 2 (((dSet a (o.O.take i)) ++ dSetF x.Id x.F y.F k).map eP), .nilsl]⟩), (4, ⟨true, eObj x⟩), (5, ⟨true, eObj y⟩)]⟩) (fun k => k ≤ x.F.length) (fun k => x.F.length - k) (0) ?_ (Nat.zero_le _) (fun k k1 => ?_)
              · refine Sh.wk0 ?_; simp [Wk, go_sem, simprocAttr, eGraph, eObj, dSetF_zero]
              refine CW.seq ?_
              refine CW.rg ?_
              refine CWops.rn htt 1 ?_
              refine CWops.done ?_
              refine CW.seq ?_
              refine CW.cond (by simp only [go_sem, simprocAttr]; first | done | exact rfl) (fun ct92 => ?_) (fun ct92 => ?_)
              · have hkl : k < x.F.length := by simpa using ct92
                have hkl2 : k < y.F.length := by omega
                obtain ⟨u, hux⟩ : ∃ u, x.F[k]? = some u := ⟨x.F[k], List.getElem?_eq_getElem hkl⟩
                obtain ⟨w, hwy⟩ : ∃ u, y.F[k]? = some u := ⟨y.F[k], List.getElem?_eq_getElem hkl2⟩
                have hL3 := dSetF_len x.Id x.F y.F k
                refine CW.skip ?_
                refine CW.seq ?_
                refine CW.block ?_
                refine CW.seq ?_
                refine CW.rg ?_
                refine CWops.rn htt 2 ?_
                refine CWops.done ?_
                refine CW.seq ?_
                refine CW.drawn mixed 10 (by decide) (by kernel_rfl) (by kernel_rfl) (by kernel_rfl) ?_
                refine Seg.run htt 10 (by simp only [go_sem, simprocAttr, eObj, hkl, hkl2, hux, hwy, eVal]; exact rfl) ?_
                refine Seg.done ?_
                refine CWops.run htt 1 (by simp only [go_sem, simprocAttr, eObj, hkl, hkl2, hux, hwy, eVal]; exact rfl) (by simp [go_sem, simprocAttr, eObj, hkl, hkl2, hux, hwy, eVal]) ?_
                refine CWops.done ?_
                refine CW.cond (by simp only [go_sem, simprocAttr]; first | done | exact rfl) (fun ct104 => ?_) (fun ct104 => ?_)
                · have hp : u ≠ w := by
                    intro e; subst e; simp at ct104
                  refine CW.rg ?_
                  refine CWops.run htt 5 (by simp only [go_sem, simprocAttr, List.replicate, eP, eObj]; exact rfl) (by simp [AV.cell, AV.tree, eP, MX] <;> omega) ?_
                  refine CWops.buildPair htt (k := .i64) (m := x.Id) (n := (k : Int)) (by simp only [go_sem, simprocAttr]) tt_62 rfl rfl tt_3 rfl (by simp only [go_sem, simprocAttr, eObj]) (by simp only [go_sem, simprocAttr]) ?_
                  refine CWops.run htt 4 (by simp only [go_sem, simprocAttr, List.replicate, eP, eObj]; exact rfl) (by simp [AV.cell, AV.tree, eP, MX] <;> omega) ?_
                  refine CWops.done ?_
                  refine CW.rg ?_
                  refine CWops.run htt 2 (by simp only [go_sem, simprocAttr, wrap_succ (show k < MX by unfold MX; omega)]; exact rfl) (by simp [go_sem, simprocAttr, wrap_succ (show k < MX by unfold MX; omega)]) ?_
                  refine CWops.done ?_
                  refine ⟨k + 1, ?_, ?_, ?_⟩
                  · refine Sh.wk0 ?_
                    dsimp only
                    first | (rw [dSetF_yes (by rw [hux, hwy]; simpa using hp)]; simp [Wk, go_sem, simprocAttr, eGraph, eObj, eP]; done) | (rw [dSetF_no (by rw [hux, hwy, hp])]; simp [Wk, go_sem, simprocAttr, eGraph, eObj]; done) | skip
                  · exact hkl
                  · simp only; omega
                · have hp : u = w := by
                    rw [GVal.ext_iff']
                    simpa [and_assoc] using ct104
                  refine CW.skip ?_
                  refine CW.rg ?_
                  refine CWops.run htt 2 (by simp only [go_sem, simprocAttr, wrap_succ (show k < MX by unfold MX; omega)]; exact rfl) (by simp [go_sem, simprocAttr, wrap_succ (show k < MX by unfold MX; omega)]) ?_
                  refine CWops.done ?_
                  refine ⟨k + 1, ?_, ?_, ?_⟩
                  · refine Sh.wk0 ?_
                    dsimp only
                    first | (rw [dSetF_yes (by rw [hux, hwy]; simpa using hp)]; simp [Wk, go_sem, simprocAttr, eGraph, eObj, eP]; done) | (rw [dSetF_no (by rw [hux, hwy, hp])]; simp [Wk, go_sem, simprocAttr, eGraph, eObj]; done) | skip
                  · exact hkl
                  · simp only; omega
              · have hk : k = x.F.length := by simp at ct92; omega
                refine CW.exit ?_
                refine CW.rg ?_
                refine CWops.run htt 2 (by simp only [go_sem, simprocAttr, wrap_succ (show i < MX by unfold MX; omega)]; exact rfl) (by simp [go_sem, simprocAttr, wrap_succ (show i < MX by unfold MX; omega)]) ?_
                refine CWops.done ?_
                refine ⟨i + 1, ?_, ?_, ?_⟩
                · refine Sh.wk0 ?_
                  dsimp only
                  first | (rw [dSet_succ hx, dNew_no hx hh, show dSet1 a x = [] by unfold dSet1; rw [hh]; rfl]; simp [Wk, go_sem, simprocAttr, eGraph, eI]; done) | (rw [dSet_succ hx, dNew_yes hx hh, show dSet1 a x = dSetF x.Id x.F y.F k by unfold dSet1; rw [if_pos hh, hy, hk]]; simp [Wk, go_sem, simprocAttr, eGraph]; done) | skip
                · exact ⟨hi, dBad_succ hx h2 (by unfold dBad1; rw [hh]; first | rfl | (rw [← hy]; simp [hT]))⟩
                · simp only; omega
        · have hi : i = o.O.length := by simp at ct61; omega
          rw [hi, List.take_length] at h2
          refine CW.exit ?_
          refine CW.seq ?_
          refine CW.seq ?_
          refine CW.rg ?_
          refine CWops.run htt 6 (by simp only [go_sem, simprocAttr, eGraph]; exact rfl) (by simp [go_sem, simprocAttr, eGraph]) ?_
          refine CWops.max2 (k := .i64) (m := (o.Roots.length : Int)) (n := (a.Roots.length : Int)) (by simp only [go_sem, simprocAttr]) (by simp only [go_sem, simprocAttr, List.length_map]) (by simp only [go_sem, simprocAttr, List.length_map]) ?_
          refine CWops.run htt 1 (by simp only [go_sem, simprocAttr, eGraph]; exact rfl) (by simp [go_sem, simprocAttr, eGraph]) ?_
          refine CWops.done ?_
          refine CW.block ?_
          refine CW.loop (S := Nat) (fun i => ⟨4, [(2, .lv 0 [] 0), (3, .lv 1 [] 0), (4, .lv 2 [] 0), (5, .int .i64 0), (6, .lv 3 [] 0), (122, .int .i64 (max (o.Roots.length : Int) (a.Roots.length : Int))), (123, .int .i64 i)], [(0, ⟨true, eGraph o⟩), (1, ⟨true, eGraph a⟩), (2, ⟨true, [.nilsl, .nilsl, .nilsl, .nilsl]⟩), (3, ⟨true, [.own 1 ((dNew o a.O).map eI), .own 1 ((dNew a o.O).map eI), .own 2 ((dSet a o.O).map eP), .own 1 ((dRoots o a i).map eI)]⟩)]⟩) (fun i => i ≤ max o.Roots.length a.Roots.length) (fun i => max o.Roots.length a.Roots.length - i) (0) ?_ (Nat.zero_le _) (fun i h3 => ?_)
          · rw [hi, List.take_length]; refine Sh.trans (Sh.nilCell 3 [] 3 1 (by simp [go_sem, simprocAttr]) rfl) (Sh.wk0 ?_); simp [Wk, go_sem, simprocAttr, eGraph, dRoots_zero]
          refine CW.seq ?_
          refine CW.rg ?_
          refine CWops.rn htt 1 ?_
          refine CWops.done ?_
          refine CW.seq ?_
          refine CW.cond (by simp only [go_sem, simprocAttr]; first | done | exact rfl) (fun ct124 => ?_) (fun ct124 => ?_)
          · have hi : i < max o.Roots.length a.Roots.length := by simp at ct124; omega
            have hL := dRoots_len o a i
            refine CW.skip ?_
            refine CW.seq ?_
            refine CW.block ?_
            refine CW.seq ?_
            refine CW.rg ?_
            refine CWops.rn htt 2 ?_
            refine CWops.done ?_
            refine CW.seq ?_
            refine CW.drawn mixed 5 (by decide) (by kernel_rfl) (by kernel_rfl) (by kernel_rfl) ?_
            refine Seg.run htt 2 (by simp only [go_sem, simprocAttr, eGraph]; exact rfl) ?_
            refine Seg.callA (diff_root up o i) (by simp only [go_sem, simprocAttr, eGraph]) (by simp only [go_sem, simprocAttr, eGraph]; first | done | exact rfl) (by simp only [go_sem, simprocAttr, eGraph]) (by simp only [go_sem, simprocAttr, eGraph]) ?_
            refine Seg.run htt 2 (by simp only [go_sem, simprocAttr, eGraph]; exact rfl) ?_
            refine Seg.done ?_
            refine CWops.callA (diff_root up a i) (by simp only [go_sem, simprocAttr, eGraph]) (by simp only [go_sem, simprocAttr, eGraph]; first | done | exact rfl) (by simp only [go_sem, simprocAttr, eGraph]) (by simp only [go_sem, simprocAttr, eGraph]) (fun rt131 hrt131 => ?_)
            subst hrt131
            refine CWops.run htt 1 (by simp only [go_sem, simprocAttr, eGraph]; exact rfl) (by simp [go_sem, simprocAttr, eGraph]) ?_
            refine CWops.done ?_
            refine CW.cond (by simp only [go_sem, simprocAttr]; first | done | exact rfl) (fun ct132 => ?_) (fun ct132 => ?_)
            · have hp : rootAt o i ≠ rootAt a i := by simpa using ct132
              refine CW.rg ?_
              refine CWops.run htt 7 (by simp only [go_sem, simprocAttr, List.replicate, eI]; exact rfl) (by simp [AV.cell, AV.tree, eI, MX] <;> omega) ?_
              refine CWops.done ?_
              refine CW.rg ?_
              refine CWops.run htt 2 (by simp only [go_sem, simprocAttr, wrap_succ (show i < MX by unfold MX; omega)]; exact rfl) (by simp [go_sem, simprocAttr, wrap_succ (show i < MX by unfold MX; omega)]) ?_
              refine CWops.done ?_
              refine ⟨i + 1, ?_, ?_, ?_⟩
              · refine Sh.wk0 ?_
                dsimp only
                first | (rw [dRoots_yes hp]; simp [Wk, go_sem, simprocAttr, eGraph, eI]; done) | (rw [dRoots_no hp]; simp [Wk, go_sem, simprocAttr, eGraph]; done) | skip
              · exact hi
              · simp only; omega
            · have hp : rootAt o i = rootAt a i := by simpa using ct132
              refine CW.skip ?_
              refine CW.rg ?_
              refine CWops.run htt 2 (by simp only [go_sem, simprocAttr, wrap_succ (show i < MX by unfold MX; omega)]; exact rfl) (by simp [go_sem, simprocAttr, wrap_succ (show i < MX by unfold MX; omega)]) ?_
              refine CWops.done ?_
              refine ⟨i + 1, ?_, ?_, ?_⟩
              · refine Sh.wk0 ?_
                dsimp only
                first | (rw [dRoots_yes hp]; simp [Wk, go_sem, simprocAttr, eGraph, eI]; done) | (rw [dRoots_no hp]; simp [Wk, go_sem, simprocAttr, eGraph]; done) | skip
              · exact hi
              · simp only; omega
          · have hi : i = max o.Roots.length a.Roots.length := by simp at ct124; omega
            refine CW.exit ?_
            refine CW.seq ?_
            refine CW.sh (Sh.trans (Sh.frz 3 0 rfl rfl) (Sh.trans (Sh.frz 3 1 rfl rfl) (Sh.trans (Sh.frz 3 2 rfl rfl) (Sh.frz 3 3 rfl rfl)))) ?_
            simp only [go_sem, simprocAttr]
            refine CW.rg ?_
            refine CWops.rn htt 3 ?_
            refine CWops.done ?_
            refine CW.ret ?_
            refine retQ.ret (by simp only [f15, go_sem, simprocAttr]; exact rfl) (by simp only [go_sem, simprocAttr]; exact rfl) ?_ -- ret4
            refine ⟨_, ?_, rfl⟩
            simp [leP, leL, gDiff, hmo', hma', hS, h2, eChange, hi]
theorem law08_Two (up : Bool) : PCall prog up 22 [] (· = .agg (eGraph twG)) := by
  refine PCall.intro htt func22 (by kernel_rfl) rfl (Nat.le_of_ble_eq_true rfl) fun hl => ?_

  simp only [tmps0, Nat.reduceAdd]
  refine CW.seq ?_
  refine CW.rg ?_
  refine CWops.rn htt 1 ?_
  refine CWops.done ?_
  refine CW.seq ?_
  refine CW.rg ?_
  refine CWops.callA (law06_One up) (by simp only [go_sem, simprocAttr, oneS, eSchema, eType, eField]) (by simp only [go_sem, simprocAttr, oneS, eSchema, eType, eField]; first | done | exact rfl) (by simp only [go_sem, simprocAttr, oneS, eSchema, eType, eField]) (by simp only [go_sem, simprocAttr, oneS, eSchema, eType, eField]) (fun rt1 hrt1 => ?_)
  subst hrt1
  refine CWops.run htt 2 (by simp only [go_sem, simprocAttr, oneS, eSchema, eType, eField]; exact rfl) (by simp [go_sem, simprocAttr, oneS, eSchema, eType, eField]) ?_
  refine CWops.run htt 1 (by simp only [go_sem, simprocAttr, List.replicate]; exact rfl) (by simp [go_sem, simprocAttr]) ?_
  refine CWops.sh (Sh.frzT 4 1 (by simp only [go_sem, simprocAttr]) (by simp only [go_sem, simprocAttr]; first | done | exact rfl) rfl) ?_
  simp only [go_sem, simprocAttr, AV.freeze]
  refine CWops.run htt 3 (by simp only [go_sem, simprocAttr, oneS, eSchema, eType, eField]; exact rfl) (by simp [go_sem, simprocAttr, oneS, eSchema, eType, eField]) ?_
  refine CWops.run htt 1 (by simp only [go_sem, simprocAttr, List.replicate]; exact rfl) (by simp [go_sem, simprocAttr]) ?_
  refine CWops.sh (Sh.frzT 8 2 (by simp only [go_sem, simprocAttr]) (by simp only [go_sem, simprocAttr]; first | done | exact rfl) rfl) ?_
  simp only [go_sem, simprocAttr, AV.freeze]
  refine CWops.run htt 1 (by simp only [go_sem, simprocAttr, oneS, eSchema, eType, eField]; exact rfl) (by simp [go_sem, simprocAttr, oneS, eSchema, eType, eField]) ?_
  refine CWops.run htt 1 (by simp only [go_sem, simprocAttr, List.replicate]; exact rfl) (by simp [go_sem, simprocAttr]) ?_
  refine CWops.sh (Sh.frzT 10 3 (by simp only [go_sem, simprocAttr]) (by simp only [go_sem, simprocAttr]; first | done | exact rfl) rfl) ?_
  simp only [go_sem, simprocAttr, AV.freeze]
  refine CWops.run htt 1 (by simp only [go_sem, simprocAttr, List.replicate]; exact rfl) (by simp [go_sem, simprocAttr]) ?_
  refine CWops.sh (Sh.frzT 11 4 (by simp only [go_sem, simprocAttr]) (by simp only [go_sem, simprocAttr]; first | done | exact rfl) rfl) ?_
  simp only [go_sem, simprocAttr, AV.freeze]
  refine CWops.run htt 2 (by simp only [go_sem, simprocAttr, oneS, eSchema, eType, eField]; exact rfl) (by simp [go_sem, simprocAttr, oneS, eSchema, eType, eField]) ?_
  refine CWops.done ?_
  refine CW.ret ?_
  refine retQ.ret (by simp only [f22, go_sem, simprocAttr]; exact rfl) (by simp only [go_sem, simprocAttr]; exact rfl) ?_ -- ret1
  refine ⟨_, ?_, rfl⟩
  simp [leP, leL, eGraph, twG, eObj, eVal, oneS, eType, eField, eI]
end Go.Ab
namespace Go.Ab
open Go Go.Proofs.Tryz
set_option maxRecDepth 100000
set_option maxHeartbeats 3200000
set_option linter.unusedSimpArgs false
set_option linter.unusedVariables false
theorem merge_side_none (up : Bool) (g : Graph) (id : Int) (f1 : fnd (fun o => decide (o.Id = id)) g.O = -1) (f2 : objAt g id = none) : PCall prog up 96 [.agg (eGraph g), .int .i64 id] (· = .tup [.agg (eObj (objD g id)), .bool (hasId g id)]) := by
  refine PCall.intro htt func96 (by kernel_rfl) rfl (Nat.le_of_ble_eq_true rfl) fun hl => ?_

  simp only [tmps0, Nat.reduceAdd]
  refine CW.seq ?_
  refine CW.rg ?_
  refine CWops.run htt 3 (by simp only [go_sem, simprocAttr, eGraph]; exact rfl) (by simp [go_sem, simprocAttr, eGraph]) ?_
  refine CWops.done ?_
  refine CW.seq ?_
  refine CW.rg ?_
  refine CWops.run htt 2 (by simp only [go_sem, simprocAttr, eGraph]; exact rfl) (by simp [go_sem, simprocAttr, eGraph]) ?_
  refine CWops.call ((by have := graph_Find up g id; rw [f1] at this; exact this)) (by simp only [go_sem, simprocAttr, eGraph]) (by simp only [go_sem, simprocAttr, eGraph]; first | done | exact rfl) (by simp only [go_sem, simprocAttr, eGraph]) (fun rt9 hrt9 => ?_)
  subst hrt9; refine ⟨rfl, ?_⟩
  refine CWops.run htt 1 (by simp only [go_sem, simprocAttr, eGraph]; exact rfl) (by simp [go_sem, simprocAttr, eGraph]) ?_
  refine CWops.done ?_
  refine CW.seq ?_
  refine CW.seq ?_
  refine CW.rg ?_
  refine CWops.rn htt 2 ?_
  refine CWops.done ?_
  refine CW.cond (by simp only [go_sem, simprocAttr]; first | done | exact rfl) (fun ct11 => ?_) (fun ct11 => ?_)
  · refine CW.seq ?_
    refine CW.rg ?_
    refine CWops.rn htt 3 ?_
    refine CWops.done ?_
    refine CW.ret ?_
    refine retQ.ret (by simp only [f96, go_sem, simprocAttr]; exact rfl) (by simp only [go_sem, simprocAttr]; exact rfl) ?_ -- ret1
    refine ⟨_, ?_, rfl⟩
    simp [leP, leL, hasId, objD, f2, eObj]
  · simp at ct11
theorem merge_side_some (up : Bool) (g : Graph) (id : Int) (i : Nat) (x : GObj) (f1 : fnd (fun o => decide (o.Id = id)) g.O = i) (f2 : g.O[i]? = some x) (f3 : objAt g id = some x) : PCall prog up 96 [.agg (eGraph g), .int .i64 id] (· = .tup [.agg (eObj (objD g id)), .bool (hasId g id)]) := by
  refine PCall.intro htt func96 (by kernel_rfl) rfl (Nat.le_of_ble_eq_true rfl) fun hl => ?_

  simp only [tmps0, Nat.reduceAdd]
  refine CW.seq ?_
  refine CW.rg ?_
  refine CWops.run htt 3 (by simp only [go_sem, simprocAttr, eGraph]; exact rfl) (by simp [go_sem, simprocAttr, eGraph]) ?_
  refine CWops.done ?_
  refine CW.seq ?_
  refine CW.rg ?_
  refine CWops.run htt 2 (by simp only [go_sem, simprocAttr, eGraph]; exact rfl) (by simp [go_sem, simprocAttr, eGraph]) ?_
  refine CWops.call ((by have := graph_Find up g id; rw [f1] at this; exact this)) (by simp only [go_sem, simprocAttr, eGraph]) (by simp only [go_sem, simprocAttr, eGraph]; first | done | exact rfl) (by simp only [go_sem, simprocAttr, eGraph]) (fun rt9 hrt9 => ?_)
  subst hrt9; refine ⟨rfl, ?_⟩
  refine CWops.run htt 1 (by simp only [go_sem, simprocAttr, eGraph]; exact rfl) (by simp [go_sem, simprocAttr, eGraph]) ?_
  refine CWops.done ?_
  refine CW.seq ?_
  refine CW.seq ?_
  refine CW.rg ?_
  refine CWops.rn htt 2 ?_
  refine CWops.done ?_
  refine CW.cond (by simp only [go_sem, simprocAttr]; first | done | exact rfl) (fun ct11 => ?_) (fun ct11 => ?_)
  · exfalso; revert ct11; simp <;> omega 
  · refine CW.skip ?_
    refine CW.seq ?_
    refine CW.rg ?_
    refine CWops.run htt 7 (by simp only [go_sem, simprocAttr, eGraph, f2, eObj, (List.getElem?_eq_some_iff.1 f2).1]; exact rfl) (by simp [go_sem, simprocAttr, eGraph, f2, eObj, (List.getElem?_eq_some_iff.1 f2).1]) ?_
    refine CWops.done ?_
    refine CW.ret ?_
    refine retQ.ret (by simp only [f96, go_sem, simprocAttr]; exact rfl) (by simp only [go_sem, simprocAttr]; exact rfl) ?_ -- ret1
    refine ⟨_, ?_, rfl⟩
    simp [leP, leL, hasId, objD, f3, eObj]
theorem merge_side (up : Bool) (g : Graph) (id : Int) : PCall prog up 96 [.agg (eGraph g), .int .i64 id] (· = .tup [.agg (eObj (objD g id)), .bool (hasId g id)]) := by
  rcases find_cases (fun o => decide (o.Id = id)) g.O with ⟨f1, f2, _⟩ | ⟨i, x, f1, f2, f3, _, _⟩
  · exact merge_side_none up g id f1 f2
  · exact merge_side_some up g id i x f1 f2 f3
theorem merge_root (up : Bool) (g : Graph) (i : Nat) : PCall prog up 67 [.agg (eGraph g), .int .i64 i] (· = .int .i64 (rootAt g i)) := by
  refine PCall.intro htt func67 (by kernel_rfl) rfl (Nat.le_of_ble_eq_true rfl) fun hl => ?_

  simp only [tmps0, Nat.reduceAdd]
  refine CW.seq ?_
  refine CW.rg ?_
  refine CWops.run htt 2 (by simp only [go_sem, simprocAttr, eGraph]; exact rfl) (by simp [go_sem, simprocAttr, eGraph]) ?_
  refine CWops.done ?_
  refine CW.seq ?_
  refine CW.seq ?_
  refine CW.rg ?_
  refine CWops.run htt 5 (by simp only [go_sem, simprocAttr, eGraph]; exact rfl) (by simp [go_sem, simprocAttr, eGraph]) ?_
  refine CWops.done ?_
  refine CW.cond (by simp only [go_sem, simprocAttr]; first | done | exact rfl) (fun ct9 => ?_) (fun ct9 => ?_)
  · have hi : i < g.Roots.length := by simpa using ct9
    obtain ⟨x, hx⟩ : ∃ x, g.Roots[i]? = some x := ⟨g.Roots[i], List.getElem?_eq_getElem hi⟩
    refine CW.seq ?_
    refine CW.rg ?_
    refine CWops.run htt 6 (by simp only [go_sem, simprocAttr, eGraph, hi, hx, eI]; exact rfl) (by simp [go_sem, simprocAttr, eGraph, hi, hx, eI]) ?_
    refine CWops.done ?_
    refine CW.ret ?_
    refine retQ.ret (by simp only [f67, go_sem, simprocAttr]; exact rfl) (by simp only [go_sem, simprocAttr]; exact rfl) ?_ -- ret1
    refine ⟨_, ?_, rfl⟩
    simp [leP, rootAt, hx]
  · have hi : g.Roots.length ≤ i := by simpa using ct9
    refine CW.skip ?_
    refine CW.seq ?_
    refine CW.rg ?_
    refine CWops.rn htt 1 ?_
    refine CWops.done ?_
    refine CW.ret ?_
    refine retQ.ret (by simp only [f67, go_sem, simprocAttr]; exact rfl) (by simp only [go_sem, simprocAttr]; exact rfl) ?_ -- ret2
    refine ⟨_, ?_, rfl⟩
    simp [leP, rootAt, List.getElem?_eq_none hi]
theorem merge_standsI (up : Bool) (o a b : Int) : PCall prog up 66 [.int .i64 o, .int .i64 a, .int .i64 b] (· = .tup [.int .i64 (stand o a b).1, .bool (stand o a b).2]) := by
  refine PCall.intro htt func66 (by kernel_rfl) rfl (Nat.le_of_ble_eq_true rfl) fun hl => ?_

  simp only [tmps0, Nat.reduceAdd]
  refine CW.seq ?_
  refine CW.rg ?_
  refine CWops.rn htt 2 ?_
  refine CWops.done ?_
  refine CW.seq ?_
  refine CW.seq ?_
  refine CW.rg ?_
  refine CWops.rn htt 3 ?_
  refine CWops.done ?_
  refine CW.cond (by simp only [go_sem, simprocAttr]; first | done | exact rfl) (fun ct10 => ?_) (fun ct10 => ?_)
  · have h1 : a = o := by simpa using ct10
    refine CW.seq ?_
    refine CW.rg ?_
    refine CWops.rn htt 3 ?_
    refine CWops.done ?_
    refine CW.ret ?_
    refine retQ.ret (by simp only [f66, go_sem, simprocAttr]; exact rfl) (by simp only [go_sem, simprocAttr]; exact rfl) ?_ -- ret1
    refine ⟨_, ?_, rfl⟩
    simp [leP, leL, stand, h1]
  · have h1 : ¬ a = o := by simpa using ct10
    refine CW.skip ?_
    refine CW.seq ?_
    refine CW.rg ?_
    refine CWops.rn htt 5 ?_
    all_goals (first | refine CWops.guard 16 (by simp only [go_sem, simprocAttr]; exact rfl) (fun g16 => ?_) (fun g16 => ?_) | skip)
    all_goals (refine CWops.rn htt 6 ?_)
    all_goals (refine CWops.done ?_)
    all_goals (
      refine CW.ret ?_
      refine retQ.ret (by simp only [f66, go_sem, simprocAttr]; exact rfl) (by simp only [go_sem, simprocAttr]; exact rfl) ?_ -- ret2
      refine ⟨_, ?_, rfl⟩
      simp_all [leP, leL, stand])
end Go.Ab
namespace Go.Ab
open Go Go.Proofs.Tryz
set_option maxRecDepth 100000
set_option maxHeartbeats 6400000
set_option linter.unusedSimpArgs false
set_option linter.unusedVariables false
theorem val_eqB (a b : GVal) : (decide (a.N = b.N) && (decide (a.S = b.S) && decide (a.R = b.R))) = decide (a = b) := by
  rw [Bool.eq_iff_iff]
  simp only [Bool.and_eq_true, decide_eq_true_eq]
  constructor
  · rintro ⟨h1, h2, h3⟩; cases a; cases b; simp_all
  · rintro rfl; exact ⟨rfl, rfl, rfl⟩
theorem merge_standsV_true (up : Bool) (o a b : GVal) (hE : (decide (b.N = o.N) && (decide (b.S = o.S) && decide (b.R = o.R))) = true) : PCall prog up 97 [.agg (eVal o), .agg (eVal a), .agg (eVal b)] (· = .tup [.agg (eVal (stand o a b).1), .bool (stand o a b).2]) := by
  refine PCall.intro htt func97 (by kernel_rfl) rfl (Nat.le_of_ble_eq_true rfl) fun hl => ?_

  simp only [tmps0, Nat.reduceAdd]
  refine CW.seq ?_
  refine CW.rg ?_
  refine CWops.run htt 5 (by simp only [go_sem, simprocAttr, eVal]; exact rfl) (by simp [go_sem, simprocAttr, eVal]) ?_
  refine CWops.done ?_
  refine CW.seq ?_
  refine CW.seq ?_
  refine CW.rg ?_
  refine CWops.run htt 3 (by simp only [go_sem, simprocAttr, eVal]; exact rfl) (by simp [go_sem, simprocAttr, eVal]) ?_
  refine CWops.done ?_
  refine CW.cond (by simp only [go_sem, simprocAttr]; first | done | exact rfl) (fun ct10 => ?_) (fun ct10 => ?_)
  · rw [val_eqB] at ct10
    have h1 : a = o := by simpa using ct10
    refine CW.seq ?_
    refine CW.rg ?_
    refine CWops.run htt 3 (by simp only [go_sem, simprocAttr, eVal]; exact rfl) (by simp [go_sem, simprocAttr, eVal]) ?_
    refine CWops.done ?_
    refine CW.ret ?_
    refine retQ.ret (by simp only [f97, go_sem, simprocAttr]; exact rfl) (by simp only [go_sem, simprocAttr]; exact rfl) ?_ -- ret1
    refine ⟨_, ?_, rfl⟩
    simp [leP, leL, stand, h1, eVal]
  · rw [val_eqB] at ct10
    have h1 : ¬ a = o := by simpa using ct10
    refine CW.skip ?_
    refine CW.seq ?_
    refine CW.waves mixed (by kernel_rfl) (by kernel_rfl) (by kernel_rfl) [[[0, 1, 2, 3, 4, 5, 6, 7, 8, 9, 10], [0, 1, 2, 3, 4, 5, 6, 7, 9, 8, 10], [0, 1, 2, 3, 4, 5, 6, 9, 7, 8, 10], [0, 1, 2, 3, 4, 5, 9, 6, 7, 8, 10], [0, 1, 2, 3, 4, 6, 5, 7, 8, 9, 10], [0, 1, 2, 3, 4, 6, 5, 7, 9, 8, 10], [0, 1, 2, 3, 4, 6, 5, 9, 7, 8, 10], [0, 1, 2, 3, 4, 6, 9, 5, 7, 8, 10], [0, 1, 2, 3, 4, 9, 5, 6, 7, 8, 10], [0, 1, 2, 3, 4, 9, 6, 5, 7, 8, 10], [0, 2, 1, 3, 4, 5, 6, 7, 8, 9, 10], [0, 2, 1, 3, 4, 5, 6, 7, 9, 8, 10], [0, 2, 1, 3, 4, 5, 6, 9, 7, 8, 10], [0, 2, 1, 3, 4, 5, 9, 6, 7, 8, 10], [0, 2, 1, 3, 4, 6, 5, 7, 8, 9, 10], [0, 2, 1, 3, 4, 6, 5, 7, 9, 8, 10], [0, 2, 1, 3, 4, 6, 5, 9, 7, 8, 10], [0, 2, 1, 3, 4, 6, 9, 5, 7, 8, 10], [0, 2, 1, 3, 4, 9, 5, 6, 7, 8, 10], [0, 2, 1, 3, 4, 9, 6, 5, 7, 8, 10], [1, 0, 2, 3, 4, 5, 6, 7, 8, 9, 10], [1, 0, 2, 3, 4, 5, 6, 7, 9, 8, 10], [1, 0, 2, 3, 4, 5, 6, 9, 7, 8, 10], [1, 0, 2, 3, 4, 5, 9, 6, 7, 8, 10], [1, 0, 2, 3, 4, 6, 5, 7, 8, 9, 10], [1, 0, 2, 3, 4, 6, 5, 7, 9, 8, 10], [1, 0, 2, 3, 4, 6, 5, 9, 7, 8, 10], [1, 0, 2, 3, 4, 6, 9, 5, 7, 8, 10], [1, 0, 2, 3, 4, 9, 5, 6, 7, 8, 10], [1, 0, 2, 3, 4, 9, 6, 5, 7, 8, 10], [1, 2, 0, 3, 4, 5, 6, 7, 8, 9, 10], [1, 2, 0, 3, 4, 5, 6, 7, 9, 8, 10], [1, 2, 0, 3, 4, 5, 6, 9, 7, 8, 10], [1, 2, 0, 3, 4, 5, 9, 6, 7, 8, 10], [1, 2, 0, 3, 4, 6, 5, 7, 8, 9, 10], [1, 2, 0, 3, 4, 6, 5, 7, 9, 8, 10], [1, 2, 0, 3, 4, 6, 5, 9, 7, 8, 10], [1, 2, 0, 3, 4, 6, 9, 5, 7, 8, 10], [1, 2, 0, 3, 4, 9, 5, 6, 7, 8, 10], [1, 2, 0, 3, 4, 9, 6, 5, 7, 8, 10], [1, 2, 3, 0, 4, 5, 6, 7, 8, 9, 10], [1, 2, 3, 0, 4, 5, 6, 7, 9, 8, 10], [1, 2, 3, 0, 4, 5, 6, 9, 7, 8, 10], [1, 2, 3, 0, 4, 5, 9, 6, 7, 8, 10], [1, 2, 3, 0, 4, 6, 5, 7, 8, 9, 10], [1, 2, 3, 0, 4, 6, 5, 7, 9, 8, 10], [1, 2, 3, 0, 4, 6, 5, 9, 7, 8, 10], [1, 2, 3, 0, 4, 6, 9, 5, 7, 8, 10], [1, 2, 3, 0, 4, 9, 5, 6, 7, 8, 10], [1, 2, 3, 0, 4, 9, 6, 5, 7, 8, 10], [1, 2, 3, 4, 0, 5, 6, 7, 8, 9, 10], [1, 2, 3, 4, 0, 5, 6, 7, 9, 8, 10], [1, 2, 3, 4, 0, 5, 6, 9, 7, 8, 10], [1, 2, 3, 4, 0, 5, 9, 6, 7, 8, 10], [1, 2, 3, 4, 0, 6, 5, 7, 8, 9, 10], [1, 2, 3, 4, 0, 6, 5, 7, 9, 8, 10], [1, 2, 3, 4, 0, 6, 5, 9, 7, 8, 10], [1, 2, 3, 4, 0, 6, 9, 5, 7, 8, 10], [1, 2, 3, 4, 0, 9, 5, 6, 7, 8, 10], [1, 2, 3, 4, 0, 9, 6, 5, 7, 8, 10], [1, 2, 3, 4, 5, 0, 6, 7, 8, 9, 10], [1, 2, 3, 4, 5, 0, 6, 7, 9, 8, 10], [1, 2, 3, 4, 5, 0, 6, 9, 7, 8, 10], [1, 2, 3, 4, 5, 0, 9, 6, 7, 8, 10], [1, 2, 3, 4, 5, 6, 0, 7, 8, 9, 10], [1, 2, 3, 4, 5, 6, 0, 7, 9, 8, 10], [1, 2, 3, 4, 5, 6, 0, 9, 7, 8, 10], [1, 2, 3, 4, 5, 6, 7, 0, 8, 9, 10], [1, 2, 3, 4, 5, 6, 7, 0, 9, 8, 10], [1, 2, 3, 4, 5, 6, 7, 8, 0, 9, 10], [1, 2, 3, 4, 6, 0, 5, 7, 8, 9, 10], [1, 2, 3, 4, 6, 0, 5, 7, 9, 8, 10], [1, 2, 3, 4, 6, 0, 5, 9, 7, 8, 10], [1, 2, 3, 4, 6, 0, 9, 5, 7, 8, 10], [1, 2, 3, 4, 6, 5, 0, 7, 8, 9, 10], [1, 2, 3, 4, 6, 5, 0, 7, 9, 8, 10], [1, 2, 3, 4, 6, 5, 0, 9, 7, 8, 10], [1, 2, 3, 4, 6, 5, 7, 0, 8, 9, 10], [1, 2, 3, 4, 6, 5, 7, 0, 9, 8, 10], [1, 2, 3, 4, 6, 5, 7, 8, 0, 9, 10], [2, 0, 1, 3, 4, 5, 6, 7, 8, 9, 10], [2, 0, 1, 3, 4, 5, 6, 7, 9, 8, 10], [2, 0, 1, 3, 4, 5, 6, 9, 7, 8, 10], [2, 0, 1, 3, 4, 5, 9, 6, 7, 8, 10], [2, 0, 1, 3, 4, 6, 5, 7, 8, 9, 10], [2, 0, 1, 3, 4, 6, 5, 7, 9, 8, 10], [2, 0, 1, 3, 4, 6, 5, 9, 7, 8, 10], [2, 0, 1, 3, 4, 6, 9, 5, 7, 8, 10], [2, 0, 1, 3, 4, 9, 5, 6, 7, 8, 10], [2, 0, 1, 3, 4, 9, 6, 5, 7, 8, 10], [2, 1, 0, 3, 4, 5, 6, 7, 8, 9, 10], [2, 1, 0, 3, 4, 5, 6, 7, 9, 8, 10], [2, 1, 0, 3, 4, 5, 6, 9, 7, 8, 10], [2, 1, 0, 3, 4, 5, 9, 6, 7, 8, 10], [2, 1, 0, 3, 4, 6, 5, 7, 8, 9, 10], [2, 1, 0, 3, 4, 6, 5, 7, 9, 8, 10], [2, 1, 0, 3, 4, 6, 5, 9, 7, 8, 10], [2, 1, 0, 3, 4, 6, 9, 5, 7, 8, 10], [2, 1, 0, 3, 4, 9, 5, 6, 7, 8, 10], [2, 1, 0, 3, 4, 9, 6, 5, 7, 8, 10], [2, 1, 3, 0, 4, 5, 6, 7, 8, 9, 10], [2, 1, 3, 0, 4, 5, 6, 7, 9, 8, 10], [2, 1, 3, 0, 4, 5, 6, 9, 7, 8, 10], [2, 1, 3, 0, 4, 5, 9, 6, 7, 8, 10], [2, 1, 3, 0, 4, 6, 5, 7, 8, 9, 10], [2, 1, 3, 0, 4, 6, 5, 7, 9, 8, 10], [2, 1, 3, 0, 4, 6, 5, 9, 7, 8, 10], [2, 1, 3, 0, 4, 6, 9, 5, 7, 8, 10], [2, 1, 3, 0, 4, 9, 5, 6, 7, 8, 10], [2, 1, 3, 0, 4, 9, 6, 5, 7, 8, 10], [2, 1, 3, 4, 0, 5, 6, 7, 8, 9, 10], [2, 1, 3, 4, 0, 5, 6, 7, 9, 8, 10], [2, 1, 3, 4, 0, 5, 6, 9, 7, 8, 10], [2, 1, 3, 4, 0, 5, 9, 6, 7, 8, 10], [2, 1, 3, 4, 0, 6, 5, 7, 8, 9, 10], [2, 1, 3, 4, 0, 6, 5, 7, 9, 8, 10], [2, 1, 3, 4, 0, 6, 5, 9, 7, 8, 10], [2, 1, 3, 4, 0, 6, 9, 5, 7, 8, 10], [2, 1, 3, 4, 0, 9, 5, 6, 7, 8, 10], [2, 1, 3, 4, 0, 9, 6, 5, 7, 8, 10], [2, 1, 3, 4, 5, 0, 6, 7, 8, 9, 10], [2, 1, 3, 4, 5, 0, 6, 7, 9, 8, 10], [2, 1, 3, 4, 5, 0, 6, 9, 7, 8, 10], [2, 1, 3, 4, 5, 0, 9, 6, 7, 8, 10], [2, 1, 3, 4, 5, 6, 0, 7, 8, 9, 10], [2, 1, 3, 4, 5, 6, 0, 7, 9, 8, 10], [2, 1, 3, 4, 5, 6, 0, 9, 7, 8, 10], [2, 1, 3, 4, 5, 6, 7, 0, 8, 9, 10], [2, 1, 3, 4, 5, 6, 7, 0, 9, 8, 10], [2, 1, 3, 4, 5, 6, 7, 8, 0, 9, 10], [2, 1, 3, 4, 6, 0, 5, 7, 8, 9, 10], [2, 1, 3, 4, 6, 0, 5, 7, 9, 8, 10], [2, 1, 3, 4, 6, 0, 5, 9, 7, 8, 10], [2, 1, 3, 4, 6, 0, 9, 5, 7, 8, 10], [2, 1, 3, 4, 6, 5, 0, 7, 8, 9, 10], [2, 1, 3, 4, 6, 5, 0, 7, 9, 8, 10], [2, 1, 3, 4, 6, 5, 0, 9, 7, 8, 10], [2, 1, 3, 4, 6, 5, 7, 0, 8, 9, 10], [2, 1, 3, 4, 6, 5, 7, 0, 9, 8, 10], [2, 1, 3, 4, 6, 5, 7, 8, 0, 9, 10]]] (by kernel_rfl) ?_
    refine Wave.cons ⟨4, [(6, .lv 3 [] 0), (7, .bool (true || (decide (a.N = b.N) && (decide (a.S = b.S) && decide (a.R = b.R)))))], [(3, ⟨true, eVal a⟩)]⟩ (fun is his => ?_) ?_
    · simp only [List.mem_cons, List.not_mem_nil, or_false] at his
      rcases his with rfl | rfl | rfl | rfl | rfl | rfl | rfl | rfl | rfl | rfl | rfl | rfl | rfl | rfl | rfl | rfl | rfl | rfl | rfl | rfl | rfl | rfl | rfl | rfl | rfl | rfl | rfl | rfl | rfl | rfl | rfl | rfl | rfl | rfl | rfl | rfl | rfl | rfl | rfl | rfl | rfl | rfl | rfl | rfl | rfl | rfl | rfl | rfl | rfl | rfl | rfl | rfl | rfl | rfl | rfl | rfl | rfl | rfl | rfl | rfl | rfl | rfl | rfl | rfl | rfl | rfl | rfl | rfl | rfl | rfl | rfl | rfl | rfl | rfl | rfl | rfl | rfl | rfl | rfl | rfl | rfl | rfl | rfl | rfl | rfl | rfl | rfl | rfl | rfl | rfl | rfl | rfl | rfl | rfl | rfl | rfl | rfl | rfl | rfl | rfl | rfl | rfl | rfl | rfl | rfl | rfl | rfl | rfl | rfl | rfl | rfl | rfl | rfl | rfl | rfl | rfl | rfl | rfl | rfl | rfl | rfl | rfl | rfl | rfl | rfl | rfl | rfl | rfl | rfl | rfl | rfl | rfl | rfl | rfl | rfl | rfl | rfl | rfl | rfl | rfl
      all_goals (first | (refine CWops.run htt 11 (by simp only [List.map_cons, List.map_nil, nthO_zero, nthO_succ, go_sem, simprocAttr, eVal, hE]; exact rfl) (by simp) ?_; refine CWops.done ?_))
      all_goals (refine Sh.wk0 ?_; simp [Wk, go_sem, simprocAttr, eVal, hE])
    refine Wave.done ?_
    refine CW.ret ?_
    refine retQ.ret (by simp only [f97, go_sem, simprocAttr]; exact rfl) (by simp only [go_sem, simprocAttr]; exact rfl) ?_ -- ret2
    refine ⟨_, ?_, rfl⟩
    rw [val_eqB] at hE
    simp [go_sem, simprocAttr, leP, leL, stand, h1, eVal, val_eqB, hE, ldc, view]
theorem merge_standsV_false (up : Bool) (o a b : GVal) (hE : (decide (b.N = o.N) && (decide (b.S = o.S) && decide (b.R = o.R))) = false) : PCall prog up 97 [.agg (eVal o), .agg (eVal a), .agg (eVal b)] (· = .tup [.agg (eVal (stand o a b).1), .bool (stand o a b).2]) := by
  refine PCall.intro htt func97 (by kernel_rfl) rfl (Nat.le_of_ble_eq_true rfl) fun hl => ?_

  simp only [tmps0, Nat.reduceAdd]
  refine CW.seq ?_
  refine CW.rg ?_
  refine CWops.run htt 5 (by simp only [go_sem, simprocAttr, eVal]; exact rfl) (by simp [go_sem, simprocAttr, eVal]) ?_
  refine CWops.done ?_
  refine CW.seq ?_
  refine CW.seq ?_
  refine CW.rg ?_
  refine CWops.run htt 3 (by simp only [go_sem, simprocAttr, eVal]; exact rfl) (by simp [go_sem, simprocAttr, eVal]) ?_
  refine CWops.done ?_
  refine CW.cond (by simp only [go_sem, simprocAttr]; first | done | exact rfl) (fun ct10 => ?_) (fun ct10 => ?_)
  · rw [val_eqB] at ct10
    have h1 : a = o := by simpa using ct10
    refine CW.seq ?_
    refine CW.rg ?_
    refine CWops.run htt 3 (by simp only [go_sem, simprocAttr, eVal]; exact rfl) (by simp [go_sem, simprocAttr, eVal]) ?_
    refine CWops.done ?_
    refine CW.ret ?_
    refine retQ.ret (by simp only [f97, go_sem, simprocAttr]; exact rfl) (by simp only [go_sem, simprocAttr]; exact rfl) ?_ -- ret1
    refine ⟨_, ?_, rfl⟩
    simp [leP, leL, stand, h1, eVal]
  · rw [val_eqB] at ct10
    have h1 : ¬ a = o := by simpa using ct10
    refine CW.skip ?_
    refine CW.seq ?_
    refine CW.waves mixed (by kernel_rfl) (by kernel_rfl) (by kernel_rfl) [[[0, 1, 2, 3, 4, 5, 6, 7, 8, 9, 10], [0, 1, 2, 3, 4, 5, 6, 7, 9, 8, 10], [0, 1, 2, 3, 4, 5, 6, 9, 7, 8, 10], [0, 1, 2, 3, 4, 5, 9, 6, 7, 8, 10], [0, 1, 2, 3, 4, 6, 5, 7, 8, 9, 10], [0, 1, 2, 3, 4, 6, 5, 7, 9, 8, 10], [0, 1, 2, 3, 4, 6, 5, 9, 7, 8, 10], [0, 1, 2, 3, 4, 6, 9, 5, 7, 8, 10], [0, 1, 2, 3, 4, 9, 5, 6, 7, 8, 10], [0, 1, 2, 3, 4, 9, 6, 5, 7, 8, 10], [0, 2, 1, 3, 4, 5, 6, 7, 8, 9, 10], [0, 2, 1, 3, 4, 5, 6, 7, 9, 8, 10], [0, 2, 1, 3, 4, 5, 6, 9, 7, 8, 10], [0, 2, 1, 3, 4, 5, 9, 6, 7, 8, 10], [0, 2, 1, 3, 4, 6, 5, 7, 8, 9, 10], [0, 2, 1, 3, 4, 6, 5, 7, 9, 8, 10], [0, 2, 1, 3, 4, 6, 5, 9, 7, 8, 10], [0, 2, 1, 3, 4, 6, 9, 5, 7, 8, 10], [0, 2, 1, 3, 4, 9, 5, 6, 7, 8, 10], [0, 2, 1, 3, 4, 9, 6, 5, 7, 8, 10], [1, 0, 2, 3, 4, 5, 6, 7, 8, 9, 10], [1, 0, 2, 3, 4, 5, 6, 7, 9, 8, 10], [1, 0, 2, 3, 4, 5, 6, 9, 7, 8, 10], [1, 0, 2, 3, 4, 5, 9, 6, 7, 8, 10], [1, 0, 2, 3, 4, 6, 5, 7, 8, 9, 10], [1, 0, 2, 3, 4, 6, 5, 7, 9, 8, 10], [1, 0, 2, 3, 4, 6, 5, 9, 7, 8, 10], [1, 0, 2, 3, 4, 6, 9, 5, 7, 8, 10], [1, 0, 2, 3, 4, 9, 5, 6, 7, 8, 10], [1, 0, 2, 3, 4, 9, 6, 5, 7, 8, 10], [1, 2, 0, 3, 4, 5, 6, 7, 8, 9, 10], [1, 2, 0, 3, 4, 5, 6, 7, 9, 8, 10], [1, 2, 0, 3, 4, 5, 6, 9, 7, 8, 10], [1, 2, 0, 3, 4, 5, 9, 6, 7, 8, 10], [1, 2, 0, 3, 4, 6, 5, 7, 8, 9, 10], [1, 2, 0, 3, 4, 6, 5, 7, 9, 8, 10], [1, 2, 0, 3, 4, 6, 5, 9, 7, 8, 10], [1, 2, 0, 3, 4, 6, 9, 5, 7, 8, 10], [1, 2, 0, 3, 4, 9, 5, 6, 7, 8, 10], [1, 2, 0, 3, 4, 9, 6, 5, 7, 8, 10], [1, 2, 3, 0, 4, 5, 6, 7, 8, 9, 10], [1, 2, 3, 0, 4, 5, 6, 7, 9, 8, 10], [1, 2, 3, 0, 4, 5, 6, 9, 7, 8, 10], [1, 2, 3, 0, 4, 5, 9, 6, 7, 8, 10], [1, 2, 3, 0, 4, 6, 5, 7, 8, 9, 10], [1, 2, 3, 0, 4, 6, 5, 7, 9, 8, 10], [1, 2, 3, 0, 4, 6, 5, 9, 7, 8, 10], [1, 2, 3, 0, 4, 6, 9, 5, 7, 8, 10], [1, 2, 3, 0, 4, 9, 5, 6, 7, 8, 10], [1, 2, 3, 0, 4, 9, 6, 5, 7, 8, 10], [1, 2, 3, 4, 0, 5, 6, 7, 8, 9, 10], [1, 2, 3, 4, 0, 5, 6, 7, 9, 8, 10], [1, 2, 3, 4, 0, 5, 6, 9, 7, 8, 10], [1, 2, 3, 4, 0, 5, 9, 6, 7, 8, 10], [1, 2, 3, 4, 0, 6, 5, 7, 8, 9, 10], [1, 2, 3, 4, 0, 6, 5, 7, 9, 8, 10], [1, 2, 3, 4, 0, 6, 5, 9, 7, 8, 10], [1, 2, 3, 4, 0, 6, 9, 5, 7, 8, 10], [1, 2, 3, 4, 0, 9, 5, 6, 7, 8, 10], [1, 2, 3, 4, 0, 9, 6, 5, 7, 8, 10], [1, 2, 3, 4, 5, 0, 6, 7, 8, 9, 10], [1, 2, 3, 4, 5, 0, 6, 7, 9, 8, 10], [1, 2, 3, 4, 5, 0, 6, 9, 7, 8, 10], [1, 2, 3, 4, 5, 0, 9, 6, 7, 8, 10], [1, 2, 3, 4, 5, 6, 0, 7, 8, 9, 10], [1, 2, 3, 4, 5, 6, 0, 7, 9, 8, 10], [1, 2, 3, 4, 5, 6, 0, 9, 7, 8, 10], [1, 2, 3, 4, 5, 6, 7, 0, 8, 9, 10], [1, 2, 3, 4, 5, 6, 7, 0, 9, 8, 10], [1, 2, 3, 4, 5, 6, 7, 8, 0, 9, 10], [1, 2, 3, 4, 6, 0, 5, 7, 8, 9, 10], [1, 2, 3, 4, 6, 0, 5, 7, 9, 8, 10], [1, 2, 3, 4, 6, 0, 5, 9, 7, 8, 10], [1, 2, 3, 4, 6, 0, 9, 5, 7, 8, 10], [1, 2, 3, 4, 6, 5, 0, 7, 8, 9, 10], [1, 2, 3, 4, 6, 5, 0, 7, 9, 8, 10], [1, 2, 3, 4, 6, 5, 0, 9, 7, 8, 10], [1, 2, 3, 4, 6, 5, 7, 0, 8, 9, 10], [1, 2, 3, 4, 6, 5, 7, 0, 9, 8, 10], [1, 2, 3, 4, 6, 5, 7, 8, 0, 9, 10], [2, 0, 1, 3, 4, 5, 6, 7, 8, 9, 10], [2, 0, 1, 3, 4, 5, 6, 7, 9, 8, 10], [2, 0, 1, 3, 4, 5, 6, 9, 7, 8, 10], [2, 0, 1, 3, 4, 5, 9, 6, 7, 8, 10], [2, 0, 1, 3, 4, 6, 5, 7, 8, 9, 10], [2, 0, 1, 3, 4, 6, 5, 7, 9, 8, 10], [2, 0, 1, 3, 4, 6, 5, 9, 7, 8, 10], [2, 0, 1, 3, 4, 6, 9, 5, 7, 8, 10], [2, 0, 1, 3, 4, 9, 5, 6, 7, 8, 10], [2, 0, 1, 3, 4, 9, 6, 5, 7, 8, 10], [2, 1, 0, 3, 4, 5, 6, 7, 8, 9, 10], [2, 1, 0, 3, 4, 5, 6, 7, 9, 8, 10], [2, 1, 0, 3, 4, 5, 6, 9, 7, 8, 10], [2, 1, 0, 3, 4, 5, 9, 6, 7, 8, 10], [2, 1, 0, 3, 4, 6, 5, 7, 8, 9, 10], [2, 1, 0, 3, 4, 6, 5, 7, 9, 8, 10], [2, 1, 0, 3, 4, 6, 5, 9, 7, 8, 10], [2, 1, 0, 3, 4, 6, 9, 5, 7, 8, 10], [2, 1, 0, 3, 4, 9, 5, 6, 7, 8, 10], [2, 1, 0, 3, 4, 9, 6, 5, 7, 8, 10], [2, 1, 3, 0, 4, 5, 6, 7, 8, 9, 10], [2, 1, 3, 0, 4, 5, 6, 7, 9, 8, 10], [2, 1, 3, 0, 4, 5, 6, 9, 7, 8, 10], [2, 1, 3, 0, 4, 5, 9, 6, 7, 8, 10], [2, 1, 3, 0, 4, 6, 5, 7, 8, 9, 10], [2, 1, 3, 0, 4, 6, 5, 7, 9, 8, 10], [2, 1, 3, 0, 4, 6, 5, 9, 7, 8, 10], [2, 1, 3, 0, 4, 6, 9, 5, 7, 8, 10], [2, 1, 3, 0, 4, 9, 5, 6, 7, 8, 10], [2, 1, 3, 0, 4, 9, 6, 5, 7, 8, 10], [2, 1, 3, 4, 0, 5, 6, 7, 8, 9, 10], [2, 1, 3, 4, 0, 5, 6, 7, 9, 8, 10], [2, 1, 3, 4, 0, 5, 6, 9, 7, 8, 10], [2, 1, 3, 4, 0, 5, 9, 6, 7, 8, 10], [2, 1, 3, 4, 0, 6, 5, 7, 8, 9, 10], [2, 1, 3, 4, 0, 6, 5, 7, 9, 8, 10], [2, 1, 3, 4, 0, 6, 5, 9, 7, 8, 10], [2, 1, 3, 4, 0, 6, 9, 5, 7, 8, 10], [2, 1, 3, 4, 0, 9, 5, 6, 7, 8, 10], [2, 1, 3, 4, 0, 9, 6, 5, 7, 8, 10], [2, 1, 3, 4, 5, 0, 6, 7, 8, 9, 10], [2, 1, 3, 4, 5, 0, 6, 7, 9, 8, 10], [2, 1, 3, 4, 5, 0, 6, 9, 7, 8, 10], [2, 1, 3, 4, 5, 0, 9, 6, 7, 8, 10], [2, 1, 3, 4, 5, 6, 0, 7, 8, 9, 10], [2, 1, 3, 4, 5, 6, 0, 7, 9, 8, 10], [2, 1, 3, 4, 5, 6, 0, 9, 7, 8, 10], [2, 1, 3, 4, 5, 6, 7, 0, 8, 9, 10], [2, 1, 3, 4, 5, 6, 7, 0, 9, 8, 10], [2, 1, 3, 4, 5, 6, 7, 8, 0, 9, 10], [2, 1, 3, 4, 6, 0, 5, 7, 8, 9, 10], [2, 1, 3, 4, 6, 0, 5, 7, 9, 8, 10], [2, 1, 3, 4, 6, 0, 5, 9, 7, 8, 10], [2, 1, 3, 4, 6, 0, 9, 5, 7, 8, 10], [2, 1, 3, 4, 6, 5, 0, 7, 8, 9, 10], [2, 1, 3, 4, 6, 5, 0, 7, 9, 8, 10], [2, 1, 3, 4, 6, 5, 0, 9, 7, 8, 10], [2, 1, 3, 4, 6, 5, 7, 0, 8, 9, 10], [2, 1, 3, 4, 6, 5, 7, 0, 9, 8, 10], [2, 1, 3, 4, 6, 5, 7, 8, 0, 9, 10]]] (by kernel_rfl) ?_
    refine Wave.cons ⟨4, [(6, .lv 3 [] 0), (7, .bool (false || (decide (a.N = b.N) && (decide (a.S = b.S) && decide (a.R = b.R)))))], [(3, ⟨true, eVal a⟩)]⟩ (fun is his => ?_) ?_
    · simp only [List.mem_cons, List.not_mem_nil, or_false] at his
      rcases his with rfl | rfl | rfl | rfl | rfl | rfl | rfl | rfl | rfl | rfl | rfl | rfl | rfl | rfl | rfl | rfl | rfl | rfl | rfl | rfl | rfl | rfl | rfl | rfl | rfl | rfl | rfl | rfl | rfl | rfl | rfl | rfl | rfl | rfl | rfl | rfl | rfl | rfl | rfl | rfl | rfl | rfl | rfl | rfl | rfl | rfl | rfl | rfl | rfl | rfl | rfl | rfl | rfl | rfl | rfl | rfl | rfl | rfl | rfl | rfl | rfl | rfl | rfl | rfl | rfl | rfl | rfl | rfl | rfl | rfl | rfl | rfl | rfl | rfl | rfl | rfl | rfl | rfl | rfl | rfl | rfl | rfl | rfl | rfl | rfl | rfl | rfl | rfl | rfl | rfl | rfl | rfl | rfl | rfl | rfl | rfl | rfl | rfl | rfl | rfl | rfl | rfl | rfl | rfl | rfl | rfl | rfl | rfl | rfl | rfl | rfl | rfl | rfl | rfl | rfl | rfl | rfl | rfl | rfl | rfl | rfl | rfl | rfl | rfl | rfl | rfl | rfl | rfl | rfl | rfl | rfl | rfl | rfl | rfl | rfl | rfl | rfl | rfl | rfl | rfl
      all_goals (first | (refine CWops.run htt 11 (by simp only [List.map_cons, List.map_nil, nthO_zero, nthO_succ, go_sem, simprocAttr, eVal, hE]; exact rfl) (by simp) ?_; refine CWops.done ?_))
      all_goals (refine Sh.wk0 ?_; simp [Wk, go_sem, simprocAttr, eVal, hE])
    refine Wave.done ?_
    refine CW.ret ?_
    refine retQ.ret (by simp only [f97, go_sem, simprocAttr]; exact rfl) (by simp only [go_sem, simprocAttr]; exact rfl) ?_ -- ret2
    refine ⟨_, ?_, rfl⟩
    rw [val_eqB] at hE
    simp [go_sem, simprocAttr, leP, leL, stand, h1, eVal, val_eqB, hE, ldc, view]
theorem merge_standsV (up : Bool) (o a b : GVal) : PCall prog up 97 [.agg (eVal o), .agg (eVal a), .agg (eVal b)] (· = .tup [.agg (eVal (stand o a b).1), .bool (stand o a b).2]) := by
  cases h : (decide (b.N = o.N) && (decide (b.S = o.S) && decide (b.R = o.R))) with
  | true => exact merge_standsV_true up o a b h
  | false => exact merge_standsV_false up o a b h
end Go.Ab
namespace Go.Ab
open Go Go.Proofs.Tryz
set_option maxRecDepth 100000
set_option maxHeartbeats 3200000
set_option linter.unusedSimpArgs false
set_option linter.unusedVariables false
theorem merge_Merge_1 (up : Bool) (x y : GObj) : PCall prog up 33 [.agg (eObj x), .agg (eObj y)] (· = .int .i64 (IntKind.i64.wrap (x.Id - y.Id))) := by
  refine PCall.intro htt func33 (by kernel_rfl) rfl (Nat.le_of_ble_eq_true rfl) fun hl => ?_

  simp only [tmps0, Nat.reduceAdd]
  refine CW.seq ?_
  refine CW.rg ?_
  refine CWops.run htt 3 (by simp only [go_sem, simprocAttr, eObj]; exact rfl) (by simp [go_sem, simprocAttr, eObj]) ?_
  refine CWops.done ?_
  refine CW.seq ?_
  refine CW.rg ?_
  refine CWops.run htt 6 (by simp only [go_sem, simprocAttr, eObj]; exact rfl) (by simp [go_sem, simprocAttr, eObj]) ?_
  refine CWops.done ?_
  refine CW.ret ?_
  refine retQ.ret (by simp only [f33, go_sem, simprocAttr]; exact rfl) (by simp only [go_sem, simprocAttr]; exact rfl) ?_ -- ret1
  refine ⟨_, ?_, rfl⟩
  simp [leP]
theorem merge_schema (up : Bool) (s : List GType) (h1 : s.length * 40 ≤ MX) (h2 : ∀ x ∈ s, x.F.length * 40 ≤ MX) : PCall prog up 31 [.agg (eSchema s)] (· = .agg (eSchema s)) := by
  refine PCall.intro htt func31 (by kernel_rfl) rfl (Nat.le_of_ble_eq_true rfl) fun hl => ?_
  have hb : s.length ≤ MX := by omega
  simp only [tmps0, Nat.reduceAdd]
  refine CW.seq ?_
  refine CW.rg ?_
  refine CWops.run htt 2 (by simp only [go_sem, simprocAttr, eSchema]; exact rfl) (by simp [go_sem, simprocAttr, eSchema]) ?_
  refine CWops.done ?_
  refine CW.seq ?_
  refine CW.rg ?_
  refine CWops.run htt 2 (by simp only [go_sem, simprocAttr, eSchema]; exact rfl) (by simp [go_sem, simprocAttr, eSchema]) ?_
  refine CWops.callG [] rfl (clone_TypeG up s h1) (by simp only [go_sem, simprocAttr]) (by simp only [go_sem, simprocAttr]; first | done | exact rfl) (by decide) (by simp [go_sem, simprocAttr, mName, memB]) (by simp [go_sem, simprocAttr, mName]) (by simp [go_sem, simprocAttr]) (by simp [go_sem, simprocAttr]) (by simp [go_sem, simprocAttr, mName]) (fun r σ' hσ => ?_)
  obtain ⟨σn, σt, σs⟩ := σ'
  simp only at hσ
  obtain ⟨rfl, rfl, rfl⟩ := hσ
  simp only [aftS, renS, delAll, memB, mName, List.getD_nil, killH, kref, ren, Nat.beq_eq, go_sem, simprocAttr]
  refine CWops.run htt 2 (by simp only [go_sem, simprocAttr, eSchema]; exact rfl) (by simp [go_sem, simprocAttr, eSchema]) ?_
  refine CWops.done ?_
  refine CW.seq ?_
  refine CW.seq ?_
  refine CW.rg ?_
  refine CWops.rn htt 4 ?_
  refine CWops.done ?_
  refine CW.block ?_
  refine CW.loop (S := Nat) (fun i => ⟨2, [(1, .lv 0 [] 0), (2, .lv 1 [] 0), (10, .ref 0 [] 0), (11, .int .i64 s.length), (12, .int .i64 i)], [(0, ⟨true, [.own 2 (s.map eType)]⟩), (1, ⟨true, [.nilsl]⟩)]⟩) (fun i => i ≤ s.length) (fun i => s.length - i) (0) ?_ (Nat.zero_le _) (fun i h3 => ?_)
  · refine Sh.wk0 ?_; simp [Wk, go_sem, simprocAttr]
  refine CW.seq ?_
  refine CW.rg ?_
  refine CWops.rn htt 1 ?_
  refine CWops.done ?_
  refine CW.seq ?_
  refine CW.cond (by simp only [go_sem, simprocAttr]; first | done | exact rfl) (fun ct13 => ?_) (fun ct13 => ?_)
  · have hi : i < s.length := by simpa using ct13
    obtain ⟨x, hx⟩ : ∃ x, s[i]? = some x := ⟨s[i], List.getElem?_eq_getElem hi⟩
    refine CW.skip ?_
    refine CW.seq ?_
    refine CW.block ?_
    refine CW.seq ?_
    refine CW.rg ?_
    refine CWops.run htt 6 (by simp only [go_sem, simprocAttr, hi, hx, eType]; exact rfl) (by simp [go_sem, simprocAttr, hi, hx, eType]) ?_
    refine CWops.done ?_
    refine CW.drawn mixed 6 (by decide) (by kernel_rfl) (by kernel_rfl) (by kernel_rfl) ?_
    refine Seg.run htt 5 (by simp only [go_sem, simprocAttr, hi, hx, eType]; exact rfl) ?_
    refine Seg.callA (clone_Field up x.F (h2 x (List.mem_of_getElem? hx))) (by simp only [go_sem, simprocAttr, hi, hx, eType]) (by simp only [go_sem, simprocAttr, hi, hx, eType]; first | done | exact rfl) (by simp only [go_sem, simprocAttr, hi, hx, eType]) (by simp only [go_sem, simprocAttr, hi, hx, eType]) ?_
    refine Seg.done ?_
    refine CWops.run htt 3 (by simp only [go_sem, simprocAttr, hi, hx, eType]; exact rfl) (by simp [go_sem, simprocAttr, hi, hx, eType]) ?_
    refine CWops.done ?_
    refine CW.rg ?_
    refine CWops.run htt 2 (by simp only [go_sem, simprocAttr, wrap_succ (Nat.lt_of_lt_of_le hi hb)]; exact rfl) (by simp [go_sem, simprocAttr, wrap_succ (Nat.lt_of_lt_of_le hi hb)]) ?_
    refine CWops.done ?_
    refine ⟨i + 1, ?_, ?_, ?_⟩
    · refine Sh.wk0 ?_
      have hss : (s.map eType).set i [.str x.Name, .sl 3 (x.F.map eField)] = s.map eType := set_same (by rw [List.getElem?_map, hx]; rfl)
      simp [Wk, go_sem, simprocAttr, hss]
    · exact hi
    · simp only; omega
  · have hi : i = s.length := by simp at ct13; omega
    refine CW.exit ?_
    refine CW.seq ?_
    refine CW.rg ?_
    refine CWops.rn htt 2 ?_
    refine CWops.done ?_
    refine CW.ret ?_
    refine retQ.ret (by simp only [f31, go_sem, simprocAttr]; exact rfl) (by simp only [go_sem, simprocAttr]; exact rfl) ?_ -- ret1
    refine ⟨_, ?_, rfl⟩
    simp [leP, leL, eSchema, frz_Type]
end Go.Ab
namespace Go.Ab
open Go Go.Proofs.Tryz
set_option maxRecDepth 100000
set_option maxHeartbeats 3200000
set_option linter.unusedSimpArgs false
set_option linter.unusedVariables false
@[go_sem] theorem tt_101 : tiOf prog 101 = some ⟨.array 2 28, 6, 144, [.nilsl, .nilsl, .nilsl, .nilsl, .nilsl, .nilsl], false⟩ := by kernel_rfl
@[go_sem] theorem tt_102 : tiOf prog 102 = some ⟨.array 3 101, 18, 432, [.nilsl, .nilsl, .nilsl, .nilsl, .nilsl, .nilsl, .nilsl, .nilsl, .nilsl, .nilsl, .nilsl, .nilsl, .nilsl, .nilsl, .nilsl, .nilsl, .nilsl, .nilsl], false⟩ := by kernel_rfl
@[go_sem] theorem tt_57 : tiOf prog 57 = some ⟨.struct [(28, 0), (28, 3), (28, 6)], 9, 216, [.nilsl, .nilsl, .nilsl, .nilsl, .nilsl, .nilsl, .nilsl, .nilsl, .nilsl], true⟩ := by kernel_rfl
def eT (o a b : Graph) : List AV := [.sl 2 (o.S.map eType), .sl 3 (o.O.map eObj), .sl 1 (o.Roots.map eI), .sl 2 (a.S.map eType), .sl 3 (a.O.map eObj), .sl 1 (a.Roots.map eI), .sl 2 (b.S.map eType), .sl 3 (b.O.map eObj), .sl 1 (b.Roots.map eI)]
def eQ (o a b : Graph) : List AV := [.sl 2 (o.S.map eType), .sl 3 (o.O.map eObj), .sl 1 (o.Roots.map eI), .sl 2 (a.S.map eType), .sl 3 (a.O.map eObj), .sl 1 (a.Roots.map eI), .sl 2 (a.S.map eType), .sl 3 (a.O.map eObj), .sl 1 (a.Roots.map eI), .sl 2 (b.S.map eType), .sl 3 (b.O.map eObj), .sl 1 (b.Roots.map eI), .sl 2 (o.S.map eType), .sl 3 (o.O.map eObj), .sl 1 (o.Roots.map eI), .sl 2 (b.S.map eType), .sl 3 (b.O.map eObj), .sl 1 (b.Roots.map eI)]
def ePair (p q : Graph) : List AV := [.sl 2 (p.S.map eType), .sl 3 (p.O.map eObj), .sl 1 (p.Roots.map eI), .sl 2 (q.S.map eType), .sl 3 (q.O.map eObj), .sl 1 (q.Roots.map eI)]
theorem idx3 (o a b : Graph) {i : Nat} (h : i < 3) : ∃ p q : Graph, (i : Int) < 3 ∧ i * 6 + 6 ≤ (eQ o a b).length ∧ List.take 6 (List.drop (i * 6) (eQ o a b)) = ePair p q ∧ ((i = 0 ∧ p = o ∧ q = a) ∨ (i = 1 ∧ p = a ∧ q = b) ∨ (i = 2 ∧ p = o ∧ q = b)) := by
  rcases (show i = 0 ∨ i = 1 ∨ i = 2 by omega) with rfl | rfl | rfl
  · exact ⟨o, a, by omega, by simp [eQ], by simp [eQ, ePair], by simp⟩
  · exact ⟨a, b, by omega, by simp [eQ], by simp [eQ, ePair], by simp⟩
  · exact ⟨o, b, by omega, by simp [eQ], by simp [eQ, ePair], by simp⟩
theorem merge_check (up : Bool) (o a b : Graph) : PCall prog up 24 [.agg (eT o a b)] (· = .int .i64 (gCheck o a b)) := by
  refine PCall.intro htt func24 (by kernel_rfl) rfl (Nat.le_of_ble_eq_true rfl) fun hl => ?_

  simp only [tmps0, Nat.reduceAdd]
  refine CW.seq ?_
  refine CW.rg ?_
  refine CWops.run htt 2 (by simp only [go_sem, simprocAttr, eT]; exact rfl) (by simp [go_sem, simprocAttr, eT]) ?_
  refine CWops.done ?_
  refine CW.seq ?_
  refine CW.seq ?_
  refine CW.rg ?_
  refine CWops.run htt 17 (by simp only [go_sem, simprocAttr, eT]; exact rfl) (by simp [go_sem, simprocAttr, eT]) ?_
  refine CWops.done ?_
  refine CW.block ?_
  refine CW.loop (S := Nat) (fun i => ⟨1, [(0, .agg (eT o a b)), (1, .lv 0 [] 0), (2, .int .i64 0), (24, .agg (eQ o a b)), (25, .int .i64 i)], [(0, ⟨true, eT o a b⟩)]⟩) (fun i => i ≤ 3 ∧ (0 < i → gMay o = true ∧ gMay a = true) ∧ (1 < i → gMay b = true)) (fun i => 3 - i) (0) ?_ ⟨by omega, by omega, by omega⟩ (fun i ⟨h1, h2, h3⟩ => ?_)
  · refine Sh.wk0 ?_; simp [Wk, go_sem, simprocAttr, eT, eQ]
  refine CW.seq ?_
  refine CW.rg ?_
  refine CWops.rn htt 1 ?_
  refine CWops.done ?_
  refine CW.seq ?_
  refine CW.cond (by simp only [go_sem, simprocAttr]; first | done | exact rfl) (fun ct26 => ?_) (fun ct26 => ?_)
  · have hi : i < 3 := by simp at ct26; omega
    obtain ⟨p, q, hi3, hle, hdt, hpq⟩ := idx3 o a b hi
    refine CW.skip ?_
    refine CW.seq ?_
    refine CW.block ?_
    refine CW.seq ?_
    refine CW.rg ?_
    refine CWops.run htt 3 (by simp only [go_sem, simprocAttr, hi3, hle, hdt, ePair]; exact rfl) (by simp [go_sem, simprocAttr, hi3, hle, hdt, ePair]) ?_
    refine CWops.done ?_
    refine CW.seq ?_
    refine CW.rg ?_
    refine CWops.run htt 2 (by simp only [go_sem, simprocAttr, ePair, eGraph]; exact rfl) (by simp [go_sem, simprocAttr, ePair, eGraph]) ?_
    refine CWops.call (graph_May up p) (by simp only [go_sem, simprocAttr, ePair, eGraph]) (by simp only [go_sem, simprocAttr, ePair, eGraph]; first | done | exact rfl) (by simp only [go_sem, simprocAttr, ePair, eGraph]) (fun rt30 hrt30 => ?_)
    subst hrt30; refine ⟨rfl, ?_⟩
    refine CWops.run htt 2 (by simp only [go_sem, simprocAttr, ePair, eGraph]; exact rfl) (by simp [go_sem, simprocAttr, ePair, eGraph]) ?_
    all_goals (first | refine CWops.guard 32 (by simp only [go_sem, simprocAttr, ePair, eGraph]; exact rfl) (fun g32 => ?_) (fun g32 => ?_) | skip)
    all_goals (refine CWops.run htt 2 (by simp only [go_sem, simprocAttr, ePair, eGraph]; exact rfl) (by simp [go_sem, simprocAttr, ePair, eGraph]) ?_)
    all_goals (first | (refine CWops.skip ?_ ?_; next => (simp only [go_sem, simprocAttr]; done)) | (refine CWops.call (graph_May up q) (by simp only [go_sem, simprocAttr, ePair, eGraph]) (by simp only [go_sem, simprocAttr, ePair, eGraph]; first | done | exact rfl) (by simp only [go_sem, simprocAttr, ePair, eGraph]) (fun rt35 hrt35 => ?_); subst hrt35; refine ⟨rfl, ?_⟩))
    all_goals (refine CWops.run htt 2 (by simp only [go_sem, simprocAttr, ePair, eGraph]; exact rfl) (by simp [go_sem, simprocAttr, ePair, eGraph]) ?_)
    all_goals (refine CWops.done ?_)
    all_goals (
      refine CW.cond (by simp only [go_sem, simprocAttr]; first | done | exact rfl) (fun ct37 => ?_) (fun ct37 => ?_)
      · refine CW.seq ?_
        refine CW.rg ?_
        refine CWops.rn htt 1 ?_
        refine CWops.done ?_
        refine CW.ret ?_
        refine retQ.ret (by simp only [f24, go_sem, simprocAttr]; exact rfl) (by simp only [go_sem, simprocAttr]; exact rfl) ?_ -- ret1
        refine ⟨_, ?_, rfl⟩
        rcases hpq with ⟨rfl, rfl, rfl⟩ | ⟨rfl, rfl, rfl⟩ | ⟨rfl, rfl, rfl⟩ <;> simp_all [leP, gCheck]
      · refine CW.skip ?_
        refine CW.rg ?_
        refine CWops.run htt 2 (by simp only [go_sem, simprocAttr, wrap_succ (show i < MX by unfold MX; omega)]; exact rfl) (by simp [go_sem, simprocAttr, wrap_succ (show i < MX by unfold MX; omega)]) ?_
        refine CWops.done ?_
        refine ⟨i + 1, ?_, ?_, ?_⟩
        · refine Sh.wk0 ?_; simp [Wk, go_sem, simprocAttr, eT, eQ]
        · refine ⟨by omega, fun _ => ?_, fun _ => ?_⟩
          all_goals rcases hpq with ⟨rfl, rfl, rfl⟩ | ⟨rfl, rfl, rfl⟩ | ⟨rfl, rfl, rfl⟩ <;> simp_all
        · simp only; omega)
  · have hi : i = 3 := by simp at ct26; omega
    obtain ⟨m1, m2⟩ := h2 (by omega)
    have m3 := h3 (by omega)
    refine CW.exit ?_
    refine CW.seq ?_
    refine CW.seq ?_
    refine CW.rg ?_
    refine CWops.run htt 17 (by simp only [go_sem, simprocAttr, eT]; exact rfl) (by simp [go_sem, simprocAttr, eT]) ?_
    refine CWops.done ?_
    refine CW.block ?_
    refine CW.loop (S := Nat) (fun i => ⟨1, [(0, .agg (eT o a b)), (1, .lv 0 [] 0), (2, .int .i64 0), (54, .agg (eQ o a b)), (55, .int .i64 i)], [(0, ⟨true, eT o a b⟩)]⟩) (fun i => i ≤ 3 ∧ (0 < i → (gDiff o a).2 = 0) ∧ (1 < i → (gDiff a b).2 = 0) ∧ (2 < i → (gDiff o b).2 = 0)) (fun i => 3 - i) (0) ?_ ⟨by omega, by omega, by omega, by omega⟩ (fun i ⟨h1, h2, h3, h4⟩ => ?_)
    · refine Sh.wk0 ?_; simp [Wk, go_sem, simprocAttr, eT, eQ]
    refine CW.seq ?_
    refine CW.rg ?_
    refine CWops.rn htt 1 ?_
    refine CWops.done ?_
    refine CW.seq ?_
    refine CW.cond (by simp only [go_sem, simprocAttr]; first | done | exact rfl) (fun ct56 => ?_) (fun ct56 => ?_)
    · have hi : i < 3 := by simp at ct56; omega
      obtain ⟨p, q, hi3, hle, hdt, hpq⟩ := idx3 o a b hi
      refine CW.skip ?_
      refine CW.seq ?_
      refine CW.block ?_
      refine CW.seq ?_
      refine CW.rg ?_
      refine CWops.run htt 3 (by simp only [go_sem, simprocAttr, hi3, hle, hdt, ePair]; exact rfl) (by simp [go_sem, simprocAttr, hi3, hle, hdt, ePair]) ?_
      refine CWops.done ?_
      refine CW.seq ?_
      refine CW.rg ?_
      refine CWops.run htt 4 (by simp only [go_sem, simprocAttr, ePair, eGraph]; exact rfl) (by simp [go_sem, simprocAttr, ePair, eGraph]) ?_
      refine CWops.callA (diff_Of up p q) (by simp only [go_sem, simprocAttr, ePair, eGraph]) (by simp only [go_sem, simprocAttr, ePair, eGraph]; first | done | exact rfl) (by simp only [go_sem, simprocAttr, ePair, eGraph]) (by simp only [go_sem, simprocAttr, ePair, eGraph]) (fun rt63 hrt63 => ?_)
      subst hrt63
      refine CWops.run htt 6 (by simp only [go_sem, simprocAttr, ePair, eGraph]; exact rfl) (by simp [go_sem, simprocAttr, ePair, eGraph]) ?_
      refine CWops.done ?_
      refine CW.seq ?_
      refine CW.rg ?_
      refine CWops.rn htt 2 ?_
      refine CWops.done ?_
      refine CW.cond (by simp only [go_sem, simprocAttr]; first | done | exact rfl) (fun ct67 => ?_) (fun ct67 => ?_)
      · refine CW.seq ?_
        refine CW.rg ?_
        refine CWops.rn htt 2 ?_
        refine CWops.done ?_
        refine CW.ret ?_
        refine retQ.ret (by simp only [f24, go_sem, simprocAttr]; exact rfl) (by simp only [go_sem, simprocAttr]; exact rfl) ?_ -- ret2
        refine ⟨_, ?_, rfl⟩
        have e1 : ¬ (gDiff p q).2 = 0 := by simpa using ct67
        rcases hpq with ⟨rfl, rfl, rfl⟩ | ⟨rfl, rfl, rfl⟩ | ⟨rfl, rfl, rfl⟩ <;> simp_all [leP, gCheck]
      · refine CW.skip ?_
        refine CW.rg ?_
        refine CWops.run htt 2 (by simp only [go_sem, simprocAttr, wrap_succ (show i < MX by unfold MX; omega)]; exact rfl) (by simp [go_sem, simprocAttr, wrap_succ (show i < MX by unfold MX; omega)]) ?_
        refine CWops.done ?_
        refine ⟨i + 1, ?_, ?_, ?_⟩
        · refine Sh.wk0 ?_; simp [Wk, go_sem, simprocAttr, eT, eQ]
        · refine ⟨by omega, fun _ => ?_, fun _ => ?_, fun _ => ?_⟩
          all_goals rcases hpq with ⟨rfl, rfl, rfl⟩ | ⟨rfl, rfl, rfl⟩ | ⟨rfl, rfl, rfl⟩ <;> simp_all
        · simp only; omega
    · have hi : i = 3 := by simp at ct56; omega
      have d1 := h2 (by omega)
      have d2 := h3 (by omega)
      have d3 := h4 (by omega)
      refine CW.exit ?_
      refine CW.seq ?_
      refine CW.seq ?_
      refine CW.rg ?_
      refine CWops.run htt 12 (by simp only [go_sem, simprocAttr, eT]; exact rfl) (by simp [go_sem, simprocAttr, eT]) ?_
      refine CWops.min2 (k := .i64) (m := a.Roots.length) (n := b.Roots.length) (by simp only [go_sem, simprocAttr]) (by simp only [go_sem, simprocAttr]) (by simp only [go_sem, simprocAttr]) ?_
      refine CWops.run htt 1 (by simp only [go_sem, simprocAttr, eT]; exact rfl) (by simp [go_sem, simprocAttr, eT]) ?_
      refine CWops.done ?_
      refine CW.cond (by simp only [go_sem, simprocAttr]; first | done | exact rfl) (fun ct83 => ?_) (fun ct83 => ?_)
      · refine CW.seq ?_
        refine CW.rg ?_
        refine CWops.rn htt 1 ?_
        refine CWops.done ?_
        refine CW.ret ?_
        refine retQ.ret (by simp only [f24, go_sem, simprocAttr]; exact rfl) (by simp only [go_sem, simprocAttr]; exact rfl) ?_ -- ret3
        refine ⟨_, ?_, rfl⟩
        have e1 : min a.Roots.length b.Roots.length < o.Roots.length := by simp at ct83; omega
        simp [leP, gCheck, m1, m2, m3, d1, d2, d3, e1]
      · refine CW.skip ?_
        refine CW.seq ?_
        refine CW.rg ?_
        refine CWops.rn htt 1 ?_
        refine CWops.done ?_
        refine CW.ret ?_
        refine retQ.ret (by simp only [f24, go_sem, simprocAttr]; exact rfl) (by simp only [go_sem, simprocAttr]; exact rfl) ?_ -- ret4
        refine ⟨_, ?_, rfl⟩
        have e1 : ¬ min a.Roots.length b.Roots.length < o.Roots.length := by simp at ct83; omega
        simp [leP, gCheck, m1, m2, m3, d1, d2, d3, e1]
end Go.Ab
namespace Go.Ab
open Go Go.Proofs.Tryz
set_option maxRecDepth 100000
set_option maxHeartbeats 6400000
set_option linter.unusedSimpArgs false
set_option linter.unusedVariables false
theorem merge_object (up : Bool) (o a b : Graph) (id : Int) (hz : MSz o a b id) : PCall prog up 65 [.agg (eT o a b), .int .i64 id] (· = .tup [.agg (eObj (mObj o a b id).1), .sl 1 ((mObj o a b id).2.map eI)]) := by
  refine PCall.intro htt func65 (by kernel_rfl) rfl (Nat.le_of_ble_eq_true rfl) fun hl => ?_

  simp only [tmps0, Nat.reduceAdd]
  refine CW.seq ?_
  refine CW.rg ?_
  refine CWops.run htt 3 (by simp only [go_sem, simprocAttr, eT]; exact rfl) (by simp [go_sem, simprocAttr, eT]) ?_
  refine CWops.done ?_
  refine CW.seq ?_
  refine CW.rg ?_
  refine CWops.run htt 3 (by simp only [go_sem, simprocAttr, eT, eGraph]; exact rfl) (by simp [go_sem, simprocAttr, eT, eGraph]) ?_
  refine CWops.callA (merge_side up a id) (by simp only [go_sem, simprocAttr, eT, eGraph]) (by simp only [go_sem, simprocAttr, eT, eGraph]; first | done | exact rfl) (by simp only [go_sem, simprocAttr, eT, eGraph]) (by simp only [go_sem, simprocAttr, eT, eGraph]) (fun rt20 hrt20 => ?_)
  subst hrt20
  refine CWops.run htt 6 (by simp only [go_sem, simprocAttr, eT, eGraph]; exact rfl) (by simp [go_sem, simprocAttr, eT, eGraph]) ?_
  refine CWops.done ?_
  refine CW.seq ?_
  refine CW.rg ?_
  refine CWops.run htt 3 (by simp only [go_sem, simprocAttr, eT, eGraph]; exact rfl) (by simp [go_sem, simprocAttr, eT, eGraph]) ?_
  refine CWops.callA (merge_side up b id) (by simp only [go_sem, simprocAttr, eT, eGraph]) (by simp only [go_sem, simprocAttr, eT, eGraph]; first | done | exact rfl) (by simp only [go_sem, simprocAttr, eT, eGraph]) (by simp only [go_sem, simprocAttr, eT, eGraph]) (fun rt27 hrt27 => ?_)
  subst hrt27
  refine CWops.run htt 6 (by simp only [go_sem, simprocAttr, eT, eGraph]; exact rfl) (by simp [go_sem, simprocAttr, eT, eGraph]) ?_
  refine CWops.done ?_
  refine CW.seq ?_
  refine CW.block ?_
  refine CW.seq ?_
  refine CW.rg ?_
  refine CWops.rn htt 3 ?_
  refine CWops.done ?_
  refine CW.cond (by simp only [go_sem, simprocAttr]; first | done | exact rfl) (fun ct30 => ?_) (fun ct30 => ?_)
  · have h1 : hasId a id = false := by simpa using ct30
    refine CW.seq ?_
    refine CW.rg ?_
    refine CWops.run htt 2 (by simp only [go_sem, simprocAttr, eObj]; exact rfl) (by simp [go_sem, simprocAttr, eObj]) ?_
    refine CWops.callA (clone_Val up (objD b id).F (by have := hz.lb; unfold MX; omega)) (by simp only [go_sem, simprocAttr, eObj]) (by simp only [go_sem, simprocAttr, eObj]; first | done | exact rfl) (by simp only [go_sem, simprocAttr, eObj]) (by simp only [go_sem, simprocAttr, eObj]) (fun rt35 hrt35 => ?_)
    subst hrt35
    refine CWops.run htt 2 (by simp only [go_sem, simprocAttr, eObj]; exact rfl) (by simp [go_sem, simprocAttr, eObj]) ?_
    refine CWops.done ?_
    refine CW.seq ?_
    refine CW.rg ?_
    refine CWops.run htt 3 (by simp only [go_sem, simprocAttr, eObj]; exact rfl) (by simp [go_sem, simprocAttr, eObj]) ?_
    refine CWops.done ?_
    refine CW.ret ?_
    refine retQ.ret (by simp only [f65, go_sem, simprocAttr]; exact rfl) (by simp only [go_sem, simprocAttr]; exact rfl) ?_ -- ret1
    refine ⟨_, ?_, rfl⟩
    simp [leP, leL, mObj, h1, eObj]
  · have h1 : hasId a id = true := by simpa using ct30
    refine CW.seq ?_
    refine CW.rg ?_
    refine CWops.rn htt 3 ?_
    refine CWops.done ?_
    refine CW.cond (by simp only [go_sem, simprocAttr]; first | done | exact rfl) (fun ct38 => ?_) (fun ct38 => ?_)
    · have h2 : hasId b id = false := by simpa using ct38
      refine CW.seq ?_
      refine CW.rg ?_
      refine CWops.run htt 2 (by simp only [go_sem, simprocAttr, eObj]; exact rfl) (by simp [go_sem, simprocAttr, eObj]) ?_
      refine CWops.callA (clone_Val up (objD a id).F (by have := hz.la; unfold MX; omega)) (by simp only [go_sem, simprocAttr, eObj]) (by simp only [go_sem, simprocAttr, eObj]; first | done | exact rfl) (by simp only [go_sem, simprocAttr, eObj]) (by simp only [go_sem, simprocAttr, eObj]) (fun rt43 hrt43 => ?_)
      subst hrt43
      refine CWops.run htt 2 (by simp only [go_sem, simprocAttr, eObj]; exact rfl) (by simp [go_sem, simprocAttr, eObj]) ?_
      refine CWops.done ?_
      refine CW.seq ?_
      refine CW.rg ?_
      refine CWops.run htt 3 (by simp only [go_sem, simprocAttr, eObj]; exact rfl) (by simp [go_sem, simprocAttr, eObj]) ?_
      refine CWops.done ?_
      refine CW.ret ?_
      refine retQ.ret (by simp only [f65, go_sem, simprocAttr]; exact rfl) (by simp only [go_sem, simprocAttr]; exact rfl) ?_ -- ret2
      refine ⟨_, ?_, rfl⟩
      simp [leP, leL, mObj, h1, h2, eObj]
    · have h2 : hasId b id = true := by simpa using ct38
      refine CW.skip ?_
      refine CW.seq ?_
      refine CW.rg ?_
      refine CWops.run htt 3 (by simp only [go_sem, simprocAttr, eT, eGraph]; exact rfl) (by simp [go_sem, simprocAttr, eT, eGraph]) ?_
      refine CWops.callA (merge_side up o id) (by simp only [go_sem, simprocAttr, eT, eGraph]) (by simp only [go_sem, simprocAttr, eT, eGraph]; first | done | exact rfl) (by simp only [go_sem, simprocAttr, eT, eGraph]) (by simp only [go_sem, simprocAttr, eT, eGraph]) (fun rt50 hrt50 => ?_)
      subst hrt50
      refine CWops.run htt 6 (by simp only [go_sem, simprocAttr, eT, eGraph]; exact rfl) (by simp [go_sem, simprocAttr, eT, eGraph]) ?_
      refine CWops.done ?_
      refine CW.seq ?_
      refine CW.rg ?_
      refine CWops.rn htt 2 ?_
      refine CWops.callG [] rfl (clone_ValG up (objD a id).F (by have := hz.la; unfold MX; omega)) (by simp only [go_sem, simprocAttr]) (by simp only [go_sem, simprocAttr]; first | done | exact rfl) (by decide) (by simp [go_sem, simprocAttr, mName, memB]) (by simp [go_sem, simprocAttr, mName]) (by simp [go_sem, simprocAttr]) (by simp [go_sem, simprocAttr]) (by simp [go_sem, simprocAttr, mName]) (fun r σ' hσ => ?_)
      obtain ⟨σn, σt, σs⟩ := σ'
      simp only at hσ
      obtain ⟨rfl, rfl, rfl⟩ := hσ
      simp only [aftS, renS, delAll, memB, mName, List.getD_nil, killH, kref, ren, Nat.beq_eq, go_sem, simprocAttr]
      refine CWops.rn htt 2 ?_
      refine CWops.done ?_
      refine CW.seq ?_
      refine CW.rg ?_
      refine CWops.rn htt 1 ?_
      refine CWops.done ?_
      have ea := hz.la
      have eb := hz.ab h1 h2
      have eo := hz.ao h1
      refine CW.seq ?_
      refine CW.seq ?_
      refine CW.rg ?_
      refine CWops.rn htt 4 ?_
      refine CWops.done ?_
      refine CW.block ?_
      refine CW.loop (S := Nat) (fun i => ⟨7, [(2, .lv 0 [] 0), (4, .lv 1 [] 0), (5, .nilsl), (6, .lv 2 [] 0), (8, .lv 3 [] 0), (10, .lv 4 [] 0), (11, .bool (hasId o id)), (12, .ref 6 [] 0), (58, .ref 2 [] 2), (59, .int .i64 (objD a id).F.length), (60, .int .i64 i)], [(0, ⟨true, eT o a b⟩), (1, ⟨true, [.int .i64 0, .int .i64 0, .nilsl]⟩), (2, ⟨true, [.int .i64 (objD a id).Id, .int .i64 (objD a id).T, .own 3 ((mixM (hasId o id) (objD o id).F (objD a id).F (objD b id).F i).map eVal)]⟩), (3, ⟨true, [.int .i64 (objD b id).Id, .int .i64 (objD b id).T, .sl 3 ((objD b id).F.map eVal)]⟩), (4, ⟨true, [.int .i64 (objD o id).Id, .int .i64 (objD o id).T, .sl 3 ((objD o id).F.map eVal)]⟩), (6, ⟨false, [.own 1 ((mClash (hasId o id) (objD o id).F (objD a id).F (objD b id).F i).map eI)]⟩)]⟩) (fun i => i ≤ (objD a id).F.length) (fun i => (objD a id).F.length - i) (0) ?_ (Nat.zero_le _) (fun i h3 => ?_)
      · refine Sh.trans (Sh.nilRoot 12 1 (by simp only [go_sem, simprocAttr]) rfl) (Sh.wk0 ?_); simp [Wk, go_sem, simprocAttr, mixM_zero, mClash, eObj, eT]
      refine CW.seq ?_
      refine CW.rg ?_
      refine CWops.rn htt 1 ?_
      refine CWops.done ?_
      refine CW.seq ?_
      refine CW.cond (by simp only [go_sem, simprocAttr]; first | done | exact rfl) (fun ct61 => ?_) (fun ct61 => ?_)
      · have hi : i < (objD a id).F.length := by simp at ct61; omega
        obtain ⟨v, hv⟩ : ∃ v, (objD a id).F[i]? = some v := ⟨_, List.getElem?_eq_getElem hi⟩
        obtain ⟨y, hy'⟩ : ∃ y, (objD b id).F[i]? = some y := ⟨_, List.getElem?_eq_getElem (by omega)⟩
        have hy : (objD b id).F.getD i v = y := by simp [hy']
        have hiy : i < (objD b id).F.length := by omega
        have hcl := mClash_len (hasId o id) (objD o id).F (objD a id).F (objD b id).F i
        refine CW.skip ?_
        refine CW.seq ?_
        refine CW.block ?_
        refine CW.seq ?_
        refine CW.rg ?_
        refine CWops.run htt 6 (by simp only [go_sem, simprocAttr, hi, hv, mixM_get hv, mixM_len, eVal]; exact rfl) (by simp [go_sem, simprocAttr, hi, hv, mixM_get hv, mixM_len, eVal]) ?_
        refine CWops.done ?_
        refine CW.seq ?_
        refine CW.drawn mixed 6 (by decide) (by kernel_rfl) (by kernel_rfl) (by kernel_rfl) ?_
        refine Seg.run htt 6 (by simp only [go_sem, simprocAttr, hi, hv, hy', hiy, eVal]; exact rfl) ?_
        refine Seg.done ?_
        refine CWops.run htt 2 (by simp only [go_sem, simprocAttr, hi, hv, hy', hiy, eVal]; exact rfl) (by simp [go_sem, simprocAttr, hi, hv, hy', hiy, eVal]) ?_
        refine CWops.done ?_
        refine CW.seq ?_
        refine CW.seq ?_
        refine CW.rg ?_
        refine CWops.rn htt 1 ?_
        refine CWops.done ?_
        refine CW.cond (by simp only [go_sem, simprocAttr]; first | done | exact rfl) (fun ct72 => ?_) (fun ct72 => ?_)
        · have h4 : hasId o id = true := by simpa using ct72
          have eo := eo h4
          obtain ⟨w, hw'⟩ : ∃ w, (objD o id).F[i]? = some w := ⟨_, List.getElem?_eq_getElem (by omega)⟩
          have hw : (objD o id).F.getD i v = w := by simp [hw']
          have hiw : i < (objD o id).F.length := by omega
          refine CW.drawnF mixed 19 20 [17] (D := [90]) (by decide) (by decide) (by kernel_rfl) (by kernel_rfl) rfl (by kernel_rfl) (by kernel_rfl) ?_
          refine Seg.run htt 14 (by simp only [go_sem, simprocAttr, hi, hv, hy', hw', hiy, hiw, mixM_get hv, mixM_len, eVal, List.getElem?_set_self, List.length_map, List.set_set, List.set_cons_succ, List.set_cons_zero]; exact rfl) ?_
          refine Seg.callA (merge_standsV up w v y) (by simp only [go_sem, simprocAttr, hi, hv, hy', hw', hiy, hiw, mixM_get hv, mixM_len, eVal, List.getElem?_set_self, List.length_map, List.set_set, List.set_cons_succ, List.set_cons_zero]) (by simp only [go_sem, simprocAttr, hi, hv, hy', hw', hiy, hiw, mixM_get hv, mixM_len, eVal, List.getElem?_set_self, List.length_map, List.set_set, List.set_cons_succ, List.set_cons_zero]; first | done | exact rfl) (by simp only [go_sem, simprocAttr, hi, hv, hy', hw', hiy, hiw, mixM_get hv, mixM_len, eVal, List.getElem?_set_self, List.length_map, List.set_set, List.set_cons_succ, List.set_cons_zero]) (by simp only [go_sem, simprocAttr, hi, hv, hy', hw', hiy, hiw, mixM_get hv, mixM_len, eVal, List.getElem?_set_self, List.length_map, List.set_set, List.set_cons_succ, List.set_cons_zero]) ?_
          refine Seg.run htt 4 (by simp only [go_sem, simprocAttr, hi, hv, hy', hw', hiy, hiw, mixM_get hv, mixM_len, eVal, List.getElem?_set_self, List.length_map, List.set_set, List.set_cons_succ, List.set_cons_zero]; exact rfl) ?_
          refine Seg.done ?_
          refine Mid.sto htt (Flo.cons htt rfl rfl (by simp only [go_sem, simprocAttr, hi, hv, hy', hw', hiy, hiw, mixM_get hv, mixM_len, eVal, List.getElem?_set_self, List.length_map, List.set_set, List.set_cons_succ, List.set_cons_zero]; first | done | exact rfl) (Flo.nil)) (fun u => by simp only [go_sem, simprocAttr, hi, hv, hy', hw', hiy, hiw, mixM_get hv, mixM_len, eVal, List.getElem?_set_self, List.length_map, List.set_set, List.set_cons_succ, List.set_cons_zero]; exact rfl) ?_
          refine Mid.done (Flo.cons htt rfl rfl (by simp only [go_sem, simprocAttr, hi, hv, hy', hw', hiy, hiw, mixM_get hv, mixM_len, eVal, List.getElem?_set_self, List.length_map, List.set_set, List.set_cons_succ, List.set_cons_zero]; first | done | exact rfl) (Flo.nil)) ?_
          refine CWops.run htt 1 (by simp only [go_sem, simprocAttr, hi, hv, hy', hw', hiy, hiw, mixM_get hv, mixM_len, eVal, List.getElem?_set_self, List.length_map, List.set_set, List.set_cons_succ, List.set_cons_zero]; exact rfl) (by simp [go_sem, simprocAttr, hi, hv, hy', hw', hiy, hiw, mixM_get hv, mixM_len, eVal, List.getElem?_set_self, List.length_map, List.set_set, List.set_cons_succ, List.set_cons_zero]) ?_
          refine CWops.done ?_
          refine CW.seq ?_
          refine CW.rg ?_
          refine CWops.rn htt 2 ?_
          refine CWops.done ?_
          refine CW.cond (by simp only [go_sem, simprocAttr]; first | done | exact rfl) (fun ct93 => ?_) (fun ct93 => ?_)
          · have hf : mFine (hasId o id) w v y = false := by simpa [mFine, h4] using ct93
            refine CW.rg ?_
            refine CWops.run htt 5 (by simp only [go_sem, simprocAttr, eI]; exact rfl) (by simp [go_sem, simprocAttr, eI, MX] <;> omega) ?_
            refine CWops.done ?_
            refine CW.rg ?_
            refine CWops.run htt 2 (by simp only [go_sem, simprocAttr, wrap_succ (show i < MX by unfold MX; omega)]; exact rfl) (by simp [go_sem, simprocAttr, wrap_succ (show i < MX by unfold MX; omega)]) ?_
            refine CWops.done ?_
            refine ⟨i + 1, ?_, ?_, ?_⟩
            · dsimp only
              first | (rw [mClash_no hv hw hy hf]; refine Sh.wk0 ?_) | (rw [mClash_yes hv hw hy hf]; refine Sh.wk (fun x => if x = 6 then 9 else x) ?_)
              first | (rw [mixM_stay h4]; simp [Wk, go_sem, simprocAttr, eT, eI, h4]; done) | (rw [← mixM_set hv hw hy, List.map_set]; simp [Wk, go_sem, simprocAttr, eT, eVal, eI, mVal, h4])
            · exact hi
            · simp only; omega
          · have hf : mFine (hasId o id) w v y = true := by simpa [mFine, h4] using ct93
            refine CW.skip ?_
            refine CW.rg ?_
            refine CWops.run htt 2 (by simp only [go_sem, simprocAttr, wrap_succ (show i < MX by unfold MX; omega)]; exact rfl) (by simp [go_sem, simprocAttr, wrap_succ (show i < MX by unfold MX; omega)]) ?_
            refine CWops.done ?_
            refine ⟨i + 1, ?_, ?_, ?_⟩
            · dsimp only
              first | (rw [mClash_no hv hw hy hf]; refine Sh.wk0 ?_) | (rw [mClash_yes hv hw hy hf]; refine Sh.wk (fun x => if x = 6 then 9 else x) ?_)
              first | (rw [mixM_stay h4]; simp [Wk, go_sem, simprocAttr, eT, eI, h4]; done) | (rw [← mixM_set hv hw hy, List.map_set]; simp [Wk, go_sem, simprocAttr, eT, eVal, eI, mVal, h4])
            · exact hi
            · simp only; omega
        · have h4 : hasId o id = false := by simpa using ct72
          obtain ⟨w, hw⟩ : ∃ w, (objD o id).F.getD i v = w := ⟨_, rfl⟩
          refine CW.skip ?_
          refine CW.seq ?_
          refine CW.rg ?_
          refine CWops.rn htt 2 ?_
          refine CWops.done ?_
          refine CW.cond (by simp only [go_sem, simprocAttr]; first | done | exact rfl) (fun ct93 => ?_) (fun ct93 => ?_)
          · rw [val_eqB] at ct93
            have hf : mFine (hasId o id) w v y = false := by simpa [mFine, h4] using ct93
            refine CW.rg ?_
            refine CWops.run htt 5 (by simp only [go_sem, simprocAttr, eI]; exact rfl) (by simp [go_sem, simprocAttr, eI, MX] <;> omega) ?_
            refine CWops.done ?_
            refine CW.rg ?_
            refine CWops.run htt 2 (by simp only [go_sem, simprocAttr, wrap_succ (show i < MX by unfold MX; omega)]; exact rfl) (by simp [go_sem, simprocAttr, wrap_succ (show i < MX by unfold MX; omega)]) ?_
            refine CWops.done ?_
            refine ⟨i + 1, ?_, ?_, ?_⟩
            · dsimp only
              first | (rw [mClash_no hv hw hy hf]; refine Sh.wk0 ?_) | (rw [mClash_yes hv hw hy hf]; refine Sh.wk (fun x => if x = 6 then 9 else x) ?_)
              first | (rw [mixM_stay h4]; simp [Wk, go_sem, simprocAttr, eT, eI, h4]; done) | (rw [← mixM_set hv hw hy, List.map_set]; simp [Wk, go_sem, simprocAttr, eT, eVal, eI, mVal, h4])
            · exact hi
            · simp only; omega
          · rw [val_eqB] at ct93
            have hf : mFine (hasId o id) w v y = true := by simpa [mFine, h4] using ct93
            refine CW.skip ?_
            refine CW.rg ?_
            refine CWops.run htt 2 (by simp only [go_sem, simprocAttr, wrap_succ (show i < MX by unfold MX; omega)]; exact rfl) (by simp [go_sem, simprocAttr, wrap_succ (show i < MX by unfold MX; omega)]) ?_
            refine CWops.done ?_
            refine ⟨i + 1, ?_, ?_, ?_⟩
            · dsimp only
              first | (rw [mClash_no hv hw hy hf]; refine Sh.wk0 ?_) | (rw [mClash_yes hv hw hy hf]; refine Sh.wk (fun x => if x = 6 then 9 else x) ?_)
              first | (rw [mixM_stay h4]; simp [Wk, go_sem, simprocAttr, eT, eI, h4]; done) | (rw [← mixM_set hv hw hy, List.map_set]; simp [Wk, go_sem, simprocAttr, eT, eVal, eI, mVal, h4])
            · exact hi
            · simp only; omega
      · have hi : i = (objD a id).F.length := by simp at ct61; omega
        refine CW.exit ?_
        refine CW.seq ?_
        refine CW.rg ?_
        refine CWops.rn htt 4 ?_
        refine CWops.done ?_
        refine CW.ret ?_
        refine retQ.ret (by simp only [f65, go_sem, simprocAttr]; exact rfl) (by simp only [go_sem, simprocAttr]; exact rfl) ?_ -- ret3
        refine ⟨_, ?_, rfl⟩
        subst hi
        simp [leP, leL, mObj, h1, h2, eObj]
end Go.Ab
namespace Go.Ab
open Go Go.Proofs.Tryz
set_option maxRecDepth 100000
set_option maxHeartbeats 6400000
set_option linter.unusedSimpArgs false
set_option linter.unusedVariables false
theorem idx2 (a b : Graph) {i : Nat} (h : i < 2) : ∃ g : Graph, (i : Int) < 2 ∧ i * 3 + 3 ≤ (ePair a b).length ∧ List.take 3 (List.drop (i * 3) (ePair a b)) = eGraph g ∧ mG a b i = g := by
  rcases (show i = 0 ∨ i = 1 by omega) with rfl | rfl
  · exact ⟨a, by omega, by simp [ePair], by simp [ePair, eGraph], rfl⟩
  · exact ⟨b, by omega, by simp [ePair], by simp [ePair, eGraph], rfl⟩
theorem merge_all (up : Bool) (o a b : Graph) (hz : ∀ id, MSz o a b id) (hao : a.O.length ≤ 8) (hbo : b.O.length ≤ 8) (har : a.Roots.length ≤ 3) (hbr : b.Roots.length ≤ 3) : GCall prog up 25 [.agg (eT o a b)] 0 [] (fun r σ' => r = .tup [.ref 0 [] 0, .sl 1 ((mRoots o a b (mN a b)).map eI), .agg [.nilsl, .nilsl, .sl 2 ((mCh o a b).Set.map eP), .sl 1 ((mCh o a b).Roots.map eI)]] ∧ σ'.n = 2 ∧ σ'.s = [(0, ⟨false, [.omap (mEs o a b (mL a b 2))]⟩), (1, ⟨true, [.nilsl, .nilsl, .sl 2 ((mCh o a b).Set.map eP), .sl 1 ((mCh o a b).Roots.map eI)]⟩)]) := by
  refine GCall.intro htt 0 func25 (by kernel_rfl) rfl (Nat.le_of_ble_eq_true rfl) (CW.told ?_)

  simp only [tmps0, Nat.reduceAdd]
  refine CW.seq ?_
  refine CW.rg ?_
  refine CWops.run htt 4 (by simp only [go_sem, simprocAttr, eT]; exact rfl) (by simp [go_sem, simprocAttr, eT]) ?_
  refine CWops.done ?_
  refine CW.seq ?_
  refine CW.rg ?_
  refine CWops.rn htt 1 ?_
  refine CWops.done ?_
  refine CW.seq ?_
  refine CW.rg ?_
  refine CWops.rn htt 2 ?_
  refine CWops.done ?_
  refine CW.seq ?_
  refine CW.seq ?_
  refine CW.rg ?_
  refine CWops.run htt 6 (by simp only [go_sem, simprocAttr, eT]; exact rfl) (by simp [go_sem, simprocAttr, eT]) ?_
  refine CWops.done ?_
  refine CW.block ?_
  refine CW.loop (S := Nat) (fun i => ⟨4, [(1, .lv 0 [] 0), (4, .lv 1 [] 0), (5, .lv 2 [] 0), (6, .ref 3 [] 0), (26, .agg (ePair a b)), (27, .int .i64 i)], [(0, ⟨true, eT o a b⟩), (1, ⟨true, [.nilsl, .nilsl, .nilsl, .nilsl]⟩), (2, ⟨true, [.nilsl, .nilsl, .own 2 ((mSet o a b (mL a b i)).map eP), .nilsl]⟩), (3, ⟨false, [.omap (mEs o a b (mL a b i))]⟩)]⟩) (fun i => i ≤ 2 ∧ (mL a b i).length ≤ 8 * i) (fun i => 2 - i) (0) ?_ ⟨by omega, by simp [mL]⟩ (fun i ⟨h1, h2⟩ => ?_)
  · refine Sh.trans (Sh.nilCell 2 [] 2 2 (by simp [go_sem, simprocAttr]) rfl) (Sh.wk0 ?_); simp [Wk, go_sem, simprocAttr, eGraph, eT, ePair, mL, mSet, mEs]
  refine CW.seq ?_
  refine CW.rg ?_
  refine CWops.rn htt 1 ?_
  refine CWops.done ?_
  refine CW.seq ?_
  refine CW.cond (by simp only [go_sem, simprocAttr]; first | done | exact rfl) (fun ct28 => ?_) (fun ct28 => ?_)
  · have hi : i < 2 := by simp at ct28; omega
    obtain ⟨g, hi3, hle, hdt, hg⟩ := idx2 a b hi
    have hgo : g.O.length ≤ 8 := by rw [← hg]; unfold mG; split <;> assumption
    refine CW.skip ?_
    refine CW.seq ?_
    refine CW.block ?_
    refine CW.seq ?_
    refine CW.rg ?_
    refine CWops.run htt 3 (by simp only [go_sem, simprocAttr, hi3, hle, hdt, eGraph]; exact rfl) (by simp [go_sem, simprocAttr, hi3, hle, hdt, eGraph]) ?_
    refine CWops.done ?_
    refine CW.seq ?_
    refine CW.rg ?_
    refine CWops.run htt 4 (by simp only [go_sem, simprocAttr, eGraph]; exact rfl) (by simp [go_sem, simprocAttr, eGraph]) ?_
    refine CWops.done ?_
    refine CW.block ?_
    refine CW.loop (S := Nat) (fun j => ⟨5, [(1, .lv 0 [] 0), (4, .lv 1 [] 0), (5, .lv 2 [] 0), (6, .ref 3 [] 0), (26, .agg (ePair a b)), (27, .int .i64 i), (8, .lv 4 [] 0), (31, .sl 3 (g.O.map eObj)), (32, .int .i64 g.O.length), (33, .int .i64 j)], [(0, ⟨true, eT o a b⟩), (1, ⟨true, [.nilsl, .nilsl, .nilsl, .nilsl]⟩), (2, ⟨true, [.nilsl, .nilsl, .own 2 ((mSet o a b (adds (mL a b i) ((idsO g.O).take j))).map eP), .nilsl]⟩), (3, ⟨false, [.omap (mEs o a b (adds (mL a b i) ((idsO g.O).take j)))]⟩), (4, ⟨true, eGraph g⟩)]⟩) (fun j => j ≤ g.O.length) (fun j => g.O.length - j) (0) ?_ (Nat.zero_le _) (fun j hj1 => ?_)
    · refine Sh.wk0 ?_; simp [Wk, go_sem, simprocAttr, eGraph, eT, ePair, adds, hg]
    refine CW.seq ?_
    refine CW.rg ?_
    refine CWops.rn htt 1 ?_
    refine CWops.done ?_
    refine CW.seq ?_
    refine CW.cond (by simp only [go_sem, simprocAttr]; first | done | exact rfl) (fun ct34 => ?_) (fun ct34 => ?_)
    · have hj : j < g.O.length := by simp at ct34; omega
      obtain ⟨x, hx⟩ : ∃ x, g.O[j]? = some x := ⟨_, List.getElem?_eq_getElem hj⟩
      have hxi : (idsO g.O)[j]? = some x.Id := by simp [idsO, hx]
      obtain ⟨L2, hL2⟩ : ∃ L2, L2 = (adds (mL a b i) ((idsO g.O).take j)) := ⟨_, rfl⟩
      have hL2l : L2.length ≤ 16 := by
        have e1 := adds_len (mL a b i) ((idsO g.O).take j)
        rw [← hL2] at e1
        simp only [List.length_take, idsO, List.length_map] at e1
        omega
      have hSl := mSet_len hz L2
      have hadd := adds_take (mL a b i) hxi
      rw [← hL2] at hadd
      have hlk0 := maplk_mEs o a b x.Id L2
      refine CW.skip ?_
      refine CW.seq ?_
      refine CW.block ?_
      refine CW.seq ?_
      rw [← hL2]
      refine CW.rg ?_
      refine CWops.run htt 4 (by simp only [go_sem, simprocAttr, hj, hx, eObj]; exact rfl) (by simp [go_sem, simprocAttr, hj, hx, eObj]) ?_
      refine CWops.done ?_
      refine CW.seq ?_
      refine CW.cut ⟨7, [(1, .lv 0 [] 0), (4, .lv 1 [] 0), (5, .lv 2 [] 0), (6, .ref 3 [] 0), (26, .agg (ePair a b)), (27, .int .i64 i), (8, .lv 4 [] 0), (31, .sl 3 (g.O.map eObj)), (32, .int .i64 g.O.length), (33, .int .i64 j), (10, .lv 5 [] 0), (12, .bool (decide (x.Id ∈ L2)))], [(0, ⟨true, eT o a b⟩), (1, ⟨true, [.nilsl, .nilsl, .nilsl, .nilsl]⟩), (2, ⟨true, [.nilsl, .nilsl, .own 2 ((mSet o a b L2).map eP), .nilsl]⟩), (3, ⟨false, [.omap (mEs o a b L2)]⟩), (4, ⟨true, eGraph g⟩), (5, ⟨true, eObj x⟩)]⟩ ?_ ?_
      · obtain ⟨q, hlk, hq⟩ : ∃ q, maplk (mEs o a b L2) x.Id = q ∧ ((x.Id ∈ L2 ∧ q = some (AV.agg (eObj (mObj o a b x.Id).1))) ∨ (¬ x.Id ∈ L2 ∧ q = none)) := by
          refine ⟨_, rfl, ?_⟩
          rw [hlk0]
          by_cases e : x.Id ∈ L2
          · exact .inl ⟨e, by rw [if_pos e]⟩
          · exact .inr ⟨e, by rw [if_neg e]⟩
        rcases hq with ⟨hin0, rfl⟩ | ⟨hin0, rfl⟩
        all_goals (refine CW.rg ?_)
        all_goals (refine CWops.run htt 10 (by simp only [go_sem, simprocAttr, eObj, hlk]; exact rfl) (by simp [go_sem, simprocAttr, eObj, hlk]) ?_)
        all_goals (refine CWops.done ?_)
        all_goals (
          refine ⟨rfl, Sh.wk0 ?_⟩
          simp [Wk, go_sem, simprocAttr, eGraph, eT, ePair, eObj, hin0])
      refine CW.seq ?_
      refine CW.rg ?_
      refine CWops.rn htt 1 ?_
      refine CWops.done ?_
      refine CW.cond (by simp only [go_sem, simprocAttr]; first | done | exact rfl) (fun ct44 => ?_) (fun ct44 => ?_)
      · have hin : x.Id ∈ L2 := by simpa using ct44
        rw [if_pos hin] at hadd
        refine CW.exit ?_
        refine CW.rg ?_
        refine CWops.run htt 2 (by simp only [go_sem, simprocAttr, wrap_succ (show j < MX by unfold MX; omega)]; exact rfl) (by simp [go_sem, simprocAttr, wrap_succ (show j < MX by unfold MX; omega)]) ?_
        refine CWops.done ?_
        refine ⟨j + 1, ?_, ?_, ?_⟩
        · refine Sh.wk0 ?_
          simp [Wk, go_sem, simprocAttr, eGraph, eT, ePair, hadd, mSet_snoc, List.take_length]
        · exact hj
        · simp only; omega
      · have hin : ¬ x.Id ∈ L2 := by simpa using ct44
        rw [if_neg hin] at hadd
        have hmp : ∀ v, mapput (mEs o a b L2) x.Id v = mEs o a b L2 ++ [(x.Id, v)] := fun v => mapput_new (by rw [hlk0, if_neg hin])
        have hc5 := mObj_len (hz x.Id)
        refine CW.skip ?_
        refine CW.seq ?_
        refine CW.rg ?_
        refine CWops.run htt 3 (by simp only [go_sem, simprocAttr, eObj, eT]; exact rfl) (by simp [go_sem, simprocAttr, eObj, eT]) ?_
        refine CWops.callA (merge_object up o a b x.Id (hz x.Id)) (by simp only [go_sem, simprocAttr, eObj, eT]) (by simp only [go_sem, simprocAttr, eObj, eT]; first | done | exact rfl) (by simp only [go_sem, simprocAttr, eObj, eT]) (by simp only [go_sem, simprocAttr, eObj, eT]) (fun rt49 hrt49 => ?_)
        subst hrt49
        refine CWops.run htt 6 (by simp only [go_sem, simprocAttr, eObj, eT]; exact rfl) (by simp [go_sem, simprocAttr, eObj, eT]) ?_
        refine CWops.done ?_
        refine CW.seq ?_
        refine CW.rg ?_
        refine CWops.run htt 5 (by simp only [go_sem, simprocAttr, eObj]; exact rfl) (by simp [go_sem, simprocAttr, eObj, mEs, MX] <;> omega) ?_
        refine CWops.done ?_
        refine CW.seq ?_
        refine CW.rg ?_
        refine CWops.rn htt 3 ?_
        refine CWops.done ?_
        refine CW.block ?_
        refine CW.loop (S := Nat) (fun k => ⟨6, [(1, .lv 0 [] 0), (4, .lv 1 [] 0), (5, .lv 2 [] 0), (6, .ref 3 [] 0), (26, .agg (ePair a b)), (27, .int .i64 i), (8, .lv 4 [] 0), (31, .sl 3 (g.O.map eObj)), (32, .int .i64 g.O.length), (33, .int .i64 j), (10, .lv 5 [] 0), (56, .sl 1 ((mObj o a b x.Id).2.map eI)), (57, .int .i64 (mObj o a b x.Id).2.length), (58, .int .i64 k)], [(0, ⟨true, eT o a b⟩), (1, ⟨true, [.nilsl, .nilsl, .nilsl, .nilsl]⟩), (2, ⟨true, [.nilsl, .nilsl, .own 2 ((mSet o a b L2 ++ ((mObj o a b x.Id).2.take k).map fun k => (x.Id, k)).map eP), .nilsl]⟩), (3, ⟨false, [.omap (mEs o a b (L2 ++ [x.Id]))]⟩), (4, ⟨true, eGraph g⟩), (5, ⟨true, eObj x⟩)]⟩) (fun k => k ≤ (mObj o a b x.Id).2.length) (fun k => (mObj o a b x.Id).2.length - k) (0) ?_ (Nat.zero_le _) (fun k hk1 => ?_)
        · refine Sh.wk0 ?_; simp [Wk, go_sem, simprocAttr, eGraph, eT, ePair, mEs_snoc, eObj, hmp]
        refine CW.seq ?_
        refine CW.rg ?_
        refine CWops.rn htt 1 ?_
        refine CWops.done ?_
        refine CW.seq ?_
        refine CW.cond (by simp only [go_sem, simprocAttr]; first | done | exact rfl) (fun ct59 => ?_) (fun ct59 => ?_)
        · have hk : k < (mObj o a b x.Id).2.length := by simp at ct59; omega
          obtain ⟨c, hc⟩ : ∃ c, (mObj o a b x.Id).2[k]? = some c := ⟨_, List.getElem?_eq_getElem hk⟩
          refine CW.skip ?_
          refine CW.seq ?_
          refine CW.block ?_
          refine CW.seq ?_
          refine CW.rg ?_
          refine CWops.run htt 3 (by simp only [go_sem, simprocAttr, hk, hc, eI]; exact rfl) (by simp [go_sem, simprocAttr, hk, hc, eI]) ?_
          refine CWops.done ?_
          refine CW.rg ?_
          refine CWops.run htt 5 (by simp only [go_sem, simprocAttr, eObj, List.replicate, eP]; exact rfl) (by simp [AV.cell, AV.tree, eP, MX] <;> omega) ?_
          refine CWops.buildPair htt (k := .i64) (m := x.Id) (n := c) (by simp only [go_sem, simprocAttr]) tt_62 rfl rfl tt_3 rfl (by simp only [go_sem, simprocAttr, eObj]) (by simp only [go_sem, simprocAttr]) ?_
          refine CWops.run htt 4 (by simp only [go_sem, simprocAttr, eObj, List.replicate, eP]; exact rfl) (by simp [AV.cell, AV.tree, eP, MX] <;> omega) ?_
          refine CWops.done ?_
          refine CW.rg ?_
          refine CWops.run htt 2 (by simp only [go_sem, simprocAttr, wrap_succ (show k < MX by unfold MX; omega)]; exact rfl) (by simp [go_sem, simprocAttr, wrap_succ (show k < MX by unfold MX; omega)]) ?_
          refine CWops.done ?_
          refine ⟨k + 1, ?_, ?_, ?_⟩
          · refine Sh.wk0 ?_
            simp [Wk, go_sem, simprocAttr, eGraph, eT, ePair, eObj, eP, List.take_add_one, hc]
          · exact hk
          · simp only; omega
        · have hk : k = (mObj o a b x.Id).2.length := by simp at ct59; omega
          subst hk
          refine CW.exit ?_
          refine CW.rg ?_
          refine CWops.run htt 2 (by simp only [go_sem, simprocAttr, wrap_succ (show j < MX by unfold MX; omega)]; exact rfl) (by simp [go_sem, simprocAttr, wrap_succ (show j < MX by unfold MX; omega)]) ?_
          refine CWops.done ?_
          refine ⟨j + 1, ?_, ?_, ?_⟩
          · refine Sh.wk0 ?_
            simp [Wk, go_sem, simprocAttr, eGraph, eT, ePair, hadd, mSet_snoc, List.take_length]
          · exact hj
          · simp only; omega
    · have hj : j = g.O.length := by simp at ct34; omega
      have hjt : (idsO g.O).take j = idsO g.O := List.take_of_length_le (by simp [idsO]; omega)
      refine CW.exit ?_
      refine CW.rg ?_
      refine CWops.run htt 2 (by simp only [go_sem, simprocAttr, wrap_succ (show i < MX by unfold MX; omega)]; exact rfl) (by simp [go_sem, simprocAttr, wrap_succ (show i < MX by unfold MX; omega)]) ?_
      refine CWops.done ?_
      refine ⟨i + 1, ?_, ?_, ?_⟩
      · refine Sh.wk0 ?_
        simp [Wk, go_sem, simprocAttr, eGraph, eT, ePair, mL_succ a b hi, hg, hjt]
      · exact ⟨hi, by rw [mL_succ a b hi, hg]; have := adds_len (mL a b i) (idsO g.O); simp only [idsO, List.length_map] at this ⊢; omega⟩
      · simp only; omega
  · have hi : i = 2 := by simp at ct28; omega
    subst hi
    refine CW.exit ?_
    refine CW.seq ?_
    refine CW.rg ?_
    refine CWops.rn htt 1 ?_
    refine CWops.done ?_
    refine CW.seq ?_
    refine CW.seq ?_
    refine CW.rg ?_
    refine CWops.run htt 8 (by simp only [go_sem, simprocAttr, eT, eGraph]; exact rfl) (by simp [go_sem, simprocAttr, eT, eGraph]) ?_
    refine CWops.max2 (k := .i64) (m := (a.Roots.length : Int)) (n := (b.Roots.length : Int)) (by simp only [go_sem, simprocAttr]) (by simp only [go_sem, simprocAttr, List.length_map]) (by simp only [go_sem, simprocAttr, List.length_map]) ?_
    refine CWops.run htt 1 (by simp only [go_sem, simprocAttr, eT, eGraph]; exact rfl) (by simp [go_sem, simprocAttr, eT, eGraph]) ?_
    refine CWops.done ?_
    refine CW.block ?_
    refine CW.loop (S := Nat) (fun i => ⟨6, [(1, .lv 0 [] 0), (4, .lv 1 [] 0), (5, .lv 2 [] 0), (6, .ref 3 [] 0), (17, .ref 5 [] 0), (82, .int .i64 (max (a.Roots.length : Int) (b.Roots.length : Int))), (83, .int .i64 i)], [(0, ⟨true, eT o a b⟩), (1, ⟨true, [.nilsl, .nilsl, .nilsl, .nilsl]⟩), (2, ⟨true, [.nilsl, .nilsl, .own 2 ((mSet o a b (mL a b 2)).map eP), .own 1 ((mRC o a b i).map eI)]⟩), (3, ⟨false, [.omap (mEs o a b (mL a b 2))]⟩), (5, ⟨false, [.own 1 ((mRoots o a b i).map eI)]⟩)]⟩) (fun i => i ≤ mN a b) (fun i => mN a b - i) (0) ?_ (Nat.zero_le _) (fun i hi1 => ?_)
    · refine Sh.trans (Sh.nilCell 2 [] 3 1 (by simp [go_sem, simprocAttr]) rfl) (Sh.trans (Sh.nilRoot 17 1 (by simp only [go_sem, simprocAttr]) rfl) (Sh.wk0 ?_)); simp [Wk, go_sem, simprocAttr, eGraph, eT, ePair, mRoots, mRC]
    refine CW.seq ?_
    refine CW.rg ?_
    refine CWops.rn htt 1 ?_
    refine CWops.done ?_
    refine CW.seq ?_
    refine CW.cond (by simp only [go_sem, simprocAttr]; first | done | exact rfl) (fun ct84 => ?_) (fun ct84 => ?_)
    · have hi : i < mN a b := by unfold mN; simp at ct84; omega
      have hml : mN a b ≤ 3 := by unfold mN; omega
      have hcl := mRC_len o a b i
      have hrl := mRoots_len o a b i
      refine CW.skip ?_
      refine CW.seq ?_
      refine CW.block ?_
      refine CW.seq ?_
      refine CW.rg ?_
      refine CWops.rn htt 2 ?_
      refine CWops.done ?_
      refine CW.seq ?_
      refine CW.drawn mixed 17 (by decide) (by kernel_rfl) (by kernel_rfl) (by kernel_rfl) ?_
      refine Seg.run htt 3 (by simp only [go_sem, simprocAttr, eT, eGraph]; exact rfl) ?_
      refine Seg.call (merge_root up o i) (by simp only [go_sem, simprocAttr, eT, eGraph]) (by simp only [go_sem, simprocAttr, eT, eGraph]; first | done | exact rfl) (by simp only [go_sem, simprocAttr, eT, eGraph]) (by simp only [go_sem, simprocAttr, eT, eGraph]) rfl ?_
      refine Seg.run htt 3 (by simp only [go_sem, simprocAttr, eT, eGraph]; exact rfl) ?_
      refine Seg.call (merge_root up a i) (by simp only [go_sem, simprocAttr, eT, eGraph]) (by simp only [go_sem, simprocAttr, eT, eGraph]; first | done | exact rfl) (by simp only [go_sem, simprocAttr, eT, eGraph]) (by simp only [go_sem, simprocAttr, eT, eGraph]) rfl ?_
      refine Seg.run htt 3 (by simp only [go_sem, simprocAttr, eT, eGraph]; exact rfl) ?_
      refine Seg.call (merge_root up b i) (by simp only [go_sem, simprocAttr, eT, eGraph]) (by simp only [go_sem, simprocAttr, eT, eGraph]; first | done | exact rfl) (by simp only [go_sem, simprocAttr, eT, eGraph]) (by simp only [go_sem, simprocAttr, eT, eGraph]) rfl ?_
      refine Seg.call (merge_standsI up (rootAt o i) (rootAt a i) (rootAt b i)) (by simp only [go_sem, simprocAttr, eT, eGraph]) (by simp only [go_sem, simprocAttr, eT, eGraph]; first | done | exact rfl) (by simp only [go_sem, simprocAttr, eT, eGraph]) (by simp only [go_sem, simprocAttr, eT, eGraph]) rfl ?_
      refine Seg.run htt 4 (by simp only [go_sem, simprocAttr, eT, eGraph]; exact rfl) ?_
      refine Seg.done ?_
      refine CWops.run htt 1 (by simp only [go_sem, simprocAttr, eT, eGraph]; exact rfl) (by simp [go_sem, simprocAttr, eT, eGraph]) ?_
      refine CWops.done ?_
      refine CW.seq ?_
      refine CW.rg ?_
      refine CWops.run htt 5 (by simp only [go_sem, simprocAttr, eI]; exact rfl) (by simp [go_sem, simprocAttr, eI, MX] <;> omega) ?_
      refine CWops.done ?_
      refine CW.seq ?_
      refine CW.rg ?_
      refine CWops.rn htt 2 ?_
      refine CWops.done ?_
      refine CW.cond (by simp only [go_sem, simprocAttr]; first | done | exact rfl) (fun ct107 => ?_) (fun ct107 => ?_)
      · have hf : (stand (rootAt o i) (rootAt a i) (rootAt b i)).2 = false := by simpa using ct107
        refine CW.rg ?_
        refine CWops.run htt 7 (by simp only [go_sem, simprocAttr, List.replicate, eI]; exact rfl) (by simp [AV.cell, AV.tree, eI, MX] <;> omega) ?_
        refine CWops.done ?_
        refine CW.rg ?_
        refine CWops.run htt 2 (by simp only [go_sem, simprocAttr, wrap_succ (show i < MX by unfold MX; omega)]; exact rfl) (by simp [go_sem, simprocAttr, wrap_succ (show i < MX by unfold MX; omega)]) ?_
        refine CWops.done ?_
        refine ⟨i + 1, ?_, ?_, ?_⟩
        · dsimp only
          rw [mRoots_succ]
          first | rw [mRC_no hf] | rw [mRC_yes hf]
          refine Sh.wk (fun x => if x = 5 then 7 else x) ?_
          simp [Wk, go_sem, simprocAttr, eGraph, eT, ePair, eI, mRoot]
        · exact hi
        · simp only; omega
      · have hf : (stand (rootAt o i) (rootAt a i) (rootAt b i)).2 = true := by simpa using ct107
        refine CW.skip ?_
        refine CW.rg ?_
        refine CWops.run htt 2 (by simp only [go_sem, simprocAttr, wrap_succ (show i < MX by unfold MX; omega)]; exact rfl) (by simp [go_sem, simprocAttr, wrap_succ (show i < MX by unfold MX; omega)]) ?_
        refine CWops.done ?_
        refine ⟨i + 1, ?_, ?_, ?_⟩
        · dsimp only
          rw [mRoots_succ]
          first | rw [mRC_no hf] | rw [mRC_yes hf]
          refine Sh.wk (fun x => if x = 5 then 7 else x) ?_
          simp [Wk, go_sem, simprocAttr, eGraph, eT, ePair, eI, mRoot]
        · exact hi
        · simp only; omega
    · have hi : i = mN a b := by unfold mN at hi1 ⊢; simp at ct84; omega
      refine CW.exit ?_
      refine CW.seq ?_
      rw [hi]
      refine CW.sh (Sh.trans (Sh.frz 2 2 rfl rfl) (Sh.trans (Sh.frz 2 3 rfl rfl) (Sh.frzT 17 5 rfl rfl rfl))) ?_
      simp only [go_sem, simprocAttr]
      refine CW.drawn mixed 5 (by decide) (by kernel_rfl) (by kernel_rfl) (by kernel_rfl) ?_
      refine Seg.run htt 5 (by simp only [go_sem, simprocAttr]; exact rfl) ?_
      refine Seg.done ?_
      refine CWops.rn htt 1 ?_
      refine CWops.done ?_
      refine CW.ret ?_
      refine ⟨⟨2, [(2, .ref 0 [] 0), (3, .sl 1 ((mRoots o a b (mN a b)).map eI)), (4, .lv 1 [] 0)], [(0, ⟨false, [.omap (mEs o a b (mL a b 2))]⟩), (1, ⟨true, [.nilsl, .nilsl, .sl 2 ((mCh o a b).Set.map eP), .sl 1 ((mCh o a b).Roots.map eI)]⟩)]⟩, ?_, .inr rfl, by simp [ptrOK, go_sem, simprocAttr], _, by simp only [f25, go_sem, simprocAttr]; exact rfl, ?_⟩ -- ret1
      · refine Sh.wk (fun x => if x = 0 then 3 else x) ?_
        simp [Wk, go_sem, simprocAttr, mCh]
      · exact ⟨rfl, rfl, rfl⟩
end Go.Ab
namespace Go.Ab
open Go Go.Proofs.Tryz
set_option maxRecDepth 100000
set_option maxHeartbeats 6400000
set_option linter.unusedSimpArgs false
set_option linter.unusedVariables false
@[go_sem] theorem tt_64 : tiOf prog 64 = some ⟨.map 3 4, 1, 8, [.nilmap], false⟩ := by kernel_rfl
@[go_sem] theorem tt_59 : tiOf prog 59 = some ⟨.map 3 47, 1, 8, [.nilmap], false⟩ := by kernel_rfl
theorem merge_Clash (up : Bool) (o a b : Graph) (hz : gCheck o a b = 0 → MOK o a b) : PCall prog up 9 [.agg (eGraph o), .agg (eGraph a), .agg (eGraph b)] (· = .tup [.agg (eChange (if gCheck o a b = 0 then mCh o a b else noChange)), .int .i64 (gCheck o a b)]) := by
  refine PCall.intro htt func9 (by kernel_rfl) rfl (Nat.le_of_ble_eq_true rfl) fun hl => ?_

  simp only [tmps0, Nat.reduceAdd]
  refine CW.seq ?_
  refine CW.rg ?_
  refine CWops.run htt 5 (by simp only [go_sem, simprocAttr, eGraph]; exact rfl) (by simp [go_sem, simprocAttr, eGraph]) ?_
  refine CWops.done ?_
  refine CW.seq ?_
  refine CW.rg ?_
  refine CWops.run htt 6 (by simp only [go_sem, simprocAttr, eGraph]; exact rfl) (by simp [go_sem, simprocAttr, eGraph]) ?_
  refine CWops.done ?_
  refine CW.seq ?_
  refine CW.seq ?_
  refine CW.rg ?_
  refine CWops.run htt 1 (by simp only [go_sem, simprocAttr, eT]; exact rfl) (by simp [go_sem, simprocAttr, eT]) ?_
  refine CWops.callA (merge_check up o a b) (by simp only [go_sem, simprocAttr, eT]) (by simp only [go_sem, simprocAttr, eT]; first | done | exact rfl) (by simp only [go_sem, simprocAttr, eT]) (by simp only [go_sem, simprocAttr, eT]) (fun rt18 hrt18 => ?_)
  subst hrt18
  refine CWops.run htt 1 (by simp only [go_sem, simprocAttr, eT]; exact rfl) (by simp [go_sem, simprocAttr, eT]) ?_
  refine CWops.done ?_
  refine CW.seq ?_
  refine CW.rg ?_
  refine CWops.rn htt 2 ?_
  refine CWops.done ?_
  refine CW.cond (by simp only [go_sem, simprocAttr]; first | done | exact rfl) (fun ct20 => ?_) (fun ct20 => ?_)
  · have h0 : ¬ gCheck o a b = 0 := by simpa using ct20
    refine CW.seq ?_
    refine CW.rg ?_
    refine CWops.rn htt 4 ?_
    refine CWops.done ?_
    refine CW.ret ?_
    refine retQ.ret (by simp only [f9, go_sem, simprocAttr]; exact rfl) (by simp only [go_sem, simprocAttr]; exact rfl) ?_ -- ret1
    refine ⟨_, ?_, rfl⟩
    simp [leP, leL, eChange, h0, noChange]
  · have h0 : gCheck o a b = 0 := by simpa using ct20
    refine CW.skip ?_
    refine CW.seq ?_
    refine CW.rg ?_
    refine CWops.rn htt 1 ?_
    refine CWops.callG [] rfl (by have h := merge_all up o a b (hz h0).sz (hz h0).ao (hz h0).bo (hz h0).ar (hz h0).br; simp only [eT] at h; exact h) (by simp only [go_sem, simprocAttr]) (by simp only [go_sem, simprocAttr]; first | done | exact rfl) (by decide) (by simp [go_sem, simprocAttr, mName, memB]) (by simp [go_sem, simprocAttr, mName]) (by simp [go_sem, simprocAttr]) (by simp [go_sem, simprocAttr]) (by simp [go_sem, simprocAttr, mName]) (fun r σ' hσ => ?_)
    obtain ⟨σn, σt, σs⟩ := σ'
    simp only at hσ
    obtain ⟨rfl, rfl, rfl⟩ := hσ
    simp only [aftS, renS, delAll, memB, mName, List.getD_nil, killH, kref, ren, Nat.beq_eq, go_sem, simprocAttr]
    refine CWops.rn htt 8 ?_
    refine CWops.done ?_
    refine CW.seq ?_
    refine CW.rg ?_
    refine CWops.rn htt 3 ?_
    refine CWops.done ?_
    refine CW.ret ?_
    refine retQ.ret (by simp only [f9, go_sem, simprocAttr]; exact rfl) (by simp only [go_sem, simprocAttr]; exact rfl) ?_ -- ret2
    refine ⟨_, ?_, rfl⟩
    simp [leP, leL, eChange, h0, mCh]
end Go.Ab
namespace Go.Ab
open Go Go.Proofs.Tryz
set_option maxRecDepth 100000
set_option maxHeartbeats 6400000
set_option linter.unusedSimpArgs false
set_option linter.unusedVariables false
theorem merge_come (up : Bool) (S : List GType) (os : List (Int × GObj)) (roots : List Int) (hp : POK S os) (hr : roots.length ≤ 3) : GCallH prog up 30 [.agg (eSchema S), .ref 0 [] 0, .sl 1 (roots.map eI)] 1 [(0, ⟨false, [.omap (pEs os)]⟩)] [0] (fun r σ' => ∃ out, CInv S os roots out [] ∧ r = .ref 1 [] 0 ∧ σ'.n = 2 ∧ σ'.s = [(0, ⟨false, [.omap (pEs os)]⟩), (1, ⟨false, [.omap (oM out)]⟩)]) := by
  refine GCallH.intro htt 2 func30 (by kernel_rfl) rfl (Nat.le_of_ble_eq_true rfl) (CW.told ?_)

  simp only [tmps0, Nat.reduceAdd]
  refine CW.seq ?_
  refine CW.rg ?_
  refine CWops.run htt 2 (by simp only [go_sem, simprocAttr, eSchema]; exact rfl) (by simp [go_sem, simprocAttr, eSchema]) ?_
  refine CWops.done ?_
  refine CW.seq ?_
  refine CW.rg ?_
  refine CWops.rn htt 2 ?_
  refine CWops.done ?_
  refine CW.seq ?_
  refine CW.block ?_
  refine CW.loop (S := List Int × List Int) (fun p => ⟨4, [(0, .agg (eSchema S)), (1, .ref 0 [] 0), (3, .lv 1 [] 0), (2, .sl 1 ((p.2).map eI)), (7, .ref 3 [] 0)], [(0, ⟨false, [.omap (pEs os)]⟩), (1, ⟨true, eSchema S⟩), (3, ⟨false, [.omap (oM p.1)]⟩)]⟩) (fun p => CInv S os roots p.1 p.2 ∧ (os.length - p.1.length) * 6 + p.2.length ≤ 99) (fun p => (os.length - p.1.length) * 6 + p.2.length) (([], roots)) ?_ ⟨CInv.start S os roots, by have := hp.len; simp; omega⟩ (fun ⟨out, Q⟩ ⟨hI, hB⟩ => ?_)
  · refine Sh.wk (fun x => if x = 3 then 2 else x) ?_; simp [Wk, go_sem, simprocAttr, eSchema, oM]
  refine CW.seq ?_
  refine CW.seq ?_
  refine CW.rg ?_
  refine CWops.rn htt 3 ?_
  refine CWops.done ?_
  refine CW.cond (by simp only [go_sem, simprocAttr]; first | done | exact rfl) (fun ct16 => ?_) (fun ct16 => ?_)
  · obtain ⟨id, q, rfl⟩ : ∃ id q', Q = id :: q' := by
      cases Q with
      | nil => simp at ct16
      | cons id q => exact ⟨id, q, rfl⟩
    simp only at hI hB
    refine CW.skip ?_
    refine CW.block ?_
    refine CW.seq ?_
    refine CW.rg ?_
    refine CWops.run htt 4 (by simp only [go_sem, simprocAttr, eI]; exact rfl) (by simp [go_sem, simprocAttr, eI]) ?_
    refine CWops.done ?_
    refine CW.seq ?_
    refine CW.rg ?_
    refine CWops.rn htt 1 ?_
    refine CWops.slFrom htt (q := 1) (by simp only [go_sem, simprocAttr]) tt_26 rfl tt_3 (by simp only [go_sem, simprocAttr]; exact rfl) (by simp only [go_sem, simprocAttr]; exact rfl) (by simp) ?_
    refine CWops.rn htt 1 ?_
    refine CWops.done ?_
    refine CW.cut ⟨5, [(0, .agg (eSchema S)), (1, .ref 0 [] 0), (3, .lv 1 [] 0), (2, .sl 1 ((q).map eI)), (7, .ref 3 [] 0), (8, .int .i64 id), (9, .lv 4 [] 0), (10, .bool (plk os id).isSome)], [(0, ⟨false, [.omap (pEs os)]⟩), (1, ⟨true, eSchema S⟩), (3, ⟨false, [.omap (oM out)]⟩), (4, ⟨true, oCells (plk os id)⟩)]⟩ ?_ ?_
    · obtain ⟨qq, hlk, hq2⟩ : ∃ qq, maplk (pEs os) id = qq ∧ ((∃ ob, plk os id = some ob ∧ qq = some (AV.agg (eObj ob))) ∨ (plk os id = none ∧ qq = none)) := by
        refine ⟨_, maplk_pEs os id, ?_⟩
        cases plk os id with
        | none => exact .inr ⟨rfl, rfl⟩
        | some ob => exact .inl ⟨ob, rfl, rfl⟩
      rcases hq2 with ⟨ob, hob, rfl⟩ | ⟨hob, rfl⟩
      all_goals (refine CW.rg ?_)
      all_goals (refine CWops.run htt 9 (by simp only [go_sem, simprocAttr, hlk, eObj]; exact rfl) (by simp [go_sem, simprocAttr, hlk, eObj]) ?_)
      all_goals (refine CWops.done ?_)
      all_goals (
        refine ⟨rfl, Sh.wk0 ?_⟩
        simp [Wk, go_sem, simprocAttr, eSchema, eObj, hob, oCells])
    refine CW.seq ?_
    refine CW.cut ⟨5, [(0, .agg (eSchema S)), (1, .ref 0 [] 0), (3, .lv 1 [] 0), (2, .sl 1 ((q).map eI)), (7, .ref 3 [] 0), (8, .int .i64 id), (9, .lv 4 [] 0), (34, .bool (!(plk os id).isSome || decide (id ∈ out)))], [(0, ⟨false, [.omap (pEs os)]⟩), (1, ⟨true, eSchema S⟩), (3, ⟨false, [.omap (oM out)]⟩), (4, ⟨true, oCells (plk os id)⟩)]⟩ ?_ ?_
    · obtain ⟨qq, hlo, hq2⟩ : ∃ qq, maplk (oM out) id = qq ∧ ((id ∈ out ∧ qq = some (AV.bool true)) ∨ (¬ id ∈ out ∧ qq = none)) := by
        refine ⟨_, maplk_oM id out, ?_⟩
        by_cases e : id ∈ out
        · exact .inl ⟨e, by rw [if_pos e]⟩
        · exact .inr ⟨e, by rw [if_neg e]⟩
      rcases hq2 with ⟨hin, rfl⟩ | ⟨hin, rfl⟩
      all_goals (refine CW.rg ?_)
      all_goals (refine CWops.run htt 3 (by simp only [go_sem, simprocAttr, hlo]; exact rfl) (by simp [go_sem, simprocAttr, hlo]) ?_)
      all_goals (first | refine CWops.guard 30 (by simp only [go_sem, simprocAttr, hlo]; exact rfl) (fun g30 => ?_) (fun g30 => ?_) | skip)
      all_goals (refine CWops.run htt 4 (by simp only [go_sem, simprocAttr, hlo]; exact rfl) (by simp [go_sem, simprocAttr, hlo]) ?_)
      all_goals (refine CWops.done ?_)
      all_goals (
        refine ⟨rfl, Sh.wk0 ?_⟩
        simp_all [Wk, go_sem, simprocAttr, eSchema])
    refine CW.cond (by simp only [go_sem, simprocAttr]; first | done | exact rfl) (fun ct34 => ?_) (fun ct34 => ?_)
    · have hskip : plk os id = none ∨ id ∈ out := by simpa using ct34
      refine CW.exit ?_
      refine ⟨(if plk os id = none ∨ id ∈ out then (out, q) else (out ++ [id], q ++ refsP S ((plk os id).getD ⟨0, 0, []⟩))), ?_, ?_, ?_⟩
      · dsimp only
        first | (rw [if_pos hskip]; refine Sh.wk0 ?_; simp [Wk, go_sem, simprocAttr, eSchema, ]; done) | (rw [if_neg (by simp [hob, hni])]; refine Sh.wk0 ?_; simp [Wk, go_sem, simprocAttr, eSchema, hob, hrf, hkt, oM_snoc])
      · dsimp only
        first | (rw [if_pos hskip]; refine ⟨hI.skip hskip, ?_⟩; simp only [List.length_cons] at hB ⊢; omega) | (rw [if_neg (by simp [hob, hni])]; simp only [hob, Option.getD_some]; have h9 := hI.step hob hni; refine ⟨h9, ?_⟩; have h8 := h9.len; simp only [List.length_append, List.length_singleton, List.length_cons] at h8 hB ⊢; omega)
      · dsimp only
        first | (rw [if_pos hskip]; simp only [List.length_cons]; omega) | (rw [if_neg (by simp [hob, hni])]; simp only [hob, Option.getD_some]; have h8 := (hI.step hob hni).len; simp only [List.length_append, List.length_singleton, List.length_cons] at h8 ⊢; omega)
    · have hsome : (plk os id).isSome = true ∧ ¬ id ∈ out := by simpa using ct34
      obtain ⟨hs1, hni⟩ := hsome
      obtain ⟨ob, hob⟩ := Option.isSome_iff_exists.1 hs1
      rw [hob]
      obtain ⟨t, n, hT, ht, hFl, hF5⟩ := hp.ty id ob (plk_mem hob)
      have htl : n < S.length := (List.getElem?_eq_some_iff.1 ht).1
      have hrf := refsP_of hT ht
      have hol := hI.len
      have hmp : ∀ v, mapput (oM out) id v = oM out ++ [(id, v)] := fun v => mapput_new (by rw [maplk_oM, if_neg hni])
      have hpl := hp.len
      have hzl := refsZ_len (t.F.zip ob.F)
      rw [List.length_zip] at hzl
      have hrl : (refsP S ob).length ≤ 5 := by rw [hrf]; omega
      simp only [List.length_cons] at hB
      refine CW.skip ?_
      refine CW.seq ?_
      refine CW.rg ?_
      refine CWops.run htt 3 (by simp only [go_sem, simprocAttr]; exact rfl) (by simp [go_sem, simprocAttr, oM, MX] <;> omega) ?_
      refine CWops.done ?_
      refine CW.seq ?_
      refine CW.rg ?_
      refine CWops.run htt 9 (by simp only [go_sem, simprocAttr, eSchema, oCells, eObj, hT, htl, ht, eType]; exact rfl) (by simp [go_sem, simprocAttr, eSchema, oCells, eObj, hT, htl, ht, eType]) ?_
      refine CWops.done ?_
      refine CW.block ?_
      refine CW.loop (S := Nat) (fun k => ⟨6, [(0, .agg (eSchema S)), (1, .ref 0 [] 0), (3, .lv 1 [] 0), (2, .sl 1 ((q ++ refsZ ((t.F.zip ob.F).take k)).map eI)), (7, .ref 3 [] 0), (9, .lv 4 [] 0), (43, .sl 3 (t.F.map eField)), (44, .int .i64 t.F.length), (45, .int .i64 k)], [(0, ⟨false, [.omap (pEs os)]⟩), (1, ⟨true, eSchema S⟩), (3, ⟨false, [.omap (oM (out ++ [id]))]⟩), (4, ⟨true, eObj ob⟩)]⟩) (fun k => k ≤ t.F.length) (fun k => t.F.length - k) (0) ?_ (Nat.zero_le _) (fun k hk1 => ?_)
      · refine Sh.wk0 ?_; simp [Wk, go_sem, simprocAttr, eSchema, oM_snoc, eObj, refsZ, hmp, hT]
      refine CW.seq ?_
      refine CW.rg ?_
      refine CWops.rn htt 1 ?_
      refine CWops.done ?_
      refine CW.seq ?_
      refine CW.cond (by simp only [go_sem, simprocAttr]; first | done | exact rfl) (fun ct46 => ?_) (fun ct46 => ?_)
      · have hk : k < t.F.length := by simp at ct46; omega
        obtain ⟨f, hf⟩ : ∃ f, t.F[k]? = some f := ⟨_, List.getElem?_eq_getElem hk⟩
        have hkv : k < ob.F.length := by omega
        obtain ⟨v, hv⟩ : ∃ v, ob.F[k]? = some v := ⟨_, List.getElem?_eq_getElem hkv⟩
        have hz : (t.F.zip ob.F)[k]? = some (f, v) := by simp [List.getElem?_zip_eq_some, hf, hv]
        have hzk := refsZ_len ((t.F.zip ob.F).take k)
        rw [List.length_take] at hzk
        refine CW.skip ?_
        refine CW.seq ?_
        refine CW.block ?_
        refine CW.seq ?_
        refine CW.rg ?_
        refine CWops.run htt 6 (by simp only [go_sem, simprocAttr, hk, hf, eField]; exact rfl) (by simp [go_sem, simprocAttr, hk, hf, eField]) ?_
        refine CWops.done ?_
        refine CW.seq ?_
        refine CW.rg ?_
        refine CWops.run htt 3 (by simp only [go_sem, simprocAttr, eField]; exact rfl) (by simp [go_sem, simprocAttr, eField]) ?_
        refine CWops.done ?_
        refine CW.cond (by simp only [go_sem, simprocAttr]; first | done | exact rfl) (fun ct52 => ?_) (fun ct52 => ?_)
        · have h5 : f.Kind = 5 := by simpa using ct52
          refine CW.drawn mixed 13 (by decide) (by kernel_rfl) (by kernel_rfl) (by kernel_rfl) ?_
          refine Seg.run htt 5 (by simp only [go_sem, simprocAttr, eObj, hkv, hv, eVal, eI, List.length_map]; exact rfl) ?_
          refine Seg.tight (k := .i64) (k' := .i64) (l := (q ++ refsZ ((t.F.zip ob.F).take k)).map eI) htt tt_26 rfl tt_3 (by simp only [go_sem, simprocAttr]) (by simp only [go_sem, simprocAttr, List.length_map]) (by simp only [go_sem, simprocAttr, List.length_map]) ?_
          refine Seg.run htt 7 (by simp only [go_sem, simprocAttr, eObj, hkv, hv, eVal, eI, List.length_map]; exact rfl) ?_
          refine Seg.done ?_
          refine CWops.appTight (l := (q ++ refsZ ((t.F.zip ob.F).take k)).map eI) (rows := [eI v.R]) htt (by simp only [go_sem, simprocAttr]) tt_26 rfl tt_3 (by decide) rfl (by simp only [go_sem, simprocAttr]) (by simp only [go_sem, simprocAttr, eI]; first | done | exact rfl) (by simp) (cellsI _) (by simp [go_sem, simprocAttr, isRef, eI, AV.tree]) (by simp [MX] <;> omega) (by simp [MX] <;> omega) ?_
          refine CWops.run htt 1 (by simp only [go_sem, simprocAttr, eObj, hkv, hv, eVal, eI, List.length_map]; exact rfl) (by simp [go_sem, simprocAttr, eObj, hkv, hv, eVal, eI, List.length_map]) ?_
          refine CWops.done ?_
          rw [show ((q ++ refsZ ((t.F.zip ob.F).take k)).map eI ++ [[AV.int .i64 v.R]]) = (q ++ (refsZ ((t.F.zip ob.F).take k) ++ [v.R])).map eI by simp [eI]]
          refine CW.rg ?_
          refine CWops.run htt 2 (by simp only [go_sem, simprocAttr, wrap_succ (show k < MX by unfold MX; omega)]; exact rfl) (by simp [go_sem, simprocAttr, wrap_succ (show k < MX by unfold MX; omega)]) ?_
          refine CWops.done ?_
          refine ⟨k + 1, ?_, ?_, ?_⟩
          · dsimp only
            first | (rw [refsZ_no hz h5]; refine Sh.wk0 ?_; simp [Wk, go_sem, simprocAttr, eSchema, eObj, hT]; done) | (rw [refsZ_yes hz h5]; refine Sh.trans (Sh.frzT 2 8 rfl rfl rfl) ?_; rw [frz_I]; refine Sh.wk0 ?_; simp [Wk, go_sem, simprocAttr, eSchema, eObj, hT])
          · exact hk
          · simp only; omega
        · have h5 : f.Kind ≠ 5 := by simpa using ct52
          refine CW.skip ?_
          refine CW.rg ?_
          refine CWops.run htt 2 (by simp only [go_sem, simprocAttr, wrap_succ (show k < MX by unfold MX; omega)]; exact rfl) (by simp [go_sem, simprocAttr, wrap_succ (show k < MX by unfold MX; omega)]) ?_
          refine CWops.done ?_
          refine ⟨k + 1, ?_, ?_, ?_⟩
          · dsimp only
            first | (rw [refsZ_no hz h5]; refine Sh.wk0 ?_; simp [Wk, go_sem, simprocAttr, eSchema, eObj, hT]; done) | (rw [refsZ_yes hz h5]; refine Sh.trans (Sh.frzT 2 8 rfl rfl rfl) ?_; rw [frz_I]; refine Sh.wk0 ?_; simp [Wk, go_sem, simprocAttr, eSchema, eObj, hT])
          · exact hk
          · simp only; omega
      · have hk : k = t.F.length := by simp at ct46; omega
        have hkt : (t.F.zip ob.F).take k = t.F.zip ob.F := List.take_of_length_le (by rw [List.length_zip]; omega)
        refine CW.exit ?_
        refine ⟨(if plk os id = none ∨ id ∈ out then (out, q) else (out ++ [id], q ++ refsP S ((plk os id).getD ⟨0, 0, []⟩))), ?_, ?_, ?_⟩
        · dsimp only
          first | (rw [if_pos hskip]; refine Sh.wk0 ?_; simp [Wk, go_sem, simprocAttr, eSchema, ]; done) | (rw [if_neg (by simp [hob, hni])]; refine Sh.wk0 ?_; simp [Wk, go_sem, simprocAttr, eSchema, hob, hrf, hkt, oM_snoc])
        · dsimp only
          first | (rw [if_pos hskip]; refine ⟨hI.skip hskip, ?_⟩; simp only [List.length_cons] at hB ⊢; omega) | (rw [if_neg (by simp [hob, hni])]; simp only [hob, Option.getD_some]; have h9 := hI.step hob hni; refine ⟨h9, ?_⟩; have h8 := h9.len; simp only [List.length_append, List.length_singleton, List.length_cons] at h8 hB ⊢; omega)
        · dsimp only
          first | (rw [if_pos hskip]; simp only [List.length_cons]; omega) | (rw [if_neg (by simp [hob, hni])]; simp only [hob, Option.getD_some]; have h8 := (hI.step hob hni).len; simp only [List.length_append, List.length_singleton, List.length_cons] at h8 ⊢; omega)
  · have hq0 : Q = [] := by
      cases Q with
      | nil => rfl
      | cons id q => simp at ct16 <;> omega
    subst hq0
    refine CW.exit ?_
    refine CW.seq ?_
    refine CW.rg ?_
    refine CWops.rn htt 2 ?_
    refine CWops.done ?_
    refine CW.ret ?_
    refine ⟨⟨2, [(1, .ref 0 [] 0), (6, .ref 1 [] 0)], [(0, ⟨false, [.omap (pEs os)]⟩), (1, ⟨false, [.omap (oM out)]⟩)]⟩, ?_, .inr rfl, ⟨by simp [ptrOK, go_sem, simprocAttr], (by refine ⟨⟨1, by decide, rfl, by simp only [go_sem, simprocAttr], rfl⟩, trivial⟩)⟩, _, by simp only [f30, go_sem, simprocAttr]; exact rfl, ?_⟩ -- ret1
    · refine Sh.wk (fun x => if x = 1 then 3 else x) ?_
      simp [Wk, go_sem, simprocAttr]
    · exact ⟨out, hI, rfl, rfl, rfl⟩
end Go.Ab
namespace Go.Ab
open Go Go.Proofs.Tryz
open Nat (reduceEqDiff reduceAdd reduceLT reduceLeDiff reduceBEq reduceSub reduceMul)
open Int (reduceToNat)
set_option maxRecDepth 100000
set_option linter.unusedSimpArgs false
set_option linter.unusedVariables false
@[go_sem] theorem tt_112 : tiOf prog 112 = some ⟨.int IntKind.u64, 1, 8, [.int .u64 0], false⟩ := by kernel_rfl
@[go_sem] theorem tt_141 : tiOf prog 141 = some ⟨.int IntKind.u64, 1, 8, [.int .u64 0], false⟩ := by kernel_rfl
@[go_sem] theorem tt_139 : tiOf prog 139 = some ⟨.int IntKind.u32, 1, 4, [.int .u32 0], false⟩ := by kernel_rfl
theorem cmp_isNaN (up : Bool) (x : Int) : PCall prog up 115 [.int .i64 x] (· = .bool false) := by
  refine PCall.intro htt func115 (by kernel_rfl) rfl (Nat.le_of_ble_eq_true rfl) fun hl => ?_

  simp only [tmps0, Nat.reduceAdd]
  refine CW.seq ?_
  refine CW.region (by kernel_rfl) (by kernel_rfl) ?_ -- r0
  refine CWops.run htt 1 (by simp only [go_sem, reduceIte, reduceCtorEq, reduceEqDiff, reduceAdd, reduceLT, reduceLeDiff, reduceToNat, reduceMul, reduceSub, Nat.reduceBEq, Int.reduceLE]; exact rfl) (by simp [go_sem, reduceIte, reduceCtorEq, reduceEqDiff, reduceAdd, reduceLT, reduceLeDiff, reduceToNat, reduceMul, reduceSub, Nat.reduceBEq, Int.reduceLE]) ?_
  refine CWops.done ?_
  refine CW.seq ?_
  refine CW.region (by kernel_rfl) (by kernel_rfl) ?_ -- r1
  refine CWops.run htt 4 (by simp only [go_sem, reduceIte, reduceCtorEq, reduceEqDiff, reduceAdd, reduceLT, reduceLeDiff, reduceToNat, reduceMul, reduceSub, Nat.reduceBEq, Int.reduceLE]; exact rfl) (by simp [go_sem, reduceIte, reduceCtorEq, reduceEqDiff, reduceAdd, reduceLT, reduceLeDiff, reduceToNat, reduceMul, reduceSub, Nat.reduceBEq, Int.reduceLE]) ?_
  refine CWops.done ?_
  refine CW.ret ?_
  refine retQ.ret (by simp only [f115, go_sem, reduceIte, reduceCtorEq, reduceEqDiff, reduceAdd, reduceLT, reduceLeDiff, reduceToNat, reduceMul, reduceSub, Nat.reduceBEq, Int.reduceLE]; exact rfl) (by simp only [go_sem, reduceIte, reduceCtorEq, reduceEqDiff, reduceAdd, reduceLT, reduceLeDiff, reduceToNat, reduceMul, reduceSub, Nat.reduceBEq, Int.reduceLE]; exact rfl) ?_ -- ret1
  refine ⟨_, ?_, rfl⟩
  simp [leP]
theorem slices_isNaN (up : Bool) (x : Int) : PCall prog up 88 [.int .i64 x] (· = .bool false) := by
  refine PCall.intro htt func88 (by kernel_rfl) rfl (Nat.le_of_ble_eq_true rfl) fun hl => ?_

  simp only [tmps0, Nat.reduceAdd]
  refine CW.seq ?_
  refine CW.region (by kernel_rfl) (by kernel_rfl) ?_ -- r0
  refine CWops.run htt 1 (by simp only [go_sem, reduceIte, reduceCtorEq, reduceEqDiff, reduceAdd, reduceLT, reduceLeDiff, reduceToNat, reduceMul, reduceSub, Nat.reduceBEq, Int.reduceLE]; exact rfl) (by simp [go_sem, reduceIte, reduceCtorEq, reduceEqDiff, reduceAdd, reduceLT, reduceLeDiff, reduceToNat, reduceMul, reduceSub, Nat.reduceBEq, Int.reduceLE]) ?_
  refine CWops.done ?_
  refine CW.seq ?_
  refine CW.region (by kernel_rfl) (by kernel_rfl) ?_ -- r1
  refine CWops.run htt 4 (by simp only [go_sem, reduceIte, reduceCtorEq, reduceEqDiff, reduceAdd, reduceLT, reduceLeDiff, reduceToNat, reduceMul, reduceSub, Nat.reduceBEq, Int.reduceLE]; exact rfl) (by simp [go_sem, reduceIte, reduceCtorEq, reduceEqDiff, reduceAdd, reduceLT, reduceLeDiff, reduceToNat, reduceMul, reduceSub, Nat.reduceBEq, Int.reduceLE]) ?_
  refine CWops.done ?_
  refine CW.ret ?_
  refine retQ.ret (by simp only [f88, go_sem, reduceIte, reduceCtorEq, reduceEqDiff, reduceAdd, reduceLT, reduceLeDiff, reduceToNat, reduceMul, reduceSub, Nat.reduceBEq, Int.reduceLE]; exact rfl) (by simp only [go_sem, reduceIte, reduceCtorEq, reduceEqDiff, reduceAdd, reduceLT, reduceLeDiff, reduceToNat, reduceMul, reduceSub, Nat.reduceBEq, Int.reduceLE]; exact rfl) ?_ -- ret1
  refine ⟨_, ?_, rfl⟩
  simp [leP]
theorem cmp_Less (up : Bool) (x y : Int) : PCall prog up 87 [.int .i64 x, .int .i64 y] (· = .bool (decide (x < y))) := by
  refine PCall.intro htt func87 (by kernel_rfl) rfl (Nat.le_of_ble_eq_true rfl) fun hl => ?_

  simp only [tmps0, Nat.reduceAdd]
  refine CW.seq ?_
  refine CW.region (by kernel_rfl) (by kernel_rfl) ?_ -- r0
  refine CWops.run htt 1 (by simp only [go_sem, reduceIte, reduceCtorEq, reduceEqDiff, reduceAdd, reduceLT, reduceLeDiff, reduceToNat, reduceMul, reduceSub, Nat.reduceBEq, Int.reduceLE]; exact rfl) (by simp [go_sem, reduceIte, reduceCtorEq, reduceEqDiff, reduceAdd, reduceLT, reduceLeDiff, reduceToNat, reduceMul, reduceSub, Nat.reduceBEq, Int.reduceLE]) ?_
  refine CWops.done ?_
  refine CW.seq ?_
  refine CW.region (by kernel_rfl) (by kernel_rfl) ?_ -- r1
  refine CWops.run htt 1 (by simp only [go_sem, reduceIte, reduceCtorEq, reduceEqDiff, reduceAdd, reduceLT, reduceLeDiff, reduceToNat, reduceMul, reduceSub, Nat.reduceBEq, Int.reduceLE]; exact rfl) (by simp [go_sem, reduceIte, reduceCtorEq, reduceEqDiff, reduceAdd, reduceLT, reduceLeDiff, reduceToNat, reduceMul, reduceSub, Nat.reduceBEq, Int.reduceLE]) ?_
  refine CWops.callA (cmp_isNaN up x) (by simp only [go_sem, reduceIte, reduceCtorEq, reduceEqDiff, reduceAdd, reduceLT, reduceLeDiff, reduceToNat, reduceMul, reduceSub, Nat.reduceBEq, Int.reduceLE]) (by simp only [go_sem, reduceIte, reduceCtorEq, reduceEqDiff, reduceAdd, reduceLT, reduceLeDiff, reduceToNat, reduceMul, reduceSub, Nat.reduceBEq, Int.reduceLE]; first | done | exact rfl) (by simp only [go_sem, reduceIte, reduceCtorEq, reduceEqDiff, reduceAdd, reduceLT, reduceLeDiff, reduceToNat, reduceMul, reduceSub, Nat.reduceBEq, Int.reduceLE]) (by simp only [go_sem, reduceIte, reduceCtorEq, reduceEqDiff, reduceAdd, reduceLT, reduceLeDiff, reduceToNat, reduceMul, reduceSub, Nat.reduceBEq, Int.reduceLE]) (fun rt6 hrt6 => ?_)
  subst hrt6
  refine CWops.run htt 1 (by simp only [go_sem, reduceIte, reduceCtorEq, reduceEqDiff, reduceAdd, reduceLT, reduceLeDiff, reduceToNat, reduceMul, reduceSub, Nat.reduceBEq, Int.reduceLE]; exact rfl) (by simp [go_sem, reduceIte, reduceCtorEq, reduceEqDiff, reduceAdd, reduceLT, reduceLeDiff, reduceToNat, reduceMul, reduceSub, Nat.reduceBEq, Int.reduceLE]) ?_
  all_goals (first | refine CWops.guard 7 (by simp only [go_sem, reduceIte, reduceCtorEq, reduceEqDiff, reduceAdd, reduceLT, reduceLeDiff, reduceToNat, reduceMul, reduceSub, Nat.reduceBEq, Int.reduceLE]; exact rfl) (fun g7 => ?_) (fun g7 => ?_) | skip)
  all_goals (try (cases g7; done))
  all_goals (refine CWops.run htt 1 (by simp only [go_sem, reduceIte, reduceCtorEq, reduceEqDiff, reduceAdd, reduceLT, reduceLeDiff, reduceToNat, reduceMul, reduceSub, Nat.reduceBEq, Int.reduceLE]; exact rfl) (by simp [go_sem, reduceIte, reduceCtorEq, reduceEqDiff, reduceAdd, reduceLT, reduceLeDiff, reduceToNat, reduceMul, reduceSub, Nat.reduceBEq, Int.reduceLE]) ?_)
  all_goals (first | (refine CWops.skip ?_ ?_; next => (simp only [go_sem, reduceIte, reduceCtorEq, reduceEqDiff, reduceAdd, reduceLT, reduceLeDiff, reduceToNat, reduceMul, reduceSub, Nat.reduceBEq, Int.reduceLE]; done)) | (refine CWops.callA (cmp_isNaN up y) (by simp only [go_sem, reduceIte, reduceCtorEq, reduceEqDiff, reduceAdd, reduceLT, reduceLeDiff, reduceToNat, reduceMul, reduceSub, Nat.reduceBEq, Int.reduceLE]) (by simp only [go_sem, reduceIte, reduceCtorEq, reduceEqDiff, reduceAdd, reduceLT, reduceLeDiff, reduceToNat, reduceMul, reduceSub, Nat.reduceBEq, Int.reduceLE]; first | done | exact rfl) (by simp only [go_sem, reduceIte, reduceCtorEq, reduceEqDiff, reduceAdd, reduceLT, reduceLeDiff, reduceToNat, reduceMul, reduceSub, Nat.reduceBEq, Int.reduceLE]) (by simp only [go_sem, reduceIte, reduceCtorEq, reduceEqDiff, reduceAdd, reduceLT, reduceLeDiff, reduceToNat, reduceMul, reduceSub, Nat.reduceBEq, Int.reduceLE]) (fun rt9 hrt9 => ?_); subst hrt9))
  all_goals (refine CWops.run htt 3 (by simp only [go_sem, reduceIte, reduceCtorEq, reduceEqDiff, reduceAdd, reduceLT, reduceLeDiff, reduceToNat, reduceMul, reduceSub, Nat.reduceBEq, Int.reduceLE]; exact rfl) (by simp [go_sem, reduceIte, reduceCtorEq, reduceEqDiff, reduceAdd, reduceLT, reduceLeDiff, reduceToNat, reduceMul, reduceSub, Nat.reduceBEq, Int.reduceLE]) ?_)
  all_goals (first | refine CWops.guard 12 (by simp only [go_sem, reduceIte, reduceCtorEq, reduceEqDiff, reduceAdd, reduceLT, reduceLeDiff, reduceToNat, reduceMul, reduceSub, Nat.reduceBEq, Int.reduceLE]; exact rfl) (fun g12 => ?_) (fun g12 => ?_) | skip)
  all_goals (try (cases g12; done))
  all_goals (refine CWops.run htt 5 (by simp only [go_sem, reduceIte, reduceCtorEq, reduceEqDiff, reduceAdd, reduceLT, reduceLeDiff, reduceToNat, reduceMul, reduceSub, Nat.reduceBEq, Int.reduceLE]; exact rfl) (by simp [go_sem, reduceIte, reduceCtorEq, reduceEqDiff, reduceAdd, reduceLT, reduceLeDiff, reduceToNat, reduceMul, reduceSub, Nat.reduceBEq, Int.reduceLE]) ?_)
  all_goals (refine CWops.done ?_)
  all_goals (
    refine CW.ret ?_
    refine retQ.ret (by simp only [f87, go_sem, reduceIte, reduceCtorEq, reduceEqDiff, reduceAdd, reduceLT, reduceLeDiff, reduceToNat, reduceMul, reduceSub, Nat.reduceBEq, Int.reduceLE]; exact rfl) (by simp only [go_sem, reduceIte, reduceCtorEq, reduceEqDiff, reduceAdd, reduceLT, reduceLeDiff, reduceToNat, reduceMul, reduceSub, Nat.reduceBEq, Int.reduceLE]; exact rfl) ?_ -- ret1
    refine ⟨_, ?_, rfl⟩
    simp [leP])
theorem insertionSort (up : Bool) (l : List Int) (hl : l.length < 1000) : GCallH prog up 132 [.ref 0 [] 0, .int .i64 0, .int .i64 l.length] 1 [(0, ⟨false, [.own 1 (l.map eI)]⟩)] [0] (fun _ σ' => ∃ m, σ'.n = 1 ∧ σ'.s = [(0, ⟨false, [.own 1 (m.map eI)]⟩)] ∧ Sorted l m) := by
  refine GCallH.intro htt 1 func132 (by kernel_rfl) rfl (Nat.le_of_ble_eq_true rfl) (CW.told ?_)
  have w1 : IntKind.i64.wrap ((0 : Int) + 1) = ((1 : Nat) : Int) := by decide
  simp only [tmps0, Nat.reduceAdd]
  refine CW.seq ?_
  refine CW.region (by kernel_rfl) (by kernel_rfl) ?_ -- r0
  refine CWops.run htt 3 (by simp only [go_sem, reduceIte, reduceCtorEq, reduceEqDiff, reduceAdd, reduceLT, reduceLeDiff, reduceToNat, reduceMul, reduceSub, Nat.reduceBEq, Int.reduceLE, w1]; exact rfl) (by simp [go_sem, reduceIte, reduceCtorEq, reduceEqDiff, reduceAdd, reduceLT, reduceLeDiff, reduceToNat, reduceMul, reduceSub, Nat.reduceBEq, Int.reduceLE, w1]) ?_
  refine CWops.done ?_
  refine CW.block ?_
  refine CW.loop (S := Nat × List Int) (fun p => ⟨1, [(0, .ref 0 [] 0), (1, .int .i64 0), (2, .int .i64 l.length), (6, .int .i64 p.1)], [(0, ⟨false, [.own 1 (p.2.map eI)]⟩)]⟩) (fun p => UpTo p.2 p.1 ∧ p.2.Perm l ∧ 1 ≤ p.1) (fun p => l.length - p.1) ((1, l)) ?_ ⟨fun p q x y h1 h2 => by omega, List.Perm.refl l, Nat.le_refl 1⟩ (fun ⟨i, m⟩ ⟨h1, h2, h3⟩ => ?_)
  · refine Sh.wk0 ?_; simp [Wk, go_sem, reduceIte, reduceCtorEq, reduceEqDiff, reduceAdd, reduceLT, reduceLeDiff, reduceToNat, reduceMul, reduceSub, Nat.reduceBEq, Int.reduceLE]
  refine CW.seq ?_
  refine CW.seq ?_
  refine CW.region (by kernel_rfl) (by kernel_rfl) ?_ -- r1
  refine CWops.run htt 3 (by simp only [go_sem, reduceIte, reduceCtorEq, reduceEqDiff, reduceAdd, reduceLT, reduceLeDiff, reduceToNat, reduceMul, reduceSub, Nat.reduceBEq, Int.reduceLE]; exact rfl) (by simp [go_sem, reduceIte, reduceCtorEq, reduceEqDiff, reduceAdd, reduceLT, reduceLeDiff, reduceToNat, reduceMul, reduceSub, Nat.reduceBEq, Int.reduceLE]) ?_
  refine CWops.done ?_
  refine CW.cond (by simp only [go_sem, reduceIte, reduceCtorEq, reduceEqDiff, reduceAdd, reduceLT, reduceLeDiff, reduceToNat, reduceMul, reduceSub, Nat.reduceBEq, Int.reduceLE]; first | done | exact rfl) (fun ct12 => ?_) (fun ct12 => ?_)
  · have hi : i < l.length := by simpa using ct12
    refine CW.skip ?_
    refine CW.seq ?_
    refine CW.block ?_
    refine CW.seq ?_
    refine CW.region (by kernel_rfl) (by kernel_rfl) ?_ -- r3
    refine CWops.run htt 2 (by simp only [go_sem, reduceIte, reduceCtorEq, reduceEqDiff, reduceAdd, reduceLT, reduceLeDiff, reduceToNat, reduceMul, reduceSub, Nat.reduceBEq, Int.reduceLE]; exact rfl) (by simp [go_sem, reduceIte, reduceCtorEq, reduceEqDiff, reduceAdd, reduceLT, reduceLeDiff, reduceToNat, reduceMul, reduceSub, Nat.reduceBEq, Int.reduceLE]) ?_
    refine CWops.done ?_
    refine CW.block ?_
    refine CW.loop (S := Nat × List Int) (fun p => ⟨1, [(0, .ref 0 [] 0), (1, .int .i64 0), (2, .int .i64 l.length), (6, .int .i64 i), (7, .int .i64 p.1)], [(0, ⟨false, [.own 1 (p.2.map eI)]⟩)]⟩) (fun p => Ins p.2 i p.1 ∧ p.2.Perm l ∧ p.1 ≤ i) (fun p => p.1) ((i, m)) ?_ ⟨Ins.start h1, h2, Nat.le_refl i⟩ (fun ⟨j, mm⟩ ⟨k1, k2, k3⟩ => ?_)
    · refine Sh.wk0 ?_; simp [Wk, go_sem, reduceIte, reduceCtorEq, reduceEqDiff, reduceAdd, reduceLT, reduceLeDiff, reduceToNat, reduceMul, reduceSub, Nat.reduceBEq, Int.reduceLE]
    refine CW.seq ?_
    refine CW.cut ⟨1, [(0, .ref 0 [] 0), (1, .int .i64 0), (2, .int .i64 l.length), (6, .int .i64 i), (7, .int .i64 j), (30, .bool (lessAt mm j))], [(0, ⟨false, [.own 1 (mm.map eI)]⟩)]⟩ ?_ ?_
    · have hml : mm.length = l.length := k2.length_eq
      simp only at k3
      obtain ⟨k, a, b, hjab⟩ : ∃ k a b, (j = 0 ∧ True ∧ True ∧ True ∧ True ∧ True) ∨ (j = k + 1 ∧ mm[k]? = some a ∧ mm[k + 1]? = some b ∧ IntKind.i64.wrap (((k + 1 : Nat) : Int) - 1) = (k : Int) ∧ k < mm.length ∧ k + 1 < mm.length) := by
        rcases j with _ | k
        · exact ⟨0, 0, 0, .inl ⟨rfl, trivial, trivial, trivial, trivial, trivial⟩⟩
        · exact ⟨k, mm[k], mm[k + 1], .inr ⟨rfl, List.getElem?_eq_getElem (by omega), List.getElem?_eq_getElem (by omega), by rw [wrap_id (by omega) (by omega)]; omega, by omega, by omega⟩⟩
      rcases hjab with ⟨rfl, ha, hb, hw, hja, hjb⟩ | ⟨rfl, ha, hb, hw, hja, hjb⟩
      all_goals (refine CW.drawn mixed 13 (by decide) (by kernel_rfl) (by kernel_rfl) (by kernel_rfl) ?_) -- r4
      all_goals (refine Seg.run htt 4 (by simp only [go_sem, reduceIte, reduceCtorEq, reduceEqDiff, reduceAdd, reduceLT, reduceLeDiff, reduceToNat, reduceMul, reduceSub, Nat.reduceBEq, Int.reduceLE, ha, hb, hw, hja, hjb, List.length_map, eI]; exact rfl) ?_)
      all_goals (first | refine Seg.guard 19 (by simp only [go_sem, reduceIte, reduceCtorEq, reduceEqDiff, reduceAdd, reduceLT, reduceLeDiff, reduceToNat, reduceMul, reduceSub, Nat.reduceBEq, Int.reduceLE, ha, hb, hw, hja, hjb, List.length_map, eI]; exact rfl) (fun g19 => ?_) (fun g19 => ?_) | skip)
      all_goals (first | (simp at g19; done) | (exfalso; simp at g19 <;> omega) | skip)
      all_goals (refine Seg.run htt 9 (by simp only [go_sem, reduceIte, reduceCtorEq, reduceEqDiff, reduceAdd, reduceLT, reduceLeDiff, reduceToNat, reduceMul, reduceSub, Nat.reduceBEq, Int.reduceLE, ha, hb, hw, hja, hjb, List.length_map, eI]; exact rfl) ?_)
      all_goals (refine Seg.done ?_)
      all_goals (first | (refine CWops.skip ?_ ?_; next => (simp only [go_sem, reduceIte, reduceCtorEq, reduceEqDiff, reduceAdd, reduceLT, reduceLeDiff, reduceToNat, reduceMul, reduceSub, Nat.reduceBEq, Int.reduceLE]; done)) | (refine CWops.callA (cmp_Less up b a) (by simp only [go_sem, reduceIte, reduceCtorEq, reduceEqDiff, reduceAdd, reduceLT, reduceLeDiff, reduceToNat, reduceMul, reduceSub, Nat.reduceBEq, Int.reduceLE, ha, hb, hw, hja, hjb, List.length_map, eI]) (by simp only [go_sem, reduceIte, reduceCtorEq, reduceEqDiff, reduceAdd, reduceLT, reduceLeDiff, reduceToNat, reduceMul, reduceSub, Nat.reduceBEq, Int.reduceLE, ha, hb, hw, hja, hjb, List.length_map, eI]; first | done | exact rfl) (by simp only [go_sem, reduceIte, reduceCtorEq, reduceEqDiff, reduceAdd, reduceLT, reduceLeDiff, reduceToNat, reduceMul, reduceSub, Nat.reduceBEq, Int.reduceLE, ha, hb, hw, hja, hjb, List.length_map, eI]) (by simp only [go_sem, reduceIte, reduceCtorEq, reduceEqDiff, reduceAdd, reduceLT, reduceLeDiff, reduceToNat, reduceMul, reduceSub, Nat.reduceBEq, Int.reduceLE, ha, hb, hw, hja, hjb, List.length_map, eI]) (fun rt29 hrt29 => ?_); subst hrt29))
      all_goals (refine CWops.run htt 1 (by simp only [go_sem, reduceIte, reduceCtorEq, reduceEqDiff, reduceAdd, reduceLT, reduceLeDiff, reduceToNat, reduceMul, reduceSub, Nat.reduceBEq, Int.reduceLE, ha, hb, hw, hja, hjb, List.length_map, eI]; exact rfl) (by simp [go_sem, reduceIte, reduceCtorEq, reduceEqDiff, reduceAdd, reduceLT, reduceLeDiff, reduceToNat, reduceMul, reduceSub, Nat.reduceBEq, Int.reduceLE, ha, hb, hw, hja, hjb, List.length_map, eI]) ?_)
      all_goals (refine CWops.done ?_)
      all_goals (
        first | refine ⟨rfl, Sh.wk0 ?_⟩ | refine Sh.wk0 ?_
        first | (simp [Wk, go_sem, reduceIte, reduceCtorEq, reduceEqDiff, reduceAdd, reduceLT, reduceLeDiff, reduceToNat, reduceMul, reduceSub, Nat.reduceBEq, Int.reduceLE, lessAt]; done) | (simp [Wk, go_sem, reduceIte, reduceCtorEq, reduceEqDiff, reduceAdd, reduceLT, reduceLeDiff, reduceToNat, reduceMul, reduceSub, Nat.reduceBEq, Int.reduceLE, lessAt, ha, hb]; done) | skip)
    refine CW.cond (by simp only [go_sem, reduceIte, reduceCtorEq, reduceEqDiff, reduceAdd, reduceLT, reduceLeDiff, reduceToNat, reduceMul, reduceSub, Nat.reduceBEq, Int.reduceLE]; first | done | exact rfl) (fun ct30 => ?_) (fun ct30 => ?_)
    · obtain ⟨j, a, b, rfl, ha, hb, hab⟩ := lessAt_true ct30
      have hw : IntKind.i64.wrap (((j + 1 : Nat) : Int) - 1) = (j : Int) := by rw [wrap_id (by omega) (by omega)]; omega
      have hja := (List.getElem?_eq_some_iff.1 ha).1
      have hjb := (List.getElem?_eq_some_iff.1 hb).1
      have hr2 : ((List.map eI mm).set (j + 1) [AV.int .i64 a])[j]? = some [AV.int .i64 a] := by rw [List.getElem?_set_ne (by omega), List.getElem?_map, ha]; rfl
      refine CW.skip ?_
      refine CW.seq ?_
      refine CW.block ?_
      refine CW.drawnF mixed 15 16 [2, 3, 4] (D := [35, 36, 37]) (by decide) (by decide) (by kernel_rfl) (by kernel_rfl) rfl (by kernel_rfl) (by kernel_rfl) ?_ -- r6
      refine Seg.run htt 15 (by simp only [go_sem, reduceIte, reduceCtorEq, reduceEqDiff, reduceAdd, reduceLT, reduceLeDiff, reduceToNat, reduceMul, reduceSub, Nat.reduceBEq, Int.reduceLE, ha, hb, hw, hja, hjb, List.length_map, eI, hr2, List.length_set]; exact rfl) ?_
      refine Seg.done ?_
      refine Mid.sto htt (Flo.cons htt rfl rfl (by simp only [go_sem, reduceIte, reduceCtorEq, reduceEqDiff, reduceAdd, reduceLT, reduceLeDiff, reduceToNat, reduceMul, reduceSub, Nat.reduceBEq, Int.reduceLE, ha, hb, hw, hja, hjb, List.length_map, eI, hr2, List.length_set]; first | done | exact rfl) (Flo.cons htt rfl rfl (by simp only [go_sem, reduceIte, reduceCtorEq, reduceEqDiff, reduceAdd, reduceLT, reduceLeDiff, reduceToNat, reduceMul, reduceSub, Nat.reduceBEq, Int.reduceLE, ha, hb, hw, hja, hjb, List.length_map, eI, hr2, List.length_set]; first | done | exact rfl) (Flo.cons htt rfl rfl (by simp only [go_sem, reduceIte, reduceCtorEq, reduceEqDiff, reduceAdd, reduceLT, reduceLeDiff, reduceToNat, reduceMul, reduceSub, Nat.reduceBEq, Int.reduceLE, ha, hb, hw, hja, hjb, List.length_map, eI, hr2, List.length_set]; first | done | exact rfl) (Flo.nil)))) (fun u => by simp only [go_sem, reduceIte, reduceCtorEq, reduceEqDiff, reduceAdd, reduceLT, reduceLeDiff, reduceToNat, reduceMul, reduceSub, Nat.reduceBEq, Int.reduceLE, ha, hb, hw, hja, hjb, List.length_map, eI, hr2, List.length_set]; exact rfl) ?_
      refine Mid.done (Flo.cons htt rfl rfl (by simp only [go_sem, reduceIte, reduceCtorEq, reduceEqDiff, reduceAdd, reduceLT, reduceLeDiff, reduceToNat, reduceMul, reduceSub, Nat.reduceBEq, Int.reduceLE, ha, hb, hw, hja, hjb, List.length_map, eI, hr2, List.length_set]; first | done | exact rfl) (Flo.cons htt rfl rfl (by simp only [go_sem, reduceIte, reduceCtorEq, reduceEqDiff, reduceAdd, reduceLT, reduceLeDiff, reduceToNat, reduceMul, reduceSub, Nat.reduceBEq, Int.reduceLE, ha, hb, hw, hja, hjb, List.length_map, eI, hr2, List.length_set]; first | done | exact rfl) (Flo.cons htt rfl rfl (by simp only [go_sem, reduceIte, reduceCtorEq, reduceEqDiff, reduceAdd, reduceLT, reduceLeDiff, reduceToNat, reduceMul, reduceSub, Nat.reduceBEq, Int.reduceLE, ha, hb, hw, hja, hjb, List.length_map, eI, hr2, List.length_set]; first | done | exact rfl) (Flo.nil)))) ?_
      refine CWops.run htt 2 (by simp only [go_sem, reduceIte, reduceCtorEq, reduceEqDiff, reduceAdd, reduceLT, reduceLeDiff, reduceToNat, reduceMul, reduceSub, Nat.reduceBEq, Int.reduceLE, ha, hb, hw, hja, hjb, List.length_map, eI, hr2, List.length_set]; exact rfl) (by simp [go_sem, reduceIte, reduceCtorEq, reduceEqDiff, reduceAdd, reduceLT, reduceLeDiff, reduceToNat, reduceMul, reduceSub, Nat.reduceBEq, Int.reduceLE, ha, hb, hw, hja, hjb, List.length_map, eI, hr2, List.length_set]) ?_
      refine CWops.done ?_
      refine CW.region (by kernel_rfl) (by kernel_rfl) ?_ -- r5
      refine CWops.run htt 3 (by simp only [go_sem, reduceIte, reduceCtorEq, reduceEqDiff, reduceAdd, reduceLT, reduceLeDiff, reduceToNat, reduceMul, reduceSub, Nat.reduceBEq, Int.reduceLE, hw]; exact rfl) (by simp [go_sem, reduceIte, reduceCtorEq, reduceEqDiff, reduceAdd, reduceLT, reduceLeDiff, reduceToNat, reduceMul, reduceSub, Nat.reduceBEq, Int.reduceLE, hw]) ?_
      refine CWops.done ?_
      refine ⟨(j, swp mm j a b), ?_, ?_, ?_⟩
      · refine Sh.wk0 ?_; simp [Wk, go_sem, reduceIte, reduceCtorEq, reduceEqDiff, reduceAdd, reduceLT, reduceLeDiff, reduceToNat, reduceMul, reduceSub, Nat.reduceBEq, Int.reduceLE, swp, set_I]; first | done | rfl
      · exact ⟨k1.step k3 ha hb hab, (swp_perm ha hb).trans k2, by simp only at k3 ⊢; omega⟩
      · simp only; omega
    · refine CW.exit ?_
      refine CW.region (by kernel_rfl) (by kernel_rfl) ?_ -- r2
      refine CWops.run htt 3 (by simp only [go_sem, reduceIte, reduceCtorEq, reduceEqDiff, reduceAdd, reduceLT, reduceLeDiff, reduceToNat, reduceMul, reduceSub, Nat.reduceBEq, Int.reduceLE, wrap_succ (show i < MX by unfold MX; omega)]; exact rfl) (by simp [go_sem, reduceIte, reduceCtorEq, reduceEqDiff, reduceAdd, reduceLT, reduceLeDiff, reduceToNat, reduceMul, reduceSub, Nat.reduceBEq, Int.reduceLE, wrap_succ (show i < MX by unfold MX; omega)]) ?_
      refine CWops.done ?_
      refine ⟨(i + 1, mm), ?_, ?_, ?_⟩
      · refine Sh.wk0 ?_; simp [Wk, go_sem, reduceIte, reduceCtorEq, reduceEqDiff, reduceAdd, reduceLT, reduceLeDiff, reduceToNat, reduceMul, reduceSub, Nat.reduceBEq, Int.reduceLE]
      · exact ⟨lessAt_false ct30 k1 k3 (by rw [k2.length_eq]; exact hi), k2, by simp only; omega⟩
      · simp only; omega
  · have hi : l.length ≤ i := by simpa using ct12
    refine CW.exit ?_
    refine ⟨⟨1, [(0, .ref 0 [] 0)], [(0, ⟨false, [.own 1 (m.map eI)]⟩)]⟩, ?_, .inl rfl, ⟨by simp [ptrOK, go_sem, reduceIte, reduceCtorEq, reduceEqDiff, reduceAdd, reduceLT, reduceLeDiff, reduceToNat, reduceMul, reduceSub, Nat.reduceBEq, Int.reduceLE], (by refine ⟨⟨0, by decide, rfl, by simp only [go_sem, reduceIte, reduceCtorEq, reduceEqDiff, reduceAdd, reduceLT, reduceLeDiff, reduceToNat, reduceMul, reduceSub, Nat.reduceBEq, Int.reduceLE], rfl⟩, trivial⟩)⟩, _, by simp only [f132, go_sem, reduceIte, reduceCtorEq, reduceEqDiff, reduceAdd, reduceLT, reduceLeDiff, reduceToNat, reduceMul, reduceSub, Nat.reduceBEq, Int.reduceLE]; exact rfl, ?_⟩ -- end
    · refine Sh.wk0 ?_
      simp [Wk, go_sem, reduceIte, reduceCtorEq, reduceEqDiff, reduceAdd, reduceLT, reduceLeDiff, reduceToNat, reduceMul, reduceSub, Nat.reduceBEq, Int.reduceLE]
    · exact ⟨m, rfl, rfl, upTo_pairwise (fun p q x y a b => h1 p q x y a (by rw [h2.length_eq] at b; omega)), h2⟩
end Go.Ab
namespace Go.Ab
open Go Go.Proofs.Tryz
set_option maxRecDepth 100000
set_option linter.unusedSimpArgs false
set_option linter.unusedVariables false
theorem bits_Len64 (up : Bool) (n : Nat) (hn : n < 256) : PCall prog up 111 [.int .u64 n] (fun r => ∃ m : Int, r = .int .i64 m) := by
  refine PCall.intro htt func111 (by kernel_rfl) rfl (Nat.le_of_ble_eq_true rfl) fun hl => ?_
  have hwu : IntKind.u8.wrap (n : Int) = (n : Int) := by
    simp only [IntKind.wrap, IntKind.bits, IntKind.signed]
    simp
    omega
  have hMX : (256 ≤ MX) = True := eq_true (by decide)
  simp only [tmps0, Nat.reduceAdd]
  refine CW.seq ?_
  refine CW.rg ?_
  refine CWops.rn htt 1 ?_
  refine CWops.done ?_
  refine CW.seq ?_
  refine CW.seq ?_
  refine CW.rg ?_
  refine CWops.rn htt 2 ?_
  refine CWops.done ?_
  refine CW.cond (by simp only [go_sem, simprocAttr]; first | done | exact rfl) (fun ct4 => ?_) (fun ct4 => ?_)
  · exfalso; simp at ct4; omega 
  · refine CW.skip ?_
    refine CW.seq ?_
    refine CW.seq ?_
    refine CW.rg ?_
    refine CWops.rn htt 2 ?_
    refine CWops.done ?_
    refine CW.cond (by simp only [go_sem, simprocAttr]; first | done | exact rfl) (fun ct8 => ?_) (fun ct8 => ?_)
    · exfalso; simp at ct8; omega 
    · refine CW.skip ?_
      refine CW.seq ?_
      refine CW.seq ?_
      refine CW.rg ?_
      refine CWops.rn htt 2 ?_
      refine CWops.done ?_
      refine CW.cond (by simp only [go_sem, simprocAttr]; first | done | exact rfl) (fun ct14 => ?_) (fun ct14 => ?_)
      · exfalso; simp at ct14; omega 
      · refine CW.skip ?_
        refine CW.seq ?_
        refine CW.rg ?_
        refine CWops.rn htt 2 ?_
        refine CWops.conv (n := (n : Int)) (k := .u64) (k' := .u8) htt (by simp only [go_sem, simprocAttr]) tt_141 rfl tt_5 rfl (by simp only [go_sem, simprocAttr]) ?_
        rw [hwu]
        refine CWops.strAt (q := n) (k := .u8) htt (by simp only [go_sem, simprocAttr]) tt_9 rfl (by simp only [go_sem, simprocAttr, hMX]; first | done | exact rfl) (by simp only [go_sem, simprocAttr]) (by exact hn) (fun c => ?_)
        refine CWops.conv (n := (c.toNat : Int)) (k := .u8) (k' := .i64) htt (by simp only [go_sem, simprocAttr]) tt_5 rfl tt_3 rfl (by simp only [go_sem, simprocAttr]) ?_
        refine CWops.rn htt 2 ?_
        refine CWops.done ?_
        refine CW.ret ?_
        refine retQ.ret (by simp only [f111, go_sem, simprocAttr]; exact rfl) (by simp only [go_sem, simprocAttr]; exact rfl) ?_ -- ret1
        exact ⟨_, leP_refl _, _, rfl⟩
theorem bits_Len (up : Bool) (n : Nat) (hn : n < 256) : PCall prog up 75 [.int .u64 n] (fun r => ∃ m : Int, r = .int .i64 m) := by
  refine PCall.intro htt func75 (by kernel_rfl) rfl (Nat.le_of_ble_eq_true rfl) fun hl => ?_

  simp only [tmps0, Nat.reduceAdd]
  refine CW.seq ?_
  refine CW.rg ?_
  refine CWops.rn htt 1 ?_
  refine CWops.done ?_
  refine CW.seq ?_
  refine CW.cond (by simp only [go_sem, simprocAttr]; first | done | exact rfl) (fun cK => ?_) (fun cK => ?_)
  · cases cK 
  · refine CW.skip ?_
    refine CW.seq ?_
    refine CW.rg ?_
    refine CWops.rn htt 1 ?_
    refine CWops.callA (bits_Len64 up n hn) (by simp only [go_sem, simprocAttr]) (by simp only [go_sem, simprocAttr]; first | done | exact rfl) (by simp only [go_sem, simprocAttr]) (by simp only [go_sem, simprocAttr]) (fun rt7 hrt7 => ?_)
    obtain ⟨m7, rfl⟩ := hrt7
    refine CWops.rn htt 1 ?_
    refine CWops.done ?_
    refine CW.ret ?_
    refine retQ.ret (by simp only [f75, go_sem, simprocAttr]; exact rfl) (by simp only [go_sem, simprocAttr]; exact rfl) ?_ -- ret1
    exact ⟨_, leP_refl _, _, rfl⟩
theorem pdqsort (up : Bool) (l : List Int) (lim : Int) (hl : l.length < 13) : GCallH prog up 114 [.ref 0 [] 0, .int .i64 0, .int .i64 l.length, .int .i64 lim] 1 [(0, ⟨false, [.own 1 (l.map eI)]⟩)] [0] (fun _ σ' => ∃ m, σ'.n = 1 ∧ σ'.s = [(0, ⟨false, [.own 1 (m.map eI)]⟩)] ∧ Sorted l m) := by
  refine GCallH.intro htt 1 func114 (by kernel_rfl) rfl (Nat.le_of_ble_eq_true rfl) (CW.told ?_)
  have hw : IntKind.i64.wrap ((l.length : Int) - 0) = (l.length : Int) := by rw [wrap_id (by omega) (by omega)]; omega
  simp only [tmps0, Nat.reduceAdd]
  refine CW.seq ?_
  refine CW.rg ?_
  refine CWops.rn htt 1 ?_
  refine CWops.done ?_
  refine CW.seq ?_
  refine CW.rg ?_
  refine CWops.rn htt 1 ?_
  refine CWops.done ?_
  refine CW.block ?_
  refine CW.loop (S := Unit) (fun u => ⟨1, [(0, .ref 0 [] 0), (1, .int .i64 0), (2, .int .i64 l.length)], [(0, ⟨false, [.own 1 (l.map eI)]⟩)]⟩) (fun u => True) (fun u => 0) (()) ?_ trivial (fun _ _ => ?_)
  · refine Sh.wk0 ?_; simp [Wk, go_sem, simprocAttr]
  refine CW.block ?_
  refine CW.seq ?_
  refine CW.rg ?_
  refine CWops.run htt 4 (by simp only [go_sem, simprocAttr, hw]; exact rfl) (by simp [go_sem, simprocAttr, hw]) ?_
  refine CWops.done ?_
  refine CW.seq ?_
  refine CW.seq ?_
  refine CW.rg ?_
  refine CWops.rn htt 2 ?_
  refine CWops.done ?_
  refine CW.cond (by simp only [go_sem, simprocAttr]; first | done | exact rfl) (fun ct23 => ?_) (fun ct23 => ?_)
  · refine CW.seq ?_
    refine CW.rg ?_
    refine CWops.rn htt 3 ?_
    refine CWops.callGH [0] rfl (insertionSort up l (by omega)) (by decide) (by simp only [go_sem, simprocAttr]) (by simp only [go_sem, simprocAttr]; first | done | exact rfl) (by decide) (by simp [go_sem, simprocAttr, mName, memB]) (by simp [go_sem, simprocAttr, mName]) (by simp [go_sem, simprocAttr]) (by simp [go_sem, simprocAttr]) (by simp [go_sem, simprocAttr, mName]) (fun r σ' hσ => ?_)
    obtain ⟨σn, σt, σs⟩ := σ'
    simp only at hσ
    obtain ⟨m, rfl, rfl, hm2⟩ := hσ
    simp only [aftH, renS, List.map_cons, List.map_nil, delAll, memB, mName, List.getD_nil, killH, kref, ren, Nat.beq_eq, go_sem, simprocAttr]
    refine CWops.done ?_
    refine CW.ret ?_
    refine ⟨⟨1, [(0, .ref 0 [] 0)], [(0, ⟨false, [.own 1 (m.map eI)]⟩)]⟩, ?_, .inr rfl, ⟨by simp [ptrOK, go_sem, simprocAttr], (by refine ⟨⟨0, by decide, rfl, by simp only [go_sem, simprocAttr], rfl⟩, trivial⟩)⟩, _, by simp only [f114, go_sem, simprocAttr]; exact rfl, ?_⟩ -- ret1
    · refine Sh.wk0 ?_
      simp [Wk, go_sem, simprocAttr]
    · exact ⟨m, rfl, rfl, hm2⟩
  · exfalso; simp at ct23; omega
theorem slices_Sort (up : Bool) (l : List Int) (hl : l.length < 13) : GCallH prog up 82 [.ref 0 [] 0] 1 [(0, ⟨false, [.own 1 (l.map eI)]⟩)] [0] (fun _ σ' => ∃ m, σ'.n = 1 ∧ σ'.s = [(0, ⟨false, [.own 1 (m.map eI)]⟩)] ∧ Sorted l m) := by
  refine GCallH.intro htt 1 func82 (by kernel_rfl) rfl (Nat.le_of_ble_eq_true rfl) (CW.told ?_)
  have hw : IntKind.u64.wrap (l.length : Int) = (l.length : Int) := by
    simp only [IntKind.wrap, IntKind.bits, IntKind.signed]
    simp
    omega
  simp only [tmps0, Nat.reduceAdd]
  refine CW.seq ?_
  refine CW.rg ?_
  refine CWops.rn htt 3 ?_
  refine CWops.done ?_
  refine CW.rg ?_
  refine CWops.rn htt 3 ?_
  refine CWops.conv (n := (l.length : Int)) (k := .i64) (k' := .u64) htt (by simp only [go_sem, simprocAttr]) tt_3 rfl tt_112 rfl (by simp only [go_sem, simprocAttr, List.length_map]; first | done | exact rfl) ?_
  rw [hw]
  refine CWops.callA (bits_Len up l.length (by omega)) (by simp only [go_sem, simprocAttr]) (by simp only [go_sem, simprocAttr]; first | done | exact rfl) (by simp only [go_sem, simprocAttr]) (by simp only [go_sem, simprocAttr]) (fun rt9 hrt9 => ?_)
  obtain ⟨lim, rfl⟩ := hrt9
  refine CWops.callGH [0] rfl (pdqsort up l lim hl) (by decide) (by simp only [go_sem, simprocAttr]) (by simp only [go_sem, simprocAttr]; first | done | exact rfl) (by decide) (by simp [go_sem, simprocAttr, mName, memB]) (by simp [go_sem, simprocAttr, mName]) (by simp [go_sem, simprocAttr]) (by simp [go_sem, simprocAttr]) (by simp [go_sem, simprocAttr, mName]) (fun r σ' hσ => ?_)
  obtain ⟨σn, σt, σs⟩ := σ'
  simp only at hσ
  obtain ⟨m, rfl, rfl, hm2⟩ := hσ
  simp only [aftH, renS, List.map_cons, List.map_nil, delAll, memB, mName, List.getD_nil, killH, kref, ren, Nat.beq_eq, go_sem, simprocAttr]
  refine CWops.done ?_
  refine ⟨⟨1, [(0, .ref 0 [] 0)], [(0, ⟨false, [.own 1 (m.map eI)]⟩)]⟩, ?_, .inl rfl, ⟨by simp [ptrOK, go_sem, simprocAttr], (by refine ⟨⟨0, by decide, rfl, by simp only [go_sem, simprocAttr], rfl⟩, trivial⟩)⟩, _, by simp only [f82, go_sem, simprocAttr]; exact rfl, ?_⟩ -- end
  · refine Sh.wk0 ?_
    simp [Wk, go_sem, simprocAttr]
  · exact ⟨m, rfl, rfl, hm2⟩
end Go.Ab
namespace Go.Ab
open Go Go.Proofs.Tryz
set_option maxRecDepth 100000
set_option linter.unusedSimpArgs false
set_option linter.unusedVariables false
@[go_sem] theorem tt_117 : tiOf prog 117 = some ⟨.func, 1, 8, [.nilfunc], false⟩ := by kernel_rfl
theorem come_in (up : Bool) (g : Graph) (l : List Int) (id : Int) (hin : id = -1 ∨ id ∈ l) : GCall prog up 81 [.int .i64 id, .lv 0 [] 0, .lv 1 [] 0, .lv 2 [] 0, .lv 3 [] 0] 4 [(0, ⟨true, [.omap (wasMap (l))]⟩), (1, ⟨true, [.own 1 (List.map eI (l))]⟩), (2, ⟨true, eGraph g⟩), (3, ⟨true, [.func (.func 81) [] [.lv 0 [] 0, .lv 1 [] 0, .lv 2 [] 0, .lv 3 [] 0]]⟩)] (fun _ σ' => ∃ t, σ' = ⟨4, t, [(0, ⟨true, [.omap (wasMap (l))]⟩), (1, ⟨true, [.own 1 (List.map eI (l))]⟩), (2, ⟨true, eGraph g⟩), (3, ⟨true, [.func (.func 81) [] [.lv 0 [] 0, .lv 1 [] 0, .lv 2 [] 0, .lv 3 [] 0]]⟩)]⟩) := by
  refine GCall.intro htt 5 func81 (by kernel_rfl) rfl (Nat.le_of_ble_eq_true rfl) (CW.told ?_)

  simp only [tmps0, Nat.reduceAdd]
  refine CW.seq ?_
  refine CW.seq ?_
  refine CW.rg ?_
  refine CWops.run htt 3 (by simp only [go_sem, simprocAttr, maplk_was, if_pos hin]; exact rfl) (by simp [go_sem, simprocAttr, maplk_was, if_pos hin]) ?_
  refine CWops.done ?_
  refine CW.cond (by simp only [go_sem, simprocAttr]; first | done | exact rfl) (fun ct11 => ?_) (fun ct11 => ?_)
  · refine CW.ret ?_
    refine ⟨⟨4, [(0, .int .i64 id), (1, .lv 0 [] 0), (2, .lv 1 [] 0), (3, .lv 2 [] 0), (4, .lv 3 [] 0)], [(0, ⟨true, [.omap (wasMap (l))]⟩), (1, ⟨true, [.own 1 (List.map eI (l))]⟩), (2, ⟨true, eGraph g⟩), (3, ⟨true, [.func (.func 81) [] [.lv 0 [] 0, .lv 1 [] 0, .lv 2 [] 0, .lv 3 [] 0]]⟩)]⟩, ?_, .inr rfl, by (simp [ptrOK, go_sem, simprocAttr]; exact ⟨⟨1, by simp⟩, ⟨2, by simp⟩, ⟨3, by simp⟩, ⟨4, by simp⟩⟩), _, by simp only [f81, go_sem, simprocAttr]; exact rfl, ?_⟩ -- ret1
    · refine Sh.wk0 ?_
      simp [Wk, go_sem, simprocAttr, ex_func, SubL, Sub, eGraph]
    · exact ⟨_, rfl⟩
  · cases ct11
theorem come_out (up : Bool) (g : Graph) (hm : May g) (n : Nat) (ih : ∀ (l : List Int) (id : Int), Good g l → rootB g id = true → g.O.length < n + l.length → GCall prog up 81 [.int .i64 id, .lv 0 [] 0, .lv 1 [] 0, .lv 2 [] 0, .lv 3 [] 0] 4 [(0, ⟨true, [.omap (wasMap (l))]⟩), (1, ⟨true, [.own 1 (List.map eI (l))]⟩), (2, ⟨true, eGraph g⟩), (3, ⟨true, [.func (.func 81) [] [.lv 0 [] 0, .lv 1 [] 0, .lv 2 [] 0, .lv 3 [] 0]]⟩)] (fun _ σ' => ∃ t, σ' = ⟨4, t, [(0, ⟨true, [.omap (wasMap (dfs g n l id))]⟩), (1, ⟨true, [.own 1 (List.map eI (dfs g n l id))]⟩), (2, ⟨true, eGraph g⟩), (3, ⟨true, [.func (.func 81) [] [.lv 0 [] 0, .lv 1 [] 0, .lv 2 [] 0, .lv 3 [] 0]]⟩)]⟩)) (l : List Int) (id : Int) (hg : Good g l) (hr : rootB g id = true) (hn : g.O.length < n + 1 + l.length) (hno : ¬ (id = -1 ∨ id ∈ l)) : GCall prog up 81 [.int .i64 id, .lv 0 [] 0, .lv 1 [] 0, .lv 2 [] 0, .lv 3 [] 0] 4 [(0, ⟨true, [.omap (wasMap (l))]⟩), (1, ⟨true, [.own 1 (List.map eI (l))]⟩), (2, ⟨true, eGraph g⟩), (3, ⟨true, [.func (.func 81) [] [.lv 0 [] 0, .lv 1 [] 0, .lv 2 [] 0, .lv 3 [] 0]]⟩)] (fun _ σ' => ∃ t, σ' = ⟨4, t, [(0, ⟨true, [.omap (wasMap (dfs g (n + 1) l id))]⟩), (1, ⟨true, [.own 1 (List.map eI (dfs g (n + 1) l id))]⟩), (2, ⟨true, eGraph g⟩), (3, ⟨true, [.func (.func 81) [] [.lv 0 [] 0, .lv 1 [] 0, .lv 2 [] 0, .lv 3 [] 0]]⟩)]⟩) := by
  refine GCall.intro htt 5 func81 (by kernel_rfl) rfl (Nat.le_of_ble_eq_true rfl) (CW.told ?_)
  have ho := hm.o
  have hgl := hg.len
  have hg2 : Good g (l ++ [id]) := by
    have := hg.meet hr
    unfold meet at this
    rwa [if_neg hno] at this
  have hty : (typ g.O id).isSome = true := hg2.ids id (by simp)
  obtain ⟨p, ⟨oi, oT, oF⟩, hp, e1, hF1, hA, _⟩ := hm.find hty
  unfold gFind at hF1
  obtain ⟨_, t, hT, hmo⟩ := hm.objT hp
  obtain ⟨q, rfl⟩ := Int.eq_ofNat_of_zero_le (show 0 ≤ oT from hmo.t0)
  have ht : g.S[q]? = some t := by simpa using hmo.at_
  have hlen : oF.length = t.F.length := hmo.len
  have h5 := hm.small.2.1 t (List.mem_of_getElem? ht)
  have hpl := (List.getElem?_eq_some_iff.1 hp).1
  have hql := (List.getElem?_eq_some_iff.1 ht).1
  have hrefs : refsOf g id = refsZ (t.F.zip oF) := by unfold refsOf; rw [hA]; simp only [refsO, hT]
  simp only [tmps0, Nat.reduceAdd]
  refine CW.seq ?_
  refine CW.seq ?_
  refine CW.rg ?_
  refine CWops.run htt 3 (by simp only [go_sem, simprocAttr, maplk_was, if_neg hno]; exact rfl) (by simp [go_sem, simprocAttr, maplk_was, if_neg hno]) ?_
  refine CWops.done ?_
  refine CW.cond (by simp only [go_sem, simprocAttr]; first | done | exact rfl) (fun ct11 => ?_) (fun ct11 => ?_)
  · cases ct11 
  · refine CW.skip ?_
    refine CW.seq ?_
    refine CW.rg ?_
    refine CWops.run htt 3 (by simp only [go_sem, simprocAttr, was_put hno]; exact rfl) (by simp [was_len, MX]; omega) ?_
    refine CWops.done ?_
    refine CW.seq ?_
    refine CW.rg ?_
    refine CWops.run htt 5 (by simp only [go_sem, simprocAttr, List.replicate]; exact rfl) (by simp [AV.cell, AV.tree, eI, MX]; omega) ?_
    refine CWops.done ?_
    refine CW.seq ?_
    refine CW.drawn mixed 8 (by decide) (by kernel_rfl) (by kernel_rfl) (by kernel_rfl) ?_
    refine Seg.run htt 4 (by simp only [go_sem, simprocAttr, eGraph, hF1, hp, eObj, hpl]; exact rfl) ?_
    refine Seg.call (graph_Find up g id) (by simp only [go_sem, simprocAttr, eGraph, hF1, hp, eObj, hpl]) (by simp only [go_sem, simprocAttr, eGraph, hF1, hp, eObj, hpl]; first | done | exact rfl) (by simp only [go_sem, simprocAttr, eGraph, hF1, hp, eObj, hpl]) (by simp only [go_sem, simprocAttr, eGraph, hF1, hp, eObj, hpl]) rfl ?_
    refine Seg.run htt 3 (by simp only [go_sem, simprocAttr, eGraph, hF1, hp, eObj, hpl]; exact rfl) ?_
    refine Seg.done ?_
    refine CWops.run htt 1 (by simp only [go_sem, simprocAttr, eGraph, hF1, hp, eObj, hpl]; exact rfl) (by simp [go_sem, simprocAttr, eGraph, hF1, hp, eObj, hpl]) ?_
    refine CWops.done ?_
    refine CW.seq ?_
    refine CW.rg ?_
    refine CWops.run htt 10 (by simp only [go_sem, simprocAttr, eGraph, ht, eType, hql, eObj]; exact rfl) (by simp [go_sem, simprocAttr, eGraph, ht, eType, hql, eObj]) ?_
    refine CWops.done ?_
    refine CW.block ?_
    refine CW.loop (S := Nat) (fun k => ⟨7, [(0, .int .i64 id), (1, .lv 0 [] 0), (2, .lv 1 [] 0), (3, .lv 2 [] 0), (4, .lv 3 [] 0), (6, .lv 6 [] 0), (32, .sl 3 (t.F.map eField)), (33, .int .i64 t.F.length), (34, .int .i64 k)], [(0, ⟨true, [.omap (wasMap ((refsZ ((t.F.zip oF).take k)).foldl (dfs g n) (l ++ [id])))]⟩), (1, ⟨true, [.own 1 (List.map eI ((refsZ ((t.F.zip oF).take k)).foldl (dfs g n) (l ++ [id])))]⟩), (2, ⟨true, eGraph g⟩), (3, ⟨true, [.func (.func 81) [] [.lv 0 [] 0, .lv 1 [] 0, .lv 2 [] 0, .lv 3 [] 0]]⟩), (6, ⟨true, eObj ⟨oi, q, oF⟩⟩)]⟩) (fun k => k ≤ t.F.length ∧ Step g (l ++ [id]) (refsZ ((t.F.zip oF).take k)) ((refsZ ((t.F.zip oF).take k)).foldl (dfs g n) (l ++ [id]))) (fun k => t.F.length - k) (0) ?_ ⟨Nat.zero_le _, by simpa [refsZ] using Step.nil hg2⟩ (fun k ⟨k1, k2⟩ => ?_)
    · refine Sh.wk0 ?_; simp [Wk, go_sem, simprocAttr, ex_func, SubL, Sub, eGraph, eObj, refsZ, eI]
    refine CW.seq ?_
    refine CW.rg ?_
    refine CWops.rn htt 1 ?_
    refine CWops.done ?_
    refine CW.seq ?_
    refine CW.cond (by simp only [go_sem, simprocAttr]; first | done | exact rfl) (fun ct35 => ?_) (fun ct35 => ?_)
    · have hk : k < t.F.length := by simpa using ct35
      have hko : k < oF.length := by omega
      obtain ⟨v, hv⟩ : ∃ v, oF[k]? = some v := ⟨oF[k], List.getElem?_eq_getElem hko⟩
      obtain ⟨f, hf⟩ : ∃ f, t.F[k]? = some f := ⟨t.F[k], List.getElem?_eq_getElem (by omega)⟩
      have hz : (t.F.zip oF)[k]? = some (f, v) := List.getElem?_zip_eq_some.2 ⟨hf, hv⟩
      refine CW.skip ?_
      refine CW.seq ?_
      refine CW.block ?_
      refine CW.seq ?_
      refine CW.rg ?_
      refine CWops.run htt 6 (by simp only [go_sem, simprocAttr, hf, hk, eField]; exact rfl) (by simp [go_sem, simprocAttr, hf, hk, eField]) ?_
      refine CWops.done ?_
      refine CW.seq ?_
      refine CW.rg ?_
      refine CWops.run htt 3 (by simp only [go_sem, simprocAttr, eField]; exact rfl) (by simp [go_sem, simprocAttr, eField]) ?_
      refine CWops.done ?_
      refine CW.cond (by simp only [go_sem, simprocAttr]; first | done | exact rfl) (fun ct41 => ?_) (fun ct41 => ?_)
      · have hk5 : f.Kind = 5 := by simpa using ct41
        refine CW.drawn mixed 7 (by decide) (by kernel_rfl) (by kernel_rfl) (by kernel_rfl) ?_
        refine Seg.run htt 7 (by simp only [go_sem, simprocAttr, eObj, hv, hko, eVal]; exact rfl) ?_
        refine Seg.done ?_
        refine CWops.callG [0, 1, 2, 3] rfl (ih ((refsZ ((t.F.zip oF).take k)).foldl (dfs g n) (l ++ [id])) v.R k2.good (hmo.ref hf hv hk5) (by obtain ⟨s, hs⟩ := k2.pre; rw [hs]; simp; omega)) (by simp only [go_sem, simprocAttr]) (by simp only [go_sem, simprocAttr]; first | done | exact rfl) (by decide) (by simp [go_sem, simprocAttr, mName, memB, ex_func, SubL, Sub, eGraph]) (by simp [go_sem, simprocAttr, mName, ex_func, SubL, Sub, eGraph]) (by simp [go_sem, simprocAttr, ex_func, SubL, Sub, eGraph]) (by intro x hx; rcases x with _ | _ | _ | _ | x <;> first | (simp [go_sem, simprocAttr]; done) | omega | (simp at hx; done) | (simp at hx; omega)) (by simp [go_sem, simprocAttr, mName, ex_func, SubL, Sub, eGraph]) (fun r σ' hσ => ?_)
        obtain ⟨t', rfl⟩ := hσ
        simp only [aftS, renS, delAll, memB, mName, List.getD_nil, killH, kref, ren, Nat.beq_eq, go_sem, simprocAttr]
        refine CWops.done ?_
        refine CW.rg ?_
        refine CWops.run htt 2 (by simp only [go_sem, simprocAttr, wrap_succ (show k < MX by unfold MX; omega)]; exact rfl) (by simp [go_sem, simprocAttr, wrap_succ (show k < MX by unfold MX; omega)]) ?_
        refine CWops.done ?_
        refine ⟨k + 1, ?_, ?_, ?_⟩
        · refine Sh.wk0 ?_
          first | (simp [Wk, go_sem, simprocAttr, ex_func, SubL, Sub, eGraph, eObj, refsZ_foldRef hz hk5]; done) | (simp [Wk, go_sem, simprocAttr, ex_func, SubL, Sub, eGraph, eObj, refsZ_no hz hk5]; done) | skip
        · refine ⟨hk, ?_⟩
          first | (rw [refsZ_foldRef hz hk5, show refsZ ((t.F.zip oF).take (k + 1)) = refsZ ((t.F.zip oF).take k) ++ [v.R] by rw [List.take_add_one, hz]; simp [refsZ, hk5]]; obtain ⟨s, hs⟩ := k2.pre; exact k2.app (dfs_step hm n k2.good (hmo.ref hf hv hk5) (by rw [hs]; simp; omega))) | (rw [refsZ_no hz hk5]; exact k2)
        · simp only; omega
      · have hk5 : f.Kind ≠ 5 := by simpa using ct41
        refine CW.skip ?_
        refine CW.rg ?_
        refine CWops.run htt 2 (by simp only [go_sem, simprocAttr, wrap_succ (show k < MX by unfold MX; omega)]; exact rfl) (by simp [go_sem, simprocAttr, wrap_succ (show k < MX by unfold MX; omega)]) ?_
        refine CWops.done ?_
        refine ⟨k + 1, ?_, ?_, ?_⟩
        · refine Sh.wk0 ?_
          first | (simp [Wk, go_sem, simprocAttr, ex_func, SubL, Sub, eGraph, eObj, refsZ_foldRef hz hk5]; done) | (simp [Wk, go_sem, simprocAttr, ex_func, SubL, Sub, eGraph, eObj, refsZ_no hz hk5]; done) | skip
        · refine ⟨hk, ?_⟩
          first | (rw [refsZ_foldRef hz hk5, show refsZ ((t.F.zip oF).take (k + 1)) = refsZ ((t.F.zip oF).take k) ++ [v.R] by rw [List.take_add_one, hz]; simp [refsZ, hk5]]; obtain ⟨s, hs⟩ := k2.pre; exact k2.app (dfs_step hm n k2.good (hmo.ref hf hv hk5) (by rw [hs]; simp; omega))) | (rw [refsZ_no hz hk5]; exact k2)
        · simp only; omega
    · have hk : k = t.F.length := by simp at ct35; omega
      have hz : (t.F.zip oF).take k = t.F.zip oF := List.take_of_length_le (by rw [List.length_zip]; omega)
      refine CW.exit ?_
      refine ⟨⟨4, [(0, .int .i64 id), (1, .lv 0 [] 0), (2, .lv 1 [] 0), (3, .lv 2 [] 0), (4, .lv 3 [] 0)], [(0, ⟨true, [.omap (wasMap (dfs g (n + 1) l id))]⟩), (1, ⟨true, [.own 1 (List.map eI (dfs g (n + 1) l id))]⟩), (2, ⟨true, eGraph g⟩), (3, ⟨true, [.func (.func 81) [] [.lv 0 [] 0, .lv 1 [] 0, .lv 2 [] 0, .lv 3 [] 0]]⟩)]⟩, ?_, .inl rfl, by (simp [ptrOK, go_sem, simprocAttr]; exact ⟨⟨1, by simp⟩, ⟨2, by simp⟩, ⟨3, by simp⟩, ⟨4, by simp⟩⟩), _, by simp only [f81, go_sem, simprocAttr]; exact rfl, ?_⟩ -- end
      · refine Sh.wk0 ?_
        rw [dfs_out hno, hrefs, hz]
        simp [Wk, go_sem, simprocAttr, ex_func, SubL, Sub, eGraph]
      · exact ⟨_, rfl⟩
theorem come (up : Bool) (g : Graph) (hm : May g) : ∀ (n : Nat) (l : List Int) (id : Int), Good g l → rootB g id = true → g.O.length < n + l.length → GCall prog up 81 [.int .i64 id, .lv 0 [] 0, .lv 1 [] 0, .lv 2 [] 0, .lv 3 [] 0] 4 [(0, ⟨true, [.omap (wasMap (l))]⟩), (1, ⟨true, [.own 1 (List.map eI (l))]⟩), (2, ⟨true, eGraph g⟩), (3, ⟨true, [.func (.func 81) [] [.lv 0 [] 0, .lv 1 [] 0, .lv 2 [] 0, .lv 3 [] 0]]⟩)] (fun _ σ' => ∃ t, σ' = ⟨4, t, [(0, ⟨true, [.omap (wasMap (dfs g n l id))]⟩), (1, ⟨true, [.own 1 (List.map eI (dfs g n l id))]⟩), (2, ⟨true, eGraph g⟩), (3, ⟨true, [.func (.func 81) [] [.lv 0 [] 0, .lv 1 [] 0, .lv 2 [] 0, .lv 3 [] 0]]⟩)]⟩)
  | 0, l, id, h, _, hn => by have := h.len; omega
  | n + 1, l, id, h, hr, hn => by
    by_cases e : id = -1 ∨ id ∈ l
    · rw [dfs_in e]; exact come_in up g l id e
    · exact come_out up g hm n (come up g hm n) l id h hr hn e
end Go.Ab
namespace Go.Ab
open Go Go.Proofs.Tryz
set_option maxRecDepth 100000
set_option linter.unusedSimpArgs false
set_option linter.unusedVariables false
theorem graph_Reach (up : Bool) (g : Graph) : PCall prog up 47 [.agg (eGraph g)] (· = .sl 1 ((gReach g).map eI)) := by
  refine PCall.intro htt func47 (by kernel_rfl) rfl (Nat.le_of_ble_eq_true rfl) fun hl => ?_

  simp only [tmps0, Nat.reduceAdd]
  refine CW.seq ?_
  refine CW.rg ?_
  refine CWops.run htt 2 (by simp only [go_sem, simprocAttr, eGraph]; exact rfl) (by simp [go_sem, simprocAttr, eGraph]) ?_
  refine CWops.done ?_
  refine CW.seq ?_
  refine CW.seq ?_
  refine CW.rg ?_
  refine CWops.run htt 1 (by simp only [go_sem, simprocAttr, eGraph]; exact rfl) (by simp [go_sem, simprocAttr, eGraph]) ?_
  refine CWops.call (graph_May up g) (by simp only [go_sem, simprocAttr, eGraph]) (by simp only [go_sem, simprocAttr, eGraph]; first | done | exact rfl) (by simp only [go_sem, simprocAttr, eGraph]) (fun rt9 hrt9 => ?_)
  subst hrt9; refine ⟨rfl, ?_⟩
  refine CWops.run htt 1 (by simp only [go_sem, simprocAttr, eGraph]; exact rfl) (by simp [go_sem, simprocAttr, eGraph]) ?_
  refine CWops.done ?_
  refine CW.cond (by simp only [go_sem, simprocAttr]; first | done | exact rfl) (fun ct10 => ?_) (fun ct10 => ?_)
  · simp only [Bool.not_eq_true'] at ct10
    refine CW.seq ?_
    refine CW.rg ?_
    refine CWops.rn htt 1 ?_
    refine CWops.done ?_
    refine CW.ret ?_
    refine retQ.ret (by simp only [f47, go_sem, simprocAttr]; exact rfl) (by simp only [go_sem, simprocAttr]; exact rfl) ?_ -- ret1
    refine ⟨_, ?_, rfl⟩
    have : gReach g = [] := by unfold gReach; rw [ct10]; rfl
    simp [leP, this]
  · simp only [Bool.not_eq_false'] at ct10
    have hm := (may_iff g).1 ct10
    have ho := hm.o
    have hr3 := hm.r
    refine CW.skip ?_
    refine CW.seq ?_
    refine CW.rg ?_
    refine CWops.run htt 5 (by simp only [go_sem, simprocAttr]; exact rfl) (by unfold MX; decide) ?_
    refine CWops.done ?_
    refine CW.seq ?_
    refine CW.rg ?_
    refine CWops.rn htt 1 ?_
    refine CWops.done ?_
    refine CW.seq ?_
    refine CW.rg ?_
    refine CWops.rn htt 1 ?_
    refine CWops.done ?_
    refine CW.seq ?_
    refine CW.rg ?_
    refine CWops.rn htt 2 ?_
    refine CWops.done ?_
    refine CW.seq ?_
    refine CW.seq ?_
    refine CW.rg ?_
    refine CWops.run htt 4 (by simp only [go_sem, simprocAttr, eGraph]; exact rfl) (by simp [go_sem, simprocAttr, eGraph]) ?_
    refine CWops.done ?_
    refine CW.block ?_
    refine CW.loop (S := Nat) (fun i => ⟨5, [(1, .lv 0 [] 0), (3, .lv 2 [] 0), (4, .lv 3 [] 0), (5, .lv 4 [] 0), (15, .sl 1 (g.Roots.map eI)), (16, .int .i64 g.Roots.length), (17, .int .i64 i)], [(0, ⟨true, eGraph g⟩), (2, ⟨true, [.omap (wasMap ((g.Roots.take i).foldl (dfs g (g.O.length + 1)) []))]⟩), (3, ⟨true, [.own 1 (List.map eI ((g.Roots.take i).foldl (dfs g (g.O.length + 1)) []))]⟩), (4, ⟨true, [.func (.func 81) [] [.lv 2 [] 0, .lv 3 [] 0, .lv 0 [] 0, .lv 4 [] 0]]⟩)]⟩) (fun i => i ≤ g.Roots.length ∧ Step g [] (g.Roots.take i) ((g.Roots.take i).foldl (dfs g (g.O.length + 1)) [])) (fun i => g.Roots.length - i) (0) ?_ ⟨Nat.zero_le _, by simpa using Step.nil (Good.nil g)⟩ (fun i ⟨h1, hs⟩ => ?_)
    · refine Sh.trans (Sh.nilCell 3 [] 0 1 (by simp [go_sem, simprocAttr]) rfl) (Sh.wk0 ?_); simp [Wk, go_sem, simprocAttr, ex_func, SubL, Sub, eGraph, wasMap]
    refine CW.seq ?_
    refine CW.rg ?_
    refine CWops.rn htt 1 ?_
    refine CWops.done ?_
    refine CW.seq ?_
    refine CW.cond (by simp only [go_sem, simprocAttr]; first | done | exact rfl) (fun ct18 => ?_) (fun ct18 => ?_)
    · have hi : i < g.Roots.length := by simpa using ct18
      obtain ⟨x, hx⟩ : ∃ x, g.Roots[i]? = some x := ⟨g.Roots[i], List.getElem?_eq_getElem hi⟩
      refine CW.skip ?_
      refine CW.seq ?_
      refine CW.block ?_
      refine CW.seq ?_
      refine CW.rg ?_
      refine CWops.run htt 3 (by simp only [go_sem, simprocAttr, hx, eI]; exact rfl) (by simp [go_sem, simprocAttr, hx, eI]) ?_
      refine CWops.done ?_
      refine CW.rg ?_
      refine CWops.rn htt 2 ?_
      refine CWops.callG [2, 3, 0, 4] rfl (come up g hm (g.O.length + 1) ((g.Roots.take i).foldl (dfs g (g.O.length + 1)) []) x hs.good (hm.root x (List.mem_of_getElem? hx)) (by omega)) (by simp only [go_sem, simprocAttr]) (by simp only [go_sem, simprocAttr]; first | done | exact rfl) (by decide) (by simp [go_sem, simprocAttr, mName, memB, ex_func, SubL, Sub, eGraph]) (by simp [go_sem, simprocAttr, mName, ex_func, SubL, Sub, eGraph]) (by simp [go_sem, simprocAttr, ex_func, SubL, Sub, eGraph]) (by intro x hx; rcases x with _ | _ | _ | _ | x <;> first | (simp [go_sem, simprocAttr]; done) | omega | (simp at hx; done) | (simp at hx; omega)) (by simp [go_sem, simprocAttr, mName, ex_func, SubL, Sub, eGraph]) (fun r σ' hσ => ?_)
      obtain ⟨t', rfl⟩ := hσ
      simp only [aftS, renS, delAll, memB, mName, List.getD_nil, killH, kref, ren, Nat.beq_eq, go_sem, simprocAttr]
      refine CWops.done ?_
      refine CW.rg ?_
      refine CWops.run htt 2 (by simp only [go_sem, simprocAttr, wrap_succ (show i < MX by unfold MX; omega)]; exact rfl) (by simp [go_sem, simprocAttr, wrap_succ (show i < MX by unfold MX; omega)]) ?_
      refine CWops.done ?_
      refine ⟨i + 1, ?_, ?_, ?_⟩
      · refine Sh.wk0 ?_; simp [Wk, go_sem, simprocAttr, ex_func, SubL, Sub, eGraph, List.take_add_one, hx]
      · refine ⟨hi, ?_⟩
        rw [List.take_add_one, hx, Option.toList_some, List.foldl_append]
        exact hs.app (dfs_step hm _ hs.good (hm.root x (List.mem_of_getElem? hx)) (by omega))
      · simp only; omega
    · have hi : i = g.Roots.length := by simp at ct18; omega
      have hdf : g.Roots.foldl (dfs g (g.O.length + 1)) [] = dfsL g := rfl
      rw [hi, List.take_length, hdf]
      refine CW.exit ?_
      refine CW.seq ?_
      refine CW.sh (Sh.out 3 0 rfl rfl rfl) ?_
      simp only [go_sem, simprocAttr, mapT, mapS, outF, List.map_cons, List.map_nil, putAt, List.set_cons_zero]
      refine CW.rg ?_
      refine CWops.rn htt 1 ?_
      refine CWops.callGH [5] rfl (slices_Sort up (dfsL g) (by have := (dfsL_step hm).good.len; omega)) (by decide) (by simp only [go_sem, simprocAttr]) (by simp only [go_sem, simprocAttr]; first | done | exact rfl) (by decide) (by simp [go_sem, simprocAttr, mName, memB]) (by simp [go_sem, simprocAttr, mName]) (by simp [go_sem, simprocAttr]) (by simp [go_sem, simprocAttr]) (by simp [go_sem, simprocAttr, mName]) (fun r σ' hσ => ?_)
      obtain ⟨σn, σt, σs⟩ := σ'
      simp only at hσ
      obtain ⟨m, rfl, rfl, hm2⟩ := hσ
      simp only [aftH, renS, List.map_cons, List.map_nil, delAll, memB, mName, List.getD_nil, killH, kref, ren, Nat.beq_eq, go_sem, simprocAttr]
      refine CWops.done ?_
      refine CW.seq ?_
      refine CW.rg ?_
      refine CWops.rn htt 2 ?_
      refine CWops.done ?_
      refine CW.ret ?_
      refine retQ.ret (by simp only [f47, go_sem, simprocAttr]; exact rfl) (by simp only [go_sem, simprocAttr]; exact rfl) ?_ -- ret2
      refine ⟨_, ?_, rfl⟩
      have : gReach g = m := (dfsL_sorted hm hm2).symm
      simp [go_sem, simprocAttr, leP, leL, AV.freeze, frz_I, this]
end Go.Ab
namespace Go.Ab
open Go Go.Proofs.Tryz
set_option maxRecDepth 100000
set_option linter.unusedSimpArgs false
set_option linter.unusedVariables false
theorem binarySearch (up : Bool) (l : List Int) (x : Int) (hs : l.Pairwise (· < ·)) (hl9 : l.length < 1000) : PCall prog up 51 [.sl 1 (l.map eI), .int .i64 x] (fun r => ∃ k : Int, r = .tup [.int .i64 k, .bool (decide (x ∈ l))]) := by
  refine PCall.intro htt func51 (by kernel_rfl) rfl (Nat.le_of_ble_eq_true rfl) fun hl => ?_

  simp only [tmps0, Nat.reduceAdd]
  refine CW.seq ?_
  refine CW.rg ?_
  refine CWops.rn htt 2 ?_
  refine CWops.done ?_
  refine CW.seq ?_
  refine CW.rg ?_
  refine CWops.rn htt 3 ?_
  refine CWops.done ?_
  refine CW.seq ?_
  refine CW.rg ?_
  refine CWops.rn htt 3 ?_
  refine CWops.done ?_
  refine CW.seq ?_
  refine CW.block ?_
  refine CW.loop (S := Nat × Nat) (fun p => ⟨0, [(0, .sl 1 (l.map eI)), (1, .int .i64 x), (4, .int .i64 0), (5, .bool false), (6, .int .i64 l.length), (7, .int .i64 p.1), (8, .int .i64 p.2)], []⟩) (fun p => BS l x p.1 p.2) (fun p => p.2 - p.1) ((0, l.length)) ?_ (BS.start l x) (fun ⟨i, j⟩ hb => ?_)
  · refine Sh.wk0 ?_; simp [Wk, go_sem, simprocAttr]
  simp only at hb
  refine CW.seq ?_
  refine CW.seq ?_
  refine CW.rg ?_
  refine CWops.rn htt 3 ?_
  refine CWops.done ?_
  refine CW.cond (by simp only [go_sem, simprocAttr]; first | done | exact rfl) (fun ct15 => ?_) (fun ct15 => ?_)
  · have hij : i < j := by simpa using ct15
    have hjl := hb.jl
    have hadd : IntKind.i64.wrap ((i : Int) + (j : Int)) = ((i + j : Nat) : Int) := wrap_add (by unfold MX; omega)
    have hdiv : ((i + j : Nat) : Int).fdiv (2 ^ min 1 64) = (((i + j) / 2 : Nat) : Int) := by rw [show ((2 : Int) ^ min 1 64) = 2 by decide]; exact fdiv2 _
    have hhl : (i + j) / 2 < l.length := by omega
    obtain ⟨y, hy⟩ : ∃ y, l[(i + j) / 2]? = some y := ⟨l[(i + j) / 2], List.getElem?_eq_getElem hhl⟩
    refine CW.skip ?_
    refine CW.block ?_
    refine CW.seq ?_
    refine CW.rg ?_
    refine CWops.rn htt 3 ?_
    refine CWops.conv (n := ((i + j : Nat) : Int)) (k := .i64) (k' := .u64) htt (by simp only [go_sem, simprocAttr]) tt_3 rfl tt_112 rfl (by simp only [go_sem, simprocAttr, hadd, hdiv]; first | done | exact rfl) ?_
    rw [show IntKind.u64.wrap (((i + j : Nat) : Int)) = ((i + j : Nat) : Int) by simp only [IntKind.wrap, IntKind.bits, IntKind.signed]; simp; omega]
    refine CWops.rn htt 1 ?_
    refine CWops.conv (n := (((i + j) / 2 : Nat) : Int)) (k := .u64) (k' := .i64) htt (by simp only [go_sem, simprocAttr]) tt_112 rfl tt_3 rfl (by simp only [go_sem, simprocAttr, hadd, hdiv]; first | done | exact rfl) ?_
    rw [show IntKind.i64.wrap ((((i + j) / 2 : Nat) : Int)) = (((i + j) / 2 : Nat) : Int) by simp only [IntKind.wrap, IntKind.bits, IntKind.signed]; simp; omega]
    refine CWops.rn htt 1 ?_
    refine CWops.done ?_
    refine CW.seq ?_
    refine CW.rg ?_
    refine CWops.run htt 5 (by simp only [go_sem, simprocAttr, hy, eI, hhl]; exact rfl) (by simp [go_sem, simprocAttr, hy, eI, hhl]) ?_
    refine CWops.callA (cmp_Less up y x) (by simp only [go_sem, simprocAttr, hy, eI, hhl]) (by simp only [go_sem, simprocAttr, hy, eI, hhl]; first | done | exact rfl) (by simp only [go_sem, simprocAttr, hy, eI, hhl]) (by simp only [go_sem, simprocAttr, hy, eI, hhl]) (fun rt27 hrt27 => ?_)
    subst hrt27
    refine CWops.done ?_
    refine CW.cond (by simp only [go_sem, simprocAttr]; first | done | exact rfl) (fun ct27 => ?_) (fun ct27 => ?_)
    · have hlt : y < x := by simpa using ct27
      obtain ⟨p', hp'⟩ : ∃ p' : Nat × Nat, p' = ((i + j) / 2 + 1, j) := ⟨_, rfl⟩
      refine CW.rg ?_
      refine CWops.run htt 3 (by simp only [go_sem, simprocAttr, wrap_succ (show (i + j) / 2 < MX by unfold MX; omega)]; exact rfl) (by simp [go_sem, simprocAttr, wrap_succ (show (i + j) / 2 < MX by unfold MX; omega)]) ?_
      refine CWops.done ?_
      refine ⟨p', ?_, ?_, ?_⟩
      · subst hp'; refine Sh.wk0 ?_; simp [Wk, go_sem, simprocAttr]
      · subst hp'; first | exact hb.left hs hy hlt (by omega) | exact hb.right hs hy hlt (by omega) (by omega)
      · subst hp'; simp only; omega
    · have hlt : ¬ y < x := by simpa using ct27
      obtain ⟨p', hp'⟩ : ∃ p' : Nat × Nat, p' = (i, (i + j) / 2) := ⟨_, rfl⟩
      refine CW.rg ?_
      refine CWops.rn htt 2 ?_
      refine CWops.done ?_
      refine ⟨p', ?_, ?_, ?_⟩
      · subst hp'; refine Sh.wk0 ?_; simp [Wk, go_sem, simprocAttr]
      · subst hp'; first | exact hb.left hs hy hlt (by omega) | exact hb.right hs hy hlt (by omega) (by omega)
      · subst hp'; simp only; omega
  · have hij : i = j := by have := hb.ij; simp at ct15; omega
    subst hij
    have hjl := hb.jl
    refine CW.exit ?_
    refine CW.seq ?_
    obtain ⟨y, hcase⟩ : ∃ y, (i = l.length ∧ True ∧ True) ∨ (i ≠ l.length ∧ l[i]? = some y ∧ i < l.length) := by
      by_cases e : i = l.length
      · exact ⟨0, .inl ⟨e, trivial, trivial⟩⟩
      · exact ⟨l[i], .inr ⟨e, List.getElem?_eq_getElem (by omega), by omega⟩⟩
    rcases hcase with ⟨hil, hy, hyl⟩ | ⟨hil, hy, hyl⟩
    all_goals (refine CW.rg ?_)
    all_goals (refine CWops.run htt 5 (by simp only [go_sem, simprocAttr, hy, eI, hyl]; exact rfl) (by simp [go_sem, simprocAttr, hy, eI, hyl]) ?_)
    all_goals (first | refine CWops.guard 35 (by simp only [go_sem, simprocAttr, hy, eI, hyl]; exact rfl) (fun g35 => ?_) (fun g35 => ?_) | skip)
    all_goals (first | (exfalso; simp at g35 <;> omega) | skip)
    all_goals (refine CWops.run htt 7 (by simp only [go_sem, simprocAttr, hy, eI, hyl]; exact rfl) (by simp [go_sem, simprocAttr, hy, eI, hyl]) ?_)
    all_goals (first | refine CWops.guard 42 (by simp only [go_sem, simprocAttr, hy, eI, hyl]; exact rfl) (fun g42 => ?_) (fun g42 => ?_) | skip)
    all_goals (skip)
    all_goals (refine CWops.run htt 4 (by simp only [go_sem, simprocAttr, hy, eI, hyl]; exact rfl) (by simp [go_sem, simprocAttr, hy, eI, hyl]) ?_)
    all_goals (first | (refine CWops.skip ?_ ?_; next => (simp only [go_sem, simprocAttr]; done)) | (refine CWops.callA (slices_isNaN up y) (by simp only [go_sem, simprocAttr, hy, eI, hyl]) (by simp only [go_sem, simprocAttr, hy, eI, hyl]; first | done | exact rfl) (by simp only [go_sem, simprocAttr, hy, eI, hyl]) (by simp only [go_sem, simprocAttr, hy, eI, hyl]) (fun rt47 hrt47 => ?_); subst hrt47))
    all_goals (refine CWops.run htt 1 (by simp only [go_sem, simprocAttr, hy, eI, hyl]; exact rfl) (by simp [go_sem, simprocAttr, hy, eI, hyl]) ?_)
    all_goals (first | refine CWops.guard 48 (by simp only [go_sem, simprocAttr, hy, eI, hyl]; exact rfl) (fun g48 => ?_) (fun g48 => ?_) | skip)
    all_goals (first | (cases g48; done) | skip)
    all_goals (refine CWops.run htt 1 (by simp only [go_sem, simprocAttr, hy, eI, hyl]; exact rfl) (by simp [go_sem, simprocAttr, hy, eI, hyl]) ?_)
    all_goals (first | (refine CWops.skip ?_ ?_; next => (simp only [go_sem, simprocAttr]; done)) | (refine CWops.callA (slices_isNaN up x) (by simp only [go_sem, simprocAttr, hy, eI, hyl]) (by simp only [go_sem, simprocAttr, hy, eI, hyl]; first | done | exact rfl) (by simp only [go_sem, simprocAttr, hy, eI, hyl]) (by simp only [go_sem, simprocAttr, hy, eI, hyl]) (fun rt50 hrt50 => ?_); subst hrt50))
    all_goals (refine CWops.run htt 5 (by simp only [go_sem, simprocAttr, hy, eI, hyl]; exact rfl) (by simp [go_sem, simprocAttr, hy, eI, hyl]) ?_)
    all_goals (refine CWops.done ?_)
    all_goals (
      refine CW.ret ?_
      refine retQ.ret (by simp only [f51, go_sem, simprocAttr]; exact rfl) (by simp only [go_sem, simprocAttr]; exact rfl) ?_ -- ret1
      refine ⟨_, leP_refl _, (i : Int), ?_⟩
      first | (rw [hb.some hs hy, g42]; done) | (have h0 := hb; rw [hil] at h0; rw [h0.none]; done))
theorem sweep_1 (up : Bool) (l : List Int) (o : GObj) (hs : l.Pairwise (· < ·)) (hl9 : l.length < 1000) : PCall prog up 50 [.agg (eObj o), .fp [.sl 1 (l.map eI)]] (· = .bool (!decide (o.Id ∈ l))) := by
  refine PCall.intro htt func50 (by kernel_rfl) rfl (Nat.le_of_ble_eq_true rfl) fun hl => ?_

  simp only [tmps0, Nat.reduceAdd]
  refine CW.seq ?_
  refine CW.rg ?_
  refine CWops.run htt 2 (by simp only [go_sem, simprocAttr, eObj]; exact rfl) (by simp [go_sem, simprocAttr, eObj]) ?_
  refine CWops.done ?_
  refine CW.seq ?_
  refine CW.rg ?_
  refine CWops.run htt 3 (by simp only [go_sem, simprocAttr, eObj]; exact rfl) (by simp [go_sem, simprocAttr, eObj]) ?_
  refine CWops.callA (binarySearch up l o.Id hs hl9) (by simp only [go_sem, simprocAttr, eObj]) (by simp only [go_sem, simprocAttr, eObj]; first | done | exact rfl) (by simp only [go_sem, simprocAttr, eObj]) (by simp only [go_sem, simprocAttr, eObj]) (fun rt10 hrt10 => ?_)
  obtain ⟨k10, rfl⟩ := hrt10
  refine CWops.run htt 5 (by simp only [go_sem, simprocAttr, eObj]; exact rfl) (by simp [go_sem, simprocAttr, eObj]) ?_
  refine CWops.done ?_
  refine CW.seq ?_
  refine CW.rg ?_
  refine CWops.rn htt 3 ?_
  refine CWops.done ?_
  refine CW.ret ?_
  refine retQ.ret (by simp only [f50, go_sem, simprocAttr]; exact rfl) (by simp only [go_sem, simprocAttr]; exact rfl) ?_ -- ret1
  refine ⟨_, ?_, rfl⟩
  simp [leP]
theorem deleteFunc_none (up : Bool) (xs : List GObj) (p : GObj → Bool) (fn : FuncId) (caps : List AV) (hc : pureL caps = true) (hcv : ∀ σ, caps.map (view 8 σ) = caps) (hx8 : xs.length < 1000) (hp : ∀ x ∈ xs, PCall prog up fn (.agg (eObj x) :: caps) (· = .bool (p x))) (f1 : fnd p xs = -1) (f3 : del p xs = xs) : GCall prog up 49 [.ref 0 [] 0, .func (.func fn) [] caps] 1 [(0, ⟨false, [.own 3 (List.map eObj xs)]⟩)] (fun r σ' => r = .ref 1 [] 0 ∧ σ'.n = 2 ∧ σ'.s = [(1, ⟨false, [.own 3 ((del p xs).map eObj)]⟩)]) := by
  refine GCall.intro htt 0 func49 (by kernel_rfl) rfl (Nat.le_of_ble_eq_true rfl) (CW.told ?_)

  simp only [tmps0, Nat.reduceAdd]
  refine CW.seq ?_
  refine CW.rg ?_
  refine CWops.rn htt 1 ?_
  refine CWops.done ?_
  refine CW.seq ?_
  refine CW.rg ?_
  refine CWops.run htt 2 (by simp only [go_sem, simprocAttr, hcv]; exact rfl) (by simp [go_sem, simprocAttr, hcv]) ?_
  refine CWops.call (index_Obj up xs p fn caps hc hp) (by simp only [go_sem, simprocAttr, hcv]) (by simp only [go_sem, simprocAttr, hcv]; first | done | exact rfl) (by simp only [go_sem, simprocAttr, hcv]) (fun rt10 hrt10 => ?_)
  subst hrt10; refine ⟨rfl, ?_⟩
  refine CWops.run htt 1 (by simp only [go_sem, simprocAttr, hcv]; exact rfl) (by simp [go_sem, simprocAttr, hcv]) ?_
  refine CWops.done ?_
  refine CW.seq ?_
  refine CW.seq ?_
  refine CW.rg ?_
  refine CWops.run htt 2 (by simp only [go_sem, simprocAttr, f1]; exact rfl) (by simp [go_sem, simprocAttr, f1]) ?_
  refine CWops.done ?_
  refine CW.cond (by simp only [go_sem, simprocAttr]; first | done | exact rfl) (fun ct12 => ?_) (fun ct12 => ?_)
  · refine CW.seq ?_
    refine CW.rg ?_
    refine CWops.rn htt 2 ?_
    refine CWops.done ?_
    refine CW.ret ?_
    refine ⟨⟨2, [(4, .ref 1 [] 0)], [(1, ⟨false, [.own 3 (List.map eObj (del p xs))]⟩)]⟩, ?_, .inr rfl, by simp [ptrOK, go_sem, simprocAttr], _, by simp only [f49, go_sem, simprocAttr]; exact rfl, ?_⟩ -- ret1
    · refine Sh.wk (fun x => if x = 1 then 0 else x) ?_
      rw [f3]
      simp [Wk, go_sem, simprocAttr]
    · exact ⟨rfl, rfl, rfl⟩
  · exfalso; revert ct12; simp [f1]
theorem deleteFunc_some (up : Bool) (xs : List GObj) (p : GObj → Bool) (fn : FuncId) (caps : List AV) (hc : pureL caps = true) (hcv : ∀ σ, caps.map (view 8 σ) = caps) (hx8 : xs.length < 1000) (hp : ∀ x ∈ xs, PCall prog up fn (.agg (eObj x) :: caps) (· = .bool (p x))) (i0 : Nat) (x0 : GObj) (f1 : fnd p xs = i0) (hx0 : xs[i0]? = some x0) (hp0 : p x0 = true) (hb0 : ∀ (j : Nat) (y : GObj), j < i0 → xs[j]? = some y → p y = false) : GCall prog up 49 [.ref 0 [] 0, .func (.func fn) [] caps] 1 [(0, ⟨false, [.own 3 (List.map eObj xs)]⟩)] (fun r σ' => r = .ref 1 [] 0 ∧ σ'.n = 2 ∧ σ'.s = [(1, ⟨false, [.own 3 ((del p xs).map eObj)]⟩)]) := by
  refine GCall.intro htt 0 func49 (by kernel_rfl) rfl (Nat.le_of_ble_eq_true rfl) (CW.told ?_)

  simp only [tmps0, Nat.reduceAdd]
  refine CW.seq ?_
  refine CW.rg ?_
  refine CWops.rn htt 1 ?_
  refine CWops.done ?_
  refine CW.seq ?_
  refine CW.rg ?_
  refine CWops.run htt 2 (by simp only [go_sem, simprocAttr, hcv]; exact rfl) (by simp [go_sem, simprocAttr, hcv]) ?_
  refine CWops.call (index_Obj up xs p fn caps hc hp) (by simp only [go_sem, simprocAttr, hcv]) (by simp only [go_sem, simprocAttr, hcv]; first | done | exact rfl) (by simp only [go_sem, simprocAttr, hcv]) (fun rt10 hrt10 => ?_)
  subst hrt10; refine ⟨rfl, ?_⟩
  refine CWops.run htt 1 (by simp only [go_sem, simprocAttr, hcv]; exact rfl) (by simp [go_sem, simprocAttr, hcv]) ?_
  refine CWops.done ?_
  refine CW.seq ?_
  refine CW.seq ?_
  refine CW.rg ?_
  refine CWops.run htt 2 (by simp only [go_sem, simprocAttr, f1]; exact rfl) (by simp [go_sem, simprocAttr, f1]) ?_
  refine CWops.done ?_
  refine CW.cond (by simp only [go_sem, simprocAttr]; first | done | exact rfl) (fun ct12 => ?_) (fun ct12 => ?_)
  · exfalso; revert ct12; simp [f1] <;> omega 
  · refine CW.skip ?_
    refine CW.seq ?_
    refine CW.seq ?_
    refine CW.rg ?_
    refine CWops.run htt 3 (by simp only [go_sem, simprocAttr, f1, wrap_succ (show i0 < MX by have := (List.getElem?_eq_some_iff.1 hx0).1; unfold MX; omega)]; exact rfl) (by simp [go_sem, simprocAttr, f1, wrap_succ (show i0 < MX by have := (List.getElem?_eq_some_iff.1 hx0).1; unfold MX; omega)]) ?_
    refine CWops.done ?_
    refine CW.block ?_
    refine CW.loop (S := Nat × Nat × List GObj) (fun q => ⟨1, [(0, .ref 0 [] 0), (1, .func (.func fn) [] caps), (5, .int .i64 q.1), (6, .int .i64 q.2.1)], [(0, ⟨false, [.own 3 (List.map eObj q.2.2)]⟩)]⟩) (fun q => Swp p xs q.2.2 q.1 q.2.1 ∧ q.1 < q.2.1) (fun q => xs.length - q.2.1) ((i0, i0 + 1, xs)) ?_ ⟨Swp.start hx0 hp0 hb0, by simp⟩ (fun ⟨i, j, m⟩ ⟨hw, hij⟩ => ?_)
    · refine Sh.wk0 ?_; simp [Wk, go_sem, simprocAttr, f1, SubL_refl hc, ex_func, SubL, Sub]
    simp only at hw hij
    have hml : m.length = xs.length := hw.len
    refine CW.seq ?_
    refine CW.seq ?_
    refine CW.rg ?_
    refine CWops.run htt 4 (by simp only [go_sem, simprocAttr, hml]; exact rfl) (by simp [go_sem, simprocAttr, hml]) ?_
    refine CWops.done ?_
    refine CW.cond (by simp only [go_sem, simprocAttr]; first | done | exact rfl) (fun ct19 => ?_) (fun ct19 => ?_)
    · have hj : j < xs.length := by simpa using ct19
      obtain ⟨x, hx⟩ : ∃ x, xs[j]? = some x := ⟨xs[j], List.getElem?_eq_getElem hj⟩
      have hmj := hw.at hx
      have hjm : j < m.length := by omega
      have him : i < m.length := by omega
      obtain ⟨z, hmi⟩ : ∃ z, m[i]? = some z := ⟨m[i], List.getElem?_eq_getElem him⟩
      refine CW.skip ?_
      refine CW.seq ?_
      refine CW.block ?_
      refine CW.seq ?_
      refine CW.rg ?_
      refine CWops.run htt 6 (by simp only [go_sem, simprocAttr, hmj, eObj, hjm, hc]; exact rfl) (by simp [go_sem, simprocAttr, hmj, eObj, hjm, hc]) ?_
      refine CWops.done ?_
      refine CW.seq ?_
      refine CW.rg ?_
      refine CWops.run htt 2 (by simp only [go_sem, simprocAttr, eObj, hc]; exact rfl) (by simp [go_sem, simprocAttr, eObj, hc]) ?_
      refine CWops.callA (hp x (List.mem_of_getElem? hx)) (by simp only [go_sem, simprocAttr, eObj, hc]) (by simp only [go_sem, simprocAttr, eObj, hc]; first | done | exact rfl) (by simp only [go_sem, simprocAttr, eObj, hc]) (by simp only [go_sem, simprocAttr, eObj, hc]) (fun rt28 hrt28 => ?_)
      subst hrt28
      refine CWops.run htt 1 (by simp only [go_sem, simprocAttr, eObj, hc]; exact rfl) (by simp [go_sem, simprocAttr, eObj, hc]) ?_
      refine CWops.done ?_
      refine CW.cond (by simp only [go_sem, simprocAttr]; first | done | exact rfl) (fun ct29 => ?_) (fun ct29 => ?_)
      · have hpx : p x = false := by simpa using ct29
        obtain ⟨q', hq'⟩ : ∃ q' : Nat × Nat × List GObj, q' = (i + 1, j + 1, m.set i x) := ⟨_, rfl⟩
        refine CW.seq ?_
        refine CW.rg ?_
        refine CWops.run htt 5 (by simp only [go_sem, simprocAttr, eObj, him, hmi, List.getElem?_set_self, List.length_map, List.length_set, List.set_set]; exact rfl) (by simp [go_sem, simprocAttr, eObj, him, hmi, List.getElem?_set_self, List.length_map, List.length_set, List.set_set]) ?_
        refine CWops.done ?_
        rw [show (List.map eObj m).set i [.int .i64 x.Id, .int .i64 x.T, .sl 3 (List.map eVal x.F)] = (m.set i x).map eObj by rw [List.map_set]; rfl]
        refine CW.rg ?_
        refine CWops.run htt 3 (by simp only [go_sem, simprocAttr, wrap_succ (show i < MX by unfold MX; omega)]; exact rfl) (by simp [go_sem, simprocAttr, wrap_succ (show i < MX by unfold MX; omega)]) ?_
        refine CWops.done ?_
        refine CW.rg ?_
        refine CWops.run htt 3 (by simp only [go_sem, simprocAttr, wrap_succ (show j < MX by unfold MX; omega)]; exact rfl) (by simp [go_sem, simprocAttr, wrap_succ (show j < MX by unfold MX; omega)]) ?_
        refine CWops.done ?_
        refine ⟨q', ?_, ?_, ?_⟩
        · subst hq'; refine Sh.wk0 ?_; simp [Wk, go_sem, simprocAttr, SubL_refl hc, ex_func, SubL, Sub]
        · subst hq'; first | exact ⟨hw.keep hij hx hpx, by simp only; omega⟩ | exact ⟨hw.skip hx hpx, by simp only; omega⟩
        · subst hq'; simp only; omega
      · have hpx : p x = true := by simpa using ct29
        obtain ⟨q', hq'⟩ : ∃ q' : Nat × Nat × List GObj, q' = (i, j + 1, m) := ⟨_, rfl⟩
        refine CW.skip ?_
        refine CW.rg ?_
        refine CWops.run htt 3 (by simp only [go_sem, simprocAttr, wrap_succ (show j < MX by unfold MX; omega)]; exact rfl) (by simp [go_sem, simprocAttr, wrap_succ (show j < MX by unfold MX; omega)]) ?_
        refine CWops.done ?_
        refine ⟨q', ?_, ?_, ?_⟩
        · subst hq'; refine Sh.wk0 ?_; simp [Wk, go_sem, simprocAttr, SubL_refl hc, ex_func, SubL, Sub]
        · subst hq'; first | exact ⟨hw.keep hij hx hpx, by simp only; omega⟩ | exact ⟨hw.skip hx hpx, by simp only; omega⟩
        · subst hq'; simp only; omega
    · have hj : j = xs.length := by have := hw.jl; simp at ct19; omega
      subst hj
      have him : i ≤ m.length := by omega
      have hcut : ∀ z, ((List.map eObj m).take i ++ z).take i = (del p xs).map eObj := fun z => by rw [List.take_left' (by simp; omega), ← List.map_take, hw.done]
      refine CW.exit ?_
      refine CW.seq ?_
      refine CW.rg ?_
      refine CWops.rn htt 2 ?_
      refine CWops.clearFrom (y := 0) (q := i) (k := .i64) (es := m.map eObj) htt (by simp only [go_sem, simprocAttr]) (by simp only [go_sem, simprocAttr]) tt_25 rfl tt_47 rfl (by simp only [go_sem, simprocAttr]) (by simp only [go_sem, simprocAttr]; first | done | exact rfl) (by simp only [go_sem, simprocAttr]) (by rw [List.length_map]; exact him) ?_
      simp only [go_sem, simprocAttr]
      refine CWops.done ?_
      refine CW.seq ?_
      refine CW.rg ?_
      refine CWops.rn htt 2 ?_
      refine CWops.cutTo (y := 0) (q := i) (k := .i64) htt (by simp only [go_sem, simprocAttr]) tt_25 rfl tt_47 (by simp only [go_sem, simprocAttr]) (by simp only [go_sem, simprocAttr]; first | done | exact rfl) (by simp only [go_sem, simprocAttr]) (by simp; omega) ?_
      simp only [go_sem, simprocAttr, hcut]
      refine CWops.rn htt 1 ?_
      refine CWops.done ?_
      refine CW.ret ?_
      refine ⟨⟨2, [(4, .ref 1 [] 0)], [(1, ⟨false, [.own 3 (List.map eObj (del p xs))]⟩)]⟩, ?_, .inr rfl, by simp [ptrOK, go_sem, simprocAttr], _, by simp only [f49, go_sem, simprocAttr]; exact rfl, ?_⟩ -- ret1
      · refine Sh.wk0 ?_
        simp [Wk, go_sem, simprocAttr]
      · exact ⟨rfl, rfl, rfl⟩
theorem deleteFunc (up : Bool) (xs : List GObj) (p : GObj → Bool) (fn : FuncId) (caps : List AV) (hc : pureL caps = true) (hcv : ∀ σ, caps.map (view 8 σ) = caps) (hx8 : xs.length < 1000) (hp : ∀ x ∈ xs, PCall prog up fn (.agg (eObj x) :: caps) (· = .bool (p x))) : GCall prog up 49 [.ref 0 [] 0, .func (.func fn) [] caps] 1 [(0, ⟨false, [.own 3 (List.map eObj xs)]⟩)] (fun r σ' => r = .ref 1 [] 0 ∧ σ'.n = 2 ∧ σ'.s = [(1, ⟨false, [.own 3 ((del p xs).map eObj)]⟩)]) := by
  cases h : xs.findIdx? p with
  | none =>
    have h1 := List.findIdx?_eq_none_iff.1 h
    exact deleteFunc_none up xs p fn caps hc hcv hx8 hp (by unfold fnd; rw [h]) (del_none fun j y hy => h1 y (List.mem_of_getElem? hy))
  | some i =>
    obtain ⟨h1, h2, h3⟩ := List.findIdx?_eq_some_iff_getElem.1 h
    exact deleteFunc_some up xs p fn caps hc hcv hx8 hp i xs[i] (by unfold fnd; rw [h]) (List.getElem?_eq_getElem h1) h2 fun j y hj hy => by
      obtain ⟨h4, h5⟩ := List.getElem?_eq_some_iff.1 hy
      have := h3 j hj
      rw [h5] at this; simpa using this
end Go.Ab
namespace Go.Ab
open Go Go.Proofs.Tryz
set_option maxRecDepth 100000
set_option linter.unusedSimpArgs false
set_option linter.unusedVariables false
theorem May.sz {g : Graph} (h : May g) : GSz g := by
  obtain ⟨h1, h2, h3⟩ := h.small
  have h4 := h.o
  have h5 := h.r
  exact ⟨by unfold MX; omega, fun x hx => by have := h2 x hx; unfold MX; omega, by unfold MX; omega, fun x hx => by have := h3 x hx; unfold MX; omega, by unfold MX; omega⟩
theorem gReach_len {g : Graph} (h : May g) : (gReach g).length ≤ 8 := by
  have := h.o
  unfold gReach
  rw [if_pos ((may_iff g).2 h), List.length_map]
  exact Nat.le_trans (List.length_filter_le _ _) this
theorem graph_Sweep (up : Bool) (g : Graph) : PCall prog up 16 [.agg (eGraph g)] (· = .agg (eGraph (gSweep g))) := by
  refine PCall.intro htt func16 (by kernel_rfl) rfl (Nat.le_of_ble_eq_true rfl) fun hl => ?_

  simp only [tmps0, Nat.reduceAdd]
  refine CW.seq ?_
  refine CW.rg ?_
  refine CWops.run htt 2 (by simp only [go_sem, simprocAttr, eGraph]; exact rfl) (by simp [go_sem, simprocAttr, eGraph]) ?_
  refine CWops.done ?_
  refine CW.seq ?_
  refine CW.seq ?_
  refine CW.rg ?_
  refine CWops.run htt 1 (by simp only [go_sem, simprocAttr, eGraph]; exact rfl) (by simp [go_sem, simprocAttr, eGraph]) ?_
  refine CWops.call (graph_May up g) (by simp only [go_sem, simprocAttr, eGraph]) (by simp only [go_sem, simprocAttr, eGraph]; first | done | exact rfl) (by simp only [go_sem, simprocAttr, eGraph]) (fun rt6 hrt6 => ?_)
  subst hrt6; refine ⟨rfl, ?_⟩
  refine CWops.run htt 1 (by simp only [go_sem, simprocAttr, eGraph]; exact rfl) (by simp [go_sem, simprocAttr, eGraph]) ?_
  refine CWops.done ?_
  refine CW.cond (by simp only [go_sem, simprocAttr]; first | done | exact rfl) (fun ct7 => ?_) (fun ct7 => ?_)
  · simp only [Bool.not_eq_true'] at ct7
    refine CW.seq ?_
    refine CW.rg ?_
    refine CWops.rn htt 2 ?_
    refine CWops.done ?_
    refine CW.ret ?_
    refine retQ.ret (by simp only [f16, go_sem, simprocAttr]; exact rfl) (by simp only [go_sem, simprocAttr]; exact rfl) ?_ -- ret1
    refine ⟨_, ?_, rfl⟩
    have : gSweep g = ⟨[], [], []⟩ := by unfold gSweep; rw [ct7]; rfl
    simp [leP, leL, this, eGraph]
  · simp only [Bool.not_eq_false'] at ct7
    have hm := (may_iff g).1 ct7
    refine CW.skip ?_
    refine CW.seq ?_
    refine CW.rg ?_
    refine CWops.run htt 1 (by simp only [go_sem, simprocAttr, eGraph]; exact rfl) (by simp [go_sem, simprocAttr, eGraph]) ?_
    refine CWops.callA (graph_Reach up g) (by simp only [go_sem, simprocAttr, eGraph]) (by simp only [go_sem, simprocAttr, eGraph]; first | done | exact rfl) (by simp only [go_sem, simprocAttr, eGraph]) (by simp only [go_sem, simprocAttr, eGraph]) (fun rt10 hrt10 => ?_)
    subst hrt10
    refine CWops.run htt 2 (by simp only [go_sem, simprocAttr, eGraph]; exact rfl) (by simp [go_sem, simprocAttr, eGraph]) ?_
    refine CWops.done ?_
    refine CW.seq ?_
    refine CW.rg ?_
    refine CWops.run htt 1 (by simp only [go_sem, simprocAttr, eGraph, OWN]; exact rfl) (by simp [go_sem, simprocAttr, eGraph, OWN]) ?_
    refine CWops.callG [] rfl (graph_own up g hm.sz) (by simp only [go_sem, simprocAttr]) (by simp only [go_sem, simprocAttr]; first | done | exact rfl) (by decide) (by simp [go_sem, simprocAttr, mName, memB]) (by simp [go_sem, simprocAttr, mName]) (by simp [go_sem, simprocAttr]) (by simp [go_sem, simprocAttr]) (by simp [go_sem, simprocAttr, mName, eGraph]) (fun r σ' hσ => ?_)
    obtain ⟨σn, σt, σs⟩ := σ'
    simp only at hσ
    obtain ⟨rfl, rfl, rfl⟩ := hσ
    simp only [aftS, renS, delAll, memB, mName, List.getD_nil, killH, kref, ren, Nat.beq_eq, go_sem, simprocAttr]
    refine CWops.run htt 2 (by simp only [go_sem, simprocAttr, eGraph, OWN]; exact rfl) (by simp [go_sem, simprocAttr, eGraph, OWN]) ?_
    refine CWops.done ?_
    refine CW.seq ?_
    refine CW.sh (Sh.frzB 2 rfl rfl rfl) ?_
    simp only [go_sem, simprocAttr, mapT, mapS, frzF, List.map_cons, List.map_nil, delS, OWN]
    refine CW.sh (Sh.out 3 1 rfl rfl rfl) ?_
    simp only [go_sem, simprocAttr, mapT, mapS, outF, List.map_cons, List.map_nil, putAt, List.set_cons_zero, List.set_cons_succ]
    refine CW.sh (Sh.frzRows (x := 6) (n := 3) (m := 3) (c := 2) (b := false) (l := g.O) (e := eObjO) (f := eObj) (rs := fun o => o.F.map eVal) rfl (fun v _ => rfl) (fun v _ => by simp [eObj, eObjO, AV.freeze, eVal])) ?_
    simp only [go_sem, simprocAttr]
    refine CW.rg ?_
    refine CWops.rn htt 3 ?_
    refine CWops.callG [6] rfl (deleteFunc up g.O (fun o => !decide (o.Id ∈ gReach g)) 50 [.fp [.sl 1 ((gReach g).map eI)]] rfl (fun σ => by simp [view]) (by have := hm.o; omega) (fun x _ => sweep_1 up (gReach g) x (gReach_pw hm) (by have := gReach_len hm; omega))) (by simp only [go_sem, simprocAttr]) (by simp only [go_sem, simprocAttr]; first | done | exact rfl) (by decide) (by simp [go_sem, simprocAttr, mName, memB, ex_func, SubL, Sub, eGraph]) (by simp [go_sem, simprocAttr, mName, ex_func, SubL, Sub, eGraph]) (by simp [go_sem, simprocAttr, ex_func, SubL, Sub, eGraph]) (by intro x hx; rcases x with _ | _ | _ | _ | x <;> first | (simp [go_sem, simprocAttr]; done) | omega | (simp at hx; done) | (simp at hx; omega)) (by simp [go_sem, simprocAttr, mName, ex_func, SubL, Sub, eGraph]) (fun r σ' hσ => ?_)
    obtain ⟨σn, σt, σs⟩ := σ'
    simp only at hσ
    obtain ⟨rfl, rfl, rfl⟩ := hσ
    simp only [aftS, renS, delAll, memB, mName, List.getD_nil, killH, kref, ren, Nat.beq_eq, go_sem, simprocAttr]
    refine CWops.rn htt 2 ?_
    refine CWops.done ?_
    refine CW.seq ?_
    have hdel : del (fun o => !decide (o.Id ∈ gReach g)) g.O = (gSweep g).O := by unfold gSweep del; rw [if_pos ct7]; simp
    rw [hdel]
    refine CW.sh (Sh.frz 5 1 rfl rfl) ?_
    simp only [go_sem, simprocAttr]
    refine CW.sh (Sh.frzC 3 0 5 0 (by decide) rfl rfl rfl) ?_
    simp only [go_sem, simprocAttr]
    refine CW.sh (Sh.frzC 3 2 5 2 (by decide) rfl rfl rfl) ?_
    simp only [go_sem, simprocAttr]
    refine CW.rg ?_
    refine CWops.rn htt 2 ?_
    refine CWops.done ?_
    refine CW.ret ?_
    refine retQ.ret (by simp only [f16, go_sem, simprocAttr]; exact rfl) (by simp only [go_sem, simprocAttr]; exact rfl) ?_ -- ret2
    refine ⟨_, ?_, rfl⟩
    have h1 : (gSweep g).S = g.S := by unfold gSweep; rw [if_pos ct7]
    have h2 : (gSweep g).Roots = g.Roots := by unfold gSweep; rw [if_pos ct7]
    simp [leP, leL, eGraph, h1, h2]
end Go.Ab
