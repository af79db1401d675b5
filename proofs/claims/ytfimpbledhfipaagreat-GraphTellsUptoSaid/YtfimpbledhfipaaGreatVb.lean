/-
  What functions of the program answer: each by its contract. No condition but those of each theorem.
-/
import Derived.WalkKit
import Derived.Below
import Derived.Scope
import Derived.Test.YtfimpbledhfipaaGreatProg
import Derived.Orders
import Derived.Test.YtfimpbledhfipaaGreatFa
import Derived.Test.YtfimpbledhfipaaGreatFb
import Derived.Test.YtfimpbledhfipaaGreatFc
import Derived.Test.YtfimpbledhfipaaGreatFd
import Derived.Test.YtfimpbledhfipaaGreatFe
import Derived.Test.YtfimpbledhfipaaGreatDa
import Derived.Test.YtfimpbledhfipaaGreatVa
set_option linter.unusedVariables false
set_option linter.unusedSimpArgs false
namespace Go.Ab
open Go Go.Proofs.Tryz
set_option maxRecDepth 100000
set_option linter.unusedSimpArgs false
set_option linter.unusedVariables false
theorem law08_Two (up : Bool) : PCall prog up 34 [] (· = .agg (eGraph twG)) := by
  refine PCall.intro htt func34 (by kernel_rfl) rfl (Nat.le_of_ble_eq_true rfl) fun hl => ?_

  simp only [tmps0, Nat.reduceAdd]
  refine CW.seq ?_
  refine CW.rg ?_
  refine CWops.rn htt 1 ?_
  refine CWops.done ?_
  refine CW.seq ?_
  refine CW.rg ?_
  refine CWops.callA (law06_One up) (by simp only [go_sem, simprocAttr, oneS, eSchema, eType, eField]) (by simp only [go_sem, simprocAttr, oneS, eSchema, eType, eField]; first | done | exact rfl) (by simp only [go_sem, simprocAttr, oneS, eSchema, eType, eField]) (by simp only [go_sem, simprocAttr, oneS, eSchema, eType, eField]) (fun rt1 hrt1 => ?_)
  subst hrt1
  refine CWops.run htt 2 (by simp only [go_sem, simprocAttr, oneS, eSchema, eType, eField]; exact rfl) (by simp [go_sem, simprocAttr, oneS, eSchema, eType, eField]) ?_
  refine CWops.run htt 1 (by simp only [go_sem, simprocAttr, List.replicate]; exact rfl) (by simp [go_sem, simprocAttr]) ?_
  refine CWops.sh (Sh.frzT 4 1 (by simp only [go_sem, simprocAttr]) (by simp only [go_sem, simprocAttr]; first | done | exact rfl) rfl) ?_
  simp only [go_sem, simprocAttr, AV.freeze]
  refine CWops.run htt 3 (by simp only [go_sem, simprocAttr, oneS, eSchema, eType, eField]; exact rfl) (by simp [go_sem, simprocAttr, oneS, eSchema, eType, eField]) ?_
  refine CWops.run htt 1 (by simp only [go_sem, simprocAttr, List.replicate]; exact rfl) (by simp [go_sem, simprocAttr]) ?_
  refine CWops.sh (Sh.frzT 8 2 (by simp only [go_sem, simprocAttr]) (by simp only [go_sem, simprocAttr]; first | done | exact rfl) rfl) ?_
  simp only [go_sem, simprocAttr, AV.freeze]
  refine CWops.run htt 1 (by simp only [go_sem, simprocAttr, oneS, eSchema, eType, eField]; exact rfl) (by simp [go_sem, simprocAttr, oneS, eSchema, eType, eField]) ?_
  refine CWops.run htt 1 (by simp only [go_sem, simprocAttr, List.replicate]; exact rfl) (by simp [go_sem, simprocAttr]) ?_
  refine CWops.sh (Sh.frzT 10 3 (by simp only [go_sem, simprocAttr]) (by simp only [go_sem, simprocAttr]; first | done | exact rfl) rfl) ?_
  simp only [go_sem, simprocAttr, AV.freeze]
  refine CWops.run htt 1 (by simp only [go_sem, simprocAttr, List.replicate]; exact rfl) (by simp [go_sem, simprocAttr]) ?_
  refine CWops.sh (Sh.frzT 11 4 (by simp only [go_sem, simprocAttr]) (by simp only [go_sem, simprocAttr]; first | done | exact rfl) rfl) ?_
  simp only [go_sem, simprocAttr, AV.freeze]
  refine CWops.run htt 2 (by simp only [go_sem, simprocAttr, oneS, eSchema, eType, eField]; exact rfl) (by simp [go_sem, simprocAttr, oneS, eSchema, eType, eField]) ?_
  refine CWops.done ?_
  refine CW.ret ?_
  refine retQ.ret (by simp only [f34, go_sem, simprocAttr]; exact rfl) (by simp only [go_sem, simprocAttr]; exact rfl) ?_ -- ret1
  refine ⟨_, ?_, rfl⟩
  simp [leP, leL, eGraph, twG, eObj, eVal, oneS, eType, eField, eI]
end Go.Ab
namespace Go.Ab
open Go Go.Proofs.Tryz
set_option maxRecDepth 100000
set_option linter.unusedSimpArgs false
set_option linter.unusedVariables false
theorem value_Zero (up : Bool) (f : GField) : PCall prog up 37 [.agg (eField f)] (· = .agg (eVal (zeroV f))) := by
  refine PCall.intro htt func37 (by kernel_rfl) rfl (Nat.le_of_ble_eq_true rfl) fun hl => ?_

  simp only [tmps0, Nat.reduceAdd]
  refine CW.seq ?_
  refine CW.rg ?_
  refine CWops.run htt 2 (by simp only [go_sem, simprocAttr, eField]; exact rfl) (by simp [go_sem, simprocAttr, eField]) ?_
  refine CWops.done ?_
  refine CW.seq ?_
  refine CW.seq ?_
  refine CW.rg ?_
  refine CWops.run htt 3 (by simp only [go_sem, simprocAttr, eField]; exact rfl) (by simp [go_sem, simprocAttr, eField]) ?_
  refine CWops.done ?_
  refine CW.cond (by simp only [go_sem, simprocAttr]; first | done | exact rfl) (fun ct5 => ?_) (fun ct5 => ?_)
  · have hk : f.Kind = 5 := by simpa using ct5
    refine CW.seq ?_
    refine CW.rg ?_
    refine CWops.rn htt 2 ?_
    refine CWops.done ?_
    refine CW.ret ?_
    refine retQ.ret (by simp only [f37, go_sem, simprocAttr]; exact rfl) (by simp only [go_sem, simprocAttr]; exact rfl) ?_ -- ret1
    refine ⟨_, ?_, rfl⟩
    simp [leP, leL, zeroV, hk, eVal]
  · have hk : ¬ f.Kind = 5 := by simpa using ct5
    refine CW.skip ?_
    refine CW.seq ?_
    refine CW.rg ?_
    refine CWops.rn htt 2 ?_
    refine CWops.done ?_
    refine CW.ret ?_
    refine retQ.ret (by simp only [f37, go_sem, simprocAttr]; exact rfl) (by simp only [go_sem, simprocAttr]; exact rfl) ?_ -- ret2
    refine ⟨_, ?_, rfl⟩
    simp [leP, leL, zeroV, hk, eVal]
theorem graph_New (up : Bool) (g : Graph) (t : Int) (hz : GSz g) : PCall prog up 7 [.agg (eGraph g), .int .i64 t] (· = .tup [.agg (eGraph (gNew g t).1), .int .i64 (gNew g t).2.1, .int .i64 (gNew g t).2.2]) := by
  refine PCall.intro htt func7 (by kernel_rfl) rfl (Nat.le_of_ble_eq_true rfl) fun hl => ?_

  simp only [tmps0, Nat.reduceAdd]
  refine CW.seq ?_
  refine CW.rg ?_
  refine CWops.run htt 4 (by simp only [go_sem, simprocAttr, eGraph]; exact rfl) (by simp [go_sem, simprocAttr, eGraph]) ?_
  refine CWops.done ?_
  refine CW.cut ⟨5, [(0, .agg (eGraph g)), (1, .int .i64 t), (2, .lv 0 [] 0), (4, .lv 1 [] 0), (5, .int .i64 0), (6, .int .i64 0), (7, .lv 4 [] 0)], [(0, ⟨true, eGraph g⟩), (1, ⟨true, [.nilsl, .nilsl, .nilsl]⟩), (2, ⟨true, OWN g⟩), (4, ⟨true, [.ref 2 [] 0, .ref 2 [] 1, .ref 2 [] 2]⟩)]⟩ ?_ ?_
  · refine CW.rg ?_
    refine CWops.run htt 1 (by simp only [go_sem, simprocAttr, eGraph, OWN]; exact rfl) (by simp [go_sem, simprocAttr, eGraph, OWN]) ?_
    refine CWops.callG [] rfl (graph_own up g hz) (by simp only [go_sem, simprocAttr]) (by simp only [go_sem, simprocAttr]; first | done | exact rfl) (by decide) (by simp [go_sem, simprocAttr, mName, memB]) (by simp [go_sem, simprocAttr, mName]) (by simp [go_sem, simprocAttr]) (by simp [go_sem, simprocAttr]) (by simp [go_sem, simprocAttr, mName, eGraph]) (fun r σ' hσ => ?_)
    obtain ⟨σn, σt, σs⟩ := σ'
    simp only at hσ
    obtain ⟨rfl, rfl, rfl⟩ := hσ
    simp only [aftS, renS, delAll, memB, mName, List.getD_nil, killH, kref, ren, Nat.beq_eq, go_sem, simprocAttr]
    refine CWops.run htt 2 (by simp only [go_sem, simprocAttr, eGraph, OWN]; exact rfl) (by simp [go_sem, simprocAttr, eGraph, OWN]) ?_
    refine CWops.done ?_
    first | refine ⟨rfl, Sh.wk0 ?_⟩ | refine Sh.wk0 ?_
    simp [Wk, go_sem, simprocAttr, eGraph, OWN]
  refine CW.seq ?_
  refine CW.seq ?_
  refine CW.rg ?_
  refine CWops.run htt 1 (by simp only [go_sem, simprocAttr, eGraph]; exact rfl) (by simp [go_sem, simprocAttr, eGraph]) ?_
  refine CWops.call (graph_May up g) (by simp only [go_sem, simprocAttr, eGraph]) (by simp only [go_sem, simprocAttr, eGraph]; first | done | exact rfl) (by simp only [go_sem, simprocAttr, eGraph]) (fun rt15 hrt15 => ?_)
  subst hrt15; refine ⟨rfl, ?_⟩
  refine CWops.run htt 1 (by simp only [go_sem, simprocAttr, eGraph]; exact rfl) (by simp [go_sem, simprocAttr, eGraph]) ?_
  refine CWops.done ?_
  refine CW.cond (by simp only [go_sem, simprocAttr]; first | done | exact rfl) (fun ct16 => ?_) (fun ct16 => ?_)
  · simp only [Bool.not_eq_true'] at ct16
    refine CW.seq ?_
    try simp only [OWN]
    refine CW.sh (Sh.trans (Sh.frzC 2 0 4 0 (by decide) rfl rfl rfl) (Sh.trans (Sh.frzC 2 1 4 1 (by decide) rfl rfl rfl) (Sh.frzC 2 2 4 2 (by decide) rfl rfl rfl))) ?_
    simp only [go_sem, simprocAttr]
    refine CW.rg ?_
    refine CWops.rn htt 4 ?_
    refine CWops.done ?_
    refine CW.ret ?_
    refine retQ.ret (by simp only [f7, go_sem, simprocAttr]; exact rfl) (by simp only [go_sem, simprocAttr]; exact rfl) ?_ -- ret1
    refine ⟨_, ?_, rfl⟩
    simp [leP, leL, gNew, ct16, eGraph]
  · simp only [Bool.not_eq_false'] at ct16
    have hm := (may_iff g).1 ct16
    have ho8 := hm.o
    refine CW.skip ?_
    refine CW.seq ?_
    refine CW.cut ⟨5, [(0, .agg (eGraph g)), (1, .int .i64 t), (2, .lv 0 [] 0), (4, .lv 1 [] 0), (5, .int .i64 0), (6, .int .i64 0), (7, .lv 4 [] 0), (27, .bool (decide (t < 0) || decide ((g.S.length : Int) ≤ t)))], [(0, ⟨true, eGraph g⟩), (1, ⟨true, [.nilsl, .nilsl, .nilsl]⟩), (2, ⟨true, OWN g⟩), (4, ⟨true, [.ref 2 [] 0, .ref 2 [] 1, .ref 2 [] 2]⟩)]⟩ ?_ ?_
    · refine CW.rg ?_
      refine CWops.run htt 3 (by simp only [go_sem, simprocAttr, eGraph]; exact rfl) (by simp [go_sem, simprocAttr, eGraph]) ?_
      all_goals (first | refine CWops.guard 20 (by simp only [go_sem, simprocAttr, eGraph]; exact rfl) (fun g20 => ?_) (fun g20 => ?_) | skip)
      all_goals (refine CWops.run htt 7 (by simp only [go_sem, simprocAttr, eGraph]; exact rfl) (by simp [go_sem, simprocAttr, eGraph]) ?_)
      all_goals (refine CWops.done ?_)
      all_goals (
        first | refine ⟨rfl, Sh.wk0 ?_⟩ | refine Sh.wk0 ?_
        simp_all [Wk, go_sem, simprocAttr, eGraph, OWN]
        try (intro h; omega))
    refine CW.cond (by simp only [go_sem, simprocAttr]; first | done | exact rfl) (fun ct27 => ?_) (fun ct27 => ?_)
    · refine CW.seq ?_
      try simp only [OWN]
      refine CW.sh (Sh.trans (Sh.frzC 2 0 4 0 (by decide) rfl rfl rfl) (Sh.trans (Sh.frzC 2 1 4 1 (by decide) rfl rfl rfl) (Sh.frzC 2 2 4 2 (by decide) rfl rfl rfl))) ?_
      simp only [go_sem, simprocAttr]
      refine CW.rg ?_
      refine CWops.rn htt 4 ?_
      refine CWops.done ?_
      refine CW.ret ?_
      refine retQ.ret (by simp only [f7, go_sem, simprocAttr]; exact rfl) (by simp only [go_sem, simprocAttr]; exact rfl) ?_ -- ret2
      refine ⟨_, ?_, rfl⟩
      simp [leP, leL, gNew, ct16, ct27, eGraph]
    · have hno := ct27
      simp only [Bool.or_eq_false_iff, decide_eq_false_iff_not] at hno
      obtain ⟨q, rfl⟩ := Int.eq_ofNat_of_zero_le (show 0 ≤ t by omega)
      have hql : q < g.S.length := by omega
      obtain ⟨ty, ht⟩ : ∃ x, g.S[q]? = some x := ⟨g.S[q], List.getElem?_eq_getElem hql⟩
      have htF : tyF g q = ty.F := by unfold tyF typeAt; simp [ht]
      have hf5 := hm.small.2.1 ty (List.mem_of_getElem? ht)
      refine CW.skip ?_
      refine CW.seq ?_
      refine CW.rg ?_
      refine CWops.rn htt 4 ?_
      refine CWops.done ?_
      refine CW.cut ⟨6, [(0, .agg (eGraph g)), (1, .int .i64 (q : Int)), (2, .lv 0 [] 0), (4, .lv 1 [] 0), (5, .int .i64 0), (6, .int .i64 0), (7, .lv 4 [] 0), (8, .lv 5 [] 0)], [(0, ⟨true, eGraph g⟩), (1, ⟨true, [.nilsl, .nilsl, .nilsl]⟩), (2, ⟨true, OWN g⟩), (4, ⟨true, [.ref 2 [] 0, .ref 2 [] 1, .ref 2 [] 2]⟩), (5, ⟨true, [.int .i64 (newId g), .int .i64 (q : Int), .nilsl]⟩)]⟩ ?_ ?_
      · refine CW.seq ?_
        refine CW.rg ?_
        refine CWops.run htt 4 (by simp only [go_sem, simprocAttr, eGraph]; exact rfl) (by simp [go_sem, simprocAttr, eGraph]) ?_
        refine CWops.done ?_
        refine CW.seq ?_
        refine CW.rg ?_
        refine CWops.rn htt 2 ?_
        refine CWops.done ?_
        refine CW.cond (by simp only [go_sem, simprocAttr]; first | done | exact rfl) (fun ct35 => ?_) (fun ct35 => ?_)
        · obtain ⟨m, hml'⟩ : ∃ m, g.O.length = m + 1 := ⟨g.O.length - 1, by simp at ct35; omega⟩
          have hml : m < g.O.length := by omega
          obtain ⟨z, hx⟩ : ∃ x, g.O[m]? = some x := ⟨g.O[m], List.getElem?_eq_getElem hml⟩
          have hw1 : IntKind.i64.wrap ((g.O.length : Int) - 1) = (m : Int) := by rw [wrap_id (by omega) (by omega)]; omega
          obtain ⟨_, _, _, hzo⟩ := hm.objT hx
          have hz1 := hzo.id
          have hz2 := (hm.ids m z hx).1
          have hw2 : IntKind.i64.wrap (z.Id + 1) = z.Id + 1 := wrap_id (by omega) (by omega)
          have hnid : newId g = z.Id + 1 := by unfold newId; rw [hml']; simp [prevId, hx]
          refine CW.rg ?_
          refine CWops.run htt 10 (by simp only [go_sem, simprocAttr, eGraph, hx, eObj, hml, hw1, hw2]; exact rfl) (by simp [go_sem, simprocAttr, eGraph, hx, eObj, hml, hw1, hw2]) ?_
          refine CWops.done ?_
          first | refine ⟨rfl, Sh.wk0 ?_⟩ | refine Sh.wk0 ?_
          first | (simp [Wk, go_sem, simprocAttr, eGraph, OWN, hnid]; done) | (simp [Wk, go_sem, simprocAttr, eGraph, OWN, newId, hn0, prevId]; done) | skip
        · have hn0 : g.O = [] := by
            simpa using ct35
          refine CW.skip ?_
          first | refine ⟨rfl, Sh.wk0 ?_⟩ | refine Sh.wk0 ?_
          first | (simp [Wk, go_sem, simprocAttr, eGraph, OWN, hnid]; done) | (simp [Wk, go_sem, simprocAttr, eGraph, OWN, newId, hn0, prevId]; done) | skip
      refine CW.seq ?_
      refine CW.cut ⟨6, [(0, .agg (eGraph g)), (1, .int .i64 (q : Int)), (2, .lv 0 [] 0), (4, .lv 1 [] 0), (5, .int .i64 0), (6, .int .i64 0), (7, .lv 4 [] 0), (8, .lv 5 [] 0), (53, .bool (newBad g))], [(0, ⟨true, eGraph g⟩), (1, ⟨true, [.nilsl, .nilsl, .nilsl]⟩), (2, ⟨true, OWN g⟩), (4, ⟨true, [.ref 2 [] 0, .ref 2 [] 1, .ref 2 [] 2]⟩), (5, ⟨true, [.int .i64 (newId g), .int .i64 (q : Int), .nilsl]⟩)]⟩ ?_ ?_
      · refine CW.rg ?_
        refine CWops.run htt 5 (by simp only [go_sem, simprocAttr, eGraph]; exact rfl) (by simp [go_sem, simprocAttr, eGraph]) ?_
        all_goals (first | refine CWops.guard 49 (by simp only [go_sem, simprocAttr, eGraph]; exact rfl) (fun g49 => ?_) (fun g49 => ?_) | skip)
        all_goals (refine CWops.run htt 4 (by simp only [go_sem, simprocAttr, eGraph]; exact rfl) (by simp [go_sem, simprocAttr, eGraph]) ?_)
        all_goals (refine CWops.done ?_)
        all_goals (
          first | refine ⟨rfl, Sh.wk0 ?_⟩ | refine Sh.wk0 ?_
          unfold newBad
          by_cases h8 : g.O.length = 8 <;> by_cases hb : 1073741824 < newId g <;> simp_all [Wk, go_sem, simprocAttr, eGraph, OWN] <;> omega)
      refine CW.cond (by simp only [go_sem, simprocAttr]; first | done | exact rfl) (fun ct53 => ?_) (fun ct53 => ?_)
      · refine CW.seq ?_
        try simp only [OWN]
        refine CW.sh (Sh.trans (Sh.frzC 2 0 4 0 (by decide) rfl rfl rfl) (Sh.trans (Sh.frzC 2 1 4 1 (by decide) rfl rfl rfl) (Sh.frzC 2 2 4 2 (by decide) rfl rfl rfl))) ?_
        simp only [go_sem, simprocAttr]
        refine CW.rg ?_
        refine CWops.rn htt 4 ?_
        refine CWops.done ?_
        refine CW.ret ?_
        refine retQ.ret (by simp only [f7, go_sem, simprocAttr]; exact rfl) (by simp only [go_sem, simprocAttr]; exact rfl) ?_ -- ret3
        refine ⟨_, ?_, rfl⟩
        simp [leP, leL, gNew, ct16, show ¬ ((q : Int) < 0) by omega, Nat.not_le.2 hql, ct53, eGraph]
      · refine CW.skip ?_
        refine CW.seq ?_
        refine CW.seq ?_
        refine CW.rg ?_
        refine CWops.run htt 9 (by simp only [go_sem, simprocAttr, eGraph, ht, eType, hql]; exact rfl) (by simp [go_sem, simprocAttr, eGraph, ht, eType, hql]) ?_
        refine CWops.done ?_
        refine CW.block ?_
        refine CW.loop (S := Nat) (fun i => ⟨6, [(0, .agg (eGraph g)), (1, .int .i64 (q : Int)), (2, .lv 0 [] 0), (4, .lv 1 [] 0), (5, .int .i64 0), (6, .int .i64 0), (7, .lv 4 [] 0), (8, .lv 5 [] 0), (61, .sl 3 (ty.F.map eField)), (62, .int .i64 ty.F.length), (63, .int .i64 i)], [(0, ⟨true, eGraph g⟩), (1, ⟨true, [.nilsl, .nilsl, .nilsl]⟩), (2, ⟨true, OWN g⟩), (4, ⟨true, [.ref 2 [] 0, .ref 2 [] 1, .ref 2 [] 2]⟩), (5, ⟨true, [.int .i64 (newId g), .int .i64 (q : Int), .own 3 (((ty.F.take i).map zeroV).map eVal)]⟩)]⟩) (fun i => i ≤ ty.F.length) (fun i => ty.F.length - i) (0) ?_ (Nat.zero_le _) (fun i h1 => ?_)
        · refine Sh.trans (Sh.nilCell 5 [] 2 3 (by simp [go_sem, simprocAttr]) rfl) (Sh.wk0 ?_); simp [Wk, go_sem, simprocAttr, eGraph, OWN]
        refine CW.seq ?_
        refine CW.rg ?_
        refine CWops.rn htt 1 ?_
        refine CWops.done ?_
        refine CW.seq ?_
        refine CW.cond (by simp only [go_sem, simprocAttr]; first | done | exact rfl) (fun ct64 => ?_) (fun ct64 => ?_)
        · have hi : i < ty.F.length := by simpa using ct64
          obtain ⟨f, hf⟩ : ∃ x, ty.F[i]? = some x := ⟨ty.F[i], List.getElem?_eq_getElem hi⟩
          refine CW.skip ?_
          refine CW.seq ?_
          refine CW.block ?_
          refine CW.seq ?_
          refine CW.rg ?_
          refine CWops.run htt 4 (by simp only [go_sem, simprocAttr, hi, hf, eField]; exact rfl) (by simp [go_sem, simprocAttr, hi, hf, eField]) ?_
          refine CWops.done ?_
          refine CW.drawn mixed 5 (by decide) (by kernel_rfl) (by kernel_rfl) (by kernel_rfl) ?_
          refine Seg.run htt 3 (by simp only [go_sem, simprocAttr, eField, eVal, List.replicate]; exact rfl) ?_
          refine Seg.callA (value_Zero up f) (by simp only [go_sem, simprocAttr, eField, eVal, List.replicate]) (by simp only [go_sem, simprocAttr, eField, eVal, List.replicate]; first | done | exact rfl) (by simp only [go_sem, simprocAttr, eField, eVal, List.replicate]) (by simp only [go_sem, simprocAttr, eField, eVal, List.replicate]) ?_
          refine Seg.run htt 1 (by simp only [go_sem, simprocAttr, eField, eVal, List.replicate]; exact rfl) ?_
          refine Seg.done ?_
          refine CWops.run htt 3 (by simp only [go_sem, simprocAttr, eField, eVal, List.replicate]; exact rfl) (by unfold zeroV; split <;> simp [AV.cell, AV.tree, eVal, MX] <;> omega) ?_
          refine CWops.done ?_
          refine CW.rg ?_
          refine CWops.run htt 2 (by simp only [go_sem, simprocAttr, wrap_succ (show i < MX by unfold MX; omega)]; exact rfl) (by simp [go_sem, simprocAttr, wrap_succ (show i < MX by unfold MX; omega)]) ?_
          refine CWops.done ?_
          refine ⟨i + 1, ?_, ?_, ?_⟩
          · refine Sh.wk0 ?_
            dsimp only
            simp [Wk, go_sem, simprocAttr, eGraph, OWN, List.take_add_one, hf, eVal]
          · exact hi
          · simp only; omega
        · have hi : i = ty.F.length := by simp at ct64; omega
          rw [hi, List.take_length]
          refine CW.exit ?_
          refine CW.seq ?_
          refine CW.sh (Sh.frz 5 2 rfl rfl) ?_
          simp only [go_sem, simprocAttr, OWN]
          refine CW.rg ?_
          refine CWops.run htt 7 (by simp only [go_sem, simprocAttr, OWN, List.replicate]; exact rfl) (by simp [AV.cell, AV.tree, MX] <;> omega) ?_
          refine CWops.done ?_
          refine CW.seq ?_
          refine CW.sh (Sh.trans (Sh.frzC 2 0 4 0 (by decide) rfl rfl rfl) (Sh.frzC 2 2 4 2 (by decide) rfl rfl rfl)) ?_
          simp only [go_sem, simprocAttr, OWN]
          refine CW.sh (Sh.frz 4 1 rfl rfl) ?_
          rw [show ([.int .i64 (newId g), .int .i64 (q : Int), .sl 3 ((List.map zeroV ty.F).map eVal)] : List AV) = [.int .i64 (newObj g q).Id, .int .i64 (newObj g q).T, .sl 3 ((newObj g q).F.map eVal)] by unfold newObj; rw [htF], frz_ObjA]
          simp only [go_sem, simprocAttr]
          refine CW.drawnF mixed 3 4 [1, 2] (D := [82, 83]) (by decide) (by decide) (by kernel_rfl) (by kernel_rfl) rfl (by kernel_rfl) (by kernel_rfl) ?_
          refine Seg.run htt 3 (by simp only [go_sem, simprocAttr]; exact rfl) ?_
          refine Seg.done ?_
          refine Mid.sto htt (Flo.cons htt rfl rfl (by simp only [go_sem, simprocAttr]; first | done | exact rfl) (Flo.cons htt rfl rfl (by simp only [go_sem, simprocAttr]; first | done | exact rfl) (Flo.nil))) (fun u => by simp only [go_sem, simprocAttr]; exact rfl) ?_
          refine Mid.done (Flo.cons htt rfl rfl (by simp only [go_sem, simprocAttr]; first | done | exact rfl) (Flo.cons htt rfl rfl (by simp only [go_sem, simprocAttr]; first | done | exact rfl) (Flo.nil))) ?_
          refine CWops.rn htt 2 ?_
          refine CWops.done ?_
          refine CW.ret ?_
          refine retQ.ret (by simp only [f7, go_sem, simprocAttr]; exact rfl) (by simp only [go_sem, simprocAttr]; exact rfl) ?_ -- ret4
          refine ⟨_, ?_, rfl⟩
          simp [leP, leL, gNew, ct16, show ¬ ((q : Int) < 0) by omega, Nat.not_le.2 hql, ct53, eGraph, newObj]
end Go.Ab
namespace Go.Ab
open Go Go.Proofs.Tryz
set_option maxRecDepth 100000
set_option linter.unusedSimpArgs false
set_option linter.unusedVariables false
theorem graph_Root (up : Bool) (g : Graph) (i id : Int) (hz : GSz g) : PCall prog up 11 [.agg (eGraph g), .int .i64 i, .int .i64 id] (· = .tup [.agg (eGraph (gRoot g i id).1), .int .i64 (gRoot g i id).2]) := by
  refine PCall.intro htt func11 (by kernel_rfl) rfl (Nat.le_of_ble_eq_true rfl) fun hl => ?_

  simp only [tmps0, Nat.reduceAdd]
  refine CW.seq ?_
  refine CW.rg ?_
  refine CWops.run htt 3 (by simp only [go_sem, simprocAttr, eGraph]; exact rfl) (by simp [go_sem, simprocAttr, eGraph]) ?_
  refine CWops.done ?_
  refine CW.cut ⟨5, [(0, .agg (eGraph g)), (1, .int .i64 i), (2, .int .i64 id), (3, .lv 0 [] 0), (6, .lv 1 [] 0), (7, .int .i64 0), (8, .lv 4 [] 0)], [(0, ⟨true, eGraph g⟩), (1, ⟨true, [.nilsl, .nilsl, .nilsl]⟩), (2, ⟨true, OWN g⟩), (4, ⟨true, [.ref 2 [] 0, .ref 2 [] 1, .ref 2 [] 2]⟩)]⟩ ?_ ?_
  · refine CW.rg ?_
    refine CWops.run htt 1 (by simp only [go_sem, simprocAttr, eGraph, OWN]; exact rfl) (by simp [go_sem, simprocAttr, eGraph, OWN]) ?_
    refine CWops.callG [] rfl (graph_own up g hz) (by simp only [go_sem, simprocAttr]) (by simp only [go_sem, simprocAttr]; first | done | exact rfl) (by decide) (by simp [go_sem, simprocAttr, mName, memB]) (by simp [go_sem, simprocAttr, mName]) (by simp [go_sem, simprocAttr]) (by simp [go_sem, simprocAttr]) (by simp [go_sem, simprocAttr, mName, eGraph]) (fun r σ' hσ => ?_)
    obtain ⟨σn, σt, σs⟩ := σ'
    simp only at hσ
    obtain ⟨rfl, rfl, rfl⟩ := hσ
    simp only [aftS, renS, delAll, memB, mName, List.getD_nil, killH, kref, ren, Nat.beq_eq, go_sem, simprocAttr]
    refine CWops.run htt 2 (by simp only [go_sem, simprocAttr, eGraph, OWN]; exact rfl) (by simp [go_sem, simprocAttr, eGraph, OWN]) ?_
    refine CWops.done ?_
    first | refine ⟨rfl, Sh.wk0 ?_⟩ | refine Sh.wk0 ?_
    simp [Wk, go_sem, simprocAttr, eGraph, OWN]
  refine CW.seq ?_
  refine CW.block ?_
  refine CW.seq ?_
  refine CW.rg ?_
  refine CWops.run htt 1 (by simp only [go_sem, simprocAttr, eGraph]; exact rfl) (by simp [go_sem, simprocAttr, eGraph]) ?_
  refine CWops.call (graph_May up g) (by simp only [go_sem, simprocAttr, eGraph]) (by simp only [go_sem, simprocAttr, eGraph]; first | done | exact rfl) (by simp only [go_sem, simprocAttr, eGraph]) (fun rt13 hrt13 => ?_)
  subst hrt13; refine ⟨rfl, ?_⟩
  refine CWops.run htt 2 (by simp only [go_sem, simprocAttr, eGraph]; exact rfl) (by simp [go_sem, simprocAttr, eGraph]) ?_
  refine CWops.done ?_
  refine CW.cond (by simp only [go_sem, simprocAttr]; first | done | exact rfl) (fun ct11 => ?_) (fun ct11 => ?_)
  · have ct16' : gMay g = false := by simpa using ct11
    refine CW.seq ?_
    try simp only [OWN]
    refine CW.sh (Sh.trans (Sh.frzC 2 0 4 0 (by decide) rfl rfl rfl) (Sh.trans (Sh.frzC 2 1 4 1 (by decide) rfl rfl rfl) (Sh.frzC 2 2 4 2 (by decide) rfl rfl rfl))) ?_
    simp only [go_sem, simprocAttr]
    refine CW.rg ?_
    refine CWops.rn htt 3 ?_
    refine CWops.done ?_
    refine CW.ret ?_
    refine retQ.ret (by simp only [f11, go_sem, simprocAttr]; exact rfl) (by simp only [go_sem, simprocAttr]; exact rfl) ?_ -- ret1
    refine ⟨_, ?_, rfl⟩
    simp [leP, leL, gRoot, ct16', eGraph]
  · have hmm : gMay g = true := by simpa using ct11
    have hm := (may_iff g).1 hmm
    have hr3 := hm.r
    refine CW.cut ⟨5, [(0, .agg (eGraph g)), (1, .int .i64 i), (2, .int .i64 id), (3, .lv 0 [] 0), (6, .lv 1 [] 0), (7, .int .i64 0), (8, .lv 4 [] 0), (16, .bool (rootBad g i id))], [(0, ⟨true, eGraph g⟩), (1, ⟨true, [.nilsl, .nilsl, .nilsl]⟩), (2, ⟨true, OWN g⟩), (4, ⟨true, [.ref 2 [] 0, .ref 2 [] 1, .ref 2 [] 2]⟩)]⟩ ?_ ?_
    · refine CW.seq ?_
      refine CW.rg ?_
      refine CWops.rn htt 3 ?_
      refine CWops.done ?_
      refine CW.cond (by simp only [go_sem, simprocAttr]; first | done | exact rfl) (fun ct16 => ?_) (fun ct16 => ?_)
      · refine CW.skip ?_
        first | refine ⟨rfl, Sh.wk0 ?_⟩ | refine Sh.wk0 ?_
        unfold rootBad
        by_cases b1 : i < 0 <;> by_cases b2 : 3 ≤ i <;> by_cases b3 : (g.Roots.length : Int) < i <;> by_cases b4 : id = -1 <;> by_cases b5 : fnd (fun o => decide (o.Id = id)) g.O = -1 <;> simp_all [Wk, go_sem, simprocAttr, eGraph, OWN] <;> omega
      · refine CW.seq ?_
        refine CW.rg ?_
        refine CWops.rn htt 3 ?_
        refine CWops.done ?_
        refine CW.cond (by simp only [go_sem, simprocAttr]; first | done | exact rfl) (fun ct16 => ?_) (fun ct16 => ?_)
        · refine CW.skip ?_
          first | refine ⟨rfl, Sh.wk0 ?_⟩ | refine Sh.wk0 ?_
          unfold rootBad
          by_cases b1 : i < 0 <;> by_cases b2 : 3 ≤ i <;> by_cases b3 : (g.Roots.length : Int) < i <;> by_cases b4 : id = -1 <;> by_cases b5 : fnd (fun o => decide (o.Id = id)) g.O = -1 <;> simp_all [Wk, go_sem, simprocAttr, eGraph, OWN] <;> omega
        · refine CW.seq ?_
          refine CW.rg ?_
          refine CWops.run htt 6 (by simp only [go_sem, simprocAttr, eGraph]; exact rfl) (by simp [go_sem, simprocAttr, eGraph]) ?_
          refine CWops.done ?_
          refine CW.cond (by simp only [go_sem, simprocAttr]; first | done | exact rfl) (fun ct16 => ?_) (fun ct16 => ?_)
          · refine CW.skip ?_
            first | refine ⟨rfl, Sh.wk0 ?_⟩ | refine Sh.wk0 ?_
            unfold rootBad
            by_cases b1 : i < 0 <;> by_cases b2 : 3 ≤ i <;> by_cases b3 : (g.Roots.length : Int) < i <;> by_cases b4 : id = -1 <;> by_cases b5 : fnd (fun o => decide (o.Id = id)) g.O = -1 <;> simp_all [Wk, go_sem, simprocAttr, eGraph, OWN] <;> omega
          · refine CW.rg ?_
            refine CWops.run htt 3 (by simp only [go_sem, simprocAttr, eGraph]; exact rfl) (by simp [go_sem, simprocAttr, eGraph]) ?_
            all_goals (first | refine CWops.guard 28 (by simp only [go_sem, simprocAttr, eGraph]; exact rfl) (fun g28 => ?_) (fun g28 => ?_) | skip)
            all_goals (refine CWops.run htt 2 (by simp only [go_sem, simprocAttr, eGraph]; exact rfl) (by simp [go_sem, simprocAttr, eGraph]) ?_)
            all_goals (first | (refine CWops.skip ?_ ?_; next => (simp only [go_sem, simprocAttr]; done)) | (refine CWops.call (graph_Find up g id) (by simp only [go_sem, simprocAttr, eGraph]) (by simp only [go_sem, simprocAttr, eGraph]; first | done | exact rfl) (by simp only [go_sem, simprocAttr, eGraph]) (fun rt31 hrt31 => ?_); subst hrt31; refine ⟨rfl, ?_⟩))
            all_goals (refine CWops.run htt 3 (by simp only [go_sem, simprocAttr, eGraph]; exact rfl) (by simp [go_sem, simprocAttr, eGraph]) ?_)
            all_goals (refine CWops.done ?_)
            all_goals (
              first | refine ⟨rfl, Sh.wk0 ?_⟩ | refine Sh.wk0 ?_
              unfold rootBad
              by_cases b1 : i < 0 <;> by_cases b2 : 3 ≤ i <;> by_cases b3 : (g.Roots.length : Int) < i <;> by_cases b4 : id = -1 <;> by_cases b5 : fnd (fun o => decide (o.Id = id)) g.O = -1 <;> simp_all [Wk, go_sem, simprocAttr, eGraph, OWN] <;> omega)
    refine CW.cond (by simp only [go_sem, simprocAttr]; first | done | exact rfl) (fun ct16 => ?_) (fun ct16 => ?_)
    · refine CW.seq ?_
      try simp only [OWN]
      refine CW.sh (Sh.trans (Sh.frzC 2 0 4 0 (by decide) rfl rfl rfl) (Sh.trans (Sh.frzC 2 1 4 1 (by decide) rfl rfl rfl) (Sh.frzC 2 2 4 2 (by decide) rfl rfl rfl))) ?_
      simp only [go_sem, simprocAttr]
      refine CW.rg ?_
      refine CWops.rn htt 3 ?_
      refine CWops.done ?_
      refine CW.ret ?_
      refine retQ.ret (by simp only [f11, go_sem, simprocAttr]; exact rfl) (by simp only [go_sem, simprocAttr]; exact rfl) ?_ -- ret2
      refine ⟨_, ?_, rfl⟩
      simp [leP, leL, gRoot, hmm, ct16, eGraph]
    · have hb := ct16
      unfold rootBad at hb
      simp only [Bool.or_eq_false_iff, decide_eq_false_iff_not] at hb
      obtain ⟨j, rfl⟩ := Int.eq_ofNat_of_zero_le (show 0 ≤ i by omega)
      have hj : j ≤ g.Roots.length := by omega
      refine CW.seq ?_
      refine CW.rg ?_
      refine CWops.run htt 6 (by simp only [go_sem, simprocAttr, eGraph]; exact rfl) (by simp [go_sem, simprocAttr, eGraph]) ?_
      refine CWops.done ?_
      refine CW.cond (by simp only [go_sem, simprocAttr]; first | done | exact rfl) (fun ct35 => ?_) (fun ct35 => ?_)
      · have hje : j = g.Roots.length := by simp at ct35; omega
        refine CW.rg ?_
        refine CWops.run htt 7 (by simp only [go_sem, simprocAttr, List.replicate, OWN]; exact rfl) (by simp [AV.cell, AV.tree, MX] <;> omega) ?_
        refine CWops.done ?_
        rw [show (List.map eI g.Roots ++ [[AV.int .i64 id]]) = (g.Roots ++ [id]).map eI by simp [eI]]
        generalize hl2 : g.Roots ++ [id] = l2
        have hkl : j < l2.length := by rw [← hl2]; simp; omega
        obtain ⟨w, hw⟩ : ∃ x, l2[j]? = some x := ⟨l2[j], List.getElem?_eq_getElem hkl⟩
        refine CW.seq ?_
        refine CW.rg ?_
        refine CWops.run htt 6 (by simp only [go_sem, simprocAttr, OWN, List.getElem?_set_self, List.length_map, hkl, hw, eI]; exact rfl) (by simp [go_sem, simprocAttr, OWN, List.getElem?_set_self, List.length_map, hkl, hw, eI]) ?_
        refine CWops.done ?_
        first | rw [show (List.map eI l2).set j [AV.int .i64 id] = (setRoot g.Roots j id).map eI by rw [← hl2, hje, List.map_append]; exact set_app g.Roots id] | rw [set_root (Nat.ne_of_lt hkl) id]
        refine CW.seq ?_
        first | (refine CW.sh (Sh.trans (Sh.frzC 2 0 4 0 (by decide) rfl rfl rfl) (Sh.trans (Sh.frzC 2 1 4 1 (by decide) rfl rfl rfl) (Sh.frzC 2 2 4 2 (by decide) rfl rfl rfl))) ?_; simp only [go_sem, simprocAttr]) | (refine CW.sh (Sh.trans (Sh.frzC 2 0 4 0 (by decide) rfl rfl rfl) (Sh.trans (Sh.frzC 2 1 4 1 (by decide) rfl rfl rfl) (Sh.frz 4 2 rfl rfl))) ?_; simp only [go_sem, simprocAttr])
        refine CW.rg ?_
        refine CWops.rn htt 3 ?_
        refine CWops.done ?_
        refine CW.ret ?_
        refine retQ.ret (by simp only [f11, go_sem, simprocAttr]; exact rfl) (by simp only [go_sem, simprocAttr]; exact rfl) ?_ -- ret3
        refine ⟨_, ?_, rfl⟩
        simp [leP, leL, gRoot, hmm, ct16, eGraph]
      · have hkl : j < g.Roots.length := by simp at ct35; omega
        obtain ⟨w, hw⟩ : ∃ x, g.Roots[j]? = some x := ⟨g.Roots[j], List.getElem?_eq_getElem hkl⟩
        refine CW.skip ?_
        refine CW.seq ?_
        refine CW.rg ?_
        refine CWops.run htt 6 (by simp only [go_sem, simprocAttr, OWN, List.getElem?_set_self, List.length_map, hkl, hw, eI]; exact rfl) (by simp [go_sem, simprocAttr, OWN, List.getElem?_set_self, List.length_map, hkl, hw, eI]) ?_
        refine CWops.done ?_
        first | rw [show (List.map eI l2).set j [AV.int .i64 id] = (setRoot g.Roots j id).map eI by rw [← hl2, hje, List.map_append]; exact set_app g.Roots id] | rw [set_root (Nat.ne_of_lt hkl) id]
        refine CW.seq ?_
        first | (refine CW.sh (Sh.trans (Sh.frzC 2 0 4 0 (by decide) rfl rfl rfl) (Sh.trans (Sh.frzC 2 1 4 1 (by decide) rfl rfl rfl) (Sh.frzC 2 2 4 2 (by decide) rfl rfl rfl))) ?_; simp only [go_sem, simprocAttr]) | (refine CW.sh (Sh.trans (Sh.frzC 2 0 4 0 (by decide) rfl rfl rfl) (Sh.trans (Sh.frzC 2 1 4 1 (by decide) rfl rfl rfl) (Sh.frz 4 2 rfl rfl))) ?_; simp only [go_sem, simprocAttr])
        refine CW.rg ?_
        refine CWops.rn htt 3 ?_
        refine CWops.done ?_
        refine CW.ret ?_
        refine retQ.ret (by simp only [f11, go_sem, simprocAttr]; exact rfl) (by simp only [go_sem, simprocAttr]; exact rfl) ?_ -- ret4
        refine ⟨_, ?_, rfl⟩
        simp [leP, leL, gRoot, hmm, ct16, eGraph]
end Go.Ab
namespace Go.Ab
open Go Go.Proofs.Tryz
open Nat (reduceEqDiff reduceAdd reduceLT reduceLeDiff reduceBEq reduceSub reduceMul)
open Int (reduceToNat)
set_option maxRecDepth 100000
set_option linter.unusedSimpArgs false
set_option linter.unusedVariables false
@[go_sem] theorem tt_111 : tiOf prog 111 = some ⟨.int IntKind.u64, 1, 8, [.int .u64 0], false⟩ := by kernel_rfl
@[go_sem] theorem tt_140 : tiOf prog 140 = some ⟨.int IntKind.u64, 1, 8, [.int .u64 0], false⟩ := by kernel_rfl
@[go_sem] theorem tt_138 : tiOf prog 138 = some ⟨.int IntKind.u32, 1, 4, [.int .u32 0], false⟩ := by kernel_rfl
theorem cmp_isNaN (up : Bool) (x : Int) : PCall prog up 106 [.int .i64 x] (· = .bool false) := by
  refine PCall.intro htt func106 (by kernel_rfl) rfl (Nat.le_of_ble_eq_true rfl) fun hl => ?_

  simp only [tmps0, Nat.reduceAdd]
  refine CW.seq ?_
  refine CW.region (by kernel_rfl) (by kernel_rfl) ?_ -- r0
  refine CWops.run htt 1 (by simp only [go_sem, reduceIte, reduceCtorEq, reduceEqDiff, reduceAdd, reduceLT, reduceLeDiff, reduceToNat, reduceMul, reduceSub, Nat.reduceBEq, Int.reduceLE]; exact rfl) (by simp [go_sem, reduceIte, reduceCtorEq, reduceEqDiff, reduceAdd, reduceLT, reduceLeDiff, reduceToNat, reduceMul, reduceSub, Nat.reduceBEq, Int.reduceLE]) ?_
  refine CWops.done ?_
  refine CW.seq ?_
  refine CW.region (by kernel_rfl) (by kernel_rfl) ?_ -- r1
  refine CWops.run htt 4 (by simp only [go_sem, reduceIte, reduceCtorEq, reduceEqDiff, reduceAdd, reduceLT, reduceLeDiff, reduceToNat, reduceMul, reduceSub, Nat.reduceBEq, Int.reduceLE]; exact rfl) (by simp [go_sem, reduceIte, reduceCtorEq, reduceEqDiff, reduceAdd, reduceLT, reduceLeDiff, reduceToNat, reduceMul, reduceSub, Nat.reduceBEq, Int.reduceLE]) ?_
  refine CWops.done ?_
  refine CW.ret ?_
  refine retQ.ret (by simp only [f106, go_sem, reduceIte, reduceCtorEq, reduceEqDiff, reduceAdd, reduceLT, reduceLeDiff, reduceToNat, reduceMul, reduceSub, Nat.reduceBEq, Int.reduceLE]; exact rfl) (by simp only [go_sem, reduceIte, reduceCtorEq, reduceEqDiff, reduceAdd, reduceLT, reduceLeDiff, reduceToNat, reduceMul, reduceSub, Nat.reduceBEq, Int.reduceLE]; exact rfl) ?_ -- ret1
  refine ⟨_, ?_, rfl⟩
  simp [leP]
theorem slices_isNaN (up : Bool) (x : Int) : PCall prog up 91 [.int .i64 x] (· = .bool false) := by
  refine PCall.intro htt func91 (by kernel_rfl) rfl (Nat.le_of_ble_eq_true rfl) fun hl => ?_

  simp only [tmps0, Nat.reduceAdd]
  refine CW.seq ?_
  refine CW.region (by kernel_rfl) (by kernel_rfl) ?_ -- r0
  refine CWops.run htt 1 (by simp only [go_sem, reduceIte, reduceCtorEq, reduceEqDiff, reduceAdd, reduceLT, reduceLeDiff, reduceToNat, reduceMul, reduceSub, Nat.reduceBEq, Int.reduceLE]; exact rfl) (by simp [go_sem, reduceIte, reduceCtorEq, reduceEqDiff, reduceAdd, reduceLT, reduceLeDiff, reduceToNat, reduceMul, reduceSub, Nat.reduceBEq, Int.reduceLE]) ?_
  refine CWops.done ?_
  refine CW.seq ?_
  refine CW.region (by kernel_rfl) (by kernel_rfl) ?_ -- r1
  refine CWops.run htt 4 (by simp only [go_sem, reduceIte, reduceCtorEq, reduceEqDiff, reduceAdd, reduceLT, reduceLeDiff, reduceToNat, reduceMul, reduceSub, Nat.reduceBEq, Int.reduceLE]; exact rfl) (by simp [go_sem, reduceIte, reduceCtorEq, reduceEqDiff, reduceAdd, reduceLT, reduceLeDiff, reduceToNat, reduceMul, reduceSub, Nat.reduceBEq, Int.reduceLE]) ?_
  refine CWops.done ?_
  refine CW.ret ?_
  refine retQ.ret (by simp only [f91, go_sem, reduceIte, reduceCtorEq, reduceEqDiff, reduceAdd, reduceLT, reduceLeDiff, reduceToNat, reduceMul, reduceSub, Nat.reduceBEq, Int.reduceLE]; exact rfl) (by simp only [go_sem, reduceIte, reduceCtorEq, reduceEqDiff, reduceAdd, reduceLT, reduceLeDiff, reduceToNat, reduceMul, reduceSub, Nat.reduceBEq, Int.reduceLE]; exact rfl) ?_ -- ret1
  refine ⟨_, ?_, rfl⟩
  simp [leP]
theorem cmp_Less (up : Bool) (x y : Int) : PCall prog up 90 [.int .i64 x, .int .i64 y] (· = .bool (decide (x < y))) := by
  refine PCall.intro htt func90 (by kernel_rfl) rfl (Nat.le_of_ble_eq_true rfl) fun hl => ?_

  simp only [tmps0, Nat.reduceAdd]
  refine CW.seq ?_
  refine CW.region (by kernel_rfl) (by kernel_rfl) ?_ -- r0
  refine CWops.run htt 1 (by simp only [go_sem, reduceIte, reduceCtorEq, reduceEqDiff, reduceAdd, reduceLT, reduceLeDiff, reduceToNat, reduceMul, reduceSub, Nat.reduceBEq, Int.reduceLE]; exact rfl) (by simp [go_sem, reduceIte, reduceCtorEq, reduceEqDiff, reduceAdd, reduceLT, reduceLeDiff, reduceToNat, reduceMul, reduceSub, Nat.reduceBEq, Int.reduceLE]) ?_
  refine CWops.done ?_
  refine CW.seq ?_
  refine CW.region (by kernel_rfl) (by kernel_rfl) ?_ -- r1
  refine CWops.run htt 1 (by simp only [go_sem, reduceIte, reduceCtorEq, reduceEqDiff, reduceAdd, reduceLT, reduceLeDiff, reduceToNat, reduceMul, reduceSub, Nat.reduceBEq, Int.reduceLE]; exact rfl) (by simp [go_sem, reduceIte, reduceCtorEq, reduceEqDiff, reduceAdd, reduceLT, reduceLeDiff, reduceToNat, reduceMul, reduceSub, Nat.reduceBEq, Int.reduceLE]) ?_
  refine CWops.callA (cmp_isNaN up x) (by simp only [go_sem, reduceIte, reduceCtorEq, reduceEqDiff, reduceAdd, reduceLT, reduceLeDiff, reduceToNat, reduceMul, reduceSub, Nat.reduceBEq, Int.reduceLE]) (by simp only [go_sem, reduceIte, reduceCtorEq, reduceEqDiff, reduceAdd, reduceLT, reduceLeDiff, reduceToNat, reduceMul, reduceSub, Nat.reduceBEq, Int.reduceLE]; first | done | exact rfl) (by simp only [go_sem, reduceIte, reduceCtorEq, reduceEqDiff, reduceAdd, reduceLT, reduceLeDiff, reduceToNat, reduceMul, reduceSub, Nat.reduceBEq, Int.reduceLE]) (by simp only [go_sem, reduceIte, reduceCtorEq, reduceEqDiff, reduceAdd, reduceLT, reduceLeDiff, reduceToNat, reduceMul, reduceSub, Nat.reduceBEq, Int.reduceLE]) (fun rt6 hrt6 => ?_)
  subst hrt6
  refine CWops.run htt 1 (by simp only [go_sem, reduceIte, reduceCtorEq, reduceEqDiff, reduceAdd, reduceLT, reduceLeDiff, reduceToNat, reduceMul, reduceSub, Nat.reduceBEq, Int.reduceLE]; exact rfl) (by simp [go_sem, reduceIte, reduceCtorEq, reduceEqDiff, reduceAdd, reduceLT, reduceLeDiff, reduceToNat, reduceMul, reduceSub, Nat.reduceBEq, Int.reduceLE]) ?_
  all_goals (first | refine CWops.guard 7 (by simp only [go_sem, reduceIte, reduceCtorEq, reduceEqDiff, reduceAdd, reduceLT, reduceLeDiff, reduceToNat, reduceMul, reduceSub, Nat.reduceBEq, Int.reduceLE]; exact rfl) (fun g7 => ?_) (fun g7 => ?_) | skip)
  all_goals (try (cases g7; done))
  all_goals (refine CWops.run htt 1 (by simp only [go_sem, reduceIte, reduceCtorEq, reduceEqDiff, reduceAdd, reduceLT, reduceLeDiff, reduceToNat, reduceMul, reduceSub, Nat.reduceBEq, Int.reduceLE]; exact rfl) (by simp [go_sem, reduceIte, reduceCtorEq, reduceEqDiff, reduceAdd, reduceLT, reduceLeDiff, reduceToNat, reduceMul, reduceSub, Nat.reduceBEq, Int.reduceLE]) ?_)
  all_goals (first | (refine CWops.skip ?_ ?_; next => (simp only [go_sem, reduceIte, reduceCtorEq, reduceEqDiff, reduceAdd, reduceLT, reduceLeDiff, reduceToNat, reduceMul, reduceSub, Nat.reduceBEq, Int.reduceLE]; done)) | (refine CWops.callA (cmp_isNaN up y) (by simp only [go_sem, reduceIte, reduceCtorEq, reduceEqDiff, reduceAdd, reduceLT, reduceLeDiff, reduceToNat, reduceMul, reduceSub, Nat.reduceBEq, Int.reduceLE]) (by simp only [go_sem, reduceIte, reduceCtorEq, reduceEqDiff, reduceAdd, reduceLT, reduceLeDiff, reduceToNat, reduceMul, reduceSub, Nat.reduceBEq, Int.reduceLE]; first | done | exact rfl) (by simp only [go_sem, reduceIte, reduceCtorEq, reduceEqDiff, reduceAdd, reduceLT, reduceLeDiff, reduceToNat, reduceMul, reduceSub, Nat.reduceBEq, Int.reduceLE]) (by simp only [go_sem, reduceIte, reduceCtorEq, reduceEqDiff, reduceAdd, reduceLT, reduceLeDiff, reduceToNat, reduceMul, reduceSub, Nat.reduceBEq, Int.reduceLE]) (fun rt9 hrt9 => ?_); subst hrt9))
  all_goals (refine CWops.run htt 3 (by simp only [go_sem, reduceIte, reduceCtorEq, reduceEqDiff, reduceAdd, reduceLT, reduceLeDiff, reduceToNat, reduceMul, reduceSub, Nat.reduceBEq, Int.reduceLE]; exact rfl) (by simp [go_sem, reduceIte, reduceCtorEq, reduceEqDiff, reduceAdd, reduceLT, reduceLeDiff, reduceToNat, reduceMul, reduceSub, Nat.reduceBEq, Int.reduceLE]) ?_)
  all_goals (first | refine CWops.guard 12 (by simp only [go_sem, reduceIte, reduceCtorEq, reduceEqDiff, reduceAdd, reduceLT, reduceLeDiff, reduceToNat, reduceMul, reduceSub, Nat.reduceBEq, Int.reduceLE]; exact rfl) (fun g12 => ?_) (fun g12 => ?_) | skip)
  all_goals (try (cases g12; done))
  all_goals (refine CWops.run htt 5 (by simp only [go_sem, reduceIte, reduceCtorEq, reduceEqDiff, reduceAdd, reduceLT, reduceLeDiff, reduceToNat, reduceMul, reduceSub, Nat.reduceBEq, Int.reduceLE]; exact rfl) (by simp [go_sem, reduceIte, reduceCtorEq, reduceEqDiff, reduceAdd, reduceLT, reduceLeDiff, reduceToNat, reduceMul, reduceSub, Nat.reduceBEq, Int.reduceLE]) ?_)
  all_goals (refine CWops.done ?_)
  all_goals (
    refine CW.ret ?_
    refine retQ.ret (by simp only [f90, go_sem, reduceIte, reduceCtorEq, reduceEqDiff, reduceAdd, reduceLT, reduceLeDiff, reduceToNat, reduceMul, reduceSub, Nat.reduceBEq, Int.reduceLE]; exact rfl) (by simp only [go_sem, reduceIte, reduceCtorEq, reduceEqDiff, reduceAdd, reduceLT, reduceLeDiff, reduceToNat, reduceMul, reduceSub, Nat.reduceBEq, Int.reduceLE]; exact rfl) ?_ -- ret1
    refine ⟨_, ?_, rfl⟩
    simp [leP])
theorem insertionSort (up : Bool) (l : List Int) (hl : l.length < 1000) : GCallH prog up 116 [.ref 0 [] 0, .int .i64 0, .int .i64 l.length] 1 [(0, ⟨false, [.own 1 (l.map eI)]⟩)] [0] (fun _ σ' => ∃ m, σ'.n = 1 ∧ σ'.s = [(0, ⟨false, [.own 1 (m.map eI)]⟩)] ∧ Sorted l m) := by
  refine GCallH.intro htt 1 func116 (by kernel_rfl) rfl (Nat.le_of_ble_eq_true rfl) (CW.told ?_)
  have w1 : IntKind.i64.wrap ((0 : Int) + 1) = ((1 : Nat) : Int) := by decide
  simp only [tmps0, Nat.reduceAdd]
  refine CW.seq ?_
  refine CW.region (by kernel_rfl) (by kernel_rfl) ?_ -- r0
  refine CWops.run htt 3 (by simp only [go_sem, reduceIte, reduceCtorEq, reduceEqDiff, reduceAdd, reduceLT, reduceLeDiff, reduceToNat, reduceMul, reduceSub, Nat.reduceBEq, Int.reduceLE, w1]; exact rfl) (by simp [go_sem, reduceIte, reduceCtorEq, reduceEqDiff, reduceAdd, reduceLT, reduceLeDiff, reduceToNat, reduceMul, reduceSub, Nat.reduceBEq, Int.reduceLE, w1]) ?_
  refine CWops.done ?_
  refine CW.block ?_
  refine CW.loop (S := Nat × List Int) (fun p => ⟨1, [(0, .ref 0 [] 0), (1, .int .i64 0), (2, .int .i64 l.length), (6, .int .i64 p.1)], [(0, ⟨false, [.own 1 (p.2.map eI)]⟩)]⟩) (fun p => UpTo p.2 p.1 ∧ p.2.Perm l ∧ 1 ≤ p.1) (fun p => l.length - p.1) ((1, l)) ?_ ⟨fun p q x y h1 h2 => by omega, List.Perm.refl l, Nat.le_refl 1⟩ (fun ⟨i, m⟩ ⟨h1, h2, h3⟩ => ?_)
  · refine Sh.wk0 ?_; simp [Wk, go_sem, reduceIte, reduceCtorEq, reduceEqDiff, reduceAdd, reduceLT, reduceLeDiff, reduceToNat, reduceMul, reduceSub, Nat.reduceBEq, Int.reduceLE]
  refine CW.seq ?_
  refine CW.seq ?_
  refine CW.region (by kernel_rfl) (by kernel_rfl) ?_ -- r1
  refine CWops.run htt 3 (by simp only [go_sem, reduceIte, reduceCtorEq, reduceEqDiff, reduceAdd, reduceLT, reduceLeDiff, reduceToNat, reduceMul, reduceSub, Nat.reduceBEq, Int.reduceLE]; exact rfl) (by simp [go_sem, reduceIte, reduceCtorEq, reduceEqDiff, reduceAdd, reduceLT, reduceLeDiff, reduceToNat, reduceMul, reduceSub, Nat.reduceBEq, Int.reduceLE]) ?_
  refine CWops.done ?_
  refine CW.cond (by simp only [go_sem, reduceIte, reduceCtorEq, reduceEqDiff, reduceAdd, reduceLT, reduceLeDiff, reduceToNat, reduceMul, reduceSub, Nat.reduceBEq, Int.reduceLE]; first | done | exact rfl) (fun ct12 => ?_) (fun ct12 => ?_)
  · have hi : i < l.length := by simpa using ct12
    refine CW.skip ?_
    refine CW.seq ?_
    refine CW.block ?_
    refine CW.seq ?_
    refine CW.region (by kernel_rfl) (by kernel_rfl) ?_ -- r3
    refine CWops.run htt 2 (by simp only [go_sem, reduceIte, reduceCtorEq, reduceEqDiff, reduceAdd, reduceLT, reduceLeDiff, reduceToNat, reduceMul, reduceSub, Nat.reduceBEq, Int.reduceLE]; exact rfl) (by simp [go_sem, reduceIte, reduceCtorEq, reduceEqDiff, reduceAdd, reduceLT, reduceLeDiff, reduceToNat, reduceMul, reduceSub, Nat.reduceBEq, Int.reduceLE]) ?_
    refine CWops.done ?_
    refine CW.block ?_
    refine CW.loop (S := Nat × List Int) (fun p => ⟨1, [(0, .ref 0 [] 0), (1, .int .i64 0), (2, .int .i64 l.length), (6, .int .i64 i), (7, .int .i64 p.1)], [(0, ⟨false, [.own 1 (p.2.map eI)]⟩)]⟩) (fun p => Ins p.2 i p.1 ∧ p.2.Perm l ∧ p.1 ≤ i) (fun p => p.1) ((i, m)) ?_ ⟨Ins.start h1, h2, Nat.le_refl i⟩ (fun ⟨j, mm⟩ ⟨k1, k2, k3⟩ => ?_)
    · refine Sh.wk0 ?_; simp [Wk, go_sem, reduceIte, reduceCtorEq, reduceEqDiff, reduceAdd, reduceLT, reduceLeDiff, reduceToNat, reduceMul, reduceSub, Nat.reduceBEq, Int.reduceLE]
    refine CW.seq ?_
    refine CW.cut ⟨1, [(0, .ref 0 [] 0), (1, .int .i64 0), (2, .int .i64 l.length), (6, .int .i64 i), (7, .int .i64 j), (30, .bool (lessAt mm j))], [(0, ⟨false, [.own 1 (mm.map eI)]⟩)]⟩ ?_ ?_
    · have hml : mm.length = l.length := k2.length_eq
      simp only at k3
      obtain ⟨k, a, b, hjab⟩ : ∃ k a b, (j = 0 ∧ True ∧ True ∧ True ∧ True ∧ True) ∨ (j = k + 1 ∧ mm[k]? = some a ∧ mm[k + 1]? = some b ∧ IntKind.i64.wrap (((k + 1 : Nat) : Int) - 1) = (k : Int) ∧ k < mm.length ∧ k + 1 < mm.length) := by
        rcases j with _ | k
        · exact ⟨0, 0, 0, .inl ⟨rfl, trivial, trivial, trivial, trivial, trivial⟩⟩
        · exact ⟨k, mm[k], mm[k + 1], .inr ⟨rfl, List.getElem?_eq_getElem (by omega), List.getElem?_eq_getElem (by omega), by rw [wrap_id (by omega) (by omega)]; omega, by omega, by omega⟩⟩
      rcases hjab with ⟨rfl, ha, hb, hw, hja, hjb⟩ | ⟨rfl, ha, hb, hw, hja, hjb⟩
      all_goals (refine CW.drawn mixed 13 (by decide) (by kernel_rfl) (by kernel_rfl) (by kernel_rfl) ?_) -- r4
      all_goals (refine Seg.run htt 4 (by simp only [go_sem, reduceIte, reduceCtorEq, reduceEqDiff, reduceAdd, reduceLT, reduceLeDiff, reduceToNat, reduceMul, reduceSub, Nat.reduceBEq, Int.reduceLE, ha, hb, hw, hja, hjb, List.length_map, eI]; exact rfl) ?_)
      all_goals (first | refine Seg.guard 19 (by simp only [go_sem, reduceIte, reduceCtorEq, reduceEqDiff, reduceAdd, reduceLT, reduceLeDiff, reduceToNat, reduceMul, reduceSub, Nat.reduceBEq, Int.reduceLE, ha, hb, hw, hja, hjb, List.length_map, eI]; exact rfl) (fun g19 => ?_) (fun g19 => ?_) | skip)
      all_goals (first | (simp at g19; done) | (exfalso; simp at g19 <;> omega) | skip)
      all_goals (refine Seg.run htt 9 (by simp only [go_sem, reduceIte, reduceCtorEq, reduceEqDiff, reduceAdd, reduceLT, reduceLeDiff, reduceToNat, reduceMul, reduceSub, Nat.reduceBEq, Int.reduceLE, ha, hb, hw, hja, hjb, List.length_map, eI]; exact rfl) ?_)
      all_goals (refine Seg.done ?_)
      all_goals (first | (refine CWops.skip ?_ ?_; next => (simp only [go_sem, reduceIte, reduceCtorEq, reduceEqDiff, reduceAdd, reduceLT, reduceLeDiff, reduceToNat, reduceMul, reduceSub, Nat.reduceBEq, Int.reduceLE]; done)) | (refine CWops.callA (cmp_Less up b a) (by simp only [go_sem, reduceIte, reduceCtorEq, reduceEqDiff, reduceAdd, reduceLT, reduceLeDiff, reduceToNat, reduceMul, reduceSub, Nat.reduceBEq, Int.reduceLE, ha, hb, hw, hja, hjb, List.length_map, eI]) (by simp only [go_sem, reduceIte, reduceCtorEq, reduceEqDiff, reduceAdd, reduceLT, reduceLeDiff, reduceToNat, reduceMul, reduceSub, Nat.reduceBEq, Int.reduceLE, ha, hb, hw, hja, hjb, List.length_map, eI]; first | done | exact rfl) (by simp only [go_sem, reduceIte, reduceCtorEq, reduceEqDiff, reduceAdd, reduceLT, reduceLeDiff, reduceToNat, reduceMul, reduceSub, Nat.reduceBEq, Int.reduceLE, ha, hb, hw, hja, hjb, List.length_map, eI]) (by simp only [go_sem, reduceIte, reduceCtorEq, reduceEqDiff, reduceAdd, reduceLT, reduceLeDiff, reduceToNat, reduceMul, reduceSub, Nat.reduceBEq, Int.reduceLE, ha, hb, hw, hja, hjb, List.length_map, eI]) (fun rt29 hrt29 => ?_); subst hrt29))
      all_goals (refine CWops.run htt 1 (by simp only [go_sem, reduceIte, reduceCtorEq, reduceEqDiff, reduceAdd, reduceLT, reduceLeDiff, reduceToNat, reduceMul, reduceSub, Nat.reduceBEq, Int.reduceLE, ha, hb, hw, hja, hjb, List.length_map, eI]; exact rfl) (by simp [go_sem, reduceIte, reduceCtorEq, reduceEqDiff, reduceAdd, reduceLT, reduceLeDiff, reduceToNat, reduceMul, reduceSub, Nat.reduceBEq, Int.reduceLE, ha, hb, hw, hja, hjb, List.length_map, eI]) ?_)
      all_goals (refine CWops.done ?_)
      all_goals (
        first | refine ⟨rfl, Sh.wk0 ?_⟩ | refine Sh.wk0 ?_
        first | (simp [Wk, go_sem, reduceIte, reduceCtorEq, reduceEqDiff, reduceAdd, reduceLT, reduceLeDiff, reduceToNat, reduceMul, reduceSub, Nat.reduceBEq, Int.reduceLE, lessAt]; done) | (simp [Wk, go_sem, reduceIte, reduceCtorEq, reduceEqDiff, reduceAdd, reduceLT, reduceLeDiff, reduceToNat, reduceMul, reduceSub, Nat.reduceBEq, Int.reduceLE, lessAt, ha, hb]; done) | skip)
    refine CW.cond (by simp only [go_sem, reduceIte, reduceCtorEq, reduceEqDiff, reduceAdd, reduceLT, reduceLeDiff, reduceToNat, reduceMul, reduceSub, Nat.reduceBEq, Int.reduceLE]; first | done | exact rfl) (fun ct30 => ?_) (fun ct30 => ?_)
    · obtain ⟨j, a, b, rfl, ha, hb, hab⟩ := lessAt_true ct30
      have hw : IntKind.i64.wrap (((j + 1 : Nat) : Int) - 1) = (j : Int) := by rw [wrap_id (by omega) (by omega)]; omega
      have hja := (List.getElem?_eq_some_iff.1 ha).1
      have hjb := (List.getElem?_eq_some_iff.1 hb).1
      have hr2 : ((List.map eI mm).set (j + 1) [AV.int .i64 a])[j]? = some [AV.int .i64 a] := by rw [List.getElem?_set_ne (by omega), List.getElem?_map, ha]; rfl
      refine CW.skip ?_
      refine CW.seq ?_
      refine CW.block ?_
      refine CW.drawnF mixed 15 16 [2, 3, 4] (D := [35, 36, 37]) (by decide) (by decide) (by kernel_rfl) (by kernel_rfl) rfl (by kernel_rfl) (by kernel_rfl) ?_ -- r6
      refine Seg.run htt 15 (by simp only [go_sem, reduceIte, reduceCtorEq, reduceEqDiff, reduceAdd, reduceLT, reduceLeDiff, reduceToNat, reduceMul, reduceSub, Nat.reduceBEq, Int.reduceLE, ha, hb, hw, hja, hjb, List.length_map, eI, hr2, List.length_set]; exact rfl) ?_
      refine Seg.done ?_
      refine Mid.sto htt (Flo.cons htt rfl rfl (by simp only [go_sem, reduceIte, reduceCtorEq, reduceEqDiff, reduceAdd, reduceLT, reduceLeDiff, reduceToNat, reduceMul, reduceSub, Nat.reduceBEq, Int.reduceLE, ha, hb, hw, hja, hjb, List.length_map, eI, hr2, List.length_set]; first | done | exact rfl) (Flo.cons htt rfl rfl (by simp only [go_sem, reduceIte, reduceCtorEq, reduceEqDiff, reduceAdd, reduceLT, reduceLeDiff, reduceToNat, reduceMul, reduceSub, Nat.reduceBEq, Int.reduceLE, ha, hb, hw, hja, hjb, List.length_map, eI, hr2, List.length_set]; first | done | exact rfl) (Flo.cons htt rfl rfl (by simp only [go_sem, reduceIte, reduceCtorEq, reduceEqDiff, reduceAdd, reduceLT, reduceLeDiff, reduceToNat, reduceMul, reduceSub, Nat.reduceBEq, Int.reduceLE, ha, hb, hw, hja, hjb, List.length_map, eI, hr2, List.length_set]; first | done | exact rfl) (Flo.nil)))) (fun u => by simp only [go_sem, reduceIte, reduceCtorEq, reduceEqDiff, reduceAdd, reduceLT, reduceLeDiff, reduceToNat, reduceMul, reduceSub, Nat.reduceBEq, Int.reduceLE, ha, hb, hw, hja, hjb, List.length_map, eI, hr2, List.length_set]; exact rfl) ?_
      refine Mid.done (Flo.cons htt rfl rfl (by simp only [go_sem, reduceIte, reduceCtorEq, reduceEqDiff, reduceAdd, reduceLT, reduceLeDiff, reduceToNat, reduceMul, reduceSub, Nat.reduceBEq, Int.reduceLE, ha, hb, hw, hja, hjb, List.length_map, eI, hr2, List.length_set]; first | done | exact rfl) (Flo.cons htt rfl rfl (by simp only [go_sem, reduceIte, reduceCtorEq, reduceEqDiff, reduceAdd, reduceLT, reduceLeDiff, reduceToNat, reduceMul, reduceSub, Nat.reduceBEq, Int.reduceLE, ha, hb, hw, hja, hjb, List.length_map, eI, hr2, List.length_set]; first | done | exact rfl) (Flo.cons htt rfl rfl (by simp only [go_sem, reduceIte, reduceCtorEq, reduceEqDiff, reduceAdd, reduceLT, reduceLeDiff, reduceToNat, reduceMul, reduceSub, Nat.reduceBEq, Int.reduceLE, ha, hb, hw, hja, hjb, List.length_map, eI, hr2, List.length_set]; first | done | exact rfl) (Flo.nil)))) ?_
      refine CWops.run htt 2 (by simp only [go_sem, reduceIte, reduceCtorEq, reduceEqDiff, reduceAdd, reduceLT, reduceLeDiff, reduceToNat, reduceMul, reduceSub, Nat.reduceBEq, Int.reduceLE, ha, hb, hw, hja, hjb, List.length_map, eI, hr2, List.length_set]; exact rfl) (by simp [go_sem, reduceIte, reduceCtorEq, reduceEqDiff, reduceAdd, reduceLT, reduceLeDiff, reduceToNat, reduceMul, reduceSub, Nat.reduceBEq, Int.reduceLE, ha, hb, hw, hja, hjb, List.length_map, eI, hr2, List.length_set]) ?_
      refine CWops.done ?_
      refine CW.region (by kernel_rfl) (by kernel_rfl) ?_ -- r5
      refine CWops.run htt 3 (by simp only [go_sem, reduceIte, reduceCtorEq, reduceEqDiff, reduceAdd, reduceLT, reduceLeDiff, reduceToNat, reduceMul, reduceSub, Nat.reduceBEq, Int.reduceLE, hw]; exact rfl) (by simp [go_sem, reduceIte, reduceCtorEq, reduceEqDiff, reduceAdd, reduceLT, reduceLeDiff, reduceToNat, reduceMul, reduceSub, Nat.reduceBEq, Int.reduceLE, hw]) ?_
      refine CWops.done ?_
      refine ⟨(j, swp mm j a b), ?_, ?_, ?_⟩
      · refine Sh.wk0 ?_; simp [Wk, go_sem, reduceIte, reduceCtorEq, reduceEqDiff, reduceAdd, reduceLT, reduceLeDiff, reduceToNat, reduceMul, reduceSub, Nat.reduceBEq, Int.reduceLE, swp, set_I]; first | done | rfl
      · exact ⟨k1.step k3 ha hb hab, (swp_perm ha hb).trans k2, by simp only at k3 ⊢; omega⟩
      · simp only; omega
    · refine CW.exit ?_
      refine CW.region (by kernel_rfl) (by kernel_rfl) ?_ -- r2
      refine CWops.run htt 3 (by simp only [go_sem, reduceIte, reduceCtorEq, reduceEqDiff, reduceAdd, reduceLT, reduceLeDiff, reduceToNat, reduceMul, reduceSub, Nat.reduceBEq, Int.reduceLE, wrap_succ (show i < MX by unfold MX; omega)]; exact rfl) (by simp [go_sem, reduceIte, reduceCtorEq, reduceEqDiff, reduceAdd, reduceLT, reduceLeDiff, reduceToNat, reduceMul, reduceSub, Nat.reduceBEq, Int.reduceLE, wrap_succ (show i < MX by unfold MX; omega)]) ?_
      refine CWops.done ?_
      refine ⟨(i + 1, mm), ?_, ?_, ?_⟩
      · refine Sh.wk0 ?_; simp [Wk, go_sem, reduceIte, reduceCtorEq, reduceEqDiff, reduceAdd, reduceLT, reduceLeDiff, reduceToNat, reduceMul, reduceSub, Nat.reduceBEq, Int.reduceLE]
      · exact ⟨lessAt_false ct30 k1 k3 (by rw [k2.length_eq]; exact hi), k2, by simp only; omega⟩
      · simp only; omega
  · have hi : l.length ≤ i := by simpa using ct12
    refine CW.exit ?_
    refine ⟨⟨1, [(0, .ref 0 [] 0)], [(0, ⟨false, [.own 1 (m.map eI)]⟩)]⟩, ?_, .inl rfl, ⟨by simp [ptrOK, go_sem, reduceIte, reduceCtorEq, reduceEqDiff, reduceAdd, reduceLT, reduceLeDiff, reduceToNat, reduceMul, reduceSub, Nat.reduceBEq, Int.reduceLE], (by refine ⟨⟨0, by decide, rfl, by simp only [go_sem, reduceIte, reduceCtorEq, reduceEqDiff, reduceAdd, reduceLT, reduceLeDiff, reduceToNat, reduceMul, reduceSub, Nat.reduceBEq, Int.reduceLE], rfl⟩, trivial⟩)⟩, _, by simp only [f116, go_sem, reduceIte, reduceCtorEq, reduceEqDiff, reduceAdd, reduceLT, reduceLeDiff, reduceToNat, reduceMul, reduceSub, Nat.reduceBEq, Int.reduceLE]; exact rfl, ?_⟩ -- end
    · refine Sh.wk0 ?_
      simp [Wk, go_sem, reduceIte, reduceCtorEq, reduceEqDiff, reduceAdd, reduceLT, reduceLeDiff, reduceToNat, reduceMul, reduceSub, Nat.reduceBEq, Int.reduceLE]
    · exact ⟨m, rfl, rfl, upTo_pairwise (fun p q x y a b => h1 p q x y a (by rw [h2.length_eq] at b; omega)), h2⟩
end Go.Ab
namespace Go.Ab
open Go Go.Proofs.Tryz
set_option maxRecDepth 100000
set_option linter.unusedSimpArgs false
set_option linter.unusedVariables false
theorem bits_Len64 (up : Bool) (n : Nat) (hn : n < 256) : PCall prog up 125 [.int .u64 n] (fun r => ∃ m : Int, r = .int .i64 m) := by
  refine PCall.intro htt func125 (by kernel_rfl) rfl (Nat.le_of_ble_eq_true rfl) fun hl => ?_
  have hwu : IntKind.u8.wrap (n : Int) = (n : Int) := by
    simp only [IntKind.wrap, IntKind.bits, IntKind.signed]
    simp
    omega
  have hMX : (256 ≤ MX) = True := eq_true (by decide)
  simp only [tmps0, Nat.reduceAdd]
  refine CW.seq ?_
  refine CW.rg ?_
  refine CWops.rn htt 1 ?_
  refine CWops.done ?_
  refine CW.seq ?_
  refine CW.seq ?_
  refine CW.rg ?_
  refine CWops.rn htt 2 ?_
  refine CWops.done ?_
  refine CW.cond (by simp only [go_sem, simprocAttr]; first | done | exact rfl) (fun ct4 => ?_) (fun ct4 => ?_)
  · exfalso; simp at ct4; omega 
  · refine CW.skip ?_
    refine CW.seq ?_
    refine CW.seq ?_
    refine CW.rg ?_
    refine CWops.rn htt 2 ?_
    refine CWops.done ?_
    refine CW.cond (by simp only [go_sem, simprocAttr]; first | done | exact rfl) (fun ct8 => ?_) (fun ct8 => ?_)
    · exfalso; simp at ct8; omega 
    · refine CW.skip ?_
      refine CW.seq ?_
      refine CW.seq ?_
      refine CW.rg ?_
      refine CWops.rn htt 2 ?_
      refine CWops.done ?_
      refine CW.cond (by simp only [go_sem, simprocAttr]; first | done | exact rfl) (fun ct14 => ?_) (fun ct14 => ?_)
      · exfalso; simp at ct14; omega 
      · refine CW.skip ?_
        refine CW.seq ?_
        refine CW.rg ?_
        refine CWops.rn htt 2 ?_
        refine CWops.conv (n := (n : Int)) (k := .u64) (k' := .u8) htt (by simp only [go_sem, simprocAttr]) tt_140 rfl tt_5 rfl (by simp only [go_sem, simprocAttr]) ?_
        rw [hwu]
        refine CWops.strAt (q := n) (k := .u8) htt (by simp only [go_sem, simprocAttr]) tt_9 rfl (by simp only [go_sem, simprocAttr, hMX]; first | done | exact rfl) (by simp only [go_sem, simprocAttr]) (by exact hn) (fun c => ?_)
        refine CWops.conv (n := (c.toNat : Int)) (k := .u8) (k' := .i64) htt (by simp only [go_sem, simprocAttr]) tt_5 rfl tt_3 rfl (by simp only [go_sem, simprocAttr]) ?_
        refine CWops.rn htt 2 ?_
        refine CWops.done ?_
        refine CW.ret ?_
        refine retQ.ret (by simp only [f125, go_sem, simprocAttr]; exact rfl) (by simp only [go_sem, simprocAttr]; exact rfl) ?_ -- ret1
        exact ⟨_, leP_refl _, _, rfl⟩
theorem bits_Len (up : Bool) (n : Nat) (hn : n < 256) : PCall prog up 93 [.int .u64 n] (fun r => ∃ m : Int, r = .int .i64 m) := by
  refine PCall.intro htt func93 (by kernel_rfl) rfl (Nat.le_of_ble_eq_true rfl) fun hl => ?_

  simp only [tmps0, Nat.reduceAdd]
  refine CW.seq ?_
  refine CW.rg ?_
  refine CWops.rn htt 1 ?_
  refine CWops.done ?_
  refine CW.seq ?_
  refine CW.cond (by simp only [go_sem, simprocAttr]; first | done | exact rfl) (fun cK => ?_) (fun cK => ?_)
  · cases cK 
  · refine CW.skip ?_
    refine CW.seq ?_
    refine CW.rg ?_
    refine CWops.rn htt 1 ?_
    refine CWops.callA (bits_Len64 up n hn) (by simp only [go_sem, simprocAttr]) (by simp only [go_sem, simprocAttr]; first | done | exact rfl) (by simp only [go_sem, simprocAttr]) (by simp only [go_sem, simprocAttr]) (fun rt7 hrt7 => ?_)
    obtain ⟨m7, rfl⟩ := hrt7
    refine CWops.rn htt 1 ?_
    refine CWops.done ?_
    refine CW.ret ?_
    refine retQ.ret (by simp only [f93, go_sem, simprocAttr]; exact rfl) (by simp only [go_sem, simprocAttr]; exact rfl) ?_ -- ret1
    exact ⟨_, leP_refl _, _, rfl⟩
theorem pdqsort (up : Bool) (l : List Int) (lim : Int) (hl : l.length < 13) : GCallH prog up 92 [.ref 0 [] 0, .int .i64 0, .int .i64 l.length, .int .i64 lim] 1 [(0, ⟨false, [.own 1 (l.map eI)]⟩)] [0] (fun _ σ' => ∃ m, σ'.n = 1 ∧ σ'.s = [(0, ⟨false, [.own 1 (m.map eI)]⟩)] ∧ Sorted l m) := by
  refine GCallH.intro htt 1 func92 (by kernel_rfl) rfl (Nat.le_of_ble_eq_true rfl) (CW.told ?_)
  have hw : IntKind.i64.wrap ((l.length : Int) - 0) = (l.length : Int) := by rw [wrap_id (by omega) (by omega)]; omega
  simp only [tmps0, Nat.reduceAdd]
  refine CW.seq ?_
  refine CW.rg ?_
  refine CWops.rn htt 1 ?_
  refine CWops.done ?_
  refine CW.seq ?_
  refine CW.rg ?_
  refine CWops.rn htt 1 ?_
  refine CWops.done ?_
  refine CW.block ?_
  refine CW.loop (S := Unit) (fun u => ⟨1, [(0, .ref 0 [] 0), (1, .int .i64 0), (2, .int .i64 l.length)], [(0, ⟨false, [.own 1 (l.map eI)]⟩)]⟩) (fun u => True) (fun u => 0) (()) ?_ trivial (fun _ _ => ?_)
  · refine Sh.wk0 ?_; simp [Wk, go_sem, simprocAttr]
  refine CW.block ?_
  refine CW.seq ?_
  refine CW.rg ?_
  refine CWops.run htt 4 (by simp only [go_sem, simprocAttr, hw]; exact rfl) (by simp [go_sem, simprocAttr, hw]) ?_
  refine CWops.done ?_
  refine CW.seq ?_
  refine CW.seq ?_
  refine CW.rg ?_
  refine CWops.rn htt 2 ?_
  refine CWops.done ?_
  refine CW.cond (by simp only [go_sem, simprocAttr]; first | done | exact rfl) (fun ct23 => ?_) (fun ct23 => ?_)
  · refine CW.seq ?_
    refine CW.rg ?_
    refine CWops.rn htt 3 ?_
    refine CWops.callGH [0] rfl (insertionSort up l (by omega)) (by decide) (by simp only [go_sem, simprocAttr]) (by simp only [go_sem, simprocAttr]; first | done | exact rfl) (by decide) (by simp [go_sem, simprocAttr, mName, memB]) (by simp [go_sem, simprocAttr, mName]) (by simp [go_sem, simprocAttr]) (by simp [go_sem, simprocAttr]) (by simp [go_sem, simprocAttr, mName]) (fun r σ' hσ => ?_)
    obtain ⟨σn, σt, σs⟩ := σ'
    simp only at hσ
    obtain ⟨m, rfl, rfl, hm2⟩ := hσ
    simp only [aftH, renS, List.map_cons, List.map_nil, delAll, memB, mName, List.getD_nil, killH, kref, ren, Nat.beq_eq, go_sem, simprocAttr]
    refine CWops.done ?_
    refine CW.ret ?_
    refine ⟨⟨1, [(0, .ref 0 [] 0)], [(0, ⟨false, [.own 1 (m.map eI)]⟩)]⟩, ?_, .inr rfl, ⟨by simp [ptrOK, go_sem, simprocAttr], (by refine ⟨⟨0, by decide, rfl, by simp only [go_sem, simprocAttr], rfl⟩, trivial⟩)⟩, _, by simp only [f92, go_sem, simprocAttr]; exact rfl, ?_⟩ -- ret1
    · refine Sh.wk0 ?_
      simp [Wk, go_sem, simprocAttr]
    · exact ⟨m, rfl, rfl, hm2⟩
  · exfalso; simp at ct23; omega
theorem slices_Sort (up : Bool) (l : List Int) (hl : l.length < 13) : GCallH prog up 49 [.ref 0 [] 0] 1 [(0, ⟨false, [.own 1 (l.map eI)]⟩)] [0] (fun _ σ' => ∃ m, σ'.n = 1 ∧ σ'.s = [(0, ⟨false, [.own 1 (m.map eI)]⟩)] ∧ Sorted l m) := by
  refine GCallH.intro htt 1 func49 (by kernel_rfl) rfl (Nat.le_of_ble_eq_true rfl) (CW.told ?_)
  have hw : IntKind.u64.wrap (l.length : Int) = (l.length : Int) := by
    simp only [IntKind.wrap, IntKind.bits, IntKind.signed]
    simp
    omega
  simp only [tmps0, Nat.reduceAdd]
  refine CW.seq ?_
  refine CW.rg ?_
  refine CWops.rn htt 3 ?_
  refine CWops.done ?_
  refine CW.rg ?_
  refine CWops.rn htt 3 ?_
  refine CWops.conv (n := (l.length : Int)) (k := .i64) (k' := .u64) htt (by simp only [go_sem, simprocAttr]) tt_3 rfl tt_111 rfl (by simp only [go_sem, simprocAttr, List.length_map]; first | done | exact rfl) ?_
  rw [hw]
  refine CWops.callA (bits_Len up l.length (by omega)) (by simp only [go_sem, simprocAttr]) (by simp only [go_sem, simprocAttr]; first | done | exact rfl) (by simp only [go_sem, simprocAttr]) (by simp only [go_sem, simprocAttr]) (fun rt9 hrt9 => ?_)
  obtain ⟨lim, rfl⟩ := hrt9
  refine CWops.callGH [0] rfl (pdqsort up l lim hl) (by decide) (by simp only [go_sem, simprocAttr]) (by simp only [go_sem, simprocAttr]; first | done | exact rfl) (by decide) (by simp [go_sem, simprocAttr, mName, memB]) (by simp [go_sem, simprocAttr, mName]) (by simp [go_sem, simprocAttr]) (by simp [go_sem, simprocAttr]) (by simp [go_sem, simprocAttr, mName]) (fun r σ' hσ => ?_)
  obtain ⟨σn, σt, σs⟩ := σ'
  simp only at hσ
  obtain ⟨m, rfl, rfl, hm2⟩ := hσ
  simp only [aftH, renS, List.map_cons, List.map_nil, delAll, memB, mName, List.getD_nil, killH, kref, ren, Nat.beq_eq, go_sem, simprocAttr]
  refine CWops.done ?_
  refine ⟨⟨1, [(0, .ref 0 [] 0)], [(0, ⟨false, [.own 1 (m.map eI)]⟩)]⟩, ?_, .inl rfl, ⟨by simp [ptrOK, go_sem, simprocAttr], (by refine ⟨⟨0, by decide, rfl, by simp only [go_sem, simprocAttr], rfl⟩, trivial⟩)⟩, _, by simp only [f49, go_sem, simprocAttr]; exact rfl, ?_⟩ -- end
  · refine Sh.wk0 ?_
    simp [Wk, go_sem, simprocAttr]
  · exact ⟨m, rfl, rfl, hm2⟩
end Go.Ab
namespace Go.Ab
open Go Go.Proofs.Tryz
set_option maxRecDepth 100000
set_option linter.unusedSimpArgs false
set_option linter.unusedVariables false
@[go_sem] theorem tt_76 : tiOf prog 76 = some ⟨.map 3 4, 1, 8, [.nilmap], false⟩ := by kernel_rfl
@[go_sem] theorem tt_77 : tiOf prog 77 = some ⟨.func, 1, 8, [.nilfunc], false⟩ := by kernel_rfl
theorem come_in (up : Bool) (g : Graph) (l : List Int) (id : Int) (hin : id = -1 ∨ id ∈ l) : GCall prog up 48 [.int .i64 id, .lv 0 [] 0, .lv 1 [] 0, .lv 2 [] 0, .lv 3 [] 0] 4 [(0, ⟨true, [.omap (wasMap (l))]⟩), (1, ⟨true, [.own 1 (List.map eI (l))]⟩), (2, ⟨true, eGraph g⟩), (3, ⟨true, [.func (.func 48) [] [.lv 0 [] 0, .lv 1 [] 0, .lv 2 [] 0, .lv 3 [] 0]]⟩)] (fun _ σ' => ∃ t, σ' = ⟨4, t, [(0, ⟨true, [.omap (wasMap (l))]⟩), (1, ⟨true, [.own 1 (List.map eI (l))]⟩), (2, ⟨true, eGraph g⟩), (3, ⟨true, [.func (.func 48) [] [.lv 0 [] 0, .lv 1 [] 0, .lv 2 [] 0, .lv 3 [] 0]]⟩)]⟩) := by
  refine GCall.intro htt 5 func48 (by kernel_rfl) rfl (Nat.le_of_ble_eq_true rfl) (CW.told ?_)

  simp only [tmps0, Nat.reduceAdd]
  refine CW.seq ?_
  refine CW.seq ?_
  refine CW.rg ?_
  refine CWops.run htt 3 (by simp only [go_sem, simprocAttr, maplk_was, if_pos hin]; exact rfl) (by simp [go_sem, simprocAttr, maplk_was, if_pos hin]) ?_
  refine CWops.done ?_
  refine CW.cond (by simp only [go_sem, simprocAttr]; first | done | exact rfl) (fun ct11 => ?_) (fun ct11 => ?_)
  · refine CW.ret ?_
    refine ⟨⟨4, [(0, .int .i64 id), (1, .lv 0 [] 0), (2, .lv 1 [] 0), (3, .lv 2 [] 0), (4, .lv 3 [] 0)], [(0, ⟨true, [.omap (wasMap (l))]⟩), (1, ⟨true, [.own 1 (List.map eI (l))]⟩), (2, ⟨true, eGraph g⟩), (3, ⟨true, [.func (.func 48) [] [.lv 0 [] 0, .lv 1 [] 0, .lv 2 [] 0, .lv 3 [] 0]]⟩)]⟩, ?_, .inr rfl, by (simp [ptrOK, go_sem, simprocAttr]; exact ⟨⟨1, by simp⟩, ⟨2, by simp⟩, ⟨3, by simp⟩, ⟨4, by simp⟩⟩), _, by simp only [f48, go_sem, simprocAttr]; exact rfl, ?_⟩ -- ret1
    · refine Sh.wk0 ?_
      simp [Wk, go_sem, simprocAttr, ex_func, SubL, Sub, eGraph]
    · exact ⟨_, rfl⟩
  · cases ct11
theorem come_out (up : Bool) (g : Graph) (hm : May g) (n : Nat) (ih : ∀ (l : List Int) (id : Int), Good g l → rootB g id = true → g.O.length < n + l.length → GCall prog up 48 [.int .i64 id, .lv 0 [] 0, .lv 1 [] 0, .lv 2 [] 0, .lv 3 [] 0] 4 [(0, ⟨true, [.omap (wasMap (l))]⟩), (1, ⟨true, [.own 1 (List.map eI (l))]⟩), (2, ⟨true, eGraph g⟩), (3, ⟨true, [.func (.func 48) [] [.lv 0 [] 0, .lv 1 [] 0, .lv 2 [] 0, .lv 3 [] 0]]⟩)] (fun _ σ' => ∃ t, σ' = ⟨4, t, [(0, ⟨true, [.omap (wasMap (dfs g n l id))]⟩), (1, ⟨true, [.own 1 (List.map eI (dfs g n l id))]⟩), (2, ⟨true, eGraph g⟩), (3, ⟨true, [.func (.func 48) [] [.lv 0 [] 0, .lv 1 [] 0, .lv 2 [] 0, .lv 3 [] 0]]⟩)]⟩)) (l : List Int) (id : Int) (hg : Good g l) (hr : rootB g id = true) (hn : g.O.length < n + 1 + l.length) (hno : ¬ (id = -1 ∨ id ∈ l)) : GCall prog up 48 [.int .i64 id, .lv 0 [] 0, .lv 1 [] 0, .lv 2 [] 0, .lv 3 [] 0] 4 [(0, ⟨true, [.omap (wasMap (l))]⟩), (1, ⟨true, [.own 1 (List.map eI (l))]⟩), (2, ⟨true, eGraph g⟩), (3, ⟨true, [.func (.func 48) [] [.lv 0 [] 0, .lv 1 [] 0, .lv 2 [] 0, .lv 3 [] 0]]⟩)] (fun _ σ' => ∃ t, σ' = ⟨4, t, [(0, ⟨true, [.omap (wasMap (dfs g (n + 1) l id))]⟩), (1, ⟨true, [.own 1 (List.map eI (dfs g (n + 1) l id))]⟩), (2, ⟨true, eGraph g⟩), (3, ⟨true, [.func (.func 48) [] [.lv 0 [] 0, .lv 1 [] 0, .lv 2 [] 0, .lv 3 [] 0]]⟩)]⟩) := by
  refine GCall.intro htt 5 func48 (by kernel_rfl) rfl (Nat.le_of_ble_eq_true rfl) (CW.told ?_)
  have ho := hm.o
  have hgl := hg.len
  have hg2 : Good g (l ++ [id]) := by
    have := hg.meet hr
    unfold meet at this
    rwa [if_neg hno] at this
  have hty : (typ g.O id).isSome = true := hg2.ids id (by simp)
  obtain ⟨p, ⟨oi, oT, oF⟩, hp, e1, hF1, hA, _⟩ := hm.find hty
  unfold gFind at hF1
  obtain ⟨_, t, hT, hmo⟩ := hm.objT hp
  obtain ⟨q, rfl⟩ := Int.eq_ofNat_of_zero_le (show 0 ≤ oT from hmo.t0)
  have ht : g.S[q]? = some t := by simpa using hmo.at_
  have hlen : oF.length = t.F.length := hmo.len
  have h5 := hm.small.2.1 t (List.mem_of_getElem? ht)
  have hpl := (List.getElem?_eq_some_iff.1 hp).1
  have hql := (List.getElem?_eq_some_iff.1 ht).1
  have hrefs : refsOf g id = refsZ (t.F.zip oF) := by unfold refsOf; rw [hA]; simp only [refsO, hT]
  simp only [tmps0, Nat.reduceAdd]
  refine CW.seq ?_
  refine CW.seq ?_
  refine CW.rg ?_
  refine CWops.run htt 3 (by simp only [go_sem, simprocAttr, maplk_was, if_neg hno]; exact rfl) (by simp [go_sem, simprocAttr, maplk_was, if_neg hno]) ?_
  refine CWops.done ?_
  refine CW.cond (by simp only [go_sem, simprocAttr]; first | done | exact rfl) (fun ct11 => ?_) (fun ct11 => ?_)
  · cases ct11 
  · refine CW.skip ?_
    refine CW.seq ?_
    refine CW.rg ?_
    refine CWops.run htt 3 (by simp only [go_sem, simprocAttr, was_put hno]; exact rfl) (by simp [was_len, MX]; omega) ?_
    refine CWops.done ?_
    refine CW.seq ?_
    refine CW.rg ?_
    refine CWops.run htt 5 (by simp only [go_sem, simprocAttr, List.replicate]; exact rfl) (by simp [AV.cell, AV.tree, eI, MX]; omega) ?_
    refine CWops.done ?_
    refine CW.seq ?_
    refine CW.drawn mixed 8 (by decide) (by kernel_rfl) (by kernel_rfl) (by kernel_rfl) ?_
    refine Seg.run htt 4 (by simp only [go_sem, simprocAttr, eGraph, hF1, hp, eObj, hpl]; exact rfl) ?_
    refine Seg.call (graph_Find up g id) (by simp only [go_sem, simprocAttr, eGraph, hF1, hp, eObj, hpl]) (by simp only [go_sem, simprocAttr, eGraph, hF1, hp, eObj, hpl]; first | done | exact rfl) (by simp only [go_sem, simprocAttr, eGraph, hF1, hp, eObj, hpl]) (by simp only [go_sem, simprocAttr, eGraph, hF1, hp, eObj, hpl]) rfl ?_
    refine Seg.run htt 3 (by simp only [go_sem, simprocAttr, eGraph, hF1, hp, eObj, hpl]; exact rfl) ?_
    refine Seg.done ?_
    refine CWops.run htt 1 (by simp only [go_sem, simprocAttr, eGraph, hF1, hp, eObj, hpl]; exact rfl) (by simp [go_sem, simprocAttr, eGraph, hF1, hp, eObj, hpl]) ?_
    refine CWops.done ?_
    refine CW.seq ?_
    refine CW.rg ?_
    refine CWops.run htt 10 (by simp only [go_sem, simprocAttr, eGraph, ht, eType, hql, eObj]; exact rfl) (by simp [go_sem, simprocAttr, eGraph, ht, eType, hql, eObj]) ?_
    refine CWops.done ?_
    refine CW.block ?_
    refine CW.loop (S := Nat) (fun k => ⟨7, [(0, .int .i64 id), (1, .lv 0 [] 0), (2, .lv 1 [] 0), (3, .lv 2 [] 0), (4, .lv 3 [] 0), (6, .lv 6 [] 0), (32, .sl 3 (t.F.map eField)), (33, .int .i64 t.F.length), (34, .int .i64 k)], [(0, ⟨true, [.omap (wasMap ((refsZ ((t.F.zip oF).take k)).foldl (dfs g n) (l ++ [id])))]⟩), (1, ⟨true, [.own 1 (List.map eI ((refsZ ((t.F.zip oF).take k)).foldl (dfs g n) (l ++ [id])))]⟩), (2, ⟨true, eGraph g⟩), (3, ⟨true, [.func (.func 48) [] [.lv 0 [] 0, .lv 1 [] 0, .lv 2 [] 0, .lv 3 [] 0]]⟩), (6, ⟨true, eObj ⟨oi, q, oF⟩⟩)]⟩) (fun k => k ≤ t.F.length ∧ Step g (l ++ [id]) (refsZ ((t.F.zip oF).take k)) ((refsZ ((t.F.zip oF).take k)).foldl (dfs g n) (l ++ [id]))) (fun k => t.F.length - k) (0) ?_ ⟨Nat.zero_le _, by simpa [refsZ] using Step.nil hg2⟩ (fun k ⟨k1, k2⟩ => ?_)
    · refine Sh.wk0 ?_; simp [Wk, go_sem, simprocAttr, ex_func, SubL, Sub, eGraph, eObj, refsZ, eI]
    refine CW.seq ?_
    refine CW.rg ?_
    refine CWops.rn htt 1 ?_
    refine CWops.done ?_
    refine CW.seq ?_
    refine CW.cond (by simp only [go_sem, simprocAttr]; first | done | exact rfl) (fun ct35 => ?_) (fun ct35 => ?_)
    · have hk : k < t.F.length := by simpa using ct35
      have hko : k < oF.length := by omega
      obtain ⟨v, hv⟩ : ∃ v, oF[k]? = some v := ⟨oF[k], List.getElem?_eq_getElem hko⟩
      obtain ⟨f, hf⟩ : ∃ f, t.F[k]? = some f := ⟨t.F[k], List.getElem?_eq_getElem (by omega)⟩
      have hz : (t.F.zip oF)[k]? = some (f, v) := List.getElem?_zip_eq_some.2 ⟨hf, hv⟩
      refine CW.skip ?_
      refine CW.seq ?_
      refine CW.block ?_
      refine CW.seq ?_
      refine CW.rg ?_
      refine CWops.run htt 6 (by simp only [go_sem, simprocAttr, hf, hk, eField]; exact rfl) (by simp [go_sem, simprocAttr, hf, hk, eField]) ?_
      refine CWops.done ?_
      refine CW.seq ?_
      refine CW.rg ?_
      refine CWops.run htt 3 (by simp only [go_sem, simprocAttr, eField]; exact rfl) (by simp [go_sem, simprocAttr, eField]) ?_
      refine CWops.done ?_
      refine CW.cond (by simp only [go_sem, simprocAttr]; first | done | exact rfl) (fun ct41 => ?_) (fun ct41 => ?_)
      · have hk5 : f.Kind = 5 := by simpa using ct41
        refine CW.drawn mixed 7 (by decide) (by kernel_rfl) (by kernel_rfl) (by kernel_rfl) ?_
        refine Seg.run htt 7 (by simp only [go_sem, simprocAttr, eObj, hv, hko, eVal]; exact rfl) ?_
        refine Seg.done ?_
        refine CWops.callG [0, 1, 2, 3] rfl (ih ((refsZ ((t.F.zip oF).take k)).foldl (dfs g n) (l ++ [id])) v.R k2.good (hmo.ref hf hv hk5) (by obtain ⟨s, hs⟩ := k2.pre; rw [hs]; simp; omega)) (by simp only [go_sem, simprocAttr]) (by simp only [go_sem, simprocAttr]; first | done | exact rfl) (by decide) (by simp [go_sem, simprocAttr, mName, memB, ex_func, SubL, Sub, eGraph]) (by simp [go_sem, simprocAttr, mName, ex_func, SubL, Sub, eGraph]) (by simp [go_sem, simprocAttr, ex_func, SubL, Sub, eGraph]) (by intro x hx; rcases x with _ | _ | _ | _ | x <;> first | (simp [go_sem, simprocAttr]; done) | omega | (simp at hx; done) | (simp at hx; omega)) (by simp [go_sem, simprocAttr, mName, ex_func, SubL, Sub, eGraph]) (fun r σ' hσ => ?_)
        obtain ⟨t', rfl⟩ := hσ
        simp only [aftS, renS, delAll, memB, mName, List.getD_nil, killH, kref, ren, Nat.beq_eq, go_sem, simprocAttr]
        refine CWops.done ?_
        refine CW.rg ?_
        refine CWops.run htt 2 (by simp only [go_sem, simprocAttr, wrap_succ (show k < MX by unfold MX; omega)]; exact rfl) (by simp [go_sem, simprocAttr, wrap_succ (show k < MX by unfold MX; omega)]) ?_
        refine CWops.done ?_
        refine ⟨k + 1, ?_, ?_, ?_⟩
        · refine Sh.wk0 ?_
          first | (simp [Wk, go_sem, simprocAttr, ex_func, SubL, Sub, eGraph, eObj, refsZ_foldRef hz hk5]; done) | (simp [Wk, go_sem, simprocAttr, ex_func, SubL, Sub, eGraph, eObj, refsZ_no hz hk5]; done) | skip
        · refine ⟨hk, ?_⟩
          first | (rw [refsZ_foldRef hz hk5, show refsZ ((t.F.zip oF).take (k + 1)) = refsZ ((t.F.zip oF).take k) ++ [v.R] by rw [List.take_add_one, hz]; simp [refsZ, hk5]]; obtain ⟨s, hs⟩ := k2.pre; exact k2.app (dfs_step hm n k2.good (hmo.ref hf hv hk5) (by rw [hs]; simp; omega))) | (rw [refsZ_no hz hk5]; exact k2)
        · simp only; omega
      · have hk5 : f.Kind ≠ 5 := by simpa using ct41
        refine CW.skip ?_
        refine CW.rg ?_
        refine CWops.run htt 2 (by simp only [go_sem, simprocAttr, wrap_succ (show k < MX by unfold MX; omega)]; exact rfl) (by simp [go_sem, simprocAttr, wrap_succ (show k < MX by unfold MX; omega)]) ?_
        refine CWops.done ?_
        refine ⟨k + 1, ?_, ?_, ?_⟩
        · refine Sh.wk0 ?_
          first | (simp [Wk, go_sem, simprocAttr, ex_func, SubL, Sub, eGraph, eObj, refsZ_foldRef hz hk5]; done) | (simp [Wk, go_sem, simprocAttr, ex_func, SubL, Sub, eGraph, eObj, refsZ_no hz hk5]; done) | skip
        · refine ⟨hk, ?_⟩
          first | (rw [refsZ_foldRef hz hk5, show refsZ ((t.F.zip oF).take (k + 1)) = refsZ ((t.F.zip oF).take k) ++ [v.R] by rw [List.take_add_one, hz]; simp [refsZ, hk5]]; obtain ⟨s, hs⟩ := k2.pre; exact k2.app (dfs_step hm n k2.good (hmo.ref hf hv hk5) (by rw [hs]; simp; omega))) | (rw [refsZ_no hz hk5]; exact k2)
        · simp only; omega
    · have hk : k = t.F.length := by simp at ct35; omega
      have hz : (t.F.zip oF).take k = t.F.zip oF := List.take_of_length_le (by rw [List.length_zip]; omega)
      refine CW.exit ?_
      refine ⟨⟨4, [(0, .int .i64 id), (1, .lv 0 [] 0), (2, .lv 1 [] 0), (3, .lv 2 [] 0), (4, .lv 3 [] 0)], [(0, ⟨true, [.omap (wasMap (dfs g (n + 1) l id))]⟩), (1, ⟨true, [.own 1 (List.map eI (dfs g (n + 1) l id))]⟩), (2, ⟨true, eGraph g⟩), (3, ⟨true, [.func (.func 48) [] [.lv 0 [] 0, .lv 1 [] 0, .lv 2 [] 0, .lv 3 [] 0]]⟩)]⟩, ?_, .inl rfl, by (simp [ptrOK, go_sem, simprocAttr]; exact ⟨⟨1, by simp⟩, ⟨2, by simp⟩, ⟨3, by simp⟩, ⟨4, by simp⟩⟩), _, by simp only [f48, go_sem, simprocAttr]; exact rfl, ?_⟩ -- end
      · refine Sh.wk0 ?_
        rw [dfs_out hno, hrefs, hz]
        simp [Wk, go_sem, simprocAttr, ex_func, SubL, Sub, eGraph]
      · exact ⟨_, rfl⟩
theorem come (up : Bool) (g : Graph) (hm : May g) : ∀ (n : Nat) (l : List Int) (id : Int), Good g l → rootB g id = true → g.O.length < n + l.length → GCall prog up 48 [.int .i64 id, .lv 0 [] 0, .lv 1 [] 0, .lv 2 [] 0, .lv 3 [] 0] 4 [(0, ⟨true, [.omap (wasMap (l))]⟩), (1, ⟨true, [.own 1 (List.map eI (l))]⟩), (2, ⟨true, eGraph g⟩), (3, ⟨true, [.func (.func 48) [] [.lv 0 [] 0, .lv 1 [] 0, .lv 2 [] 0, .lv 3 [] 0]]⟩)] (fun _ σ' => ∃ t, σ' = ⟨4, t, [(0, ⟨true, [.omap (wasMap (dfs g n l id))]⟩), (1, ⟨true, [.own 1 (List.map eI (dfs g n l id))]⟩), (2, ⟨true, eGraph g⟩), (3, ⟨true, [.func (.func 48) [] [.lv 0 [] 0, .lv 1 [] 0, .lv 2 [] 0, .lv 3 [] 0]]⟩)]⟩)
  | 0, l, id, h, _, hn => by have := h.len; omega
  | n + 1, l, id, h, hr, hn => by
    by_cases e : id = -1 ∨ id ∈ l
    · rw [dfs_in e]; exact come_in up g l id e
    · exact come_out up g hm n (come up g hm n) l id h hr hn e
end Go.Ab
namespace Go.Ab
open Go Go.Proofs.Tryz
set_option maxRecDepth 100000
set_option linter.unusedSimpArgs false
set_option linter.unusedVariables false
theorem graph_Reach (up : Bool) (g : Graph) : PCall prog up 17 [.agg (eGraph g)] (· = .sl 1 ((gReach g).map eI)) := by
  refine PCall.intro htt func17 (by kernel_rfl) rfl (Nat.le_of_ble_eq_true rfl) fun hl => ?_

  simp only [tmps0, Nat.reduceAdd]
  refine CW.seq ?_
  refine CW.rg ?_
  refine CWops.run htt 2 (by simp only [go_sem, simprocAttr, eGraph]; exact rfl) (by simp [go_sem, simprocAttr, eGraph]) ?_
  refine CWops.done ?_
  refine CW.seq ?_
  refine CW.seq ?_
  refine CW.rg ?_
  refine CWops.run htt 1 (by simp only [go_sem, simprocAttr, eGraph]; exact rfl) (by simp [go_sem, simprocAttr, eGraph]) ?_
  refine CWops.call (graph_May up g) (by simp only [go_sem, simprocAttr, eGraph]) (by simp only [go_sem, simprocAttr, eGraph]; first | done | exact rfl) (by simp only [go_sem, simprocAttr, eGraph]) (fun rt9 hrt9 => ?_)
  subst hrt9; refine ⟨rfl, ?_⟩
  refine CWops.run htt 1 (by simp only [go_sem, simprocAttr, eGraph]; exact rfl) (by simp [go_sem, simprocAttr, eGraph]) ?_
  refine CWops.done ?_
  refine CW.cond (by simp only [go_sem, simprocAttr]; first | done | exact rfl) (fun ct10 => ?_) (fun ct10 => ?_)
  · simp only [Bool.not_eq_true'] at ct10
    refine CW.seq ?_
    refine CW.rg ?_
    refine CWops.rn htt 1 ?_
    refine CWops.done ?_
    refine CW.ret ?_
    refine retQ.ret (by simp only [f17, go_sem, simprocAttr]; exact rfl) (by simp only [go_sem, simprocAttr]; exact rfl) ?_ -- ret1
    refine ⟨_, ?_, rfl⟩
    have : gReach g = [] := by unfold gReach; rw [ct10]; rfl
    simp [leP, this]
  · simp only [Bool.not_eq_false'] at ct10
    have hm := (may_iff g).1 ct10
    have ho := hm.o
    have hr3 := hm.r
    refine CW.skip ?_
    refine CW.seq ?_
    refine CW.rg ?_
    refine CWops.run htt 5 (by simp only [go_sem, simprocAttr]; exact rfl) (by unfold MX; decide) ?_
    refine CWops.done ?_
    refine CW.seq ?_
    refine CW.rg ?_
    refine CWops.rn htt 1 ?_
    refine CWops.done ?_
    refine CW.seq ?_
    refine CW.rg ?_
    refine CWops.rn htt 1 ?_
    refine CWops.done ?_
    refine CW.seq ?_
    refine CW.rg ?_
    refine CWops.rn htt 2 ?_
    refine CWops.done ?_
    refine CW.seq ?_
    refine CW.seq ?_
    refine CW.rg ?_
    refine CWops.run htt 4 (by simp only [go_sem, simprocAttr, eGraph]; exact rfl) (by simp [go_sem, simprocAttr, eGraph]) ?_
    refine CWops.done ?_
    refine CW.block ?_
    refine CW.loop (S := Nat) (fun i => ⟨5, [(1, .lv 0 [] 0), (3, .lv 2 [] 0), (4, .lv 3 [] 0), (5, .lv 4 [] 0), (15, .sl 1 (g.Roots.map eI)), (16, .int .i64 g.Roots.length), (17, .int .i64 i)], [(0, ⟨true, eGraph g⟩), (2, ⟨true, [.omap (wasMap ((g.Roots.take i).foldl (dfs g (g.O.length + 1)) []))]⟩), (3, ⟨true, [.own 1 (List.map eI ((g.Roots.take i).foldl (dfs g (g.O.length + 1)) []))]⟩), (4, ⟨true, [.func (.func 48) [] [.lv 2 [] 0, .lv 3 [] 0, .lv 0 [] 0, .lv 4 [] 0]]⟩)]⟩) (fun i => i ≤ g.Roots.length ∧ Step g [] (g.Roots.take i) ((g.Roots.take i).foldl (dfs g (g.O.length + 1)) [])) (fun i => g.Roots.length - i) (0) ?_ ⟨Nat.zero_le _, by simpa using Step.nil (Good.nil g)⟩ (fun i ⟨h1, hs⟩ => ?_)
    · refine Sh.trans (Sh.nilCell 3 [] 0 1 (by simp [go_sem, simprocAttr]) rfl) (Sh.wk0 ?_); simp [Wk, go_sem, simprocAttr, ex_func, SubL, Sub, eGraph, wasMap]
    refine CW.seq ?_
    refine CW.rg ?_
    refine CWops.rn htt 1 ?_
    refine CWops.done ?_
    refine CW.seq ?_
    refine CW.cond (by simp only [go_sem, simprocAttr]; first | done | exact rfl) (fun ct18 => ?_) (fun ct18 => ?_)
    · have hi : i < g.Roots.length := by simpa using ct18
      obtain ⟨x, hx⟩ : ∃ x, g.Roots[i]? = some x := ⟨g.Roots[i], List.getElem?_eq_getElem hi⟩
      refine CW.skip ?_
      refine CW.seq ?_
      refine CW.block ?_
      refine CW.seq ?_
      refine CW.rg ?_
      refine CWops.run htt 3 (by simp only [go_sem, simprocAttr, hx, eI]; exact rfl) (by simp [go_sem, simprocAttr, hx, eI]) ?_
      refine CWops.done ?_
      refine CW.rg ?_
      refine CWops.rn htt 2 ?_
      refine CWops.callG [2, 3, 0, 4] rfl (come up g hm (g.O.length + 1) ((g.Roots.take i).foldl (dfs g (g.O.length + 1)) []) x hs.good (hm.root x (List.mem_of_getElem? hx)) (by omega)) (by simp only [go_sem, simprocAttr]) (by simp only [go_sem, simprocAttr]; first | done | exact rfl) (by decide) (by simp [go_sem, simprocAttr, mName, memB, ex_func, SubL, Sub, eGraph]) (by simp [go_sem, simprocAttr, mName, ex_func, SubL, Sub, eGraph]) (by simp [go_sem, simprocAttr, ex_func, SubL, Sub, eGraph]) (by intro x hx; rcases x with _ | _ | _ | _ | x <;> first | (simp [go_sem, simprocAttr]; done) | omega | (simp at hx; done) | (simp at hx; omega)) (by simp [go_sem, simprocAttr, mName, ex_func, SubL, Sub, eGraph]) (fun r σ' hσ => ?_)
      obtain ⟨t', rfl⟩ := hσ
      simp only [aftS, renS, delAll, memB, mName, List.getD_nil, killH, kref, ren, Nat.beq_eq, go_sem, simprocAttr]
      refine CWops.done ?_
      refine CW.rg ?_
      refine CWops.run htt 2 (by simp only [go_sem, simprocAttr, wrap_succ (show i < MX by unfold MX; omega)]; exact rfl) (by simp [go_sem, simprocAttr, wrap_succ (show i < MX by unfold MX; omega)]) ?_
      refine CWops.done ?_
      refine ⟨i + 1, ?_, ?_, ?_⟩
      · refine Sh.wk0 ?_; simp [Wk, go_sem, simprocAttr, ex_func, SubL, Sub, eGraph, List.take_add_one, hx]
      · refine ⟨hi, ?_⟩
        rw [List.take_add_one, hx, Option.toList_some, List.foldl_append]
        exact hs.app (dfs_step hm _ hs.good (hm.root x (List.mem_of_getElem? hx)) (by omega))
      · simp only; omega
    · have hi : i = g.Roots.length := by simp at ct18; omega
      have hdf : g.Roots.foldl (dfs g (g.O.length + 1)) [] = dfsL g := rfl
      rw [hi, List.take_length, hdf]
      refine CW.exit ?_
      refine CW.seq ?_
      refine CW.sh (Sh.out 3 0 rfl rfl rfl) ?_
      simp only [go_sem, simprocAttr, mapT, mapS, outF, List.map_cons, List.map_nil, putAt, List.set_cons_zero]
      refine CW.rg ?_
      refine CWops.rn htt 1 ?_
      refine CWops.callGH [5] rfl (slices_Sort up (dfsL g) (by have := (dfsL_step hm).good.len; omega)) (by decide) (by simp only [go_sem, simprocAttr]) (by simp only [go_sem, simprocAttr]; first | done | exact rfl) (by decide) (by simp [go_sem, simprocAttr, mName, memB]) (by simp [go_sem, simprocAttr, mName]) (by simp [go_sem, simprocAttr]) (by simp [go_sem, simprocAttr]) (by simp [go_sem, simprocAttr, mName]) (fun r σ' hσ => ?_)
      obtain ⟨σn, σt, σs⟩ := σ'
      simp only at hσ
      obtain ⟨m, rfl, rfl, hm2⟩ := hσ
      simp only [aftH, renS, List.map_cons, List.map_nil, delAll, memB, mName, List.getD_nil, killH, kref, ren, Nat.beq_eq, go_sem, simprocAttr]
      refine CWops.done ?_
      refine CW.seq ?_
      refine CW.rg ?_
      refine CWops.rn htt 2 ?_
      refine CWops.done ?_
      refine CW.ret ?_
      refine retQ.ret (by simp only [f17, go_sem, simprocAttr]; exact rfl) (by simp only [go_sem, simprocAttr]; exact rfl) ?_ -- ret2
      refine ⟨_, ?_, rfl⟩
      have : gReach g = m := (dfsL_sorted hm hm2).symm
      simp [go_sem, simprocAttr, leP, leL, AV.freeze, frz_I, this]
end Go.Ab
namespace Go.Ab
open Go Go.Proofs.Tryz
set_option maxRecDepth 100000
set_option linter.unusedSimpArgs false
set_option linter.unusedVariables false
theorem binarySearch (up : Bool) (l : List Int) (x : Int) (hs : l.Pairwise (· < ·)) (hl9 : l.length < 1000) : PCall prog up 46 [.sl 1 (l.map eI), .int .i64 x] (fun r => ∃ k : Int, r = .tup [.int .i64 k, .bool (decide (x ∈ l))]) := by
  refine PCall.intro htt func46 (by kernel_rfl) rfl (Nat.le_of_ble_eq_true rfl) fun hl => ?_

  simp only [tmps0, Nat.reduceAdd]
  refine CW.seq ?_
  refine CW.rg ?_
  refine CWops.rn htt 2 ?_
  refine CWops.done ?_
  refine CW.seq ?_
  refine CW.rg ?_
  refine CWops.rn htt 3 ?_
  refine CWops.done ?_
  refine CW.seq ?_
  refine CW.rg ?_
  refine CWops.rn htt 3 ?_
  refine CWops.done ?_
  refine CW.seq ?_
  refine CW.block ?_
  refine CW.loop (S := Nat × Nat) (fun p => ⟨0, [(0, .sl 1 (l.map eI)), (1, .int .i64 x), (4, .int .i64 0), (5, .bool false), (6, .int .i64 l.length), (7, .int .i64 p.1), (8, .int .i64 p.2)], []⟩) (fun p => BS l x p.1 p.2) (fun p => p.2 - p.1) ((0, l.length)) ?_ (BS.start l x) (fun ⟨i, j⟩ hb => ?_)
  · refine Sh.wk0 ?_; simp [Wk, go_sem, simprocAttr]
  simp only at hb
  refine CW.seq ?_
  refine CW.seq ?_
  refine CW.rg ?_
  refine CWops.rn htt 3 ?_
  refine CWops.done ?_
  refine CW.cond (by simp only [go_sem, simprocAttr]; first | done | exact rfl) (fun ct15 => ?_) (fun ct15 => ?_)
  · have hij : i < j := by simpa using ct15
    have hjl := hb.jl
    have hadd : IntKind.i64.wrap ((i : Int) + (j : Int)) = ((i + j : Nat) : Int) := wrap_add (by unfold MX; omega)
    have hdiv : ((i + j : Nat) : Int).fdiv (2 ^ min 1 64) = (((i + j) / 2 : Nat) : Int) := by rw [show ((2 : Int) ^ min 1 64) = 2 by decide]; exact fdiv2 _
    have hhl : (i + j) / 2 < l.length := by omega
    obtain ⟨y, hy⟩ : ∃ y, l[(i + j) / 2]? = some y := ⟨l[(i + j) / 2], List.getElem?_eq_getElem hhl⟩
    refine CW.skip ?_
    refine CW.block ?_
    refine CW.seq ?_
    refine CW.rg ?_
    refine CWops.rn htt 3 ?_
    refine CWops.conv (n := ((i + j : Nat) : Int)) (k := .i64) (k' := .u64) htt (by simp only [go_sem, simprocAttr]) tt_3 rfl tt_111 rfl (by simp only [go_sem, simprocAttr, hadd, hdiv]; first | done | exact rfl) ?_
    rw [show IntKind.u64.wrap (((i + j : Nat) : Int)) = ((i + j : Nat) : Int) by simp only [IntKind.wrap, IntKind.bits, IntKind.signed]; simp; omega]
    refine CWops.rn htt 1 ?_
    refine CWops.conv (n := (((i + j) / 2 : Nat) : Int)) (k := .u64) (k' := .i64) htt (by simp only [go_sem, simprocAttr]) tt_111 rfl tt_3 rfl (by simp only [go_sem, simprocAttr, hadd, hdiv]; first | done | exact rfl) ?_
    rw [show IntKind.i64.wrap ((((i + j) / 2 : Nat) : Int)) = (((i + j) / 2 : Nat) : Int) by simp only [IntKind.wrap, IntKind.bits, IntKind.signed]; simp; omega]
    refine CWops.rn htt 1 ?_
    refine CWops.done ?_
    refine CW.seq ?_
    refine CW.rg ?_
    refine CWops.run htt 5 (by simp only [go_sem, simprocAttr, hy, eI, hhl]; exact rfl) (by simp [go_sem, simprocAttr, hy, eI, hhl]) ?_
    refine CWops.callA (cmp_Less up y x) (by simp only [go_sem, simprocAttr, hy, eI, hhl]) (by simp only [go_sem, simprocAttr, hy, eI, hhl]; first | done | exact rfl) (by simp only [go_sem, simprocAttr, hy, eI, hhl]) (by simp only [go_sem, simprocAttr, hy, eI, hhl]) (fun rt27 hrt27 => ?_)
    subst hrt27
    refine CWops.done ?_
    refine CW.cond (by simp only [go_sem, simprocAttr]; first | done | exact rfl) (fun ct27 => ?_) (fun ct27 => ?_)
    · have hlt : y < x := by simpa using ct27
      obtain ⟨p', hp'⟩ : ∃ p' : Nat × Nat, p' = ((i + j) / 2 + 1, j) := ⟨_, rfl⟩
      refine CW.rg ?_
      refine CWops.run htt 3 (by simp only [go_sem, simprocAttr, wrap_succ (show (i + j) / 2 < MX by unfold MX; omega)]; exact rfl) (by simp [go_sem, simprocAttr, wrap_succ (show (i + j) / 2 < MX by unfold MX; omega)]) ?_
      refine CWops.done ?_
      refine ⟨p', ?_, ?_, ?_⟩
      · subst hp'; refine Sh.wk0 ?_; simp [Wk, go_sem, simprocAttr]
      · subst hp'; first | exact hb.left hs hy hlt (by omega) | exact hb.right hs hy hlt (by omega) (by omega)
      · subst hp'; simp only; omega
    · have hlt : ¬ y < x := by simpa using ct27
      obtain ⟨p', hp'⟩ : ∃ p' : Nat × Nat, p' = (i, (i + j) / 2) := ⟨_, rfl⟩
      refine CW.rg ?_
      refine CWops.rn htt 2 ?_
      refine CWops.done ?_
      refine ⟨p', ?_, ?_, ?_⟩
      · subst hp'; refine Sh.wk0 ?_; simp [Wk, go_sem, simprocAttr]
      · subst hp'; first | exact hb.left hs hy hlt (by omega) | exact hb.right hs hy hlt (by omega) (by omega)
      · subst hp'; simp only; omega
  · have hij : i = j := by have := hb.ij; simp at ct15; omega
    subst hij
    have hjl := hb.jl
    refine CW.exit ?_
    refine CW.seq ?_
    obtain ⟨y, hcase⟩ : ∃ y, (i = l.length ∧ True ∧ True) ∨ (i ≠ l.length ∧ l[i]? = some y ∧ i < l.length) := by
      by_cases e : i = l.length
      · exact ⟨0, .inl ⟨e, trivial, trivial⟩⟩
      · exact ⟨l[i], .inr ⟨e, List.getElem?_eq_getElem (by omega), by omega⟩⟩
    rcases hcase with ⟨hil, hy, hyl⟩ | ⟨hil, hy, hyl⟩
    all_goals (refine CW.rg ?_)
    all_goals (refine CWops.run htt 5 (by simp only [go_sem, simprocAttr, hy, eI, hyl]; exact rfl) (by simp [go_sem, simprocAttr, hy, eI, hyl]) ?_)
    all_goals (first | refine CWops.guard 35 (by simp only [go_sem, simprocAttr, hy, eI, hyl]; exact rfl) (fun g35 => ?_) (fun g35 => ?_) | skip)
    all_goals (first | (exfalso; simp at g35 <;> omega) | skip)
    all_goals (refine CWops.run htt 7 (by simp only [go_sem, simprocAttr, hy, eI, hyl]; exact rfl) (by simp [go_sem, simprocAttr, hy, eI, hyl]) ?_)
    all_goals (first | refine CWops.guard 42 (by simp only [go_sem, simprocAttr, hy, eI, hyl]; exact rfl) (fun g42 => ?_) (fun g42 => ?_) | skip)
    all_goals (skip)
    all_goals (refine CWops.run htt 4 (by simp only [go_sem, simprocAttr, hy, eI, hyl]; exact rfl) (by simp [go_sem, simprocAttr, hy, eI, hyl]) ?_)
    all_goals (first | (refine CWops.skip ?_ ?_; next => (simp only [go_sem, simprocAttr]; done)) | (refine CWops.callA (slices_isNaN up y) (by simp only [go_sem, simprocAttr, hy, eI, hyl]) (by simp only [go_sem, simprocAttr, hy, eI, hyl]; first | done | exact rfl) (by simp only [go_sem, simprocAttr, hy, eI, hyl]) (by simp only [go_sem, simprocAttr, hy, eI, hyl]) (fun rt47 hrt47 => ?_); subst hrt47))
    all_goals (refine CWops.run htt 1 (by simp only [go_sem, simprocAttr, hy, eI, hyl]; exact rfl) (by simp [go_sem, simprocAttr, hy, eI, hyl]) ?_)
    all_goals (first | refine CWops.guard 48 (by simp only [go_sem, simprocAttr, hy, eI, hyl]; exact rfl) (fun g48 => ?_) (fun g48 => ?_) | skip)
    all_goals (first | (cases g48; done) | skip)
    all_goals (refine CWops.run htt 1 (by simp only [go_sem, simprocAttr, hy, eI, hyl]; exact rfl) (by simp [go_sem, simprocAttr, hy, eI, hyl]) ?_)
    all_goals (first | (refine CWops.skip ?_ ?_; next => (simp only [go_sem, simprocAttr]; done)) | (refine CWops.callA (slices_isNaN up x) (by simp only [go_sem, simprocAttr, hy, eI, hyl]) (by simp only [go_sem, simprocAttr, hy, eI, hyl]; first | done | exact rfl) (by simp only [go_sem, simprocAttr, hy, eI, hyl]) (by simp only [go_sem, simprocAttr, hy, eI, hyl]) (fun rt50 hrt50 => ?_); subst hrt50))
    all_goals (refine CWops.run htt 5 (by simp only [go_sem, simprocAttr, hy, eI, hyl]; exact rfl) (by simp [go_sem, simprocAttr, hy, eI, hyl]) ?_)
    all_goals (refine CWops.done ?_)
    all_goals (
      refine CW.ret ?_
      refine retQ.ret (by simp only [f46, go_sem, simprocAttr]; exact rfl) (by simp only [go_sem, simprocAttr]; exact rfl) ?_ -- ret1
      refine ⟨_, leP_refl _, (i : Int), ?_⟩
      first | (rw [hb.some hs hy, g42]; done) | (have h0 := hb; rw [hil] at h0; rw [h0.none]; done))
theorem sweep_1 (up : Bool) (l : List Int) (o : GObj) (hs : l.Pairwise (· < ·)) (hl9 : l.length < 1000) : PCall prog up 45 [.agg (eObj o), .fp [.sl 1 (l.map eI)]] (· = .bool (!decide (o.Id ∈ l))) := by
  refine PCall.intro htt func45 (by kernel_rfl) rfl (Nat.le_of_ble_eq_true rfl) fun hl => ?_

  simp only [tmps0, Nat.reduceAdd]
  refine CW.seq ?_
  refine CW.rg ?_
  refine CWops.run htt 2 (by simp only [go_sem, simprocAttr, eObj]; exact rfl) (by simp [go_sem, simprocAttr, eObj]) ?_
  refine CWops.done ?_
  refine CW.seq ?_
  refine CW.rg ?_
  refine CWops.run htt 3 (by simp only [go_sem, simprocAttr, eObj]; exact rfl) (by simp [go_sem, simprocAttr, eObj]) ?_
  refine CWops.callA (binarySearch up l o.Id hs hl9) (by simp only [go_sem, simprocAttr, eObj]) (by simp only [go_sem, simprocAttr, eObj]; first | done | exact rfl) (by simp only [go_sem, simprocAttr, eObj]) (by simp only [go_sem, simprocAttr, eObj]) (fun rt10 hrt10 => ?_)
  obtain ⟨k10, rfl⟩ := hrt10
  refine CWops.run htt 5 (by simp only [go_sem, simprocAttr, eObj]; exact rfl) (by simp [go_sem, simprocAttr, eObj]) ?_
  refine CWops.done ?_
  refine CW.seq ?_
  refine CW.rg ?_
  refine CWops.rn htt 3 ?_
  refine CWops.done ?_
  refine CW.ret ?_
  refine retQ.ret (by simp only [f45, go_sem, simprocAttr]; exact rfl) (by simp only [go_sem, simprocAttr]; exact rfl) ?_ -- ret1
  refine ⟨_, ?_, rfl⟩
  simp [leP]
theorem deleteFunc_none (up : Bool) (xs : List GObj) (p : GObj → Bool) (fn : FuncId) (caps : List AV) (hc : pureL caps = true) (hcv : ∀ σ, caps.map (view 8 σ) = caps) (hx8 : xs.length < 1000) (hp : ∀ x ∈ xs, PCall prog up fn (.agg (eObj x) :: caps) (· = .bool (p x))) (f1 : fnd p xs = -1) (f3 : del p xs = xs) : GCall prog up 44 [.ref 0 [] 0, .func (.func fn) [] caps] 1 [(0, ⟨false, [.own 3 (List.map eObj xs)]⟩)] (fun r σ' => r = .ref 1 [] 0 ∧ σ'.n = 2 ∧ σ'.s = [(1, ⟨false, [.own 3 ((del p xs).map eObj)]⟩)]) := by
  refine GCall.intro htt 0 func44 (by kernel_rfl) rfl (Nat.le_of_ble_eq_true rfl) (CW.told ?_)

  simp only [tmps0, Nat.reduceAdd]
  refine CW.seq ?_
  refine CW.rg ?_
  refine CWops.rn htt 1 ?_
  refine CWops.done ?_
  refine CW.seq ?_
  refine CW.rg ?_
  refine CWops.run htt 2 (by simp only [go_sem, simprocAttr, hcv]; exact rfl) (by simp [go_sem, simprocAttr, hcv]) ?_
  refine CWops.call (index_Obj up xs p fn caps hc hp) (by simp only [go_sem, simprocAttr, hcv]) (by simp only [go_sem, simprocAttr, hcv]; first | done | exact rfl) (by simp only [go_sem, simprocAttr, hcv]) (fun rt10 hrt10 => ?_)
  subst hrt10; refine ⟨rfl, ?_⟩
  refine CWops.run htt 1 (by simp only [go_sem, simprocAttr, hcv]; exact rfl) (by simp [go_sem, simprocAttr, hcv]) ?_
  refine CWops.done ?_
  refine CW.seq ?_
  refine CW.seq ?_
  refine CW.rg ?_
  refine CWops.run htt 2 (by simp only [go_sem, simprocAttr, f1]; exact rfl) (by simp [go_sem, simprocAttr, f1]) ?_
  refine CWops.done ?_
  refine CW.cond (by simp only [go_sem, simprocAttr]; first | done | exact rfl) (fun ct12 => ?_) (fun ct12 => ?_)
  · refine CW.seq ?_
    refine CW.rg ?_
    refine CWops.rn htt 2 ?_
    refine CWops.done ?_
    refine CW.ret ?_
    refine ⟨⟨2, [(4, .ref 1 [] 0)], [(1, ⟨false, [.own 3 (List.map eObj (del p xs))]⟩)]⟩, ?_, .inr rfl, by simp [ptrOK, go_sem, simprocAttr], _, by simp only [f44, go_sem, simprocAttr]; exact rfl, ?_⟩ -- ret1
    · refine Sh.wk (fun x => if x = 1 then 0 else x) ?_
      rw [f3]
      simp [Wk, go_sem, simprocAttr]
    · exact ⟨rfl, rfl, rfl⟩
  · exfalso; revert ct12; simp [f1]
theorem deleteFunc_some (up : Bool) (xs : List GObj) (p : GObj → Bool) (fn : FuncId) (caps : List AV) (hc : pureL caps = true) (hcv : ∀ σ, caps.map (view 8 σ) = caps) (hx8 : xs.length < 1000) (hp : ∀ x ∈ xs, PCall prog up fn (.agg (eObj x) :: caps) (· = .bool (p x))) (i0 : Nat) (x0 : GObj) (f1 : fnd p xs = i0) (hx0 : xs[i0]? = some x0) (hp0 : p x0 = true) (hb0 : ∀ (j : Nat) (y : GObj), j < i0 → xs[j]? = some y → p y = false) : GCall prog up 44 [.ref 0 [] 0, .func (.func fn) [] caps] 1 [(0, ⟨false, [.own 3 (List.map eObj xs)]⟩)] (fun r σ' => r = .ref 1 [] 0 ∧ σ'.n = 2 ∧ σ'.s = [(1, ⟨false, [.own 3 ((del p xs).map eObj)]⟩)]) := by
  refine GCall.intro htt 0 func44 (by kernel_rfl) rfl (Nat.le_of_ble_eq_true rfl) (CW.told ?_)

  simp only [tmps0, Nat.reduceAdd]
  refine CW.seq ?_
  refine CW.rg ?_
  refine CWops.rn htt 1 ?_
  refine CWops.done ?_
  refine CW.seq ?_
  refine CW.rg ?_
  refine CWops.run htt 2 (by simp only [go_sem, simprocAttr, hcv]; exact rfl) (by simp [go_sem, simprocAttr, hcv]) ?_
  refine CWops.call (index_Obj up xs p fn caps hc hp) (by simp only [go_sem, simprocAttr, hcv]) (by simp only [go_sem, simprocAttr, hcv]; first | done | exact rfl) (by simp only [go_sem, simprocAttr, hcv]) (fun rt10 hrt10 => ?_)
  subst hrt10; refine ⟨rfl, ?_⟩
  refine CWops.run htt 1 (by simp only [go_sem, simprocAttr, hcv]; exact rfl) (by simp [go_sem, simprocAttr, hcv]) ?_
  refine CWops.done ?_
  refine CW.seq ?_
  refine CW.seq ?_
  refine CW.rg ?_
  refine CWops.run htt 2 (by simp only [go_sem, simprocAttr, f1]; exact rfl) (by simp [go_sem, simprocAttr, f1]) ?_
  refine CWops.done ?_
  refine CW.cond (by simp only [go_sem, simprocAttr]; first | done | exact rfl) (fun ct12 => ?_) (fun ct12 => ?_)
  · exfalso; revert ct12; simp [f1] <;> omega 
  · refine CW.skip ?_
    refine CW.seq ?_
    refine CW.seq ?_
    refine CW.rg ?_
    refine CWops.run htt 3 (by simp only [go_sem, simprocAttr, f1, wrap_succ (show i0 < MX by have := (List.getElem?_eq_some_iff.1 hx0).1; unfold MX; omega)]; exact rfl) (by simp [go_sem, simprocAttr, f1, wrap_succ (show i0 < MX by have := (List.getElem?_eq_some_iff.1 hx0).1; unfold MX; omega)]) ?_
    refine CWops.done ?_
    refine CW.block ?_
    refine CW.loop (S := Nat × Nat × List GObj) (fun q => ⟨1, [(0, .ref 0 [] 0), (1, .func (.func fn) [] caps), (5, .int .i64 q.1), (6, .int .i64 q.2.1)], [(0, ⟨false, [.own 3 (List.map eObj q.2.2)]⟩)]⟩) (fun q => Swp p xs q.2.2 q.1 q.2.1 ∧ q.1 < q.2.1) (fun q => xs.length - q.2.1) ((i0, i0 + 1, xs)) ?_ ⟨Swp.start hx0 hp0 hb0, by simp⟩ (fun ⟨i, j, m⟩ ⟨hw, hij⟩ => ?_)
    · refine Sh.wk0 ?_; simp [Wk, go_sem, simprocAttr, f1, SubL_refl hc, ex_func, SubL, Sub]
    simp only at hw hij
    have hml : m.length = xs.length := hw.len
    refine CW.seq ?_
    refine CW.seq ?_
    refine CW.rg ?_
    refine CWops.run htt 4 (by simp only [go_sem, simprocAttr, hml]; exact rfl) (by simp [go_sem, simprocAttr, hml]) ?_
    refine CWops.done ?_
    refine CW.cond (by simp only [go_sem, simprocAttr]; first | done | exact rfl) (fun ct19 => ?_) (fun ct19 => ?_)
    · have hj : j < xs.length := by simpa using ct19
      obtain ⟨x, hx⟩ : ∃ x, xs[j]? = some x := ⟨xs[j], List.getElem?_eq_getElem hj⟩
      have hmj := hw.at hx
      have hjm : j < m.length := by omega
      have him : i < m.length := by omega
      obtain ⟨z, hmi⟩ : ∃ z, m[i]? = some z := ⟨m[i], List.getElem?_eq_getElem him⟩
      refine CW.skip ?_
      refine CW.seq ?_
      refine CW.block ?_
      refine CW.seq ?_
      refine CW.rg ?_
      refine CWops.run htt 6 (by simp only [go_sem, simprocAttr, hmj, eObj, hjm, hc]; exact rfl) (by simp [go_sem, simprocAttr, hmj, eObj, hjm, hc]) ?_
      refine CWops.done ?_
      refine CW.seq ?_
      refine CW.rg ?_
      refine CWops.run htt 2 (by simp only [go_sem, simprocAttr, eObj, hc]; exact rfl) (by simp [go_sem, simprocAttr, eObj, hc]) ?_
      refine CWops.callA (hp x (List.mem_of_getElem? hx)) (by simp only [go_sem, simprocAttr, eObj, hc]) (by simp only [go_sem, simprocAttr, eObj, hc]; first | done | exact rfl) (by simp only [go_sem, simprocAttr, eObj, hc]) (by simp only [go_sem, simprocAttr, eObj, hc]) (fun rt28 hrt28 => ?_)
      subst hrt28
      refine CWops.run htt 1 (by simp only [go_sem, simprocAttr, eObj, hc]; exact rfl) (by simp [go_sem, simprocAttr, eObj, hc]) ?_
      refine CWops.done ?_
      refine CW.cond (by simp only [go_sem, simprocAttr]; first | done | exact rfl) (fun ct29 => ?_) (fun ct29 => ?_)
      · have hpx : p x = false := by simpa using ct29
        obtain ⟨q', hq'⟩ : ∃ q' : Nat × Nat × List GObj, q' = (i + 1, j + 1, m.set i x) := ⟨_, rfl⟩
        refine CW.seq ?_
        refine CW.rg ?_
        refine CWops.run htt 5 (by simp only [go_sem, simprocAttr, eObj, him, hmi, List.getElem?_set_self, List.length_map, List.length_set, List.set_set]; exact rfl) (by simp [go_sem, simprocAttr, eObj, him, hmi, List.getElem?_set_self, List.length_map, List.length_set, List.set_set]) ?_
        refine CWops.done ?_
        rw [show (List.map eObj m).set i [.int .i64 x.Id, .int .i64 x.T, .sl 3 (List.map eVal x.F)] = (m.set i x).map eObj by rw [List.map_set]; rfl]
        refine CW.rg ?_
        refine CWops.run htt 3 (by simp only [go_sem, simprocAttr, wrap_succ (show i < MX by unfold MX; omega)]; exact rfl) (by simp [go_sem, simprocAttr, wrap_succ (show i < MX by unfold MX; omega)]) ?_
        refine CWops.done ?_
        refine CW.rg ?_
        refine CWops.run htt 3 (by simp only [go_sem, simprocAttr, wrap_succ (show j < MX by unfold MX; omega)]; exact rfl) (by simp [go_sem, simprocAttr, wrap_succ (show j < MX by unfold MX; omega)]) ?_
        refine CWops.done ?_
        refine ⟨q', ?_, ?_, ?_⟩
        · subst hq'; refine Sh.wk0 ?_; simp [Wk, go_sem, simprocAttr, SubL_refl hc, ex_func, SubL, Sub]
        · subst hq'; first | exact ⟨hw.keep hij hx hpx, by simp only; omega⟩ | exact ⟨hw.skip hx hpx, by simp only; omega⟩
        · subst hq'; simp only; omega
      · have hpx : p x = true := by simpa using ct29
        obtain ⟨q', hq'⟩ : ∃ q' : Nat × Nat × List GObj, q' = (i, j + 1, m) := ⟨_, rfl⟩
        refine CW.skip ?_
        refine CW.rg ?_
        refine CWops.run htt 3 (by simp only [go_sem, simprocAttr, wrap_succ (show j < MX by unfold MX; omega)]; exact rfl) (by simp [go_sem, simprocAttr, wrap_succ (show j < MX by unfold MX; omega)]) ?_
        refine CWops.done ?_
        refine ⟨q', ?_, ?_, ?_⟩
        · subst hq'; refine Sh.wk0 ?_; simp [Wk, go_sem, simprocAttr, SubL_refl hc, ex_func, SubL, Sub]
        · subst hq'; first | exact ⟨hw.keep hij hx hpx, by simp only; omega⟩ | exact ⟨hw.skip hx hpx, by simp only; omega⟩
        · subst hq'; simp only; omega
    · have hj : j = xs.length := by have := hw.jl; simp at ct19; omega
      subst hj
      have him : i ≤ m.length := by omega
      have hcut : ∀ z, ((List.map eObj m).take i ++ z).take i = (del p xs).map eObj := fun z => by rw [List.take_left' (by simp; omega), ← List.map_take, hw.done]
      refine CW.exit ?_
      refine CW.seq ?_
      refine CW.rg ?_
      refine CWops.rn htt 2 ?_
      refine CWops.clearFrom (y := 0) (q := i) (k := .i64) (es := m.map eObj) htt (by simp only [go_sem, simprocAttr]) (by simp only [go_sem, simprocAttr]) tt_25 rfl tt_58 rfl (by simp only [go_sem, simprocAttr]) (by simp only [go_sem, simprocAttr]; first | done | exact rfl) (by simp only [go_sem, simprocAttr]) (by rw [List.length_map]; exact him) ?_
      simp only [go_sem, simprocAttr]
      refine CWops.done ?_
      refine CW.seq ?_
      refine CW.rg ?_
      refine CWops.rn htt 2 ?_
      refine CWops.cutTo (y := 0) (q := i) (k := .i64) htt (by simp only [go_sem, simprocAttr]) tt_25 rfl tt_58 (by simp only [go_sem, simprocAttr]) (by simp only [go_sem, simprocAttr]; first | done | exact rfl) (by simp only [go_sem, simprocAttr]) (by simp; omega) ?_
      simp only [go_sem, simprocAttr, hcut]
      refine CWops.rn htt 1 ?_
      refine CWops.done ?_
      refine CW.ret ?_
      refine ⟨⟨2, [(4, .ref 1 [] 0)], [(1, ⟨false, [.own 3 (List.map eObj (del p xs))]⟩)]⟩, ?_, .inr rfl, by simp [ptrOK, go_sem, simprocAttr], _, by simp only [f44, go_sem, simprocAttr]; exact rfl, ?_⟩ -- ret1
      · refine Sh.wk0 ?_
        simp [Wk, go_sem, simprocAttr]
      · exact ⟨rfl, rfl, rfl⟩
theorem deleteFunc (up : Bool) (xs : List GObj) (p : GObj → Bool) (fn : FuncId) (caps : List AV) (hc : pureL caps = true) (hcv : ∀ σ, caps.map (view 8 σ) = caps) (hx8 : xs.length < 1000) (hp : ∀ x ∈ xs, PCall prog up fn (.agg (eObj x) :: caps) (· = .bool (p x))) : GCall prog up 44 [.ref 0 [] 0, .func (.func fn) [] caps] 1 [(0, ⟨false, [.own 3 (List.map eObj xs)]⟩)] (fun r σ' => r = .ref 1 [] 0 ∧ σ'.n = 2 ∧ σ'.s = [(1, ⟨false, [.own 3 ((del p xs).map eObj)]⟩)]) := by
  cases h : xs.findIdx? p with
  | none =>
    have h1 := List.findIdx?_eq_none_iff.1 h
    exact deleteFunc_none up xs p fn caps hc hcv hx8 hp (by unfold fnd; rw [h]) (del_none fun j y hy => h1 y (List.mem_of_getElem? hy))
  | some i =>
    obtain ⟨h1, h2, h3⟩ := List.findIdx?_eq_some_iff_getElem.1 h
    exact deleteFunc_some up xs p fn caps hc hcv hx8 hp i xs[i] (by unfold fnd; rw [h]) (List.getElem?_eq_getElem h1) h2 fun j y hj hy => by
      obtain ⟨h4, h5⟩ := List.getElem?_eq_some_iff.1 hy
      have := h3 j hj
      rw [h5] at this; simpa using this
end Go.Ab
namespace Go.Ab
open Go Go.Proofs.Tryz
set_option maxRecDepth 100000
set_option linter.unusedSimpArgs false
set_option linter.unusedVariables false
theorem May.sz {g : Graph} (h : May g) : GSz g := by
  obtain ⟨h1, h2, h3⟩ := h.small
  have h4 := h.o
  have h5 := h.r
  exact ⟨by unfold MX; omega, fun x hx => by have := h2 x hx; unfold MX; omega, by unfold MX; omega, fun x hx => by have := h3 x hx; unfold MX; omega, by unfold MX; omega⟩
theorem gReach_len {g : Graph} (h : May g) : (gReach g).length ≤ 8 := by
  have := h.o
  unfold gReach
  rw [if_pos ((may_iff g).2 h), List.length_map]
  exact Nat.le_trans (List.length_filter_le _ _) this
theorem graph_Sweep (up : Bool) (g : Graph) : PCall prog up 14 [.agg (eGraph g)] (· = .agg (eGraph (gSweep g))) := by
  refine PCall.intro htt func14 (by kernel_rfl) rfl (Nat.le_of_ble_eq_true rfl) fun hl => ?_

  simp only [tmps0, Nat.reduceAdd]
  refine CW.seq ?_
  refine CW.rg ?_
  refine CWops.run htt 2 (by simp only [go_sem, simprocAttr, eGraph]; exact rfl) (by simp [go_sem, simprocAttr, eGraph]) ?_
  refine CWops.done ?_
  refine CW.seq ?_
  refine CW.seq ?_
  refine CW.rg ?_
  refine CWops.run htt 1 (by simp only [go_sem, simprocAttr, eGraph]; exact rfl) (by simp [go_sem, simprocAttr, eGraph]) ?_
  refine CWops.call (graph_May up g) (by simp only [go_sem, simprocAttr, eGraph]) (by simp only [go_sem, simprocAttr, eGraph]; first | done | exact rfl) (by simp only [go_sem, simprocAttr, eGraph]) (fun rt6 hrt6 => ?_)
  subst hrt6; refine ⟨rfl, ?_⟩
  refine CWops.run htt 1 (by simp only [go_sem, simprocAttr, eGraph]; exact rfl) (by simp [go_sem, simprocAttr, eGraph]) ?_
  refine CWops.done ?_
  refine CW.cond (by simp only [go_sem, simprocAttr]; first | done | exact rfl) (fun ct7 => ?_) (fun ct7 => ?_)
  · simp only [Bool.not_eq_true'] at ct7
    refine CW.seq ?_
    refine CW.rg ?_
    refine CWops.rn htt 2 ?_
    refine CWops.done ?_
    refine CW.ret ?_
    refine retQ.ret (by simp only [f14, go_sem, simprocAttr]; exact rfl) (by simp only [go_sem, simprocAttr]; exact rfl) ?_ -- ret1
    refine ⟨_, ?_, rfl⟩
    have : gSweep g = ⟨[], [], []⟩ := by unfold gSweep; rw [ct7]; rfl
    simp [leP, leL, this, eGraph]
  · simp only [Bool.not_eq_false'] at ct7
    have hm := (may_iff g).1 ct7
    refine CW.skip ?_
    refine CW.seq ?_
    refine CW.rg ?_
    refine CWops.run htt 1 (by simp only [go_sem, simprocAttr, eGraph]; exact rfl) (by simp [go_sem, simprocAttr, eGraph]) ?_
    refine CWops.callA (graph_Reach up g) (by simp only [go_sem, simprocAttr, eGraph]) (by simp only [go_sem, simprocAttr, eGraph]; first | done | exact rfl) (by simp only [go_sem, simprocAttr, eGraph]) (by simp only [go_sem, simprocAttr, eGraph]) (fun rt10 hrt10 => ?_)
    subst hrt10
    refine CWops.run htt 2 (by simp only [go_sem, simprocAttr, eGraph]; exact rfl) (by simp [go_sem, simprocAttr, eGraph]) ?_
    refine CWops.done ?_
    refine CW.seq ?_
    refine CW.rg ?_
    refine CWops.run htt 1 (by simp only [go_sem, simprocAttr, eGraph, OWN]; exact rfl) (by simp [go_sem, simprocAttr, eGraph, OWN]) ?_
    refine CWops.callG [] rfl (graph_own up g hm.sz) (by simp only [go_sem, simprocAttr]) (by simp only [go_sem, simprocAttr]; first | done | exact rfl) (by decide) (by simp [go_sem, simprocAttr, mName, memB]) (by simp [go_sem, simprocAttr, mName]) (by simp [go_sem, simprocAttr]) (by simp [go_sem, simprocAttr]) (by simp [go_sem, simprocAttr, mName, eGraph]) (fun r σ' hσ => ?_)
    obtain ⟨σn, σt, σs⟩ := σ'
    simp only at hσ
    obtain ⟨rfl, rfl, rfl⟩ := hσ
    simp only [aftS, renS, delAll, memB, mName, List.getD_nil, killH, kref, ren, Nat.beq_eq, go_sem, simprocAttr]
    refine CWops.run htt 2 (by simp only [go_sem, simprocAttr, eGraph, OWN]; exact rfl) (by simp [go_sem, simprocAttr, eGraph, OWN]) ?_
    refine CWops.done ?_
    refine CW.seq ?_
    refine CW.sh (Sh.frzB 2 rfl rfl rfl) ?_
    simp only [go_sem, simprocAttr, mapT, mapS, frzF, List.map_cons, List.map_nil, delS, OWN]
    refine CW.sh (Sh.out 3 1 rfl rfl rfl) ?_
    simp only [go_sem, simprocAttr, mapT, mapS, outF, List.map_cons, List.map_nil, putAt, List.set_cons_zero, List.set_cons_succ]
    refine CW.sh (Sh.frzRows (x := 6) (n := 3) (m := 3) (c := 2) (b := false) (l := g.O) (e := eObjO) (f := eObj) (rs := fun o => o.F.map eVal) rfl (fun v _ => rfl) (fun v _ => by simp [eObj, eObjO, AV.freeze, eVal])) ?_
    simp only [go_sem, simprocAttr]
    refine CW.rg ?_
    refine CWops.rn htt 3 ?_
    refine CWops.callG [6] rfl (deleteFunc up g.O (fun o => !decide (o.Id ∈ gReach g)) 45 [.fp [.sl 1 ((gReach g).map eI)]] rfl (fun σ => by simp [view]) (by have := hm.o; omega) (fun x _ => sweep_1 up (gReach g) x (gReach_pw hm) (by have := gReach_len hm; omega))) (by simp only [go_sem, simprocAttr]) (by simp only [go_sem, simprocAttr]; first | done | exact rfl) (by decide) (by simp [go_sem, simprocAttr, mName, memB, ex_func, SubL, Sub, eGraph]) (by simp [go_sem, simprocAttr, mName, ex_func, SubL, Sub, eGraph]) (by simp [go_sem, simprocAttr, ex_func, SubL, Sub, eGraph]) (by intro x hx; rcases x with _ | _ | _ | _ | x <;> first | (simp [go_sem, simprocAttr]; done) | omega | (simp at hx; done) | (simp at hx; omega)) (by simp [go_sem, simprocAttr, mName, ex_func, SubL, Sub, eGraph]) (fun r σ' hσ => ?_)
    obtain ⟨σn, σt, σs⟩ := σ'
    simp only at hσ
    obtain ⟨rfl, rfl, rfl⟩ := hσ
    simp only [aftS, renS, delAll, memB, mName, List.getD_nil, killH, kref, ren, Nat.beq_eq, go_sem, simprocAttr]
    refine CWops.rn htt 2 ?_
    refine CWops.done ?_
    refine CW.seq ?_
    have hdel : del (fun o => !decide (o.Id ∈ gReach g)) g.O = (gSweep g).O := by unfold gSweep del; rw [if_pos ct7]; simp
    rw [hdel]
    refine CW.sh (Sh.frz 5 1 rfl rfl) ?_
    simp only [go_sem, simprocAttr]
    refine CW.sh (Sh.frzC 3 0 5 0 (by decide) rfl rfl rfl) ?_
    simp only [go_sem, simprocAttr]
    refine CW.sh (Sh.frzC 3 2 5 2 (by decide) rfl rfl rfl) ?_
    simp only [go_sem, simprocAttr]
    refine CW.rg ?_
    refine CWops.rn htt 2 ?_
    refine CWops.done ?_
    refine CW.ret ?_
    refine retQ.ret (by simp only [f14, go_sem, simprocAttr]; exact rfl) (by simp only [go_sem, simprocAttr]; exact rfl) ?_ -- ret2
    refine ⟨_, ?_, rfl⟩
    have h1 : (gSweep g).S = g.S := by unfold gSweep; rw [if_pos ct7]
    have h2 : (gSweep g).Roots = g.Roots := by unfold gSweep; rw [if_pos ct7]
    simp [leP, leL, eGraph, h1, h2]
end Go.Ab
namespace Go.Ab
open Go Go.Proofs.Tryz
set_option maxRecDepth 100000
set_option maxHeartbeats 1600000
set_option linter.unusedSimpArgs false
set_option linter.unusedVariables false
theorem aw08Reach (up : Bool) : PCall prog up 17 [.agg (eGraph twG)] (· = .sl 1 [[.int .i64 0]]) := by
  have h := graph_Reach up twG
  rw [twG_reach] at h
  exact h
theorem aw08Sweep (up : Bool) : PCall prog up 14 [.agg (eGraph twG)] (· = .agg (eGraph twW)) := by
  have h := graph_Sweep up twG
  rw [twG_sweep] at h
  exact h
theorem aw08New (up : Bool) : PCall prog up 7 [.agg (eGraph twG), .int .i64 0] (· = .tup [.agg (eGraph twN), .int .i64 6, .int .i64 0]) := by
  have h := graph_New up twG 0 twG_sz
  rw [twG_new] at h
  exact h
theorem aw08Find (up : Bool) : PCall prog up 22 [.agg (eGraph twN), .int .i64 5] (· = .int .i64 1) := by
  have h := graph_Find up twN 5
  rw [show fnd (fun o => decide (o.Id = 5)) twN.O = 1 by decide] at h
  exact h
theorem aw08May (up : Bool) : PCall prog up 20 [.agg (eGraph twG)] (· = .bool true) := by
  have h := graph_May up twG
  rw [twG_may] at h
  exact h
theorem twW_len : twW.O.length = 1 := rfl
theorem twN_len : twN.O.length = 3 := rfl
theorem law08_awake (up : Bool) : PCall prog up 5 [] (· = .bool true) := by
  refine PCall.intro htt func5 (by kernel_rfl) rfl (Nat.le_of_ble_eq_true rfl) fun hl => ?_

  simp only [tmps0, Nat.reduceAdd]
  refine CW.seq ?_
  refine CW.rg ?_
  refine CWops.rn htt 1 ?_
  refine CWops.done ?_
  refine CW.seq ?_
  refine CW.rg ?_
  refine CWops.callA (law08_Two up) (by simp only [go_sem, simprocAttr, eGraph]) (by simp only [go_sem, simprocAttr, eGraph]; first | done | exact rfl) (by simp only [go_sem, simprocAttr, eGraph]) (by simp only [go_sem, simprocAttr, eGraph]) (fun rt6 hrt6 => ?_)
  subst hrt6
  refine CWops.callA (aw08Reach up) (by simp only [go_sem, simprocAttr, eGraph]) (by simp only [go_sem, simprocAttr, eGraph]; first | done | exact rfl) (by simp only [go_sem, simprocAttr, eGraph]) (by simp only [go_sem, simprocAttr, eGraph]) (fun rt7 hrt7 => ?_)
  subst hrt7
  refine CWops.run htt 1 (by simp only [go_sem, simprocAttr, eGraph]; exact rfl) (by simp [go_sem, simprocAttr, eGraph]) ?_
  refine CWops.done ?_
  refine CW.seq ?_
  refine CW.rg ?_
  refine CWops.callA (law08_Two up) (by simp only [go_sem, simprocAttr, eGraph]) (by simp only [go_sem, simprocAttr, eGraph]; first | done | exact rfl) (by simp only [go_sem, simprocAttr, eGraph]) (by simp only [go_sem, simprocAttr, eGraph]) (fun rt8 hrt8 => ?_)
  subst hrt8
  refine CWops.callA (aw08Sweep up) (by simp only [go_sem, simprocAttr, eGraph]) (by simp only [go_sem, simprocAttr, eGraph]; first | done | exact rfl) (by simp only [go_sem, simprocAttr, eGraph]) (by simp only [go_sem, simprocAttr, eGraph]) (fun rt9 hrt9 => ?_)
  subst hrt9
  refine CWops.run htt 2 (by simp only [go_sem, simprocAttr, eGraph]; exact rfl) (by simp [go_sem, simprocAttr, eGraph]) ?_
  refine CWops.done ?_
  refine CW.seq ?_
  refine CW.rg ?_
  refine CWops.callA (law08_Two up) (by simp only [go_sem, simprocAttr, eGraph]) (by simp only [go_sem, simprocAttr, eGraph]; first | done | exact rfl) (by simp only [go_sem, simprocAttr, eGraph]) (by simp only [go_sem, simprocAttr, eGraph]) (fun rt11 hrt11 => ?_)
  subst hrt11
  refine CWops.callA (aw08New up) (by simp only [go_sem, simprocAttr, eGraph]) (by simp only [go_sem, simprocAttr, eGraph]; first | done | exact rfl) (by simp only [go_sem, simprocAttr, eGraph]) (by simp only [go_sem, simprocAttr, eGraph]) (fun rt12 hrt12 => ?_)
  subst hrt12
  refine CWops.run htt 8 (by simp only [go_sem, simprocAttr, eGraph]; exact rfl) (by simp [go_sem, simprocAttr, eGraph]) ?_
  refine CWops.done ?_
  refine CW.seq ?_
  refine CW.rg ?_
  refine CWops.callA (law08_Two up) (by simp only [go_sem, simprocAttr, eGraph, List.length_cons, List.length_nil, List.getElem?_cons_zero, List.length_map, twW_len, twN_len]) (by simp only [go_sem, simprocAttr, eGraph, List.length_cons, List.length_nil, List.getElem?_cons_zero, List.length_map, twW_len, twN_len]; first | done | exact rfl) (by simp only [go_sem, simprocAttr, eGraph, List.length_cons, List.length_nil, List.getElem?_cons_zero, List.length_map, twW_len, twN_len]) (by simp only [go_sem, simprocAttr, eGraph, List.length_cons, List.length_nil, List.getElem?_cons_zero, List.length_map, twW_len, twN_len]) (fun rt16 hrt16 => ?_)
  subst hrt16
  refine CWops.callA (aw08May up) (by simp only [go_sem, simprocAttr, eGraph, List.length_cons, List.length_nil, List.getElem?_cons_zero, List.length_map, twW_len, twN_len]) (by simp only [go_sem, simprocAttr, eGraph, List.length_cons, List.length_nil, List.getElem?_cons_zero, List.length_map, twW_len, twN_len]; first | done | exact rfl) (by simp only [go_sem, simprocAttr, eGraph, List.length_cons, List.length_nil, List.getElem?_cons_zero, List.length_map, twW_len, twN_len]) (by simp only [go_sem, simprocAttr, eGraph, List.length_cons, List.length_nil, List.getElem?_cons_zero, List.length_map, twW_len, twN_len]) (fun rt17 hrt17 => ?_)
  subst hrt17
  refine CWops.run htt 1 (by simp only [go_sem, simprocAttr, eGraph, List.length_cons, List.length_nil, List.getElem?_cons_zero, List.length_map, twW_len, twN_len]; exact rfl) (by simp [go_sem, simprocAttr, eGraph, List.length_cons, List.length_nil, List.getElem?_cons_zero, List.length_map, twW_len, twN_len]) ?_
  all_goals (first | refine CWops.guard 18 (by simp only [go_sem, simprocAttr, eGraph, List.length_cons, List.length_nil, List.getElem?_cons_zero, List.length_map, twW_len, twN_len]; exact rfl) (fun g18 => ?_) (fun g18 => ?_) | skip)
  all_goals (first | (simp at g18; done) | (cases g18; done) | skip)
  all_goals (refine CWops.run htt 5 (by simp only [go_sem, simprocAttr, eGraph, List.length_cons, List.length_nil, List.getElem?_cons_zero, List.length_map, twW_len, twN_len]; exact rfl) (by simp [go_sem, simprocAttr, eGraph, List.length_cons, List.length_nil, List.getElem?_cons_zero, List.length_map, twW_len, twN_len]) ?_)
  all_goals (first | refine CWops.guard 23 (by simp only [go_sem, simprocAttr, eGraph, List.length_cons, List.length_nil, List.getElem?_cons_zero, List.length_map, twW_len, twN_len]; exact rfl) (fun g23 => ?_) (fun g23 => ?_) | skip)
  all_goals (first | (simp at g23; done) | (cases g23; done) | skip)
  all_goals (refine CWops.run htt 6 (by simp only [go_sem, simprocAttr, eGraph, List.length_cons, List.length_nil, List.getElem?_cons_zero, List.length_map, twW_len, twN_len]; exact rfl) (by simp [go_sem, simprocAttr, eGraph, List.length_cons, List.length_nil, List.getElem?_cons_zero, List.length_map, twW_len, twN_len]) ?_)
  all_goals (first | refine CWops.guard 29 (by simp only [go_sem, simprocAttr, eGraph, List.length_cons, List.length_nil, List.getElem?_cons_zero, List.length_map, twW_len, twN_len]; exact rfl) (fun g29 => ?_) (fun g29 => ?_) | skip)
  all_goals (first | (simp at g29; done) | (cases g29; done) | skip)
  all_goals (refine CWops.run htt 6 (by simp only [go_sem, simprocAttr, eGraph, List.length_cons, List.length_nil, List.getElem?_cons_zero, List.length_map, twW_len, twN_len]; exact rfl) (by simp [go_sem, simprocAttr, eGraph, List.length_cons, List.length_nil, List.getElem?_cons_zero, List.length_map, twW_len, twN_len]) ?_)
  all_goals (first | refine CWops.guard 35 (by simp only [go_sem, simprocAttr, eGraph, List.length_cons, List.length_nil, List.getElem?_cons_zero, List.length_map, twW_len, twN_len]; exact rfl) (fun g35 => ?_) (fun g35 => ?_) | skip)
  all_goals (first | (simp at g35; done) | (cases g35; done) | skip)
  all_goals (refine CWops.run htt 4 (by simp only [go_sem, simprocAttr, eGraph, List.length_cons, List.length_nil, List.getElem?_cons_zero, List.length_map, twW_len, twN_len]; exact rfl) (by simp [go_sem, simprocAttr, eGraph, List.length_cons, List.length_nil, List.getElem?_cons_zero, List.length_map, twW_len, twN_len]) ?_)
  all_goals (first | refine CWops.guard 39 (by simp only [go_sem, simprocAttr, eGraph, List.length_cons, List.length_nil, List.getElem?_cons_zero, List.length_map, twW_len, twN_len]; exact rfl) (fun g39 => ?_) (fun g39 => ?_) | skip)
  all_goals (first | (simp at g39; done) | (cases g39; done) | skip)
  all_goals (refine CWops.run htt 4 (by simp only [go_sem, simprocAttr, eGraph, List.length_cons, List.length_nil, List.getElem?_cons_zero, List.length_map, twW_len, twN_len]; exact rfl) (by simp [go_sem, simprocAttr, eGraph, List.length_cons, List.length_nil, List.getElem?_cons_zero, List.length_map, twW_len, twN_len]) ?_)
  all_goals (first | refine CWops.guard 43 (by simp only [go_sem, simprocAttr, eGraph, List.length_cons, List.length_nil, List.getElem?_cons_zero, List.length_map, twW_len, twN_len]; exact rfl) (fun g43 => ?_) (fun g43 => ?_) | skip)
  all_goals (first | (simp at g43; done) | (cases g43; done) | skip)
  all_goals (refine CWops.run htt 6 (by simp only [go_sem, simprocAttr, eGraph, List.length_cons, List.length_nil, List.getElem?_cons_zero, List.length_map, twW_len, twN_len]; exact rfl) (by simp [go_sem, simprocAttr, eGraph, List.length_cons, List.length_nil, List.getElem?_cons_zero, List.length_map, twW_len, twN_len]) ?_)
  all_goals (first | refine CWops.guard 49 (by simp only [go_sem, simprocAttr, eGraph, List.length_cons, List.length_nil, List.getElem?_cons_zero, List.length_map, twW_len, twN_len]; exact rfl) (fun g49 => ?_) (fun g49 => ?_) | skip)
  all_goals (first | (simp at g49; done) | (cases g49; done) | skip)
  all_goals (refine CWops.run htt 1 (by simp only [go_sem, simprocAttr, eGraph, List.length_cons, List.length_nil, List.getElem?_cons_zero, List.length_map, twW_len, twN_len]; exact rfl) (by simp [go_sem, simprocAttr, eGraph, List.length_cons, List.length_nil, List.getElem?_cons_zero, List.length_map, twW_len, twN_len]) ?_)
  all_goals (first | (refine CWops.skip ?_ ?_; next => (simp only [go_sem, simprocAttr]; done)) | (refine CWops.call (aw08Find up) (by simp only [go_sem, simprocAttr, eGraph, List.length_cons, List.length_nil, List.getElem?_cons_zero, List.length_map, twW_len, twN_len]) (by simp only [go_sem, simprocAttr, eGraph, List.length_cons, List.length_nil, List.getElem?_cons_zero, List.length_map, twW_len, twN_len]; first | done | exact rfl) (by simp only [go_sem, simprocAttr, eGraph, List.length_cons, List.length_nil, List.getElem?_cons_zero, List.length_map, twW_len, twN_len]) (fun rt51 hrt51 => ?_); subst hrt51; refine ⟨rfl, ?_⟩))
  all_goals (refine CWops.run htt 3 (by simp only [go_sem, simprocAttr, eGraph, List.length_cons, List.length_nil, List.getElem?_cons_zero, List.length_map, twW_len, twN_len]; exact rfl) (by simp [go_sem, simprocAttr, eGraph, List.length_cons, List.length_nil, List.getElem?_cons_zero, List.length_map, twW_len, twN_len]) ?_)
  all_goals (first | refine CWops.guard 54 (by simp only [go_sem, simprocAttr, eGraph, List.length_cons, List.length_nil, List.getElem?_cons_zero, List.length_map, twW_len, twN_len]; exact rfl) (fun g54 => ?_) (fun g54 => ?_) | skip)
  all_goals (first | (simp at g54; done) | (cases g54; done) | skip)
  all_goals (refine CWops.run htt 2 (by simp only [go_sem, simprocAttr, eGraph, List.length_cons, List.length_nil, List.getElem?_cons_zero, List.length_map, twW_len, twN_len]; exact rfl) (by simp [go_sem, simprocAttr, eGraph, List.length_cons, List.length_nil, List.getElem?_cons_zero, List.length_map, twW_len, twN_len]) ?_)
  all_goals (first | (refine CWops.skip ?_ ?_; next => (simp only [go_sem, simprocAttr]; done)) | (refine CWops.call (graph_Same up twN twN) (by simp only [go_sem, simprocAttr, eGraph, List.length_cons, List.length_nil, List.getElem?_cons_zero, List.length_map, twW_len, twN_len]) (by simp only [go_sem, simprocAttr, eGraph, List.length_cons, List.length_nil, List.getElem?_cons_zero, List.length_map, twW_len, twN_len]; first | done | exact rfl) (by simp only [go_sem, simprocAttr, eGraph, List.length_cons, List.length_nil, List.getElem?_cons_zero, List.length_map, twW_len, twN_len]) (fun rt57 hrt57 => ?_); subst hrt57; refine ⟨rfl, ?_⟩))
  all_goals (refine CWops.run htt 2 (by simp only [go_sem, simprocAttr, eGraph, List.length_cons, List.length_nil, List.getElem?_cons_zero, List.length_map, twW_len, twN_len]; exact rfl) (by simp [go_sem, simprocAttr, eGraph, List.length_cons, List.length_nil, List.getElem?_cons_zero, List.length_map, twW_len, twN_len]) ?_)
  all_goals (refine CWops.done ?_)
  all_goals (
    refine CW.ret ?_
    refine retQ.ret (by simp only [f5, go_sem, simprocAttr]; exact rfl) (by simp only [go_sem, simprocAttr]; exact rfl) ?_ -- ret1
    refine ⟨_, ?_, rfl⟩
    first | (simp [leP]; done) | (simp_all [leP]; done))
end Go.Ab
namespace Go.Ab
open Go Go.Proofs.Tryz
set_option maxRecDepth 100000
set_option linter.unusedSimpArgs false
set_option linter.unusedVariables false
set_option maxHeartbeats 1000000
theorem wrap_byte (c : UInt8) : IntKind.i64.wrap (c.toNat : Int) = (c.toNat : Int) := by
  have := c.toNat_lt
  simp only [IntKind.wrap, IntKind.bits, IntKind.signed]
  simp
  omega
theorem wrap_bt (s : ByteArray) (k : Nat) : IntKind.i64.wrap (bt s k : Int) = (bt s k : Int) := wrap_byte (s.get! k)
theorem wrap_nat {n : Nat} (h : n < 1000000000000) : IntKind.i64.wrap (n : Int) = (n : Int) := by
  simp only [IntKind.wrap, IntKind.bits, IntKind.signed]
  simp
  omega
theorem ref05_letter (up : Bool) (c : Int) : PCall prog up 127 [.int .i64 c] (· = .bool (letterB c)) := by
  refine PCall.intro htt func127 (by kernel_rfl) rfl (Nat.le_of_ble_eq_true rfl) fun hl => ?_

  simp only [tmps0, Nat.reduceAdd]
  refine CW.seq ?_
  refine CW.rg ?_
  refine CWops.rn htt 1 ?_
  refine CWops.done ?_
  refine CW.seq ?_
  refine CW.rg ?_
  refine CWops.rn htt 3 ?_
  all_goals (first | refine CWops.guard 5 (by simp only [go_sem, simprocAttr]; exact rfl) (fun g5 => ?_) (fun g5 => ?_) | skip)
  all_goals (refine CWops.rn htt 4 ?_)
  all_goals (first | refine CWops.guard 9 (by simp only [go_sem, simprocAttr]; exact rfl) (fun g9 => ?_) (fun g9 => ?_) | skip)
  all_goals (refine CWops.rn htt 3 ?_)
  all_goals (first | refine CWops.guard 12 (by simp only [go_sem, simprocAttr]; exact rfl) (fun g12 => ?_) (fun g12 => ?_) | skip)
  all_goals (refine CWops.rn htt 4 ?_)
  all_goals (first | refine CWops.guard 16 (by simp only [go_sem, simprocAttr]; exact rfl) (fun g16 => ?_) (fun g16 => ?_) | skip)
  all_goals (refine CWops.rn htt 5 ?_)
  all_goals (refine CWops.done ?_)
  all_goals (
    refine CW.ret ?_
    refine retQ.ret (by simp only [f127, go_sem, simprocAttr]; exact rfl) (by simp only [go_sem, simprocAttr]; exact rfl) ?_ -- ret1
    refine ⟨_, ?_, rfl⟩
    simp_all [leP, letterB] <;> (intros; omega))
theorem ref05_digit (up : Bool) (c : Int) : PCall prog up 128 [.int .i64 c] (· = .bool (digitB c)) := by
  refine PCall.intro htt func128 (by kernel_rfl) rfl (Nat.le_of_ble_eq_true rfl) fun hl => ?_

  simp only [tmps0, Nat.reduceAdd]
  refine CW.seq ?_
  refine CW.rg ?_
  refine CWops.rn htt 1 ?_
  refine CWops.done ?_
  refine CW.seq ?_
  refine CW.rg ?_
  refine CWops.rn htt 3 ?_
  all_goals (first | refine CWops.guard 5 (by simp only [go_sem, simprocAttr]; exact rfl) (fun g5 => ?_) (fun g5 => ?_) | skip)
  all_goals (refine CWops.rn htt 4 ?_)
  all_goals (refine CWops.done ?_)
  all_goals (
    refine CW.ret ?_
    refine retQ.ret (by simp only [f128, go_sem, simprocAttr]; exact rfl) (by simp only [go_sem, simprocAttr]; exact rfl) ?_ -- ret1
    refine ⟨_, ?_, rfl⟩
    simp_all [leP, digitB] <;> (intros; omega))
theorem ref05_sign_1 (up : Bool) (s : ByteArray) (h0 : 0 < s.size) (hr : bt s 0 < 128) : PCall prog up 141 [.str s] (· = .tup [.int .i64 ((Utf8.decode s 0).1 : Nat), .int .i64 ((Utf8.decode s 0).2 : Nat)]) := by
  refine PCall.intro htt func141 (by kernel_rfl) rfl (Nat.le_of_ble_eq_true rfl) fun hl => ?_
  obtain ⟨ch, hch, hcb⟩ := bt_at h0
  simp only [tmps0, Nat.reduceAdd]
  refine CW.seq ?_
  refine CW.rg ?_
  refine CWops.rn htt 2 ?_
  refine CWops.done ?_
  refine CW.seq ?_
  refine CW.rg ?_
  refine CWops.run htt 2 (by simp only [go_sem, simprocAttr, hch]; exact rfl) (by simp [go_sem, simprocAttr, hch]) ?_
  refine CWops.conv htt (by simp only [go_sem, simprocAttr]) tt_5 rfl tt_3 rfl (by simp only [go_sem, simprocAttr]; first | done | exact rfl) ?_
  simp only [wrap_byte, wrap_bt, hcb]
  refine CWops.run htt 1 (by simp only [go_sem, simprocAttr, hch]; exact rfl) (by simp [go_sem, simprocAttr, hch]) ?_
  refine CWops.done ?_
  refine CW.seq ?_
  refine CW.seq ?_
  refine CW.rg ?_
  refine CWops.rn htt 2 ?_
  refine CWops.done ?_
  refine CW.cond (by simp only [go_sem, simprocAttr]; first | done | exact rfl) (fun ct13 => ?_) (fun ct13 => ?_)
  · refine CW.seq ?_
    refine CW.rg ?_
    refine CWops.rn htt 3 ?_
    refine CWops.done ?_
    refine CW.ret ?_
    refine retQ.ret (by simp only [f141, go_sem, simprocAttr]; exact rfl) (by simp only [go_sem, simprocAttr]; exact rfl) ?_ -- ret1
    refine ⟨_, ?_, rfl⟩
    simp [leP, leL, dec_one hr]
  · exfalso; simp at ct13; omega
theorem ref05_sign_0 (up : Bool) (s : ByteArray) (h0 : 0 < s.size) (hr : 128 ≤ bt s 0 ∧ (bt s 0 < 194 ∨ 245 ≤ bt s 0)) : PCall prog up 141 [.str s] (· = .tup [.int .i64 ((Utf8.decode s 0).1 : Nat), .int .i64 ((Utf8.decode s 0).2 : Nat)]) := by
  refine PCall.intro htt func141 (by kernel_rfl) rfl (Nat.le_of_ble_eq_true rfl) fun hl => ?_
  obtain ⟨ch, hch, hcb⟩ := bt_at h0
  simp only [tmps0, Nat.reduceAdd]
  refine CW.seq ?_
  refine CW.rg ?_
  refine CWops.rn htt 2 ?_
  refine CWops.done ?_
  refine CW.seq ?_
  refine CW.rg ?_
  refine CWops.run htt 2 (by simp only [go_sem, simprocAttr, hch]; exact rfl) (by simp [go_sem, simprocAttr, hch]) ?_
  refine CWops.conv htt (by simp only [go_sem, simprocAttr]) tt_5 rfl tt_3 rfl (by simp only [go_sem, simprocAttr]; first | done | exact rfl) ?_
  simp only [wrap_byte, wrap_bt, hcb]
  refine CWops.run htt 1 (by simp only [go_sem, simprocAttr, hch]; exact rfl) (by simp [go_sem, simprocAttr, hch]) ?_
  refine CWops.done ?_
  refine CW.seq ?_
  refine CW.seq ?_
  refine CW.rg ?_
  refine CWops.rn htt 2 ?_
  refine CWops.done ?_
  refine CW.cond (by simp only [go_sem, simprocAttr]; first | done | exact rfl) (fun ct13 => ?_) (fun ct13 => ?_)
  · exfalso; simp at ct13; omega 
  · refine CW.skip ?_
    refine CW.seq ?_
    refine CW.rg ?_
    refine CWops.rn htt 1 ?_
    refine CWops.done ?_
    refine CW.seq ?_
    refine CW.rg ?_
    refine CWops.rn htt 1 ?_
    refine CWops.done ?_
    refine CW.seq ?_
    refine CW.rg ?_
    refine CWops.rn htt 1 ?_
    refine CWops.done ?_
    refine CW.seq ?_
    refine CW.cut ⟨0, [(0, .str s), (4, .int .i64 (bt s 0 : Int)), (5, .int .i64 0), (6, .int .i64 0), (7, .int .i64 0), (20, .bool false)], []⟩ ?_ ?_
    · refine CW.rg ?_
      refine CWops.rn htt 3 ?_
      all_goals (first | refine CWops.guard 17 (by simp only [go_sem, simprocAttr]; exact rfl) (fun g17 => ?_) (fun g17 => ?_) | skip)
      all_goals (first | (exfalso; simp at g17; omega) | skip)
      all_goals (refine CWops.rn htt 3 ?_)
      all_goals (refine CWops.done ?_)
      all_goals (
        refine ⟨rfl, Sh.wk0 ?_⟩
        first | (simp [Wk, go_sem, simprocAttr]; done) | (simp [Wk, go_sem, simprocAttr]; omega) | (simp_all [Wk, go_sem, simprocAttr]; done) | (simp_all [Wk, go_sem, simprocAttr]; omega) | skip)
    refine CW.cond (by simp only [go_sem, simprocAttr]; first | done | exact rfl) (fun ct20 => ?_) (fun ct20 => ?_)
    · cases ct20 
    · refine CW.skip ?_
      refine CW.seq ?_
      refine CW.cut ⟨0, [(0, .str s), (4, .int .i64 (bt s 0 : Int)), (5, .int .i64 0), (6, .int .i64 0), (7, .int .i64 0), (28, .bool false)], []⟩ ?_ ?_
      · refine CW.rg ?_
        refine CWops.rn htt 3 ?_
        all_goals (first | refine CWops.guard 25 (by simp only [go_sem, simprocAttr]; exact rfl) (fun g25 => ?_) (fun g25 => ?_) | skip)
        all_goals (first | (exfalso; simp at g25; omega) | skip)
        all_goals (refine CWops.rn htt 3 ?_)
        all_goals (refine CWops.done ?_)
        all_goals (
          refine ⟨rfl, Sh.wk0 ?_⟩
          first | (simp [Wk, go_sem, simprocAttr]; done) | (simp [Wk, go_sem, simprocAttr]; omega) | (simp_all [Wk, go_sem, simprocAttr]; done) | (simp_all [Wk, go_sem, simprocAttr]; omega) | skip)
      refine CW.cond (by simp only [go_sem, simprocAttr]; first | done | exact rfl) (fun ct28 => ?_) (fun ct28 => ?_)
      · cases ct28 
      · refine CW.skip ?_
        refine CW.seq ?_
        refine CW.cut ⟨0, [(0, .str s), (4, .int .i64 (bt s 0 : Int)), (5, .int .i64 0), (6, .int .i64 0), (7, .int .i64 0), (36, .bool false)], []⟩ ?_ ?_
        · refine CW.rg ?_
          refine CWops.rn htt 3 ?_
          all_goals (first | refine CWops.guard 33 (by simp only [go_sem, simprocAttr]; exact rfl) (fun g33 => ?_) (fun g33 => ?_) | skip)
          all_goals (first | (exfalso; simp at g33; omega) | skip)
          all_goals (refine CWops.rn htt 3 ?_)
          all_goals (refine CWops.done ?_)
          all_goals (
            refine ⟨rfl, Sh.wk0 ?_⟩
            first | (simp [Wk, go_sem, simprocAttr]; done) | (simp [Wk, go_sem, simprocAttr]; omega) | (simp_all [Wk, go_sem, simprocAttr]; done) | (simp_all [Wk, go_sem, simprocAttr]; omega) | skip)
        refine CW.cond (by simp only [go_sem, simprocAttr]; first | done | exact rfl) (fun ct36 => ?_) (fun ct36 => ?_)
        · cases ct36 
        · refine CW.skip ?_
          refine CW.seq ?_
          refine CW.cut ⟨0, [(0, .str s), (4, .int .i64 (bt s 0 : Int)), (5, .int .i64 0), (6, .int .i64 0), (7, .int .i64 0), (46, .bool true)], []⟩ ?_ ?_
          · refine CW.rg ?_
            refine CWops.run htt 3 (by simp only [go_sem, simprocAttr, Int.reduceEq]; exact rfl) (by simp [go_sem, simprocAttr, Int.reduceEq]) ?_
            all_goals (first | refine CWops.guard 41 (by simp only [go_sem, simprocAttr, Int.reduceEq]; exact rfl) (fun g41 => ?_) (fun g41 => ?_) | skip)
            all_goals (try (simp only [Bool.true_eq_false, Bool.false_eq_true] at g41; done))
            all_goals (refine CWops.run htt 5 (by simp only [go_sem, simprocAttr, Int.reduceEq]; exact rfl) (by simp [go_sem, simprocAttr, Int.reduceEq]) ?_)
            all_goals (refine CWops.done ?_)
            all_goals (
              refine ⟨rfl, Sh.wk0 ?_⟩
              first | (simp [Wk, go_sem, simprocAttr]; done) | (simp [Wk, go_sem, simprocAttr]; omega) | (simp_all [Wk, go_sem, simprocAttr]; done) | (simp_all [Wk, go_sem, simprocAttr]; omega) | skip)
          refine CW.cond (by simp only [go_sem, simprocAttr]; first | done | exact rfl) (fun ct46 => ?_) (fun ct46 => ?_)
          · refine CW.seq ?_
            refine CW.rg ?_
            refine CWops.rn htt 2 ?_
            refine CWops.done ?_
            refine CW.ret ?_
            refine retQ.ret (by simp only [f141, go_sem, simprocAttr]; exact rfl) (by simp only [go_sem, simprocAttr]; exact rfl) ?_ -- ret1
            refine ⟨_, ?_, rfl⟩
            simp [leP, leL, dec_none hr.1 hr.2]
          · cases ct46
theorem ref05_sign_2 (up : Bool) (s : ByteArray) (h0 : 0 < s.size) (hr : 194 ≤ bt s 0 ∧ bt s 0 < 224) : PCall prog up 141 [.str s] (· = .tup [.int .i64 ((Utf8.decode s 0).1 : Nat), .int .i64 ((Utf8.decode s 0).2 : Nat)]) := by
  refine PCall.intro htt func141 (by kernel_rfl) rfl (Nat.le_of_ble_eq_true rfl) fun hl => ?_
  obtain ⟨ch, hch, hcb⟩ := bt_at h0
  have hw : IntKind.i64.wrap ((bt s 0 : Int) - 192) = ((bt s 0 - 192 : Nat) : Int) := by
    have hb := bt_lt s 0
    rw [show (bt s 0 : Int) - 192 = ((bt s 0 - 192 : Nat) : Int) by omega]; exact wrap_nat (by omega)
  simp only [tmps0, Nat.reduceAdd]
  refine CW.seq ?_
  refine CW.rg ?_
  refine CWops.rn htt 2 ?_
  refine CWops.done ?_
  refine CW.seq ?_
  refine CW.rg ?_
  refine CWops.run htt 2 (by simp only [go_sem, simprocAttr, hch]; exact rfl) (by simp [go_sem, simprocAttr, hch]) ?_
  refine CWops.conv htt (by simp only [go_sem, simprocAttr]) tt_5 rfl tt_3 rfl (by simp only [go_sem, simprocAttr]; first | done | exact rfl) ?_
  simp only [wrap_byte, wrap_bt, hcb]
  refine CWops.run htt 1 (by simp only [go_sem, simprocAttr, hch]; exact rfl) (by simp [go_sem, simprocAttr, hch]) ?_
  refine CWops.done ?_
  refine CW.seq ?_
  refine CW.seq ?_
  refine CW.rg ?_
  refine CWops.rn htt 2 ?_
  refine CWops.done ?_
  refine CW.cond (by simp only [go_sem, simprocAttr]; first | done | exact rfl) (fun ct13 => ?_) (fun ct13 => ?_)
  · exfalso; simp at ct13; omega 
  · refine CW.skip ?_
    refine CW.seq ?_
    refine CW.rg ?_
    refine CWops.rn htt 1 ?_
    refine CWops.done ?_
    refine CW.seq ?_
    refine CW.rg ?_
    refine CWops.rn htt 1 ?_
    refine CWops.done ?_
    refine CW.seq ?_
    refine CW.rg ?_
    refine CWops.rn htt 1 ?_
    refine CWops.done ?_
    refine CW.seq ?_
    refine CW.cut ⟨0, [(0, .str s), (4, .int .i64 (bt s 0 : Int)), (5, .int .i64 0), (6, .int .i64 0), (7, .int .i64 0), (20, .bool true)], []⟩ ?_ ?_
    · refine CW.rg ?_
      refine CWops.rn htt 3 ?_
      all_goals (first | refine CWops.guard 17 (by simp only [go_sem, simprocAttr]; exact rfl) (fun g17 => ?_) (fun g17 => ?_) | skip)
      all_goals (first | (exfalso; simp at g17; omega) | skip)
      all_goals (refine CWops.rn htt 3 ?_)
      all_goals (refine CWops.done ?_)
      all_goals (
        refine ⟨rfl, Sh.wk0 ?_⟩
        first | (simp [Wk, go_sem, simprocAttr]; done) | (simp [Wk, go_sem, simprocAttr]; omega) | (simp_all [Wk, go_sem, simprocAttr]; done) | (simp_all [Wk, go_sem, simprocAttr]; omega) | skip)
    refine CW.cond (by simp only [go_sem, simprocAttr]; first | done | exact rfl) (fun ct20 => ?_) (fun ct20 => ?_)
    · refine CW.seq ?_
      refine CW.rg ?_
      refine CWops.rn htt 1 ?_
      refine CWops.done ?_
      refine CW.seq ?_
      refine CW.rg ?_
      refine CWops.rn htt 1 ?_
      refine CWops.done ?_
      refine CW.rg ?_
      refine CWops.run htt 3 (by simp only [go_sem, simprocAttr, hw]; exact rfl) (by simp [go_sem, simprocAttr, hw]) ?_
      refine CWops.done ?_
      refine CW.seq ?_
      refine CW.cut ⟨0, [(0, .str s), (4, .int .i64 (bt s 0 : Int)), (5, .int .i64 2), (6, .int .i64 128), (7, .int .i64 ((bt s 0 - 192 : Nat) : Int)), (28, .bool false)], []⟩ ?_ ?_
      · refine CW.rg ?_
        refine CWops.rn htt 3 ?_
        all_goals (first | refine CWops.guard 25 (by simp only [go_sem, simprocAttr]; exact rfl) (fun g25 => ?_) (fun g25 => ?_) | skip)
        all_goals (first | (exfalso; simp at g25; omega) | skip)
        all_goals (refine CWops.rn htt 3 ?_)
        all_goals (refine CWops.done ?_)
        all_goals (
          refine ⟨rfl, Sh.wk0 ?_⟩
          first | (simp [Wk, go_sem, simprocAttr]; done) | (simp [Wk, go_sem, simprocAttr]; omega) | (simp_all [Wk, go_sem, simprocAttr]; done) | (simp_all [Wk, go_sem, simprocAttr]; omega) | skip)
      refine CW.cond (by simp only [go_sem, simprocAttr]; first | done | exact rfl) (fun ct28 => ?_) (fun ct28 => ?_)
      · cases ct28 
      · refine CW.skip ?_
        refine CW.seq ?_
        refine CW.cut ⟨0, [(0, .str s), (4, .int .i64 (bt s 0 : Int)), (5, .int .i64 2), (6, .int .i64 128), (7, .int .i64 ((bt s 0 - 192 : Nat) : Int)), (36, .bool false)], []⟩ ?_ ?_
        · refine CW.rg ?_
          refine CWops.rn htt 3 ?_
          all_goals (first | refine CWops.guard 33 (by simp only [go_sem, simprocAttr]; exact rfl) (fun g33 => ?_) (fun g33 => ?_) | skip)
          all_goals (first | (exfalso; simp at g33; omega) | skip)
          all_goals (refine CWops.rn htt 3 ?_)
          all_goals (refine CWops.done ?_)
          all_goals (
            refine ⟨rfl, Sh.wk0 ?_⟩
            first | (simp [Wk, go_sem, simprocAttr]; done) | (simp [Wk, go_sem, simprocAttr]; omega) | (simp_all [Wk, go_sem, simprocAttr]; done) | (simp_all [Wk, go_sem, simprocAttr]; omega) | skip)
        refine CW.cond (by simp only [go_sem, simprocAttr]; first | done | exact rfl) (fun ct36 => ?_) (fun ct36 => ?_)
        · cases ct36 
        · refine CW.skip ?_
          refine CW.seq ?_
          refine CW.cut ⟨0, [(0, .str s), (4, .int .i64 (bt s 0 : Int)), (5, .int .i64 2), (6, .int .i64 128), (7, .int .i64 ((bt s 0 - 192 : Nat) : Int)), (46, .bool (decide (s.size < 2)))], []⟩ ?_ ?_
          · refine CW.rg ?_
            refine CWops.run htt 3 (by simp only [go_sem, simprocAttr, Int.reduceEq]; exact rfl) (by simp [go_sem, simprocAttr, Int.reduceEq]) ?_
            all_goals (first | refine CWops.guard 41 (by simp only [go_sem, simprocAttr, Int.reduceEq]; exact rfl) (fun g41 => ?_) (fun g41 => ?_) | skip)
            all_goals (try (simp only [Bool.true_eq_false, Bool.false_eq_true] at g41; done))
            all_goals (refine CWops.run htt 5 (by simp only [go_sem, simprocAttr, Int.reduceEq]; exact rfl) (by simp [go_sem, simprocAttr, Int.reduceEq]) ?_)
            all_goals (refine CWops.done ?_)
            all_goals (
              refine ⟨rfl, Sh.wk0 ?_⟩
              first | (simp [Wk, go_sem, simprocAttr]; done) | (simp [Wk, go_sem, simprocAttr]; omega) | (simp_all [Wk, go_sem, simprocAttr]; done) | (simp_all [Wk, go_sem, simprocAttr]; omega) | skip)
          refine CW.cond (by simp only [go_sem, simprocAttr]; first | done | exact rfl) (fun ct46 => ?_) (fun ct46 => ?_)
          · have hsz : ¬ 2 ≤ s.size := by simpa using ct46
            refine CW.seq ?_
            refine CW.rg ?_
            refine CWops.rn htt 2 ?_
            refine CWops.done ?_
            refine CW.ret ?_
            refine retQ.ret (by simp only [f141, go_sem, simprocAttr]; exact rfl) (by simp only [go_sem, simprocAttr]; exact rfl) ?_ -- ret1
            refine ⟨_, ?_, rfl⟩
            have hd : Utf8.decode s 0 = (65533, 1) := by rw [dec_two hr.1 hr.2, decide_eq_false hsz]; rfl
            simp [leP, leL, hd]
          · have hsz : 2 ≤ s.size := by simpa using ct46
            refine CW.skip ?_
            refine CW.seq ?_
            refine CW.seq ?_
            refine CW.rg ?_
            refine CWops.rn htt 1 ?_
            refine CWops.done ?_
            refine CW.block ?_
            refine CW.loop (S := Nat) (fun j => ⟨0, [(0, .str s), (4, .int .i64 (bt s 0 : Int)), (5, .int .i64 2), (6, .int .i64 128), (7, .int .i64 (cAt s (bt s 0 - 192) j : Nat)), (8, .int .i64 ((j + 1 : Nat) : Int))], []⟩) (fun j => j + 1 ≤ 2 ∧ conts s j = true) (fun j => 2 - j) (0) ?_ ⟨by decide, rfl⟩ (fun j ⟨j1, j2⟩ => ?_)
            · refine Sh.wk0 ?_; simp [Wk, go_sem, simprocAttr, cAt]
            refine CW.seq ?_
            refine CW.seq ?_
            refine CW.rg ?_
            refine CWops.rn htt 3 ?_
            refine CWops.done ?_
            refine CW.cond (by simp only [go_sem, simprocAttr]; first | done | exact rfl) (fun ct49 => ?_) (fun ct49 => ?_)
            · have hj : j + 1 < 2 := by simp at ct49; omega
              obtain ⟨ch', hch', hcb'⟩ := bt_at (s := s) (k := j + 1) (by omega)
              refine CW.skip ?_
              refine CW.seq ?_
              refine CW.block ?_
              refine CW.seq ?_
              refine CW.cut ⟨0, [(0, .str s), (4, .int .i64 (bt s 0 : Int)), (5, .int .i64 2), (6, .int .i64 128), (7, .int .i64 (cAt s (bt s 0 - 192) j : Nat)), (8, .int .i64 ((j + 1 : Nat) : Int)), (61, .bool (!(decide (128 ≤ bt s (j + 1)) && decide (bt s (j + 1) ≤ 191))))], []⟩ ?_ ?_
              · refine CW.rg ?_
                refine CWops.run htt 5 (by simp only [go_sem, simprocAttr, hch']; exact rfl) (by simp [go_sem, simprocAttr, hch']) ?_
                all_goals (first | refine CWops.guard 56 (by simp only [go_sem, simprocAttr, hch']; exact rfl) (fun g56 => ?_) (fun g56 => ?_) | skip)
                all_goals (skip)
                all_goals (refine CWops.run htt 5 (by simp only [go_sem, simprocAttr, hch']; exact rfl) (by simp [go_sem, simprocAttr, hch']) ?_)
                all_goals (refine CWops.done ?_)
                all_goals (
                  refine ⟨rfl, Sh.wk0 ?_⟩
                  rw [← hcb']
                  first | (simp [Wk, go_sem, simprocAttr]; done) | (simp [Wk, go_sem, simprocAttr]; omega) | (simp at g56; simp [Wk, go_sem, simprocAttr]; rw [Bool.eq_iff_iff]; simp; omega) | (simp at g56; simp [Wk, go_sem, simprocAttr]; omega) | (simp at g56; simp [Wk, go_sem, simprocAttr]; intros; omega) | skip)
              refine CW.cond (by simp only [go_sem, simprocAttr]; first | done | exact rfl) (fun ct61 => ?_) (fun ct61 => ?_)
              · have hbd : conts s (j + 1) = false := by simp only [conts, j2, Bool.true_and]; exact (Bool.not_eq_true' _).mp ct61
                refine CW.seq ?_
                refine CW.rg ?_
                refine CWops.rn htt 2 ?_
                refine CWops.done ?_
                refine CW.ret ?_
                refine retQ.ret (by simp only [f141, go_sem, simprocAttr]; exact rfl) (by simp only [go_sem, simprocAttr]; exact rfl) ?_ -- ret2
                refine ⟨_, ?_, rfl⟩
                have hd : Utf8.decode s 0 = (65533, 1) := by rw [dec_two hr.1 hr.2, conts_no 1 hbd (by omega), Bool.and_false]; rfl
                simp [leP, leL, hd]
              · have hcs : conts s (j + 1) = true := by simp only [conts, j2, Bool.true_and]; exact (Bool.not_eq_false' _).mp ct61
                have hb1 := bt_lt s (j + 1)
                have hcl := cAt_lt (c0 := (bt s 0 - 192)) (by have := bt_lt s 0; omega) j2 (by omega)
                have hcm : 128 ≤ bt s (j + 1) := by simp only [conts, Bool.and_eq_true, decide_eq_true_eq] at hcs; exact hcs.2.1
                have hwm : IntKind.i64.wrap (64 * (cAt s (bt s 0 - 192) j : Int)) = ((64 * cAt s (bt s 0 - 192) j : Nat) : Int) := by rw [show (64 * (cAt s (bt s 0 - 192) j : Int)) = ((64 * cAt s (bt s 0 - 192) j : Nat) : Int) by omega]; exact wrap_nat (by omega)
                have hwa : IntKind.i64.wrap (((64 * cAt s (bt s 0 - 192) j : Nat) : Int) + (bt s (j + 1) : Int)) = ((64 * cAt s (bt s 0 - 192) j + bt s (j + 1) : Nat) : Int) := by rw [show ((64 * cAt s (bt s 0 - 192) j : Nat) : Int) + (bt s (j + 1) : Int) = ((64 * cAt s (bt s 0 - 192) j + bt s (j + 1) : Nat) : Int) by omega]; exact wrap_nat (by omega)
                have hws : IntKind.i64.wrap (((64 * cAt s (bt s 0 - 192) j + bt s (j + 1) : Nat) : Int) - 128) = (cAt s (bt s 0 - 192) (j + 1) : Int) := by rw [show ((64 * cAt s (bt s 0 - 192) j + bt s (j + 1) : Nat) : Int) - 128 = (cAt s (bt s 0 - 192) (j + 1) : Int) by simp only [cAt]; omega]; exact wrap_nat (by simp only [cAt]; omega)
                refine CW.skip ?_
                refine CW.rg ?_
                refine CWops.run htt 5 (by simp only [go_sem, simprocAttr, hch', hwm, hwa, hws]; exact rfl) (by simp [go_sem, simprocAttr, hch', hwm, hwa, hws]) ?_
                refine CWops.conv htt (by simp only [go_sem, simprocAttr]) tt_5 rfl tt_3 rfl (by simp only [go_sem, simprocAttr]; first | done | exact rfl) ?_
                simp only [wrap_byte, wrap_bt, hcb']
                refine CWops.run htt 3 (by simp only [go_sem, simprocAttr, hch', hwm, hwa, hws]; exact rfl) (by simp [go_sem, simprocAttr, hch', hwm, hwa, hws]) ?_
                refine CWops.done ?_
                refine CW.rg ?_
                refine CWops.run htt 3 (by simp only [go_sem, simprocAttr, wrap_succ (show j + 1 < MX by unfold MX; omega)]; exact rfl) (by simp [go_sem, simprocAttr, wrap_succ (show j + 1 < MX by unfold MX; omega)]) ?_
                refine CWops.done ?_
                refine ⟨j + 1, ?_, ?_, ?_⟩
                · refine Sh.wk0 ?_; simp [Wk, go_sem, simprocAttr]
                · exact ⟨hj, hcs⟩
                · simp only; omega
            · have hj : j + 1 = 2 := by simp at ct49; omega
              obtain rfl : j = 1 := by omega
              refine CW.exit ?_
              refine CW.seq ?_
              refine CW.cut ⟨0, [(5, .int .i64 2), (7, .int .i64 (cAt s (bt s 0 - 192) 1 : Nat)), (84, .bool (!okC 128 (cAt s (bt s 0 - 192) 1)))], []⟩ ?_ ?_
              · refine CW.rg ?_
                refine CWops.rn htt 4 ?_
                all_goals (first | refine CWops.guard 73 (by simp only [go_sem, simprocAttr]; exact rfl) (fun g73 => ?_) (fun g73 => ?_) | skip)
                all_goals (try (simp only [Bool.true_eq_false, Bool.false_eq_true] at g73; done))
                all_goals (refine CWops.rn htt 4 ?_)
                all_goals (first | refine CWops.guard 77 (by simp only [go_sem, simprocAttr]; exact rfl) (fun g77 => ?_) (fun g77 => ?_) | skip)
                all_goals (try (simp only [Bool.true_eq_false, Bool.false_eq_true] at g77; done))
                all_goals (refine CWops.rn htt 3 ?_)
                all_goals (first | refine CWops.guard 80 (by simp only [go_sem, simprocAttr]; exact rfl) (fun g80 => ?_) (fun g80 => ?_) | skip)
                all_goals (try (simp only [Bool.true_eq_false, Bool.false_eq_true] at g80; done))
                all_goals (refine CWops.rn htt 4 ?_)
                all_goals (refine CWops.done ?_)
                all_goals (
                  refine ⟨rfl, Sh.wk0 ?_⟩
                  generalize cAt s (bt s 0 - 192) 1 = cc at *
                  first | (simp [Wk, go_sem, simprocAttr, okC]; done) | (simp [Wk, go_sem, simprocAttr, okC]; omega) | (simp at g73 g77 g80; simp [Wk, go_sem, simprocAttr, okC]; rw [Bool.eq_iff_iff]; simp; omega) | (simp at g73 g77; simp [Wk, go_sem, simprocAttr, okC]; rw [Bool.eq_iff_iff]; simp; omega) | (simp at g73; simp [Wk, go_sem, simprocAttr, okC]; rw [Bool.eq_iff_iff]; simp; omega) | (simp at g73 g77 g80; simp [Wk, go_sem, simprocAttr, okC]; omega) | (simp at g73 g77; simp [Wk, go_sem, simprocAttr, okC]; omega) | (simp at g73; simp [Wk, go_sem, simprocAttr, okC]; omega) | skip)
              refine CW.cond (by simp only [go_sem, simprocAttr]; first | done | exact rfl) (fun ct84 => ?_) (fun ct84 => ?_)
              · have hok : okC 128 (cAt s (bt s 0 - 192) 1) = false := by simpa using ct84
                refine CW.seq ?_
                refine CW.rg ?_
                refine CWops.rn htt 2 ?_
                refine CWops.done ?_
                refine CW.ret ?_
                refine retQ.ret (by simp only [f141, go_sem, simprocAttr]; exact rfl) (by simp only [go_sem, simprocAttr]; exact rfl) ?_ -- ret3
                refine ⟨_, ?_, rfl⟩
                have hd : Utf8.decode s 0 = (65533, 1) := by rw [dec_two hr.1 hr.2, decide_eq_true hsz, j2, hok]; rfl
                simp [leP, leL, hd]
              · have hok : okC 128 (cAt s (bt s 0 - 192) 1) = true := by simpa using ct84
                refine CW.skip ?_
                refine CW.seq ?_
                refine CW.rg ?_
                refine CWops.rn htt 4 ?_
                refine CWops.done ?_
                refine CW.ret ?_
                refine retQ.ret (by simp only [f141, go_sem, simprocAttr]; exact rfl) (by simp only [go_sem, simprocAttr]; exact rfl) ?_ -- ret4
                refine ⟨_, ?_, rfl⟩
                have hd : Utf8.decode s 0 = (cAt s (bt s 0 - 192) 1, 2) := by rw [dec_two hr.1 hr.2, decide_eq_true hsz, j2, hok]; rfl
                simp [leP, leL, hd]
    · cases ct20
theorem ref05_sign_3 (up : Bool) (s : ByteArray) (h0 : 0 < s.size) (hr : 224 ≤ bt s 0 ∧ bt s 0 < 240) : PCall prog up 141 [.str s] (· = .tup [.int .i64 ((Utf8.decode s 0).1 : Nat), .int .i64 ((Utf8.decode s 0).2 : Nat)]) := by
  refine PCall.intro htt func141 (by kernel_rfl) rfl (Nat.le_of_ble_eq_true rfl) fun hl => ?_
  obtain ⟨ch, hch, hcb⟩ := bt_at h0
  have hw : IntKind.i64.wrap ((bt s 0 : Int) - 224) = ((bt s 0 - 224 : Nat) : Int) := by
    have hb := bt_lt s 0
    rw [show (bt s 0 : Int) - 224 = ((bt s 0 - 224 : Nat) : Int) by omega]; exact wrap_nat (by omega)
  simp only [tmps0, Nat.reduceAdd]
  refine CW.seq ?_
  refine CW.rg ?_
  refine CWops.rn htt 2 ?_
  refine CWops.done ?_
  refine CW.seq ?_
  refine CW.rg ?_
  refine CWops.run htt 2 (by simp only [go_sem, simprocAttr, hch]; exact rfl) (by simp [go_sem, simprocAttr, hch]) ?_
  refine CWops.conv htt (by simp only [go_sem, simprocAttr]) tt_5 rfl tt_3 rfl (by simp only [go_sem, simprocAttr]; first | done | exact rfl) ?_
  simp only [wrap_byte, wrap_bt, hcb]
  refine CWops.run htt 1 (by simp only [go_sem, simprocAttr, hch]; exact rfl) (by simp [go_sem, simprocAttr, hch]) ?_
  refine CWops.done ?_
  refine CW.seq ?_
  refine CW.seq ?_
  refine CW.rg ?_
  refine CWops.rn htt 2 ?_
  refine CWops.done ?_
  refine CW.cond (by simp only [go_sem, simprocAttr]; first | done | exact rfl) (fun ct13 => ?_) (fun ct13 => ?_)
  · exfalso; simp at ct13; omega 
  · refine CW.skip ?_
    refine CW.seq ?_
    refine CW.rg ?_
    refine CWops.rn htt 1 ?_
    refine CWops.done ?_
    refine CW.seq ?_
    refine CW.rg ?_
    refine CWops.rn htt 1 ?_
    refine CWops.done ?_
    refine CW.seq ?_
    refine CW.rg ?_
    refine CWops.rn htt 1 ?_
    refine CWops.done ?_
    refine CW.seq ?_
    refine CW.cut ⟨0, [(0, .str s), (4, .int .i64 (bt s 0 : Int)), (5, .int .i64 0), (6, .int .i64 0), (7, .int .i64 0), (20, .bool false)], []⟩ ?_ ?_
    · refine CW.rg ?_
      refine CWops.rn htt 3 ?_
      all_goals (first | refine CWops.guard 17 (by simp only [go_sem, simprocAttr]; exact rfl) (fun g17 => ?_) (fun g17 => ?_) | skip)
      all_goals (first | (exfalso; simp at g17; omega) | skip)
      all_goals (refine CWops.rn htt 3 ?_)
      all_goals (refine CWops.done ?_)
      all_goals (
        refine ⟨rfl, Sh.wk0 ?_⟩
        first | (simp [Wk, go_sem, simprocAttr]; done) | (simp [Wk, go_sem, simprocAttr]; omega) | (simp_all [Wk, go_sem, simprocAttr]; done) | (simp_all [Wk, go_sem, simprocAttr]; omega) | skip)
    refine CW.cond (by simp only [go_sem, simprocAttr]; first | done | exact rfl) (fun ct20 => ?_) (fun ct20 => ?_)
    · cases ct20 
    · refine CW.skip ?_
      refine CW.seq ?_
      refine CW.cut ⟨0, [(0, .str s), (4, .int .i64 (bt s 0 : Int)), (5, .int .i64 0), (6, .int .i64 0), (7, .int .i64 0), (28, .bool true)], []⟩ ?_ ?_
      · refine CW.rg ?_
        refine CWops.rn htt 3 ?_
        all_goals (first | refine CWops.guard 25 (by simp only [go_sem, simprocAttr]; exact rfl) (fun g25 => ?_) (fun g25 => ?_) | skip)
        all_goals (first | (exfalso; simp at g25; omega) | skip)
        all_goals (refine CWops.rn htt 3 ?_)
        all_goals (refine CWops.done ?_)
        all_goals (
          refine ⟨rfl, Sh.wk0 ?_⟩
          first | (simp [Wk, go_sem, simprocAttr]; done) | (simp [Wk, go_sem, simprocAttr]; omega) | (simp_all [Wk, go_sem, simprocAttr]; done) | (simp_all [Wk, go_sem, simprocAttr]; omega) | skip)
      refine CW.cond (by simp only [go_sem, simprocAttr]; first | done | exact rfl) (fun ct28 => ?_) (fun ct28 => ?_)
      · refine CW.seq ?_
        refine CW.rg ?_
        refine CWops.rn htt 1 ?_
        refine CWops.done ?_
        refine CW.seq ?_
        refine CW.rg ?_
        refine CWops.rn htt 1 ?_
        refine CWops.done ?_
        refine CW.rg ?_
        refine CWops.run htt 3 (by simp only [go_sem, simprocAttr, hw]; exact rfl) (by simp [go_sem, simprocAttr, hw]) ?_
        refine CWops.done ?_
        refine CW.seq ?_
        refine CW.cut ⟨0, [(0, .str s), (4, .int .i64 (bt s 0 : Int)), (5, .int .i64 3), (6, .int .i64 2048), (7, .int .i64 ((bt s 0 - 224 : Nat) : Int)), (36, .bool false)], []⟩ ?_ ?_
        · refine CW.rg ?_
          refine CWops.rn htt 3 ?_
          all_goals (first | refine CWops.guard 33 (by simp only [go_sem, simprocAttr]; exact rfl) (fun g33 => ?_) (fun g33 => ?_) | skip)
          all_goals (first | (exfalso; simp at g33; omega) | skip)
          all_goals (refine CWops.rn htt 3 ?_)
          all_goals (refine CWops.done ?_)
          all_goals (
            refine ⟨rfl, Sh.wk0 ?_⟩
            first | (simp [Wk, go_sem, simprocAttr]; done) | (simp [Wk, go_sem, simprocAttr]; omega) | (simp_all [Wk, go_sem, simprocAttr]; done) | (simp_all [Wk, go_sem, simprocAttr]; omega) | skip)
        refine CW.cond (by simp only [go_sem, simprocAttr]; first | done | exact rfl) (fun ct36 => ?_) (fun ct36 => ?_)
        · cases ct36 
        · refine CW.skip ?_
          refine CW.seq ?_
          refine CW.cut ⟨0, [(0, .str s), (4, .int .i64 (bt s 0 : Int)), (5, .int .i64 3), (6, .int .i64 2048), (7, .int .i64 ((bt s 0 - 224 : Nat) : Int)), (46, .bool (decide (s.size < 3)))], []⟩ ?_ ?_
          · refine CW.rg ?_
            refine CWops.run htt 3 (by simp only [go_sem, simprocAttr, Int.reduceEq]; exact rfl) (by simp [go_sem, simprocAttr, Int.reduceEq]) ?_
            all_goals (first | refine CWops.guard 41 (by simp only [go_sem, simprocAttr, Int.reduceEq]; exact rfl) (fun g41 => ?_) (fun g41 => ?_) | skip)
            all_goals (try (simp only [Bool.true_eq_false, Bool.false_eq_true] at g41; done))
            all_goals (refine CWops.run htt 5 (by simp only [go_sem, simprocAttr, Int.reduceEq]; exact rfl) (by simp [go_sem, simprocAttr, Int.reduceEq]) ?_)
            all_goals (refine CWops.done ?_)
            all_goals (
              refine ⟨rfl, Sh.wk0 ?_⟩
              first | (simp [Wk, go_sem, simprocAttr]; done) | (simp [Wk, go_sem, simprocAttr]; omega) | (simp_all [Wk, go_sem, simprocAttr]; done) | (simp_all [Wk, go_sem, simprocAttr]; omega) | skip)
          refine CW.cond (by simp only [go_sem, simprocAttr]; first | done | exact rfl) (fun ct46 => ?_) (fun ct46 => ?_)
          · have hsz : ¬ 3 ≤ s.size := by simpa using ct46
            refine CW.seq ?_
            refine CW.rg ?_
            refine CWops.rn htt 2 ?_
            refine CWops.done ?_
            refine CW.ret ?_
            refine retQ.ret (by simp only [f141, go_sem, simprocAttr]; exact rfl) (by simp only [go_sem, simprocAttr]; exact rfl) ?_ -- ret1
            refine ⟨_, ?_, rfl⟩
            have hd : Utf8.decode s 0 = (65533, 1) := by rw [dec_three hr.1 hr.2, decide_eq_false hsz]; rfl
            simp [leP, leL, hd]
          · have hsz : 3 ≤ s.size := by simpa using ct46
            refine CW.skip ?_
            refine CW.seq ?_
            refine CW.seq ?_
            refine CW.rg ?_
            refine CWops.rn htt 1 ?_
            refine CWops.done ?_
            refine CW.block ?_
            refine CW.loop (S := Nat) (fun j => ⟨0, [(0, .str s), (4, .int .i64 (bt s 0 : Int)), (5, .int .i64 3), (6, .int .i64 2048), (7, .int .i64 (cAt s (bt s 0 - 224) j : Nat)), (8, .int .i64 ((j + 1 : Nat) : Int))], []⟩) (fun j => j + 1 ≤ 3 ∧ conts s j = true) (fun j => 3 - j) (0) ?_ ⟨by decide, rfl⟩ (fun j ⟨j1, j2⟩ => ?_)
            · refine Sh.wk0 ?_; simp [Wk, go_sem, simprocAttr, cAt]
            refine CW.seq ?_
            refine CW.seq ?_
            refine CW.rg ?_
            refine CWops.rn htt 3 ?_
            refine CWops.done ?_
            refine CW.cond (by simp only [go_sem, simprocAttr]; first | done | exact rfl) (fun ct49 => ?_) (fun ct49 => ?_)
            · have hj : j + 1 < 3 := by simp at ct49; omega
              obtain ⟨ch', hch', hcb'⟩ := bt_at (s := s) (k := j + 1) (by omega)
              refine CW.skip ?_
              refine CW.seq ?_
              refine CW.block ?_
              refine CW.seq ?_
              refine CW.cut ⟨0, [(0, .str s), (4, .int .i64 (bt s 0 : Int)), (5, .int .i64 3), (6, .int .i64 2048), (7, .int .i64 (cAt s (bt s 0 - 224) j : Nat)), (8, .int .i64 ((j + 1 : Nat) : Int)), (61, .bool (!(decide (128 ≤ bt s (j + 1)) && decide (bt s (j + 1) ≤ 191))))], []⟩ ?_ ?_
              · refine CW.rg ?_
                refine CWops.run htt 5 (by simp only [go_sem, simprocAttr, hch']; exact rfl) (by simp [go_sem, simprocAttr, hch']) ?_
                all_goals (first | refine CWops.guard 56 (by simp only [go_sem, simprocAttr, hch']; exact rfl) (fun g56 => ?_) (fun g56 => ?_) | skip)
                all_goals (skip)
                all_goals (refine CWops.run htt 5 (by simp only [go_sem, simprocAttr, hch']; exact rfl) (by simp [go_sem, simprocAttr, hch']) ?_)
                all_goals (refine CWops.done ?_)
                all_goals (
                  refine ⟨rfl, Sh.wk0 ?_⟩
                  rw [← hcb']
                  first | (simp [Wk, go_sem, simprocAttr]; done) | (simp [Wk, go_sem, simprocAttr]; omega) | (simp at g56; simp [Wk, go_sem, simprocAttr]; rw [Bool.eq_iff_iff]; simp; omega) | (simp at g56; simp [Wk, go_sem, simprocAttr]; omega) | (simp at g56; simp [Wk, go_sem, simprocAttr]; intros; omega) | skip)
              refine CW.cond (by simp only [go_sem, simprocAttr]; first | done | exact rfl) (fun ct61 => ?_) (fun ct61 => ?_)
              · have hbd : conts s (j + 1) = false := by simp only [conts, j2, Bool.true_and]; exact (Bool.not_eq_true' _).mp ct61
                refine CW.seq ?_
                refine CW.rg ?_
                refine CWops.rn htt 2 ?_
                refine CWops.done ?_
                refine CW.ret ?_
                refine retQ.ret (by simp only [f141, go_sem, simprocAttr]; exact rfl) (by simp only [go_sem, simprocAttr]; exact rfl) ?_ -- ret2
                refine ⟨_, ?_, rfl⟩
                have hd : Utf8.decode s 0 = (65533, 1) := by rw [dec_three hr.1 hr.2, conts_no 2 hbd (by omega), Bool.and_false]; rfl
                simp [leP, leL, hd]
              · have hcs : conts s (j + 1) = true := by simp only [conts, j2, Bool.true_and]; exact (Bool.not_eq_false' _).mp ct61
                have hb1 := bt_lt s (j + 1)
                have hcl := cAt_lt (c0 := (bt s 0 - 224)) (by have := bt_lt s 0; omega) j2 (by omega)
                have hcm : 128 ≤ bt s (j + 1) := by simp only [conts, Bool.and_eq_true, decide_eq_true_eq] at hcs; exact hcs.2.1
                have hwm : IntKind.i64.wrap (64 * (cAt s (bt s 0 - 224) j : Int)) = ((64 * cAt s (bt s 0 - 224) j : Nat) : Int) := by rw [show (64 * (cAt s (bt s 0 - 224) j : Int)) = ((64 * cAt s (bt s 0 - 224) j : Nat) : Int) by omega]; exact wrap_nat (by omega)
                have hwa : IntKind.i64.wrap (((64 * cAt s (bt s 0 - 224) j : Nat) : Int) + (bt s (j + 1) : Int)) = ((64 * cAt s (bt s 0 - 224) j + bt s (j + 1) : Nat) : Int) := by rw [show ((64 * cAt s (bt s 0 - 224) j : Nat) : Int) + (bt s (j + 1) : Int) = ((64 * cAt s (bt s 0 - 224) j + bt s (j + 1) : Nat) : Int) by omega]; exact wrap_nat (by omega)
                have hws : IntKind.i64.wrap (((64 * cAt s (bt s 0 - 224) j + bt s (j + 1) : Nat) : Int) - 128) = (cAt s (bt s 0 - 224) (j + 1) : Int) := by rw [show ((64 * cAt s (bt s 0 - 224) j + bt s (j + 1) : Nat) : Int) - 128 = (cAt s (bt s 0 - 224) (j + 1) : Int) by simp only [cAt]; omega]; exact wrap_nat (by simp only [cAt]; omega)
                refine CW.skip ?_
                refine CW.rg ?_
                refine CWops.run htt 5 (by simp only [go_sem, simprocAttr, hch', hwm, hwa, hws]; exact rfl) (by simp [go_sem, simprocAttr, hch', hwm, hwa, hws]) ?_
                refine CWops.conv htt (by simp only [go_sem, simprocAttr]) tt_5 rfl tt_3 rfl (by simp only [go_sem, simprocAttr]; first | done | exact rfl) ?_
                simp only [wrap_byte, wrap_bt, hcb']
                refine CWops.run htt 3 (by simp only [go_sem, simprocAttr, hch', hwm, hwa, hws]; exact rfl) (by simp [go_sem, simprocAttr, hch', hwm, hwa, hws]) ?_
                refine CWops.done ?_
                refine CW.rg ?_
                refine CWops.run htt 3 (by simp only [go_sem, simprocAttr, wrap_succ (show j + 1 < MX by unfold MX; omega)]; exact rfl) (by simp [go_sem, simprocAttr, wrap_succ (show j + 1 < MX by unfold MX; omega)]) ?_
                refine CWops.done ?_
                refine ⟨j + 1, ?_, ?_, ?_⟩
                · refine Sh.wk0 ?_; simp [Wk, go_sem, simprocAttr]
                · exact ⟨hj, hcs⟩
                · simp only; omega
            · have hj : j + 1 = 3 := by simp at ct49; omega
              obtain rfl : j = 2 := by omega
              refine CW.exit ?_
              refine CW.seq ?_
              refine CW.cut ⟨0, [(5, .int .i64 3), (7, .int .i64 (cAt s (bt s 0 - 224) 2 : Nat)), (84, .bool (!okC 2048 (cAt s (bt s 0 - 224) 2)))], []⟩ ?_ ?_
              · refine CW.rg ?_
                refine CWops.rn htt 4 ?_
                all_goals (first | refine CWops.guard 73 (by simp only [go_sem, simprocAttr]; exact rfl) (fun g73 => ?_) (fun g73 => ?_) | skip)
                all_goals (try (simp only [Bool.true_eq_false, Bool.false_eq_true] at g73; done))
                all_goals (refine CWops.rn htt 4 ?_)
                all_goals (first | refine CWops.guard 77 (by simp only [go_sem, simprocAttr]; exact rfl) (fun g77 => ?_) (fun g77 => ?_) | skip)
                all_goals (try (simp only [Bool.true_eq_false, Bool.false_eq_true] at g77; done))
                all_goals (refine CWops.rn htt 3 ?_)
                all_goals (first | refine CWops.guard 80 (by simp only [go_sem, simprocAttr]; exact rfl) (fun g80 => ?_) (fun g80 => ?_) | skip)
                all_goals (try (simp only [Bool.true_eq_false, Bool.false_eq_true] at g80; done))
                all_goals (refine CWops.rn htt 4 ?_)
                all_goals (refine CWops.done ?_)
                all_goals (
                  refine ⟨rfl, Sh.wk0 ?_⟩
                  generalize cAt s (bt s 0 - 224) 2 = cc at *
                  first | (simp [Wk, go_sem, simprocAttr, okC]; done) | (simp [Wk, go_sem, simprocAttr, okC]; omega) | (simp at g73 g77 g80; simp [Wk, go_sem, simprocAttr, okC]; rw [Bool.eq_iff_iff]; simp; omega) | (simp at g73 g77; simp [Wk, go_sem, simprocAttr, okC]; rw [Bool.eq_iff_iff]; simp; omega) | (simp at g73; simp [Wk, go_sem, simprocAttr, okC]; rw [Bool.eq_iff_iff]; simp; omega) | (simp at g73 g77 g80; simp [Wk, go_sem, simprocAttr, okC]; omega) | (simp at g73 g77; simp [Wk, go_sem, simprocAttr, okC]; omega) | (simp at g73; simp [Wk, go_sem, simprocAttr, okC]; omega) | skip)
              refine CW.cond (by simp only [go_sem, simprocAttr]; first | done | exact rfl) (fun ct84 => ?_) (fun ct84 => ?_)
              · have hok : okC 2048 (cAt s (bt s 0 - 224) 2) = false := by simpa using ct84
                refine CW.seq ?_
                refine CW.rg ?_
                refine CWops.rn htt 2 ?_
                refine CWops.done ?_
                refine CW.ret ?_
                refine retQ.ret (by simp only [f141, go_sem, simprocAttr]; exact rfl) (by simp only [go_sem, simprocAttr]; exact rfl) ?_ -- ret3
                refine ⟨_, ?_, rfl⟩
                have hd : Utf8.decode s 0 = (65533, 1) := by rw [dec_three hr.1 hr.2, decide_eq_true hsz, j2, hok]; rfl
                simp [leP, leL, hd]
              · have hok : okC 2048 (cAt s (bt s 0 - 224) 2) = true := by simpa using ct84
                refine CW.skip ?_
                refine CW.seq ?_
                refine CW.rg ?_
                refine CWops.rn htt 4 ?_
                refine CWops.done ?_
                refine CW.ret ?_
                refine retQ.ret (by simp only [f141, go_sem, simprocAttr]; exact rfl) (by simp only [go_sem, simprocAttr]; exact rfl) ?_ -- ret4
                refine ⟨_, ?_, rfl⟩
                have hd : Utf8.decode s 0 = (cAt s (bt s 0 - 224) 2, 3) := by rw [dec_three hr.1 hr.2, decide_eq_true hsz, j2, hok]; rfl
                simp [leP, leL, hd]
      · cases ct28
theorem ref05_sign_4 (up : Bool) (s : ByteArray) (h0 : 0 < s.size) (hr : 240 ≤ bt s 0 ∧ bt s 0 < 245) : PCall prog up 141 [.str s] (· = .tup [.int .i64 ((Utf8.decode s 0).1 : Nat), .int .i64 ((Utf8.decode s 0).2 : Nat)]) := by
  refine PCall.intro htt func141 (by kernel_rfl) rfl (Nat.le_of_ble_eq_true rfl) fun hl => ?_
  obtain ⟨ch, hch, hcb⟩ := bt_at h0
  have hw : IntKind.i64.wrap ((bt s 0 : Int) - 240) = ((bt s 0 - 240 : Nat) : Int) := by
    have hb := bt_lt s 0
    rw [show (bt s 0 : Int) - 240 = ((bt s 0 - 240 : Nat) : Int) by omega]; exact wrap_nat (by omega)
  obtain ⟨lw, hlw⟩ : ∃ lw : Nat, lw = 65536 := ⟨_, rfl⟩
  simp only [tmps0, Nat.reduceAdd]
  refine CW.seq ?_
  refine CW.rg ?_
  refine CWops.rn htt 2 ?_
  refine CWops.done ?_
  refine CW.seq ?_
  refine CW.rg ?_
  refine CWops.run htt 2 (by simp only [go_sem, simprocAttr, hch]; exact rfl) (by simp [go_sem, simprocAttr, hch]) ?_
  refine CWops.conv htt (by simp only [go_sem, simprocAttr]) tt_5 rfl tt_3 rfl (by simp only [go_sem, simprocAttr]; first | done | exact rfl) ?_
  simp only [wrap_byte, wrap_bt, hcb]
  refine CWops.run htt 1 (by simp only [go_sem, simprocAttr, hch]; exact rfl) (by simp [go_sem, simprocAttr, hch]) ?_
  refine CWops.done ?_
  refine CW.seq ?_
  refine CW.seq ?_
  refine CW.rg ?_
  refine CWops.rn htt 2 ?_
  refine CWops.done ?_
  refine CW.cond (by simp only [go_sem, simprocAttr]; first | done | exact rfl) (fun ct13 => ?_) (fun ct13 => ?_)
  · exfalso; simp at ct13; omega 
  · refine CW.skip ?_
    refine CW.seq ?_
    refine CW.rg ?_
    refine CWops.rn htt 1 ?_
    refine CWops.done ?_
    refine CW.seq ?_
    refine CW.rg ?_
    refine CWops.rn htt 1 ?_
    refine CWops.done ?_
    refine CW.seq ?_
    refine CW.rg ?_
    refine CWops.rn htt 1 ?_
    refine CWops.done ?_
    refine CW.seq ?_
    refine CW.cut ⟨0, [(0, .str s), (4, .int .i64 (bt s 0 : Int)), (5, .int .i64 0), (6, .int .i64 0), (7, .int .i64 0), (20, .bool false)], []⟩ ?_ ?_
    · refine CW.rg ?_
      refine CWops.rn htt 3 ?_
      all_goals (first | refine CWops.guard 17 (by simp only [go_sem, simprocAttr]; exact rfl) (fun g17 => ?_) (fun g17 => ?_) | skip)
      all_goals (first | (exfalso; simp at g17; omega) | skip)
      all_goals (refine CWops.rn htt 3 ?_)
      all_goals (refine CWops.done ?_)
      all_goals (
        refine ⟨rfl, Sh.wk0 ?_⟩
        first | (simp [Wk, go_sem, simprocAttr]; done) | (simp [Wk, go_sem, simprocAttr]; omega) | (simp_all [Wk, go_sem, simprocAttr]; done) | (simp_all [Wk, go_sem, simprocAttr]; omega) | skip)
    refine CW.cond (by simp only [go_sem, simprocAttr]; first | done | exact rfl) (fun ct20 => ?_) (fun ct20 => ?_)
    · cases ct20 
    · refine CW.skip ?_
      refine CW.seq ?_
      refine CW.cut ⟨0, [(0, .str s), (4, .int .i64 (bt s 0 : Int)), (5, .int .i64 0), (6, .int .i64 0), (7, .int .i64 0), (28, .bool false)], []⟩ ?_ ?_
      · refine CW.rg ?_
        refine CWops.rn htt 3 ?_
        all_goals (first | refine CWops.guard 25 (by simp only [go_sem, simprocAttr]; exact rfl) (fun g25 => ?_) (fun g25 => ?_) | skip)
        all_goals (first | (exfalso; simp at g25; omega) | skip)
        all_goals (refine CWops.rn htt 3 ?_)
        all_goals (refine CWops.done ?_)
        all_goals (
          refine ⟨rfl, Sh.wk0 ?_⟩
          first | (simp [Wk, go_sem, simprocAttr]; done) | (simp [Wk, go_sem, simprocAttr]; omega) | (simp_all [Wk, go_sem, simprocAttr]; done) | (simp_all [Wk, go_sem, simprocAttr]; omega) | skip)
      refine CW.cond (by simp only [go_sem, simprocAttr]; first | done | exact rfl) (fun ct28 => ?_) (fun ct28 => ?_)
      · cases ct28 
      · refine CW.skip ?_
        refine CW.seq ?_
        refine CW.cut ⟨0, [(0, .str s), (4, .int .i64 (bt s 0 : Int)), (5, .int .i64 0), (6, .int .i64 0), (7, .int .i64 0), (36, .bool true)], []⟩ ?_ ?_
        · refine CW.rg ?_
          refine CWops.rn htt 3 ?_
          all_goals (first | refine CWops.guard 33 (by simp only [go_sem, simprocAttr]; exact rfl) (fun g33 => ?_) (fun g33 => ?_) | skip)
          all_goals (first | (exfalso; simp at g33; omega) | skip)
          all_goals (refine CWops.rn htt 3 ?_)
          all_goals (refine CWops.done ?_)
          all_goals (
            refine ⟨rfl, Sh.wk0 ?_⟩
            first | (simp [Wk, go_sem, simprocAttr]; done) | (simp [Wk, go_sem, simprocAttr]; omega) | (simp_all [Wk, go_sem, simprocAttr]; done) | (simp_all [Wk, go_sem, simprocAttr]; omega) | skip)
        refine CW.cond (by simp only [go_sem, simprocAttr]; first | done | exact rfl) (fun ct36 => ?_) (fun ct36 => ?_)
        · refine CW.seq ?_
          refine CW.rg ?_
          refine CWops.rn htt 1 ?_
          refine CWops.done ?_
          refine CW.seq ?_
          refine CW.rg ?_
          refine CWops.rn htt 1 ?_
          refine CWops.done ?_
          refine CW.rg ?_
          refine CWops.run htt 3 (by simp only [go_sem, simprocAttr, hw]; exact rfl) (by simp [go_sem, simprocAttr, hw]) ?_
          refine CWops.done ?_
          refine CW.seq ?_
          refine CW.cut ⟨0, [(0, .str s), (4, .int .i64 (bt s 0 : Int)), (5, .int .i64 4), (6, .int .i64 lw), (7, .int .i64 ((bt s 0 - 240 : Nat) : Int)), (46, .bool (decide (s.size < 4)))], []⟩ ?_ ?_
          · refine CW.rg ?_
            refine CWops.run htt 3 (by simp only [go_sem, simprocAttr, Int.reduceEq]; exact rfl) (by simp [go_sem, simprocAttr, Int.reduceEq]) ?_
            all_goals (first | refine CWops.guard 41 (by simp only [go_sem, simprocAttr, Int.reduceEq]; exact rfl) (fun g41 => ?_) (fun g41 => ?_) | skip)
            all_goals (try (simp only [Bool.true_eq_false, Bool.false_eq_true] at g41; done))
            all_goals (refine CWops.run htt 5 (by simp only [go_sem, simprocAttr, Int.reduceEq]; exact rfl) (by simp [go_sem, simprocAttr, Int.reduceEq]) ?_)
            all_goals (refine CWops.done ?_)
            all_goals (
              refine ⟨rfl, Sh.wk0 ?_⟩
              rw [hlw]
              first | (simp [Wk, go_sem, simprocAttr]; done) | (simp [Wk, go_sem, simprocAttr]; omega) | (simp_all [Wk, go_sem, simprocAttr]; done) | (simp_all [Wk, go_sem, simprocAttr]; omega) | skip)
          refine CW.cond (by simp only [go_sem, simprocAttr]; first | done | exact rfl) (fun ct46 => ?_) (fun ct46 => ?_)
          · have hsz : ¬ 4 ≤ s.size := by simpa using ct46
            refine CW.seq ?_
            refine CW.rg ?_
            refine CWops.rn htt 2 ?_
            refine CWops.done ?_
            refine CW.ret ?_
            refine retQ.ret (by simp only [f141, go_sem, simprocAttr]; exact rfl) (by simp only [go_sem, simprocAttr]; exact rfl) ?_ -- ret1
            refine ⟨_, ?_, rfl⟩
            have hd : Utf8.decode s 0 = (65533, 1) := by rw [dec_four hr.1 hr.2, decide_eq_false hsz]; rfl
            simp [leP, leL, hd]
          · have hsz : 4 ≤ s.size := by simpa using ct46
            refine CW.skip ?_
            refine CW.seq ?_
            refine CW.seq ?_
            refine CW.rg ?_
            refine CWops.rn htt 1 ?_
            refine CWops.done ?_
            refine CW.block ?_
            refine CW.loop (S := Nat) (fun j => ⟨0, [(0, .str s), (4, .int .i64 (bt s 0 : Int)), (5, .int .i64 4), (6, .int .i64 lw), (7, .int .i64 (cAt s (bt s 0 - 240) j : Nat)), (8, .int .i64 ((j + 1 : Nat) : Int))], []⟩) (fun j => j + 1 ≤ 4 ∧ conts s j = true) (fun j => 4 - j) (0) ?_ ⟨by decide, rfl⟩ (fun j ⟨j1, j2⟩ => ?_)
            · refine Sh.wk0 ?_; simp [Wk, go_sem, simprocAttr, cAt]
            refine CW.seq ?_
            refine CW.seq ?_
            refine CW.rg ?_
            refine CWops.rn htt 3 ?_
            refine CWops.done ?_
            refine CW.cond (by simp only [go_sem, simprocAttr]; first | done | exact rfl) (fun ct49 => ?_) (fun ct49 => ?_)
            · have hj : j + 1 < 4 := by simp at ct49; omega
              obtain ⟨ch', hch', hcb'⟩ := bt_at (s := s) (k := j + 1) (by omega)
              refine CW.skip ?_
              refine CW.seq ?_
              refine CW.block ?_
              refine CW.seq ?_
              refine CW.cut ⟨0, [(0, .str s), (4, .int .i64 (bt s 0 : Int)), (5, .int .i64 4), (6, .int .i64 lw), (7, .int .i64 (cAt s (bt s 0 - 240) j : Nat)), (8, .int .i64 ((j + 1 : Nat) : Int)), (61, .bool (!(decide (128 ≤ bt s (j + 1)) && decide (bt s (j + 1) ≤ 191))))], []⟩ ?_ ?_
              · refine CW.rg ?_
                refine CWops.run htt 5 (by simp only [go_sem, simprocAttr, hch']; exact rfl) (by simp [go_sem, simprocAttr, hch']) ?_
                all_goals (first | refine CWops.guard 56 (by simp only [go_sem, simprocAttr, hch']; exact rfl) (fun g56 => ?_) (fun g56 => ?_) | skip)
                all_goals (skip)
                all_goals (refine CWops.run htt 5 (by simp only [go_sem, simprocAttr, hch']; exact rfl) (by simp [go_sem, simprocAttr, hch']) ?_)
                all_goals (refine CWops.done ?_)
                all_goals (
                  refine ⟨rfl, Sh.wk0 ?_⟩
                  rw [← hcb']
                  first | (simp [Wk, go_sem, simprocAttr]; done) | (simp [Wk, go_sem, simprocAttr]; omega) | (simp at g56; simp [Wk, go_sem, simprocAttr]; rw [Bool.eq_iff_iff]; simp; omega) | (simp at g56; simp [Wk, go_sem, simprocAttr]; omega) | (simp at g56; simp [Wk, go_sem, simprocAttr]; intros; omega) | skip)
              refine CW.cond (by simp only [go_sem, simprocAttr]; first | done | exact rfl) (fun ct61 => ?_) (fun ct61 => ?_)
              · have hbd : conts s (j + 1) = false := by simp only [conts, j2, Bool.true_and]; exact (Bool.not_eq_true' _).mp ct61
                refine CW.seq ?_
                refine CW.rg ?_
                refine CWops.rn htt 2 ?_
                refine CWops.done ?_
                refine CW.ret ?_
                refine retQ.ret (by simp only [f141, go_sem, simprocAttr]; exact rfl) (by simp only [go_sem, simprocAttr]; exact rfl) ?_ -- ret2
                refine ⟨_, ?_, rfl⟩
                have hd : Utf8.decode s 0 = (65533, 1) := by rw [dec_four hr.1 hr.2, conts_no 3 hbd (by omega), Bool.and_false]; rfl
                simp [leP, leL, hd]
              · have hcs : conts s (j + 1) = true := by simp only [conts, j2, Bool.true_and]; exact (Bool.not_eq_false' _).mp ct61
                have hb1 := bt_lt s (j + 1)
                have hcl := cAt_lt (c0 := (bt s 0 - 240)) (by have := bt_lt s 0; omega) j2 (by omega)
                have hcm : 128 ≤ bt s (j + 1) := by simp only [conts, Bool.and_eq_true, decide_eq_true_eq] at hcs; exact hcs.2.1
                have hwm : IntKind.i64.wrap (64 * (cAt s (bt s 0 - 240) j : Int)) = ((64 * cAt s (bt s 0 - 240) j : Nat) : Int) := by rw [show (64 * (cAt s (bt s 0 - 240) j : Int)) = ((64 * cAt s (bt s 0 - 240) j : Nat) : Int) by omega]; exact wrap_nat (by omega)
                have hwa : IntKind.i64.wrap (((64 * cAt s (bt s 0 - 240) j : Nat) : Int) + (bt s (j + 1) : Int)) = ((64 * cAt s (bt s 0 - 240) j + bt s (j + 1) : Nat) : Int) := by rw [show ((64 * cAt s (bt s 0 - 240) j : Nat) : Int) + (bt s (j + 1) : Int) = ((64 * cAt s (bt s 0 - 240) j + bt s (j + 1) : Nat) : Int) by omega]; exact wrap_nat (by omega)
                have hws : IntKind.i64.wrap (((64 * cAt s (bt s 0 - 240) j + bt s (j + 1) : Nat) : Int) - 128) = (cAt s (bt s 0 - 240) (j + 1) : Int) := by rw [show ((64 * cAt s (bt s 0 - 240) j + bt s (j + 1) : Nat) : Int) - 128 = (cAt s (bt s 0 - 240) (j + 1) : Int) by simp only [cAt]; omega]; exact wrap_nat (by simp only [cAt]; omega)
                refine CW.skip ?_
                refine CW.rg ?_
                refine CWops.run htt 5 (by simp only [go_sem, simprocAttr, hch', hwm, hwa, hws]; exact rfl) (by simp [go_sem, simprocAttr, hch', hwm, hwa, hws]) ?_
                refine CWops.conv htt (by simp only [go_sem, simprocAttr]) tt_5 rfl tt_3 rfl (by simp only [go_sem, simprocAttr]; first | done | exact rfl) ?_
                simp only [wrap_byte, wrap_bt, hcb']
                refine CWops.run htt 3 (by simp only [go_sem, simprocAttr, hch', hwm, hwa, hws]; exact rfl) (by simp [go_sem, simprocAttr, hch', hwm, hwa, hws]) ?_
                refine CWops.done ?_
                refine CW.rg ?_
                refine CWops.run htt 3 (by simp only [go_sem, simprocAttr, wrap_succ (show j + 1 < MX by unfold MX; omega)]; exact rfl) (by simp [go_sem, simprocAttr, wrap_succ (show j + 1 < MX by unfold MX; omega)]) ?_
                refine CWops.done ?_
                refine ⟨j + 1, ?_, ?_, ?_⟩
                · refine Sh.wk0 ?_; simp [Wk, go_sem, simprocAttr]
                · exact ⟨hj, hcs⟩
                · simp only; omega
            · have hj : j + 1 = 4 := by simp at ct49; omega
              obtain rfl : j = 3 := by omega
              refine CW.exit ?_
              refine CW.seq ?_
              refine CW.cut ⟨0, [(5, .int .i64 4), (7, .int .i64 (cAt s (bt s 0 - 240) 3 : Nat)), (84, .bool (!okC lw (cAt s (bt s 0 - 240) 3)))], []⟩ ?_ ?_
              · refine CW.rg ?_
                refine CWops.rn htt 4 ?_
                all_goals (first | refine CWops.guard 73 (by simp only [go_sem, simprocAttr]; exact rfl) (fun g73 => ?_) (fun g73 => ?_) | skip)
                all_goals (try (simp only [Bool.true_eq_false, Bool.false_eq_true] at g73; done))
                all_goals (refine CWops.rn htt 4 ?_)
                all_goals (first | refine CWops.guard 77 (by simp only [go_sem, simprocAttr]; exact rfl) (fun g77 => ?_) (fun g77 => ?_) | skip)
                all_goals (try (simp only [Bool.true_eq_false, Bool.false_eq_true] at g77; done))
                all_goals (refine CWops.rn htt 3 ?_)
                all_goals (first | refine CWops.guard 80 (by simp only [go_sem, simprocAttr]; exact rfl) (fun g80 => ?_) (fun g80 => ?_) | skip)
                all_goals (try (simp only [Bool.true_eq_false, Bool.false_eq_true] at g80; done))
                all_goals (refine CWops.rn htt 4 ?_)
                all_goals (refine CWops.done ?_)
                all_goals (
                  refine ⟨rfl, Sh.wk0 ?_⟩
                  generalize cAt s (bt s 0 - 240) 3 = cc at *
                  first | (simp [Wk, go_sem, simprocAttr, okC]; done) | (simp [Wk, go_sem, simprocAttr, okC]; omega) | (simp at g73 g77 g80; simp [Wk, go_sem, simprocAttr, okC]; rw [Bool.eq_iff_iff]; simp; omega) | (simp at g73 g77; simp [Wk, go_sem, simprocAttr, okC]; rw [Bool.eq_iff_iff]; simp; omega) | (simp at g73; simp [Wk, go_sem, simprocAttr, okC]; rw [Bool.eq_iff_iff]; simp; omega) | (simp at g73 g77 g80; simp [Wk, go_sem, simprocAttr, okC]; omega) | (simp at g73 g77; simp [Wk, go_sem, simprocAttr, okC]; omega) | (simp at g73; simp [Wk, go_sem, simprocAttr, okC]; omega) | skip)
              refine CW.cond (by simp only [go_sem, simprocAttr]; first | done | exact rfl) (fun ct84 => ?_) (fun ct84 => ?_)
              · have hok : okC lw (cAt s (bt s 0 - 240) 3) = false := by simpa using ct84
                subst hlw
                refine CW.seq ?_
                refine CW.rg ?_
                refine CWops.rn htt 2 ?_
                refine CWops.done ?_
                refine CW.ret ?_
                refine retQ.ret (by simp only [f141, go_sem, simprocAttr]; exact rfl) (by simp only [go_sem, simprocAttr]; exact rfl) ?_ -- ret3
                refine ⟨_, ?_, rfl⟩
                have hd : Utf8.decode s 0 = (65533, 1) := by rw [dec_four hr.1 hr.2, decide_eq_true hsz, j2, hok]; rfl
                simp [leP, leL, hd]
              · have hok : okC lw (cAt s (bt s 0 - 240) 3) = true := by simpa using ct84
                subst hlw
                refine CW.skip ?_
                refine CW.seq ?_
                refine CW.rg ?_
                refine CWops.rn htt 4 ?_
                refine CWops.done ?_
                refine CW.ret ?_
                refine retQ.ret (by simp only [f141, go_sem, simprocAttr]; exact rfl) (by simp only [go_sem, simprocAttr]; exact rfl) ?_ -- ret4
                refine ⟨_, ?_, rfl⟩
                have hd : Utf8.decode s 0 = (cAt s (bt s 0 - 240) 3, 4) := by rw [dec_four hr.1 hr.2, decide_eq_true hsz, j2, hok]; rfl
                simp [leP, leL, hd]
        · cases ct36
theorem ref05_sign (up : Bool) (s : ByteArray) (h0 : 0 < s.size) : PCall prog up 141 [.str s] (· = .tup [.int .i64 ((Utf8.decode s 0).1 : Nat), .int .i64 ((Utf8.decode s 0).2 : Nat)]) := by
  by_cases h1 : bt s 0 < 128
  · exact ref05_sign_1 up s h0 h1
  by_cases h2 : bt s 0 < 194
  · exact ref05_sign_0 up s h0 ⟨by omega, .inl h2⟩
  by_cases h3 : bt s 0 < 224
  · exact ref05_sign_2 up s h0 ⟨by omega, h3⟩
  by_cases h4 : bt s 0 < 240
  · exact ref05_sign_3 up s h0 ⟨by omega, h4⟩
  by_cases h5 : bt s 0 < 245
  · exact ref05_sign_4 up s h0 ⟨by omega, h5⟩
  · exact ref05_sign_0 up s h0 ⟨by omega, .inr (by omega)⟩
end Go.Ab
