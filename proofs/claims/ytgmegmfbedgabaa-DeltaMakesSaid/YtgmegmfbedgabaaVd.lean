/-
  What functions of the program answer: each by its contract. No condition but those of each theorem.
-/
import Derived.WalkKit
import Derived.Below
import Derived.Scope
import Derived.Test.YtgmegmfbedgabaaProg
import Derived.Orders
import Derived.Still
import Derived.WalkSmall
import Derived.Tactics
import Derived.Tactics2
import Derived.Defers
import Derived.Recover
import Derived.Laws.Pointers
import Derived.Lib.AppendStr
import Derived.ArgAppend
import Derived.Lib.ConvBytes
import Derived.Shelf.Strings.OnBuilder
import Derived.Test.YtgmegmfbedgabaaFa
import Derived.Test.YtgmegmfbedgabaaFb
import Derived.Test.YtgmegmfbedgabaaFc
import Derived.Test.YtgmegmfbedgabaaFd
import Derived.Test.YtgmegmfbedgabaaFe
import Derived.Test.YtgmegmfbedgabaaFf
import Derived.Test.YtgmegmfbedgabaaDa
import Derived.Test.YtgmegmfbedgabaaVa
import Derived.Test.YtgmegmfbedgabaaVb
import Derived.Test.YtgmegmfbedgabaaVc
set_option linter.unusedVariables false
set_option linter.unusedSimpArgs false
namespace Go.Ab
open Go Go.Proofs.Try Go.RowKit
set_option maxRecDepth 100000
set_option linter.unusedSimpArgs false
set_option linter.unusedVariables false
set_option maxHeartbeats 6400000
theorem make_bounds (a b : Graph) : (gMake a b).1.L.length ≤ 1000 ∧ (gMake a b).1.Roots.length ≤ 1000 := by
  by_cases h : (gMake a b).2 = 0
  · obtain ⟨_, hb, _, _, e⟩ := make_ok h
    have hc := canon_may ((may_iff b).1 hb)
    have h1 := hc.o
    have h2 := hc.r
    rw [e]
    simp only
    rw [items_len hb, ← canon_Olen hb]
    omega
  · rw [make_err h]; exact ⟨Nat.zero_le _, Nat.zero_le _⟩
theorem noD_len : noDelta.L.length = 0 := rfl
theorem law11_DeltaMakes (up : Bool) (a b like : Graph) : PCall prog up 6 [.agg (eGraph a), .agg (eGraph b), .agg (eGraph like)] (· = .bool true) := by
  refine PCall.intro htt func6 (by kernel_rfl) rfl (Nat.le_of_ble_eq_true rfl) fun hl => ?_

  simp only [tmps0, Nat.reduceAdd]
  refine CW.seq ?_
  refine CW.rg ?_
  refine CWops.run htt 4 (by simp only [go_sem, simprocAttr, eGraph]; exact rfl) (by simp [go_sem, simprocAttr, eGraph]) ?_
  refine CWops.done ?_
  refine CW.seq ?_
  refine CW.rg ?_
  refine CWops.callA (law11_awake up) (by simp only [go_sem, simprocAttr]) (by simp only [go_sem, simprocAttr]; first | done | exact rfl) (by simp only [go_sem, simprocAttr]) (by simp only [go_sem, simprocAttr]) (fun rt20 hrt20 => ?_)
  subst hrt20
  refine CWops.rn htt 1 ?_
  refine CWops.done ?_
  refine CW.seq ?_
  refine CW.rg ?_
  refine CWops.run htt 1 (by simp only [go_sem, simprocAttr, eGraph]; exact rfl) (by simp [go_sem, simprocAttr, eGraph]) ?_
  refine CWops.callA (law08_Few up a) (by simp only [go_sem, simprocAttr, eGraph]) (by simp only [go_sem, simprocAttr, eGraph]; first | done | exact rfl) (by simp only [go_sem, simprocAttr, eGraph]) (by simp only [go_sem, simprocAttr, eGraph]) (fun rt22 hrt22 => ?_)
  subst hrt22
  refine CWops.run htt 1 (by simp only [go_sem, simprocAttr, eGraph]; exact rfl) (by simp [go_sem, simprocAttr, eGraph]) ?_
  refine CWops.done ?_
  refine CW.seq ?_
  refine CW.rg ?_
  refine CWops.run htt 1 (by simp only [go_sem, simprocAttr, eGraph]; exact rfl) (by simp [go_sem, simprocAttr, eGraph]) ?_
  refine CWops.callA (law08_Few up b) (by simp only [go_sem, simprocAttr, eGraph]) (by simp only [go_sem, simprocAttr, eGraph]; first | done | exact rfl) (by simp only [go_sem, simprocAttr, eGraph]) (by simp only [go_sem, simprocAttr, eGraph]) (fun rt24 hrt24 => ?_)
  subst hrt24
  refine CWops.run htt 1 (by simp only [go_sem, simprocAttr, eGraph]; exact rfl) (by simp [go_sem, simprocAttr, eGraph]) ?_
  refine CWops.done ?_
  refine CW.seq ?_
  refine CW.rg ?_
  refine CWops.run htt 1 (by simp only [go_sem, simprocAttr, eGraph]; exact rfl) (by simp [go_sem, simprocAttr, eGraph]) ?_
  refine CWops.callA (law08_Few up like) (by simp only [go_sem, simprocAttr, eGraph]) (by simp only [go_sem, simprocAttr, eGraph]; first | done | exact rfl) (by simp only [go_sem, simprocAttr, eGraph]) (by simp only [go_sem, simprocAttr, eGraph]) (fun rt26 hrt26 => ?_)
  subst hrt26
  refine CWops.run htt 1 (by simp only [go_sem, simprocAttr, eGraph]; exact rfl) (by simp [go_sem, simprocAttr, eGraph]) ?_
  refine CWops.done ?_
  refine CW.seq ?_
  refine CW.cut ⟨3, [(3, .lv 0 [] 0), (4, .lv 1 [] 0), (5, .lv 2 [] 0), (7, .bool true), (40, .bool (!((fewG a && fewG b) && fewG like)))], [(0, ⟨true, eGraph a⟩), (1, ⟨true, eGraph b⟩), (2, ⟨true, eGraph like⟩)]⟩ ?_ ?_
  · refine CW.rg ?_
    refine CWops.rn htt 3 ?_
    all_goals (first | refine CWops.guard 29 (by simp only [go_sem, simprocAttr]; exact rfl) (fun g29 => ?_) (fun g29 => ?_) | skip)
    all_goals (first | (simp at g29; done) | (cases g29; done) | (exfalso; simp_all; done) | skip)
    all_goals (refine CWops.rn htt 4 ?_)
    all_goals (first | refine CWops.guard 33 (by simp only [go_sem, simprocAttr]; exact rfl) (fun g33 => ?_) (fun g33 => ?_) | skip)
    all_goals (first | (simp at g33; done) | (cases g33; done) | (exfalso; simp_all; done) | skip)
    all_goals (refine CWops.rn htt 4 ?_)
    all_goals (first | refine CWops.guard 37 (by simp only [go_sem, simprocAttr]; exact rfl) (fun g37 => ?_) (fun g37 => ?_) | skip)
    all_goals (first | (simp at g37; done) | (cases g37; done) | (exfalso; simp_all; done) | skip)
    all_goals (refine CWops.rn htt 3 ?_)
    all_goals (refine CWops.done ?_)
    all_goals (
      first | refine ⟨rfl, Sh.wk0 ?_⟩ | refine Sh.wk0 ?_
      simp_all [Wk, go_sem, simprocAttr, eGraph, eDelta] <;> first | done | rfl | omega | (rw [Bool.eq_iff_iff]; simp; done) | (rw [Bool.eq_iff_iff]; simp; omega))
  refine CW.cond (by simp only [go_sem, simprocAttr]; first | done | exact rfl) (fun ct40 => ?_) (fun ct40 => ?_)
  · refine CW.seq ?_
    refine CW.rg ?_
    refine CWops.rn htt 2 ?_
    refine CWops.done ?_
    refine CW.ret ?_
    refine retQ.ret (by simp only [f6, go_sem, simprocAttr]; exact rfl) (by simp only [go_sem, simprocAttr]; exact rfl) ?_ -- ret1
    refine ⟨_, ?_, rfl⟩
    first | (simp [leP]; done) | (simp_all [leP]; done)
  · obtain ⟨⟨d, e⟩, hD⟩ : ∃ p, gMake a b = p := ⟨_, rfl⟩
    refine CW.skip ?_
    refine CW.seq ?_
    refine CW.rg ?_
    refine CWops.run htt 2 (by simp only [go_sem, simprocAttr, eGraph, eDelta]; exact rfl) (by simp [go_sem, simprocAttr, eGraph, eDelta]) ?_
    refine CWops.callA ((by have q := delta_Make up a b; rw [hD] at q; exact q)) (by simp only [go_sem, simprocAttr, eGraph, eDelta]) (by simp only [go_sem, simprocAttr, eGraph, eDelta]; first | done | exact rfl) (by simp only [go_sem, simprocAttr, eGraph, eDelta]) (by simp only [go_sem, simprocAttr, eGraph, eDelta]) (fun rt45 hrt45 => ?_)
    subst hrt45
    refine CWops.run htt 6 (by simp only [go_sem, simprocAttr, eGraph, eDelta]; exact rfl) (by simp [go_sem, simprocAttr, eGraph, eDelta]) ?_
    refine CWops.done ?_
    refine CW.seq ?_
    refine CW.seq ?_
    refine CW.rg ?_
    refine CWops.rn htt 2 ?_
    refine CWops.done ?_
    refine CW.cond (by simp only [go_sem, simprocAttr]; first | done | exact rfl) (fun ct49 => ?_) (fun ct49 => ?_)
    · have he : e ≠ 0 := by simpa using ct49
      have hnd : d = noDelta := by have := make_err (a := a) (b := b) (by rw [hD]; exact he); rw [hD] at this; exact this
      subst hnd
      have hnd := noD_len
      refine CW.seq ?_
      refine CW.rg ?_
      refine CWops.run htt 5 (by simp only [go_sem, simprocAttr, eDelta, hnd, noDelta, List.map_nil, List.length_nil]; exact rfl) (by simp [go_sem, simprocAttr, eDelta, hnd, noDelta, List.map_nil, List.length_nil]) ?_
      refine CWops.done ?_
      refine CW.ret ?_
      refine retQ.ret (by simp only [f6, go_sem, simprocAttr]; exact rfl) (by simp only [go_sem, simprocAttr]; exact rfl) ?_ -- ret2
      refine ⟨_, ?_, rfl⟩
      first | (simp [leP]; done) | (simp_all [leP]; done)
    · have he : e = 0 := by simpa using ct49
      subst he
      obtain ⟨m1, m2, m3⟩ := delta_makes (a := a) (b := b) (by rw [hD])
      obtain ⟨hL, hR⟩ := make_bounds a b
      rw [hD] at m1 m2 m3 hL hR
      simp only at m1 m2 m3 hL hR
      obtain ⟨⟨K, n⟩, hK⟩ : ∃ p, gApply like d = p := ⟨_, rfl⟩
      have hI3 : (gIso a like = false) ∨ (gIso a like = true ∧ K = gCanon b ∧ n = 0) := by
        cases h : gIso a like with
        | false => exact .inl rfl
        | true =>
          have := m3 like h
          rw [hK] at this
          simp only [Prod.mk.injEq] at this
          exact .inr ⟨rfl, this.1, this.2⟩
      refine CW.skip ?_
      refine CW.seq ?_
      refine CW.drawnF mixed 8 9 [6] (D := [60]) (by decide) (by decide) (by kernel_rfl) (by kernel_rfl) rfl (by kernel_rfl) (by kernel_rfl) ?_
      refine Seg.run htt 1 (by simp only [go_sem, simprocAttr, eGraph, eDelta]; exact rfl) ?_
      refine Seg.callA (canon_Canon up a) (by simp only [go_sem, simprocAttr, eGraph, eDelta]) (by simp only [go_sem, simprocAttr, eGraph, eDelta]; first | done | exact rfl) (by simp only [go_sem, simprocAttr, eGraph, eDelta]) (by simp only [go_sem, simprocAttr, eGraph, eDelta]) ?_
      refine Seg.run htt 1 (by simp only [go_sem, simprocAttr, eGraph, eDelta]; exact rfl) ?_
      refine Seg.callA ((by have q := delta_Apply up (gCanon a) d hL hR; rw [m1] at q; exact q)) (by simp only [go_sem, simprocAttr, eGraph, eDelta]) (by simp only [go_sem, simprocAttr, eGraph, eDelta]; first | done | exact rfl) (by simp only [go_sem, simprocAttr, eGraph, eDelta]) (by simp only [go_sem, simprocAttr, eGraph, eDelta]) ?_
      refine Seg.run htt 4 (by simp only [go_sem, simprocAttr, eGraph, eDelta]; exact rfl) ?_
      refine Seg.done ?_
      refine Mid.sto htt (Flo.cons htt rfl rfl (by simp only [go_sem, simprocAttr, eGraph, eDelta]; first | done | exact rfl) (Flo.nil)) (fun u => by simp only [go_sem, simprocAttr, eGraph, eDelta]; exact rfl) ?_
      refine Mid.done (Flo.cons htt rfl rfl (by simp only [go_sem, simprocAttr, eGraph, eDelta]; first | done | exact rfl) (Flo.nil)) ?_
      refine CWops.run htt 1 (by simp only [go_sem, simprocAttr, eGraph, eDelta]; exact rfl) (by simp [go_sem, simprocAttr, eGraph, eDelta]) ?_
      refine CWops.done ?_
      refine CW.seq ?_
      refine CW.rg ?_
      refine CWops.run htt 2 (by simp only [go_sem, simprocAttr, eGraph, eDelta]; exact rfl) (by simp [go_sem, simprocAttr, eGraph, eDelta]) ?_
      refine CWops.callA ((by have q := delta_Apply up a d hL hR; rw [m2] at q; exact q)) (by simp only [go_sem, simprocAttr, eGraph, eDelta]) (by simp only [go_sem, simprocAttr, eGraph, eDelta]; first | done | exact rfl) (by simp only [go_sem, simprocAttr, eGraph, eDelta]) (by simp only [go_sem, simprocAttr, eGraph, eDelta]) (fun rt64 hrt64 => ?_)
      subst hrt64
      refine CWops.run htt 6 (by simp only [go_sem, simprocAttr, eGraph, eDelta]; exact rfl) (by simp [go_sem, simprocAttr, eGraph, eDelta]) ?_
      refine CWops.done ?_
      refine CW.seq ?_
      refine CW.rg ?_
      refine CWops.run htt 1 (by simp only [go_sem, simprocAttr, eGraph]; exact rfl) (by simp [go_sem, simprocAttr, eGraph]) ?_
      refine CWops.callA (canon_Canon up b) (by simp only [go_sem, simprocAttr, eGraph]) (by simp only [go_sem, simprocAttr, eGraph]; first | done | exact rfl) (by simp only [go_sem, simprocAttr, eGraph]) (by simp only [go_sem, simprocAttr, eGraph]) (fun rt68 hrt68 => ?_)
      subst hrt68
      refine CWops.run htt 2 (by simp only [go_sem, simprocAttr, eGraph]; exact rfl) (by simp [go_sem, simprocAttr, eGraph]) ?_
      refine CWops.done ?_
      refine CW.seq ?_
      refine CW.seq ?_
      refine CW.rg ?_
      refine CWops.run htt 3 (by simp only [go_sem, simprocAttr, eGraph]; exact rfl) (by simp [go_sem, simprocAttr, eGraph]) ?_
      all_goals (first | refine CWops.guard 71 (by simp only [go_sem, simprocAttr, eGraph]; exact rfl) (fun g71 => ?_) (fun g71 => ?_) | skip)
      all_goals (first | (simp at g71; done) | (cases g71; done) | (exfalso; simp_all; done) | skip)
      all_goals (refine CWops.run htt 4 (by simp only [go_sem, simprocAttr, eGraph]; exact rfl) (by simp [go_sem, simprocAttr, eGraph]) ?_)
      all_goals (first | refine CWops.guard 75 (by simp only [go_sem, simprocAttr, eGraph]; exact rfl) (fun g75 => ?_) (fun g75 => ?_) | skip)
      all_goals (first | (simp at g75; done) | (cases g75; done) | (exfalso; simp_all; done) | skip)
      all_goals (refine CWops.run htt 2 (by simp only [go_sem, simprocAttr, eGraph]; exact rfl) (by simp [go_sem, simprocAttr, eGraph]) ?_)
      all_goals (first | (refine CWops.skip ?_ ?_; next => (simp only [go_sem, simprocAttr]; done)) | (refine CWops.call (graph_Same up (gCanon b) (gCanon b)) (by simp only [go_sem, simprocAttr, eGraph]) (by simp only [go_sem, simprocAttr, eGraph]; first | done | exact rfl) (by simp only [go_sem, simprocAttr, eGraph]) (fun rt78 hrt78 => ?_); subst hrt78; refine ⟨rfl, ?_⟩))
      all_goals (refine CWops.run htt 3 (by simp only [go_sem, simprocAttr, eGraph]; exact rfl) (by simp [go_sem, simprocAttr, eGraph]) ?_)
      all_goals (first | refine CWops.guard 81 (by simp only [go_sem, simprocAttr, eGraph]; exact rfl) (fun g81 => ?_) (fun g81 => ?_) | skip)
      all_goals (first | (simp at g81; done) | (cases g81; done) | (exfalso; simp_all; done) | skip)
      all_goals (refine CWops.run htt 2 (by simp only [go_sem, simprocAttr, eGraph]; exact rfl) (by simp [go_sem, simprocAttr, eGraph]) ?_)
      all_goals (first | (refine CWops.skip ?_ ?_; next => (simp only [go_sem, simprocAttr]; done)) | (refine CWops.call (graph_Same up (gCanon b) (gCanon b)) (by simp only [go_sem, simprocAttr, eGraph]) (by simp only [go_sem, simprocAttr, eGraph]; first | done | exact rfl) (by simp only [go_sem, simprocAttr, eGraph]) (fun rt84 hrt84 => ?_); subst hrt84; refine ⟨rfl, ?_⟩))
      all_goals (refine CWops.run htt 2 (by simp only [go_sem, simprocAttr, eGraph]; exact rfl) (by simp [go_sem, simprocAttr, eGraph]) ?_)
      all_goals (refine CWops.done ?_)
      all_goals (
        refine CW.cond (by simp only [go_sem, simprocAttr]; first | done | exact rfl) (fun ct86 => ?_) (fun ct86 => ?_)
        · exfalso; simp at ct86 
        · refine CW.skip ?_
          refine CW.seq ?_
          refine CW.rg ?_
          refine CWops.run htt 2 (by simp only [go_sem, simprocAttr, eGraph, eDelta]; exact rfl) (by simp [go_sem, simprocAttr, eGraph, eDelta]) ?_
          refine CWops.callA ((by have q := delta_Apply up like d hL hR; rw [hK] at q; exact q)) (by simp only [go_sem, simprocAttr, eGraph, eDelta]) (by simp only [go_sem, simprocAttr, eGraph, eDelta]; first | done | exact rfl) (by simp only [go_sem, simprocAttr, eGraph, eDelta]) (by simp only [go_sem, simprocAttr, eGraph, eDelta]) (fun rt90 hrt90 => ?_)
          subst hrt90
          refine CWops.run htt 6 (by simp only [go_sem, simprocAttr, eGraph, eDelta]; exact rfl) (by simp [go_sem, simprocAttr, eGraph, eDelta]) ?_
          refine CWops.done ?_
          refine CW.seq ?_
          rcases hI3 with hI | ⟨hI, hKe, rfl⟩
          all_goals (refine CW.rg ?_)
          all_goals (refine CWops.run htt 2 (by simp only [go_sem, simprocAttr, eGraph]; exact rfl) (by simp [go_sem, simprocAttr, eGraph]) ?_)
          all_goals (first | (refine CWops.skip ?_ ?_; next => (simp only [go_sem, simprocAttr]; done)) | (refine CWops.call ((by have q := canon_Iso up a like; rw [hI] at q; exact q)) (by simp only [go_sem, simprocAttr, eGraph]) (by simp only [go_sem, simprocAttr, eGraph]; first | done | exact rfl) (by simp only [go_sem, simprocAttr, eGraph]) (fun rt95 hrt95 => ?_); subst hrt95; refine ⟨rfl, ?_⟩))
          all_goals (refine CWops.run htt 2 (by simp only [go_sem, simprocAttr, eGraph]; exact rfl) (by simp [go_sem, simprocAttr, eGraph]) ?_)
          all_goals (first | refine CWops.guard 97 (by simp only [go_sem, simprocAttr, eGraph]; exact rfl) (fun g97 => ?_) (fun g97 => ?_) | skip)
          all_goals (first | (simp at g97; done) | (cases g97; done) | (exfalso; simp_all; done) | skip)
          all_goals (refine CWops.run htt 3 (by simp only [go_sem, simprocAttr, eGraph]; exact rfl) (by simp [go_sem, simprocAttr, eGraph]) ?_)
          all_goals (first | refine CWops.guard 100 (by simp only [go_sem, simprocAttr, eGraph]; exact rfl) (fun g100 => ?_) (fun g100 => ?_) | skip)
          all_goals (first | (simp at g100; done) | (cases g100; done) | (exfalso; simp_all; done) | skip)
          all_goals (refine CWops.run htt 2 (by simp only [go_sem, simprocAttr, eGraph]; exact rfl) (by simp [go_sem, simprocAttr, eGraph]) ?_)
          all_goals (first | (refine CWops.skip ?_ ?_; next => (simp only [go_sem, simprocAttr]; done)) | (refine CWops.call (graph_Same up K (gCanon b)) (by simp only [go_sem, simprocAttr, eGraph]) (by simp only [go_sem, simprocAttr, eGraph]; first | done | exact rfl) (by simp only [go_sem, simprocAttr, eGraph]) (fun rt103 hrt103 => ?_); subst hrt103; refine ⟨rfl, ?_⟩))
          all_goals (refine CWops.run htt 3 (by simp only [go_sem, simprocAttr, eGraph]; exact rfl) (by simp [go_sem, simprocAttr, eGraph]) ?_)
          all_goals (refine CWops.done ?_)
          all_goals (
            refine CW.ret ?_
            refine retQ.ret (by simp only [f6, go_sem, simprocAttr]; exact rfl) (by simp only [go_sem, simprocAttr]; exact rfl) ?_ -- ret3
            refine ⟨_, ?_, rfl⟩
            first | (simp [leP]; done) | (simp_all [leP]; done)))
end Go.Ab
