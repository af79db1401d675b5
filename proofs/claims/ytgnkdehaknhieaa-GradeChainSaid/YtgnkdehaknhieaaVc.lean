/-
  What functions of the program answer: each by its contract. No condition but those of each theorem.
-/
import Derived.WalkKit
import Derived.Below
import Derived.Scope
import Derived.Test.YtgnkdehaknhieaaProg
import Derived.Orders
import Derived.Still
import Derived.Deep.RegionLaw
import Derived.Lib.AppendZerosOnto
import Derived.Lib.Walk
import Derived.Lib.SliceRun
import Derived.Test.YtgnkdehaknhieaaFa
import Derived.Test.YtgnkdehaknhieaaFb
import Derived.Test.YtgnkdehaknhieaaFc
import Derived.Test.YtgnkdehaknhieaaFd
import Derived.Test.YtgnkdehaknhieaaFe
import Derived.Test.YtgnkdehaknhieaaFf
import Derived.Test.YtgnkdehaknhieaaDa
import Derived.Test.YtgnkdehaknhieaaVa
import Derived.Test.YtgnkdehaknhieaaVb
set_option linter.unusedVariables false
set_option linter.unusedSimpArgs false
namespace Go.Ab
open Go Go.Proofs.Try
open Nat (reduceEqDiff reduceAdd reduceLT reduceLeDiff reduceBEq reduceSub reduceMul)
open Int (reduceToNat)
set_option maxRecDepth 100000
set_option maxHeartbeats 3200000
set_option linter.unusedSimpArgs false
set_option linter.unusedVariables false
theorem law13_made (up : Bool) (s : List GType) (l : List GStep) (t : List GType) (hs : schemaMay s = true) (hall : sAll s l = some t) (hll : l.length ≤ MX) : PCall prog up 27 [.agg (eSchema s), .sl 5 (l.map eStep)] (· = .agg (eSchema t)) := by
  refine PCall.intro htt func27 (by kernel_rfl) rfl (Nat.le_of_ble_eq_true rfl) fun hl => ?_

  simp only [tmps0, Nat.reduceAdd]
  refine CW.seq ?_
  refine CW.rg ?_
  refine CWops.run htt 2 (by simp only [go_sem, reduceIte, reduceCtorEq, reduceEqDiff, reduceAdd, reduceLT, reduceLeDiff, reduceToNat, eSchema]; exact rfl) (by simp [go_sem, reduceIte, reduceCtorEq, reduceEqDiff, reduceAdd, reduceLT, reduceLeDiff, reduceToNat, eSchema]) ?_
  refine CWops.done ?_
  refine CW.seq ?_
  refine CW.seq ?_
  refine CW.rg ?_
  refine CWops.rn1 htt 1 ?_
  refine CWops.done ?_
  refine CW.block ?_
  refine CW.loop (S := Nat × List GType) (fun p => ⟨2, [(1, .sl 5 (l.map eStep)), (2, .lv 0 [] 0), (4, .lv 1 [] 0), (5, .int .i64 p.1)], [(0, ⟨true, eSchema p.2⟩), (1, ⟨true, [.nilsl]⟩)]⟩) (fun p => p.1 ≤ l.length ∧ sAll s (l.take p.1) = some p.2 ∧ schemaMay p.2 = true) (fun p => l.length - p.1) ((0, s)) ?_ ⟨Nat.zero_le _, rfl, hs⟩ (fun ⟨i, r⟩ hI => ?_)
  · refine Sh.wk0 ?_; simp [Wk, go_sem, reduceIte, reduceCtorEq, reduceEqDiff, reduceAdd, reduceLT, reduceLeDiff, reduceToNat, eSchema]
  obtain ⟨hil, hs1, hm⟩ := hI
  simp only at hil hs1 hm
  refine CW.seq ?_
  refine CW.seq ?_
  refine CW.rg ?_
  refine CWops.rn1 htt 4 ?_
  refine CWops.done ?_
  refine CW.cond (by simp only [go_sem, reduceIte, reduceCtorEq, reduceEqDiff, reduceAdd, reduceLT, reduceLeDiff, reduceToNat]; first | done | exact rfl) (fun ct11 => ?_) (fun ct11 => ?_)
  · have hi : i < l.length := by simpa using ct11
    obtain ⟨x, hx⟩ : ∃ x, l[i]? = some x := ⟨l[i], List.getElem?_eq_getElem hi⟩
    obtain ⟨r1, hr1, h0, hr2⟩ := sAll_take hall hx
    rw [hr1] at hs1
    cases hs1
    have hsz := may_sizes hm
    have hm2 := do_may h0
    refine CW.skip ?_
    refine CW.seq ?_
    refine CW.block ?_
    refine CW.seq ?_
    refine CW.drawnF mixed 10 11 [8] (D := [22]) (by decide) (by decide) (by kernel_rfl) (by kernel_rfl) rfl (by kernel_rfl) (by kernel_rfl) ?_
    refine Seg.run htt 5 (by simp only [go_sem, reduceIte, reduceCtorEq, reduceEqDiff, reduceAdd, reduceLT, reduceLeDiff, reduceToNat, hx, hi, eSchema, eStep]; exact rfl) ?_
    refine Seg.callA ((by have := grade_Schema up r x hsz.1 hsz.2; unfold gSchema at this; rw [h0] at this; exact this)) (by simp only [go_sem, reduceIte, reduceCtorEq, reduceEqDiff, reduceAdd, reduceLT, reduceLeDiff, reduceToNat, hx, hi, eSchema, eStep]) (by simp only [go_sem, reduceIte, reduceCtorEq, reduceEqDiff, reduceAdd, reduceLT, reduceLeDiff, reduceToNat, hx, hi, eSchema, eStep]; first | done | exact rfl) (by simp only [go_sem, reduceIte, reduceCtorEq, reduceEqDiff, reduceAdd, reduceLT, reduceLeDiff, reduceToNat, hx, hi, eSchema, eStep]) (by simp only [go_sem, reduceIte, reduceCtorEq, reduceEqDiff, reduceAdd, reduceLT, reduceLeDiff, reduceToNat, hx, hi, eSchema, eStep]) ?_
    refine Seg.run htt 4 (by simp only [go_sem, reduceIte, reduceCtorEq, reduceEqDiff, reduceAdd, reduceLT, reduceLeDiff, reduceToNat, hx, hi, eSchema, eStep]; exact rfl) ?_
    refine Seg.done ?_
    refine Mid.sto htt (Flo.cons htt rfl rfl (by simp only [go_sem, reduceIte, reduceCtorEq, reduceEqDiff, reduceAdd, reduceLT, reduceLeDiff, reduceToNat, hx, hi, eSchema, eStep]; first | done | exact rfl) (Flo.nil)) (fun u => by simp only [go_sem, reduceIte, reduceCtorEq, reduceEqDiff, reduceAdd, reduceLT, reduceLeDiff, reduceToNat, hx, hi, eSchema, eStep]; exact rfl) ?_
    refine Mid.done (Flo.cons htt rfl rfl (by simp only [go_sem, reduceIte, reduceCtorEq, reduceEqDiff, reduceAdd, reduceLT, reduceLeDiff, reduceToNat, hx, hi, eSchema, eStep]; first | done | exact rfl) (Flo.nil)) ?_
    refine CWops.run htt 1 (by simp only [go_sem, reduceIte, reduceCtorEq, reduceEqDiff, reduceAdd, reduceLT, reduceLeDiff, reduceToNat, hx, hi, eSchema, eStep]; exact rfl) (by simp [go_sem, reduceIte, reduceCtorEq, reduceEqDiff, reduceAdd, reduceLT, reduceLeDiff, reduceToNat, hx, hi, eSchema, eStep]) ?_
    refine CWops.done ?_
    refine CW.rg ?_
    refine CWops.run htt 2 (by simp only [go_sem, reduceIte, reduceCtorEq, reduceEqDiff, reduceAdd, reduceLT, reduceLeDiff, reduceToNat, eSchema]; exact rfl) (by simp [go_sem, reduceIte, reduceCtorEq, reduceEqDiff, reduceAdd, reduceLT, reduceLeDiff, reduceToNat, eSchema]) ?_
    refine CWops.done ?_
    refine CW.rg ?_
    refine CWops.run htt 3 (by simp only [go_sem, reduceIte, reduceCtorEq, reduceEqDiff, reduceAdd, reduceLT, reduceLeDiff, reduceToNat, wrap_succ (Nat.lt_of_lt_of_le hi hll)]; exact rfl) (by simp [go_sem, reduceIte, reduceCtorEq, reduceEqDiff, reduceAdd, reduceLT, reduceLeDiff, reduceToNat, wrap_succ (Nat.lt_of_lt_of_le hi hll)]) ?_
    refine CWops.done ?_
    refine ⟨(i + 1, (gDo r x).2.1), ?_, ?_, ?_⟩
    · refine Sh.wk0 ?_; simp [Wk, go_sem, reduceIte, reduceCtorEq, reduceEqDiff, reduceAdd, reduceLT, reduceLeDiff, reduceToNat, eSchema]
    · exact ⟨hi, hr2, hm2⟩
    · simp only; omega
  · have hi : i = l.length := by have := hil; simp at ct11; omega
    rw [hi, List.take_length, hall] at hs1
    cases hs1
    refine CW.exit ?_
    refine CW.seq ?_
    refine CW.rg ?_
    refine CWops.run htt 2 (by simp only [go_sem, reduceIte, reduceCtorEq, reduceEqDiff, reduceAdd, reduceLT, reduceLeDiff, reduceToNat, eSchema]; exact rfl) (by simp [go_sem, reduceIte, reduceCtorEq, reduceEqDiff, reduceAdd, reduceLT, reduceLeDiff, reduceToNat, eSchema]) ?_
    refine CWops.done ?_
    refine CW.ret ?_
    refine retQ.ret (by simp only [f27, go_sem, reduceIte, reduceCtorEq, reduceEqDiff, reduceAdd, reduceLT, reduceLeDiff, reduceToNat]; exact rfl) (by simp only [go_sem, reduceIte, reduceCtorEq, reduceEqDiff, reduceAdd, reduceLT, reduceLeDiff, reduceToNat]; exact rfl) ?_ -- ret1
    refine ⟨_, ?_, rfl⟩
    simp [leP, leL, eSchema]
theorem law13_GradeChain (up : Bool) (a b c : List GType) : PCall prog up 5 [.agg (eSchema a), .agg (eSchema b), .agg (eSchema c)] (· = .bool true) := by
  refine PCall.intro htt func5 (by kernel_rfl) rfl (Nat.le_of_ble_eq_true rfl) fun hl => ?_
  obtain ⟨⟨l, x⟩, hL⟩ : ∃ p, gBetween a b = p := ⟨_, rfl⟩
  obtain ⟨⟨k, y⟩, hK⟩ : ∃ p, gBetween b c = p := ⟨_, rfl⟩
  obtain ⟨⟨m, z⟩, hMM⟩ : ∃ p, gBetween a c = p := ⟨_, rfl⟩
  have r1 : x = true → schemaMay a = true ∧ schemaMay b = true ∧ sAll a l = some b := by have := @between_run a b; rw [hL] at this; exact this
  have r2 : y = true → schemaMay b = true ∧ schemaMay c = true ∧ sAll b k = some c := by have := @between_run b c; rw [hK] at this; exact this
  have r3 : z = true → schemaMay a = true ∧ schemaMay c = true ∧ sAll a m = some c := by have := @between_run a c; rw [hMM] at this; exact this
  have r4 : z = false → m = [] := by have := @between_no a c; rw [hMM] at this; exact this
  have b1 := between_len a b
  have b2 := between_len b c
  have b3 := between_len a c
  rw [hL] at b1
  rw [hK] at b2
  rw [hMM] at b3
  simp only at b1 b2 b3
  simp only [tmps0, Nat.reduceAdd]
  refine CW.seq ?_
  refine CW.rg ?_
  refine CWops.run htt 4 (by simp only [go_sem, reduceIte, reduceCtorEq, reduceEqDiff, reduceAdd, reduceLT, reduceLeDiff, reduceToNat, eSchema]; exact rfl) (by simp [go_sem, reduceIte, reduceCtorEq, reduceEqDiff, reduceAdd, reduceLT, reduceLeDiff, reduceToNat, eSchema]) ?_
  refine CWops.done ?_
  refine CW.seq ?_
  refine CW.rg ?_
  refine CWops.callA (law13_awake up) (by simp only [go_sem, reduceIte, reduceCtorEq, reduceEqDiff, reduceAdd, reduceLT, reduceLeDiff, reduceToNat]) (by simp only [go_sem, reduceIte, reduceCtorEq, reduceEqDiff, reduceAdd, reduceLT, reduceLeDiff, reduceToNat]; first | done | exact rfl) (by simp only [go_sem, reduceIte, reduceCtorEq, reduceEqDiff, reduceAdd, reduceLT, reduceLeDiff, reduceToNat]) (by simp only [go_sem, reduceIte, reduceCtorEq, reduceEqDiff, reduceAdd, reduceLT, reduceLeDiff, reduceToNat]) (fun rt16 hrt16 => ?_)
  subst hrt16
  refine CWops.rn1 htt 1 ?_
  refine CWops.done ?_
  refine CW.seq ?_
  refine CW.rg ?_
  refine CWops.run htt 2 (by simp only [go_sem, reduceIte, reduceCtorEq, reduceEqDiff, reduceAdd, reduceLT, reduceLeDiff, reduceToNat, eSchema]; exact rfl) (by simp [go_sem, reduceIte, reduceCtorEq, reduceEqDiff, reduceAdd, reduceLT, reduceLeDiff, reduceToNat, eSchema]) ?_
  refine CWops.callA ((by have := grade_Between up a b; rw [hL] at this; exact this)) (by simp only [go_sem, reduceIte, reduceCtorEq, reduceEqDiff, reduceAdd, reduceLT, reduceLeDiff, reduceToNat, eSchema]) (by simp only [go_sem, reduceIte, reduceCtorEq, reduceEqDiff, reduceAdd, reduceLT, reduceLeDiff, reduceToNat, eSchema]; first | done | exact rfl) (by simp only [go_sem, reduceIte, reduceCtorEq, reduceEqDiff, reduceAdd, reduceLT, reduceLeDiff, reduceToNat, eSchema]) (by simp only [go_sem, reduceIte, reduceCtorEq, reduceEqDiff, reduceAdd, reduceLT, reduceLeDiff, reduceToNat, eSchema]) (fun rt20 hrt20 => ?_)
  subst hrt20
  refine CWops.run htt 5 (by simp only [go_sem, reduceIte, reduceCtorEq, reduceEqDiff, reduceAdd, reduceLT, reduceLeDiff, reduceToNat, eSchema]; exact rfl) (by simp [go_sem, reduceIte, reduceCtorEq, reduceEqDiff, reduceAdd, reduceLT, reduceLeDiff, reduceToNat, eSchema]) ?_
  refine CWops.done ?_
  refine CW.seq ?_
  refine CW.rg ?_
  refine CWops.run htt 2 (by simp only [go_sem, reduceIte, reduceCtorEq, reduceEqDiff, reduceAdd, reduceLT, reduceLeDiff, reduceToNat, eSchema]; exact rfl) (by simp [go_sem, reduceIte, reduceCtorEq, reduceEqDiff, reduceAdd, reduceLT, reduceLeDiff, reduceToNat, eSchema]) ?_
  refine CWops.callA ((by have := grade_Between up b c; rw [hK] at this; exact this)) (by simp only [go_sem, reduceIte, reduceCtorEq, reduceEqDiff, reduceAdd, reduceLT, reduceLeDiff, reduceToNat, eSchema]) (by simp only [go_sem, reduceIte, reduceCtorEq, reduceEqDiff, reduceAdd, reduceLT, reduceLeDiff, reduceToNat, eSchema]; first | done | exact rfl) (by simp only [go_sem, reduceIte, reduceCtorEq, reduceEqDiff, reduceAdd, reduceLT, reduceLeDiff, reduceToNat, eSchema]) (by simp only [go_sem, reduceIte, reduceCtorEq, reduceEqDiff, reduceAdd, reduceLT, reduceLeDiff, reduceToNat, eSchema]) (fun rt26 hrt26 => ?_)
  subst hrt26
  refine CWops.run htt 5 (by simp only [go_sem, reduceIte, reduceCtorEq, reduceEqDiff, reduceAdd, reduceLT, reduceLeDiff, reduceToNat, eSchema]; exact rfl) (by simp [go_sem, reduceIte, reduceCtorEq, reduceEqDiff, reduceAdd, reduceLT, reduceLeDiff, reduceToNat, eSchema]) ?_
  refine CWops.done ?_
  refine CW.seq ?_
  refine CW.rg ?_
  refine CWops.run htt 2 (by simp only [go_sem, reduceIte, reduceCtorEq, reduceEqDiff, reduceAdd, reduceLT, reduceLeDiff, reduceToNat, eSchema]; exact rfl) (by simp [go_sem, reduceIte, reduceCtorEq, reduceEqDiff, reduceAdd, reduceLT, reduceLeDiff, reduceToNat, eSchema]) ?_
  refine CWops.callA ((by have := grade_Between up a c; rw [hMM] at this; exact this)) (by simp only [go_sem, reduceIte, reduceCtorEq, reduceEqDiff, reduceAdd, reduceLT, reduceLeDiff, reduceToNat, eSchema]) (by simp only [go_sem, reduceIte, reduceCtorEq, reduceEqDiff, reduceAdd, reduceLT, reduceLeDiff, reduceToNat, eSchema]; first | done | exact rfl) (by simp only [go_sem, reduceIte, reduceCtorEq, reduceEqDiff, reduceAdd, reduceLT, reduceLeDiff, reduceToNat, eSchema]) (by simp only [go_sem, reduceIte, reduceCtorEq, reduceEqDiff, reduceAdd, reduceLT, reduceLeDiff, reduceToNat, eSchema]) (fun rt32 hrt32 => ?_)
  subst hrt32
  refine CWops.run htt 5 (by simp only [go_sem, reduceIte, reduceCtorEq, reduceEqDiff, reduceAdd, reduceLT, reduceLeDiff, reduceToNat, eSchema]; exact rfl) (by simp [go_sem, reduceIte, reduceCtorEq, reduceEqDiff, reduceAdd, reduceLT, reduceLeDiff, reduceToNat, eSchema]) ?_
  refine CWops.done ?_
  refine CW.seq ?_
  refine CW.cut ⟨3, [(3, .lv 0 [] 0), (4, .lv 1 [] 0), (5, .lv 2 [] 0), (7, .bool true), (8, .sl 5 (l.map eStep)), (10, .sl 5 (k.map eStep)), (12, .sl 5 (m.map eStep)), (13, .bool z), (44, .bool (!(x && y)))], [(0, ⟨true, eSchema a⟩), (1, ⟨true, eSchema b⟩), (2, ⟨true, eSchema c⟩)]⟩ ?_ ?_
  · refine CW.rg ?_
    refine CWops.rn1 htt 3 ?_
    all_goals (first | refine CWops.guard 37 (by simp only [go_sem, reduceIte, reduceCtorEq, reduceEqDiff, reduceAdd, reduceLT, reduceLeDiff, reduceToNat]; exact rfl) (fun g37 => ?_) (fun g37 => ?_) | skip)
    all_goals (refine CWops.rn1 htt 4 ?_)
    all_goals (first | refine CWops.guard 41 (by simp only [go_sem, reduceIte, reduceCtorEq, reduceEqDiff, reduceAdd, reduceLT, reduceLeDiff, reduceToNat]; exact rfl) (fun g41 => ?_) (fun g41 => ?_) | skip)
    all_goals (refine CWops.rn1 htt 3 ?_)
    all_goals (refine CWops.done ?_)
    all_goals (
      first | refine ⟨rfl, Sh.wk0 ?_⟩ | refine Sh.wk0 ?_
      simp_all [Wk, go_sem, reduceIte, reduceCtorEq, reduceEqDiff, reduceAdd, reduceLT, reduceLeDiff, reduceToNat, eSchema] <;> first | done | rfl | omega | (intro h; omega) | (rw [Bool.eq_iff_iff]; simp; done))
  refine CW.cond (by simp only [go_sem, reduceIte, reduceCtorEq, reduceEqDiff, reduceAdd, reduceLT, reduceLeDiff, reduceToNat]; first | done | exact rfl) (fun ct44 => ?_) (fun ct44 => ?_)
  · refine CW.seq ?_
    refine CW.rg ?_
    refine CWops.rn1 htt 2 ?_
    refine CWops.done ?_
    refine CW.ret ?_
    refine retQ.ret (by simp only [f5, go_sem, reduceIte, reduceCtorEq, reduceEqDiff, reduceAdd, reduceLT, reduceLeDiff, reduceToNat]; exact rfl) (by simp only [go_sem, reduceIte, reduceCtorEq, reduceEqDiff, reduceAdd, reduceLT, reduceLeDiff, reduceToNat]; exact rfl) ?_ -- ret1
    refine ⟨_, ?_, rfl⟩
    first | (simp [leP]; done) | (simp_all [leP]; done)
  · simp only [Bool.not_eq_false', Bool.and_eq_true] at ct44
    obtain ⟨hma, hmb, ra⟩ := r1 ct44.1
    obtain ⟨_, hmc, rb⟩ := r2 ct44.2
    have hone : sAll a (l ++ k) = some c := by rw [sAll_app, ra]; exact rb
    obtain ⟨d, htwo, hd⟩ : ∃ d, sAll a m = some d ∧ (z = true → d = c) := by
      cases hz : z with
      | true => exact ⟨c, (r3 hz).2.2, fun _ => rfl⟩
      | false => exact ⟨a, by rw [r4 hz]; rfl, fun h => by cases h⟩
    refine CW.skip ?_
    refine CW.cut ⟨4, [(3, .lv 0 [] 0), (5, .lv 2 [] 0), (12, .sl 5 (m.map eStep)), (13, .bool z), (14, .lv 3 [] 0)], [(0, ⟨true, eSchema a⟩), (1, ⟨true, eSchema b⟩), (2, ⟨true, eSchema c⟩), (3, ⟨true, eSchema c⟩)]⟩ ?_ ?_
    · refine CW.orders mixed (by kernel_rfl) (by kernel_rfl) (by kernel_rfl) (l := [[0, 1, 2, 3, 4, 5, 6, 7], [0, 1, 2, 3, 4, 6, 5, 7], [0, 1, 2, 3, 6, 4, 5, 7], [0, 1, 2, 6, 3, 4, 5, 7], [0, 1, 3, 2, 4, 5, 6, 7], [0, 1, 3, 2, 4, 6, 5, 7], [0, 1, 3, 2, 6, 4, 5, 7], [0, 1, 3, 6, 2, 4, 5, 7], [0, 1, 6, 2, 3, 4, 5, 7], [0, 1, 6, 3, 2, 4, 5, 7], [0, 3, 1, 2, 4, 5, 6, 7], [0, 3, 1, 2, 4, 6, 5, 7], [0, 3, 1, 2, 6, 4, 5, 7], [0, 3, 1, 6, 2, 4, 5, 7], [0, 3, 6, 1, 2, 4, 5, 7], [0, 6, 1, 2, 3, 4, 5, 7], [0, 6, 1, 3, 2, 4, 5, 7], [0, 6, 3, 1, 2, 4, 5, 7], [1, 0, 2, 3, 4, 5, 6, 7], [1, 0, 2, 3, 4, 6, 5, 7], [1, 0, 2, 3, 6, 4, 5, 7], [1, 0, 2, 6, 3, 4, 5, 7], [1, 0, 3, 2, 4, 5, 6, 7], [1, 0, 3, 2, 4, 6, 5, 7], [1, 0, 3, 2, 6, 4, 5, 7], [1, 0, 3, 6, 2, 4, 5, 7], [1, 0, 6, 2, 3, 4, 5, 7], [1, 0, 6, 3, 2, 4, 5, 7], [1, 2, 0, 3, 4, 5, 6, 7], [1, 2, 0, 3, 4, 6, 5, 7], [1, 2, 0, 3, 6, 4, 5, 7], [1, 2, 0, 6, 3, 4, 5, 7], [1, 2, 3, 0, 4, 5, 6, 7], [1, 2, 3, 0, 4, 6, 5, 7], [1, 2, 3, 0, 6, 4, 5, 7], [1, 2, 3, 4, 0, 5, 6, 7], [1, 2, 3, 4, 0, 6, 5, 7], [1, 2, 3, 4, 6, 0, 5, 7], [1, 2, 3, 6, 0, 4, 5, 7], [1, 2, 3, 6, 4, 0, 5, 7], [1, 2, 6, 0, 3, 4, 5, 7], [1, 2, 6, 3, 0, 4, 5, 7], [1, 2, 6, 3, 4, 0, 5, 7], [1, 3, 0, 2, 4, 5, 6, 7], [1, 3, 0, 2, 4, 6, 5, 7], [1, 3, 0, 2, 6, 4, 5, 7], [1, 3, 0, 6, 2, 4, 5, 7], [1, 3, 2, 0, 4, 5, 6, 7], [1, 3, 2, 0, 4, 6, 5, 7], [1, 3, 2, 0, 6, 4, 5, 7], [1, 3, 2, 4, 0, 5, 6, 7], [1, 3, 2, 4, 0, 6, 5, 7], [1, 3, 2, 4, 6, 0, 5, 7], [1, 3, 2, 6, 0, 4, 5, 7], [1, 3, 2, 6, 4, 0, 5, 7], [1, 3, 6, 0, 2, 4, 5, 7], [1, 3, 6, 2, 0, 4, 5, 7], [1, 3, 6, 2, 4, 0, 5, 7], [1, 6, 0, 2, 3, 4, 5, 7], [1, 6, 0, 3, 2, 4, 5, 7], [1, 6, 2, 0, 3, 4, 5, 7], [1, 6, 2, 3, 0, 4, 5, 7], [1, 6, 2, 3, 4, 0, 5, 7], [1, 6, 3, 0, 2, 4, 5, 7], [1, 6, 3, 2, 0, 4, 5, 7], [1, 6, 3, 2, 4, 0, 5, 7], [3, 0, 1, 2, 4, 5, 6, 7], [3, 0, 1, 2, 4, 6, 5, 7], [3, 0, 1, 2, 6, 4, 5, 7], [3, 0, 1, 6, 2, 4, 5, 7], [3, 0, 6, 1, 2, 4, 5, 7], [3, 1, 0, 2, 4, 5, 6, 7], [3, 1, 0, 2, 4, 6, 5, 7], [3, 1, 0, 2, 6, 4, 5, 7], [3, 1, 0, 6, 2, 4, 5, 7], [3, 1, 2, 0, 4, 5, 6, 7], [3, 1, 2, 0, 4, 6, 5, 7], [3, 1, 2, 0, 6, 4, 5, 7], [3, 1, 2, 4, 0, 5, 6, 7], [3, 1, 2, 4, 0, 6, 5, 7], [3, 1, 2, 4, 6, 0, 5, 7], [3, 1, 2, 6, 0, 4, 5, 7], [3, 1, 2, 6, 4, 0, 5, 7], [3, 1, 6, 0, 2, 4, 5, 7], [3, 1, 6, 2, 0, 4, 5, 7], [3, 1, 6, 2, 4, 0, 5, 7], [3, 6, 0, 1, 2, 4, 5, 7], [3, 6, 1, 0, 2, 4, 5, 7], [3, 6, 1, 2, 0, 4, 5, 7], [3, 6, 1, 2, 4, 0, 5, 7], [6, 0, 1, 2, 3, 4, 5, 7], [6, 0, 1, 3, 2, 4, 5, 7], [6, 0, 3, 1, 2, 4, 5, 7], [6, 1, 0, 2, 3, 4, 5, 7], [6, 1, 0, 3, 2, 4, 5, 7], [6, 1, 2, 0, 3, 4, 5, 7], [6, 1, 2, 3, 0, 4, 5, 7], [6, 1, 2, 3, 4, 0, 5, 7], [6, 1, 3, 0, 2, 4, 5, 7], [6, 1, 3, 2, 0, 4, 5, 7], [6, 1, 3, 2, 4, 0, 5, 7], [6, 3, 0, 1, 2, 4, 5, 7], [6, 3, 1, 0, 2, 4, 5, 7], [6, 3, 1, 2, 0, 4, 5, 7], [6, 3, 1, 2, 4, 0, 5, 7]]) (by kernel_rfl) ?_
      intro is his
      simp only [List.mem_cons, List.not_mem_nil, or_false] at his
      rcases his with rfl | rfl | rfl | rfl | rfl | rfl | rfl | rfl | rfl | rfl | rfl | rfl | rfl | rfl | rfl | rfl | rfl | rfl | rfl | rfl | rfl | rfl | rfl | rfl | rfl | rfl | rfl | rfl | rfl | rfl | rfl | rfl | rfl | rfl | rfl | rfl | rfl | rfl | rfl | rfl | rfl | rfl | rfl | rfl | rfl | rfl | rfl | rfl | rfl | rfl | rfl | rfl | rfl | rfl | rfl | rfl | rfl | rfl | rfl | rfl | rfl | rfl | rfl | rfl | rfl | rfl | rfl | rfl | rfl | rfl | rfl | rfl | rfl | rfl | rfl | rfl | rfl | rfl | rfl | rfl | rfl | rfl | rfl | rfl | rfl | rfl | rfl | rfl | rfl | rfl | rfl | rfl | rfl | rfl | rfl | rfl | rfl | rfl | rfl | rfl | rfl | rfl | rfl | rfl | rfl
      all_goals (refine CWops.run htt 8 (by simp only [List.map_cons, List.map_nil, nthO_zero, nthO_succ, go_sem, reduceIte, reduceCtorEq, reduceEqDiff, reduceAdd, reduceLT, reduceLeDiff, reduceToNat, eSchema]; exact rfl) (by simp [go_sem, reduceIte, reduceCtorEq, reduceEqDiff, reduceAdd, reduceLT, reduceLeDiff, reduceToNat, eSchema]; refine ⟨⟨?_, ?_, ?_⟩, ?_, ?_, ?_⟩ <;> first | (simp [eStep]; done) | (unfold MX; omega)) ?_)
      all_goals (first | refine CWops.sh (Sh.frzT 50 4 rfl rfl rfl) ?_ | refine CWops.sh (Sh.frzT 50 5 rfl rfl rfl) ?_ | refine CWops.sh (Sh.frzT 50 6 rfl rfl rfl) ?_)
      all_goals (simp only [go_sem, reduceIte, reduceCtorEq, reduceEqDiff, reduceAdd, reduceLT, reduceLeDiff, reduceToNat, ← List.map_append])
      all_goals (refine CWops.callA (law13_made up a (l ++ k) c hma hone (by simp; unfold MX; omega)) (by simp only [go_sem, reduceIte, reduceCtorEq, reduceEqDiff, reduceAdd, reduceLT, reduceLeDiff, reduceToNat, eSchema]) (by simp only [go_sem, reduceIte, reduceCtorEq, reduceEqDiff, reduceAdd, reduceLT, reduceLeDiff, reduceToNat, eSchema]; first | done | exact rfl) (by simp only [go_sem, reduceIte, reduceCtorEq, reduceEqDiff, reduceAdd, reduceLT, reduceLeDiff, reduceToNat, eSchema]) (by simp only [go_sem, reduceIte, reduceCtorEq, reduceEqDiff, reduceAdd, reduceLT, reduceLeDiff, reduceToNat, eSchema]) (fun r hr => ?_); subst hr)
      all_goals (refine CWops.run htt 8 (by simp only [go_sem, reduceIte, reduceCtorEq, reduceEqDiff, reduceAdd, reduceLT, reduceLeDiff, reduceToNat, eSchema]; exact rfl) (by simp [go_sem, reduceIte, reduceCtorEq, reduceEqDiff, reduceAdd, reduceLT, reduceLeDiff, reduceToNat, eSchema]) ?_)
      all_goals (refine CWops.done ?_)
      all_goals (first | (refine Sh.wk0 ?_; simp [Wk, go_sem, reduceIte, reduceCtorEq, reduceEqDiff, reduceAdd, reduceLT, reduceLeDiff, reduceToNat, eSchema]; done) | (refine Sh.wk (fun x => if x = 3 then 4 else x) ?_; simp [Wk, go_sem, reduceIte, reduceCtorEq, reduceEqDiff, reduceAdd, reduceLT, reduceLeDiff, reduceToNat, eSchema]; done) | (refine Sh.wk (fun x => if x = 3 then 5 else x) ?_; simp [Wk, go_sem, reduceIte, reduceCtorEq, reduceEqDiff, reduceAdd, reduceLT, reduceLeDiff, reduceToNat, eSchema]; done) | (refine Sh.wk (fun x => if x = 3 then 6 else x) ?_; simp [Wk, go_sem, reduceIte, reduceCtorEq, reduceEqDiff, reduceAdd, reduceLT, reduceLeDiff, reduceToNat, eSchema]; done))
    refine CW.seq ?_
    refine CW.rg ?_
    refine CWops.run htt 2 (by simp only [go_sem, reduceIte, reduceCtorEq, reduceEqDiff, reduceAdd, reduceLT, reduceLeDiff, reduceToNat, eSchema]; exact rfl) (by simp [go_sem, reduceIte, reduceCtorEq, reduceEqDiff, reduceAdd, reduceLT, reduceLeDiff, reduceToNat, eSchema]) ?_
    refine CWops.callA (law13_made up a m d hma htwo (by unfold MX; omega)) (by simp only [go_sem, reduceIte, reduceCtorEq, reduceEqDiff, reduceAdd, reduceLT, reduceLeDiff, reduceToNat, eSchema]) (by simp only [go_sem, reduceIte, reduceCtorEq, reduceEqDiff, reduceAdd, reduceLT, reduceLeDiff, reduceToNat, eSchema]; first | done | exact rfl) (by simp only [go_sem, reduceIte, reduceCtorEq, reduceEqDiff, reduceAdd, reduceLT, reduceLeDiff, reduceToNat, eSchema]) (by simp only [go_sem, reduceIte, reduceCtorEq, reduceEqDiff, reduceAdd, reduceLT, reduceLeDiff, reduceToNat, eSchema]) (fun rt54 hrt54 => ?_)
    subst hrt54
    refine CWops.run htt 2 (by simp only [go_sem, reduceIte, reduceCtorEq, reduceEqDiff, reduceAdd, reduceLT, reduceLeDiff, reduceToNat, eSchema]; exact rfl) (by simp [go_sem, reduceIte, reduceCtorEq, reduceEqDiff, reduceAdd, reduceLT, reduceLeDiff, reduceToNat, eSchema]) ?_
    refine CWops.done ?_
    refine CW.seq ?_
    refine CW.rg ?_
    refine CWops.run htt 2 (by simp only [go_sem, reduceIte, reduceCtorEq, reduceEqDiff, reduceAdd, reduceLT, reduceLeDiff, reduceToNat, eSchema]; exact rfl) (by simp [go_sem, reduceIte, reduceCtorEq, reduceEqDiff, reduceAdd, reduceLT, reduceLeDiff, reduceToNat, eSchema]) ?_
    refine CWops.call (schema_Same up c c) (by simp only [go_sem, reduceIte, reduceCtorEq, reduceEqDiff, reduceAdd, reduceLT, reduceLeDiff, reduceToNat, eSchema]) (by simp only [go_sem, reduceIte, reduceCtorEq, reduceEqDiff, reduceAdd, reduceLT, reduceLeDiff, reduceToNat, eSchema]; first | done | exact rfl) (by simp only [go_sem, reduceIte, reduceCtorEq, reduceEqDiff, reduceAdd, reduceLT, reduceLeDiff, reduceToNat, eSchema]) (fun rt57 hrt57 => ?_)
    subst hrt57; refine ⟨rfl, ?_⟩
    refine CWops.run htt 1 (by simp only [go_sem, reduceIte, reduceCtorEq, reduceEqDiff, reduceAdd, reduceLT, reduceLeDiff, reduceToNat, eSchema]; exact rfl) (by simp [go_sem, reduceIte, reduceCtorEq, reduceEqDiff, reduceAdd, reduceLT, reduceLeDiff, reduceToNat, eSchema]) ?_
    all_goals (first | refine CWops.guard 58 (by simp only [go_sem, reduceIte, reduceCtorEq, reduceEqDiff, reduceAdd, reduceLT, reduceLeDiff, reduceToNat, eSchema]; exact rfl) (fun g58 => ?_) (fun g58 => ?_) | skip)
    all_goals (first | (exfalso; simp at g58; done) | skip)
    all_goals (refine CWops.run htt 3 (by simp only [go_sem, reduceIte, reduceCtorEq, reduceEqDiff, reduceAdd, reduceLT, reduceLeDiff, reduceToNat, eSchema]; exact rfl) (by simp [go_sem, reduceIte, reduceCtorEq, reduceEqDiff, reduceAdd, reduceLT, reduceLeDiff, reduceToNat, eSchema]) ?_)
    all_goals (first | refine CWops.guard 61 (by simp only [go_sem, reduceIte, reduceCtorEq, reduceEqDiff, reduceAdd, reduceLT, reduceLeDiff, reduceToNat, eSchema]; exact rfl) (fun g61 => ?_) (fun g61 => ?_) | skip)
    all_goals (skip)
    all_goals (refine CWops.run htt 2 (by simp only [go_sem, reduceIte, reduceCtorEq, reduceEqDiff, reduceAdd, reduceLT, reduceLeDiff, reduceToNat, eSchema]; exact rfl) (by simp [go_sem, reduceIte, reduceCtorEq, reduceEqDiff, reduceAdd, reduceLT, reduceLeDiff, reduceToNat, eSchema]) ?_)
    all_goals (first | (refine CWops.skip ?_ ?_; next => (simp only [go_sem, reduceIte, reduceCtorEq, reduceEqDiff, reduceAdd, reduceLT, reduceLeDiff, reduceToNat]; done)) | (refine CWops.call (schema_Same up d c) (by simp only [go_sem, reduceIte, reduceCtorEq, reduceEqDiff, reduceAdd, reduceLT, reduceLeDiff, reduceToNat, eSchema]) (by simp only [go_sem, reduceIte, reduceCtorEq, reduceEqDiff, reduceAdd, reduceLT, reduceLeDiff, reduceToNat, eSchema]; first | done | exact rfl) (by simp only [go_sem, reduceIte, reduceCtorEq, reduceEqDiff, reduceAdd, reduceLT, reduceLeDiff, reduceToNat, eSchema]) (fun rt64 hrt64 => ?_); subst hrt64; refine ⟨rfl, ?_⟩))
    all_goals (refine CWops.run htt 3 (by simp only [go_sem, reduceIte, reduceCtorEq, reduceEqDiff, reduceAdd, reduceLT, reduceLeDiff, reduceToNat, eSchema]; exact rfl) (by simp [go_sem, reduceIte, reduceCtorEq, reduceEqDiff, reduceAdd, reduceLT, reduceLeDiff, reduceToNat, eSchema]) ?_)
    all_goals (refine CWops.done ?_)
    all_goals (
      refine CW.ret ?_
      refine retQ.ret (by simp only [f5, go_sem, reduceIte, reduceCtorEq, reduceEqDiff, reduceAdd, reduceLT, reduceLeDiff, reduceToNat]; exact rfl) (by simp only [go_sem, reduceIte, reduceCtorEq, reduceEqDiff, reduceAdd, reduceLT, reduceLeDiff, reduceToNat]; exact rfl) ?_ -- ret2
      refine ⟨_, ?_, rfl⟩
      first | (simp [leP]; done) | (simp_all [leP]; done))
end Go.Ab
