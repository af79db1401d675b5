/-
  What functions of the program answer: each by its contract. No condition but those of each theorem.
-/
import Derived.WalkKit
import Derived.Below
import Derived.Scope
import Derived.Test.YtfimpbledhfipaaGreatProg
import Derived.Orders
import Derived.Still
import Derived.Test.YtfimpbledhfipaaGreatFa
import Derived.Test.YtfimpbledhfipaaGreatFb
import Derived.Test.YtfimpbledhfipaaGreatFc
import Derived.Test.YtfimpbledhfipaaGreatFd
import Derived.Test.YtfimpbledhfipaaGreatFe
import Derived.Test.YtfimpbledhfipaaGreatFf
import Derived.Test.YtfimpbledhfipaaGreatDa
import Derived.Test.YtfimpbledhfipaaGreatVa
import Derived.Test.YtfimpbledhfipaaGreatVb
import Derived.Test.YtfimpbledhfipaaGreatVc
set_option linter.unusedVariables false
set_option linter.unusedSimpArgs false
namespace Go.Ab
open Go Go.Proofs.Tryz
set_option maxRecDepth 100000
set_option maxHeartbeats 6400000
set_option linter.unusedSimpArgs false
set_option linter.unusedVariables false
theorem ref08_SameT (up : Bool) (a : Graph) : PCall prog up 13 [.agg (eGraph a), .agg (eGraph a)] (· = .bool true) := by
  have := ref08_Same up a a
  rwa [decide_eq_true rfl] at this
theorem ref08_IntsT (up : Bool) (a : List Int) : PCall prog up 16 [.sl 1 (a.map eI), .sl 1 (a.map eI)] (· = .bool true) := by
  have := ref08_Ints up a a
  rwa [decide_eq_true rfl] at this
theorem law08_GraphTells (up : Bool) (g h : Graph) (a b : Int) (v : GVal) (hsm : smallS g.S) (hN : ∀ o ∈ g.O, ∀ v ∈ o.F, -9223372036854775808 ≤ v.N ∧ v.N < 9223372036854775808) (hNv : -9223372036854775808 ≤ v.N ∧ v.N < 9223372036854775808) : PCall prog up 3 [.agg (eGraph g), .agg (eGraph h), .int .i64 a, .int .i64 b, .agg (eVal v)] (· = .bool true) := by
  refine PCall.intro htt func3 (by kernel_rfl) rfl (Nat.le_of_ble_eq_true rfl) fun hl => ?_
  obtain ⟨⟨n1, n2, n3⟩, hA⟩ : ∃ p, gNew g b = p := ⟨_, rfl⟩
  obtain ⟨⟨s1, s2⟩, hS⟩ : ∃ p, gSet g a b v = p := ⟨_, rfl⟩
  obtain ⟨⟨r1, r2⟩, hR⟩ : ∃ p, gRoot g b a = p := ⟨_, rfl⟩
  simp only [tmps0, Nat.reduceAdd]
  refine CW.seq ?_
  refine CW.rg ?_
  refine CWops.run htt 4 (by simp only [go_sem, simprocAttr, eGraph, eVal]; exact rfl) (by simp [go_sem, simprocAttr, eGraph, eVal]) ?_
  refine CWops.done ?_
  refine CW.seq ?_
  refine CW.rg ?_
  refine CWops.callA (law08_awake up) (by simp only [go_sem, simprocAttr]) (by simp only [go_sem, simprocAttr]; first | done | exact rfl) (by simp only [go_sem, simprocAttr]) (by simp only [go_sem, simprocAttr]) (fun rt35 hrt35 => ?_)
  subst hrt35
  refine CWops.rn htt 1 ?_
  refine CWops.done ?_
  refine CW.seq ?_
  refine CW.rg ?_
  refine CWops.run htt 1 (by simp only [go_sem, simprocAttr, eGraph, eVal]; exact rfl) (by simp [go_sem, simprocAttr, eGraph, eVal]) ?_
  refine CWops.call (law08_Few up g) (by simp only [go_sem, simprocAttr, eGraph, eVal]) (by simp only [go_sem, simprocAttr, eGraph, eVal]; first | done | exact rfl) (by simp only [go_sem, simprocAttr, eGraph, eVal]) (fun rt37 hrt37 => ?_)
  subst hrt37; refine ⟨rfl, ?_⟩
  refine CWops.run htt 1 (by simp only [go_sem, simprocAttr, eGraph, eVal]; exact rfl) (by simp [go_sem, simprocAttr, eGraph, eVal]) ?_
  refine CWops.done ?_
  refine CW.seq ?_
  refine CW.rg ?_
  refine CWops.run htt 1 (by simp only [go_sem, simprocAttr, eGraph, eVal]; exact rfl) (by simp [go_sem, simprocAttr, eGraph, eVal]) ?_
  refine CWops.call (law08_Few up h) (by simp only [go_sem, simprocAttr, eGraph, eVal]) (by simp only [go_sem, simprocAttr, eGraph, eVal]; first | done | exact rfl) (by simp only [go_sem, simprocAttr, eGraph, eVal]) (fun rt39 hrt39 => ?_)
  subst hrt39; refine ⟨rfl, ?_⟩
  refine CWops.run htt 1 (by simp only [go_sem, simprocAttr, eGraph, eVal]; exact rfl) (by simp [go_sem, simprocAttr, eGraph, eVal]) ?_
  refine CWops.done ?_
  refine CW.seq ?_
  refine CW.cut ⟨3, [(2, .int .i64 a), (3, .int .i64 b), (5, .lv 0 [] 0), (6, .lv 1 [] 0), (9, .lv 2 [] 0), (10, .bool false), (11, .bool true), (49, .bool (!(fewG g && fewG h)))], [(0, ⟨true, eGraph g⟩), (1, ⟨true, eGraph h⟩), (2, ⟨true, eVal v⟩)]⟩ ?_ ?_
  · refine CW.rg ?_
    refine CWops.rn htt 3 ?_
    all_goals (first | refine CWops.guard 42 (by simp only [go_sem, simprocAttr]; exact rfl) (fun g42 => ?_) (fun g42 => ?_) | skip)
    all_goals (refine CWops.rn htt 4 ?_)
    all_goals (first | refine CWops.guard 46 (by simp only [go_sem, simprocAttr]; exact rfl) (fun g46 => ?_) (fun g46 => ?_) | skip)
    all_goals (refine CWops.rn htt 3 ?_)
    all_goals (refine CWops.done ?_)
    all_goals (
      first | refine ⟨rfl, Sh.wk0 ?_⟩ | refine Sh.wk0 ?_
      clear hl
      simp_all [Wk, go_sem, simprocAttr, eGraph, eVal] <;> first | done | rfl | omega | (intro h; omega) | (rw [Bool.eq_iff_iff]; simp; done) | (rw [Bool.eq_iff_iff]; simp; omega))
  refine CW.cond (by simp only [go_sem, simprocAttr]; first | done | exact rfl) (fun ct49 => ?_) (fun ct49 => ?_)
  · refine CW.seq ?_
    refine CW.rg ?_
    refine CWops.run htt 2 (by simp only [go_sem, simprocAttr, eGraph, eVal]; exact rfl) (by simp [go_sem, simprocAttr, eGraph, eVal]) ?_
    refine CWops.done ?_
    refine CW.ret ?_
    refine retQ.ret (by simp only [f3, go_sem, simprocAttr]; exact rfl) (by simp only [go_sem, simprocAttr]; exact rfl) ?_ -- ret1
    refine ⟨_, ?_, rfl⟩
    first | (simp [leP]; done) | (simp_all [leP]; done)
  · simp only [Bool.not_eq_false', Bool.and_eq_true] at ct49
    have hz := fewG_sz ct49.1
    refine CW.skip ?_
    refine CW.seq ?_
    refine CW.rg ?_
    refine CWops.run htt 2 (by simp only [go_sem, simprocAttr, eGraph, eVal]; exact rfl) (by simp [go_sem, simprocAttr, eGraph, eVal]) ?_
    refine CWops.callA ((by have := graph_New up g b hz; rw [hA] at this; exact this)) (by simp only [go_sem, simprocAttr, eGraph, eVal]) (by simp only [go_sem, simprocAttr, eGraph, eVal]; first | done | exact rfl) (by simp only [go_sem, simprocAttr, eGraph, eVal]) (by simp only [go_sem, simprocAttr, eGraph, eVal]) (fun rt54 hrt54 => ?_)
    subst hrt54
    refine CWops.run htt 8 (by simp only [go_sem, simprocAttr, eGraph, eVal]; exact rfl) (by simp [go_sem, simprocAttr, eGraph, eVal]) ?_
    refine CWops.done ?_
    refine CW.seq ?_
    refine CW.rg ?_
    refine CWops.run htt 2 (by simp only [go_sem, simprocAttr, eGraph, eVal]; exact rfl) (by simp [go_sem, simprocAttr, eGraph, eVal]) ?_
    refine CWops.callA ((by have := ref08_New up g b hsm hN; rw [hA] at this; exact this)) (by simp only [go_sem, simprocAttr, eGraph, eVal]) (by simp only [go_sem, simprocAttr, eGraph, eVal]; first | done | exact rfl) (by simp only [go_sem, simprocAttr, eGraph, eVal]) (by simp only [go_sem, simprocAttr, eGraph, eVal]) (fun rt61 hrt61 => ?_)
    subst hrt61
    refine CWops.run htt 8 (by simp only [go_sem, simprocAttr, eGraph, eVal]; exact rfl) (by simp [go_sem, simprocAttr, eGraph, eVal]) ?_
    refine CWops.done ?_
    refine CW.seq ?_
    refine CW.rg ?_
    refine CWops.run htt 4 (by simp only [go_sem, simprocAttr, eGraph, eVal]; exact rfl) (by simp [go_sem, simprocAttr, eGraph, eVal]) ?_
    refine CWops.callA ((by have := graph_Set up g a b v hz; rw [hS] at this; exact this)) (by simp only [go_sem, simprocAttr, eGraph, eVal]) (by simp only [go_sem, simprocAttr, eGraph, eVal]; first | done | exact rfl) (by simp only [go_sem, simprocAttr, eGraph, eVal]) (by simp only [go_sem, simprocAttr, eGraph, eVal]) (fun rt70 hrt70 => ?_)
    subst hrt70
    refine CWops.run htt 6 (by simp only [go_sem, simprocAttr, eGraph, eVal]; exact rfl) (by simp [go_sem, simprocAttr, eGraph, eVal]) ?_
    refine CWops.done ?_
    refine CW.seq ?_
    refine CW.rg ?_
    refine CWops.run htt 4 (by simp only [go_sem, simprocAttr, eGraph, eVal]; exact rfl) (by simp [go_sem, simprocAttr, eGraph, eVal]) ?_
    refine CWops.callA ((by have := ref08_Set up g a b v hsm hN hNv; rw [hS] at this; exact this)) (by simp only [go_sem, simprocAttr, eGraph, eVal]) (by simp only [go_sem, simprocAttr, eGraph, eVal]; first | done | exact rfl) (by simp only [go_sem, simprocAttr, eGraph, eVal]) (by simp only [go_sem, simprocAttr, eGraph, eVal]) (fun rt78 hrt78 => ?_)
    subst hrt78
    refine CWops.run htt 6 (by simp only [go_sem, simprocAttr, eGraph, eVal]; exact rfl) (by simp [go_sem, simprocAttr, eGraph, eVal]) ?_
    refine CWops.done ?_
    refine CW.seq ?_
    refine CW.rg ?_
    refine CWops.run htt 3 (by simp only [go_sem, simprocAttr, eGraph, eVal]; exact rfl) (by simp [go_sem, simprocAttr, eGraph, eVal]) ?_
    refine CWops.callA ((by have := graph_Root up g b a hz; rw [hR] at this; exact this)) (by simp only [go_sem, simprocAttr, eGraph, eVal]) (by simp only [go_sem, simprocAttr, eGraph, eVal]; first | done | exact rfl) (by simp only [go_sem, simprocAttr, eGraph, eVal]) (by simp only [go_sem, simprocAttr, eGraph, eVal]) (fun rt85 hrt85 => ?_)
    subst hrt85
    refine CWops.run htt 6 (by simp only [go_sem, simprocAttr, eGraph, eVal]; exact rfl) (by simp [go_sem, simprocAttr, eGraph, eVal]) ?_
    refine CWops.done ?_
    refine CW.seq ?_
    refine CW.rg ?_
    refine CWops.run htt 3 (by simp only [go_sem, simprocAttr, eGraph, eVal]; exact rfl) (by simp [go_sem, simprocAttr, eGraph, eVal]) ?_
    refine CWops.callA ((by have := ref08_Root up g b a hsm hN; rw [hR] at this; exact this)) (by simp only [go_sem, simprocAttr, eGraph, eVal]) (by simp only [go_sem, simprocAttr, eGraph, eVal]; first | done | exact rfl) (by simp only [go_sem, simprocAttr, eGraph, eVal]) (by simp only [go_sem, simprocAttr, eGraph, eVal]) (fun rt92 hrt92 => ?_)
    subst hrt92
    refine CWops.run htt 6 (by simp only [go_sem, simprocAttr, eGraph, eVal]; exact rfl) (by simp [go_sem, simprocAttr, eGraph, eVal]) ?_
    refine CWops.done ?_
    refine CW.seq ?_
    refine CW.rg ?_
    refine CWops.run htt 2 (by simp only [go_sem, simprocAttr, eGraph, eVal]; exact rfl) (by simp [go_sem, simprocAttr, eGraph, eVal]) ?_
    refine CWops.call (ref08_SameT up n1) (by simp only [go_sem, simprocAttr, eGraph, eVal]) (by simp only [go_sem, simprocAttr, eGraph, eVal]; first | done | exact rfl) (by simp only [go_sem, simprocAttr, eGraph, eVal]) (fun rt97 hrt97 => ?_)
    subst hrt97; refine ⟨rfl, ?_⟩
    refine CWops.run htt 1 (by simp only [go_sem, simprocAttr, eGraph, eVal]; exact rfl) (by simp [go_sem, simprocAttr, eGraph, eVal]) ?_
    refine CWops.done ?_
    refine CW.seq ?_
    refine CW.rg ?_
    refine CWops.run htt 2 (by simp only [go_sem, simprocAttr, eGraph, eVal]; exact rfl) (by simp [go_sem, simprocAttr, eGraph, eVal]) ?_
    refine CWops.call (ref08_SameT up s1) (by simp only [go_sem, simprocAttr, eGraph, eVal]) (by simp only [go_sem, simprocAttr, eGraph, eVal]; first | done | exact rfl) (by simp only [go_sem, simprocAttr, eGraph, eVal]) (fun rt100 hrt100 => ?_)
    subst hrt100; refine ⟨rfl, ?_⟩
    refine CWops.run htt 1 (by simp only [go_sem, simprocAttr, eGraph, eVal]; exact rfl) (by simp [go_sem, simprocAttr, eGraph, eVal]) ?_
    refine CWops.done ?_
    refine CW.cut ⟨3, [(2, .int .i64 a), (3, .int .i64 b), (5, .lv 0 [] 0), (6, .lv 1 [] 0), (9, .lv 2 [] 0), (15, .int .i64 n2), (16, .int .i64 n3), (18, .int .i64 n2), (19, .int .i64 n3), (21, .int .i64 s2), (23, .int .i64 s2), (25, .int .i64 r2), (27, .int .i64 r2), (28, .bool true), (29, .bool true), (30, .bool true)], [(0, ⟨true, eGraph g⟩), (1, ⟨true, eGraph h⟩), (2, ⟨true, eVal v⟩)]⟩ ?_ ?_
    · refine CW.rg ?_
      refine CWops.run htt 2 (by simp only [go_sem, simprocAttr, eGraph, eVal]; exact rfl) (by simp [go_sem, simprocAttr, eGraph, eVal]) ?_
      refine CWops.call (ref08_SameT up r1) (by simp only [go_sem, simprocAttr, eGraph, eVal]) (by simp only [go_sem, simprocAttr, eGraph, eVal]; first | done | exact rfl) (by simp only [go_sem, simprocAttr, eGraph, eVal]) (fun rt103 hrt103 => ?_)
      subst hrt103; refine ⟨rfl, ?_⟩
      refine CWops.run htt 1 (by simp only [go_sem, simprocAttr, eGraph, eVal]; exact rfl) (by simp [go_sem, simprocAttr, eGraph, eVal]) ?_
      refine CWops.done ?_
      first | refine ⟨rfl, Sh.wk0 ?_⟩ | refine Sh.wk0 ?_
      simp [Wk, go_sem, simprocAttr, eGraph, eVal]
    refine CW.seq ?_
    refine CW.waves mixed (by kernel_rfl) (by kernel_rfl) (by kernel_rfl) [[[0, 1, 2, 3, 4, 5], [0, 2, 1, 3, 4, 5], [2, 0, 1, 3, 4, 5]]] (by kernel_rfl) ?_
    refine Wave.cons ⟨3, [(2, .int .i64 a), (3, .int .i64 b), (5, .lv 0 [] 0), (6, .lv 1 [] 0), (9, .lv 2 [] 0), (15, .int .i64 n2), (16, .int .i64 n3), (18, .int .i64 n2), (19, .int .i64 n3), (21, .int .i64 s2), (23, .int .i64 s2), (25, .int .i64 r2), (27, .int .i64 r2), (28, .bool true), (29, .bool true), (30, .bool true), (31, .bool true)], [(0, ⟨true, eGraph g⟩), (1, ⟨true, eGraph h⟩), (2, ⟨true, eVal v⟩)]⟩ (fun is his => ?_) ?_
    · simp only [List.mem_cons, List.not_mem_nil, or_false] at his
      rcases his with rfl | rfl | rfl
      all_goals (first | (refine CWops.run htt 1 (by simp only [List.map_cons, List.map_nil, nthO_zero, nthO_succ, go_sem, simprocAttr, eGraph, eVal]; exact rfl) (by simp) ?_; refine CWops.callA (graph_Sweep up g) (by simp only [go_sem, simprocAttr, eGraph, eVal]) (by simp only [go_sem, simprocAttr, eGraph, eVal]; first | done | exact rfl) (by simp only [go_sem, simprocAttr, eGraph, eVal]) (by simp only [go_sem, simprocAttr, eGraph, eVal]) (fun r9 hr9 => ?_); subst hr9) | (refine CWops.run htt 2 (by simp only [List.map_cons, List.map_nil, nthO_zero, nthO_succ, go_sem, simprocAttr, eGraph, eVal]; exact rfl) (by simp) ?_; refine CWops.callA (graph_Sweep up g) (by simp only [go_sem, simprocAttr, eGraph, eVal]) (by simp only [go_sem, simprocAttr, eGraph, eVal]; first | done | exact rfl) (by simp only [go_sem, simprocAttr, eGraph, eVal]) (by simp only [go_sem, simprocAttr, eGraph, eVal]) (fun r9 hr9 => ?_); subst hr9))
      all_goals (first | (refine CWops.callA (ref08_Sweep up g hsm hN) (by simp only [go_sem, simprocAttr, eGraph, eVal]) (by simp only [go_sem, simprocAttr, eGraph, eVal]; first | done | exact rfl) (by simp only [go_sem, simprocAttr, eGraph, eVal]) (by simp only [go_sem, simprocAttr, eGraph, eVal]) (fun r9 hr9 => ?_); subst hr9) | (refine CWops.run htt 1 (by simp only [List.map_cons, List.map_nil, nthO_zero, nthO_succ, go_sem, simprocAttr, eGraph, eVal]; exact rfl) (by simp) ?_; refine CWops.callA (ref08_Sweep up g hsm hN) (by simp only [go_sem, simprocAttr, eGraph, eVal]) (by simp only [go_sem, simprocAttr, eGraph, eVal]; first | done | exact rfl) (by simp only [go_sem, simprocAttr, eGraph, eVal]) (by simp only [go_sem, simprocAttr, eGraph, eVal]) (fun r9 hr9 => ?_); subst hr9))
      all_goals (first | (refine CWops.call (ref08_SameT up (gSweep g)) (by simp only [go_sem, simprocAttr, eGraph, eVal]) (by simp only [go_sem, simprocAttr, eGraph, eVal]; first | done | exact rfl) (by simp only [go_sem, simprocAttr, eGraph, eVal]) (fun r9 hr9 => ?_); subst hr9; refine ⟨rfl, ?_⟩))
      all_goals (first | (refine CWops.run htt 1 (by simp only [List.map_cons, List.map_nil, nthO_zero, nthO_succ, go_sem, simprocAttr, eGraph, eVal]; exact rfl) (by simp) ?_; refine CWops.done ?_))
      all_goals (refine Sh.wk0 ?_; simp [Wk, go_sem, simprocAttr, eGraph, eVal])
    refine Wave.done ?_
    refine CW.seq ?_
    refine CW.waves mixed (by kernel_rfl) (by kernel_rfl) (by kernel_rfl) [[[0, 1, 2, 3, 4, 5], [0, 2, 1, 3, 4, 5], [2, 0, 1, 3, 4, 5]]] (by kernel_rfl) ?_
    refine Wave.cons ⟨3, [(2, .int .i64 a), (3, .int .i64 b), (5, .lv 0 [] 0), (6, .lv 1 [] 0), (9, .lv 2 [] 0), (15, .int .i64 n2), (16, .int .i64 n3), (18, .int .i64 n2), (19, .int .i64 n3), (21, .int .i64 s2), (23, .int .i64 s2), (25, .int .i64 r2), (27, .int .i64 r2), (28, .bool true), (29, .bool true), (30, .bool true), (31, .bool true), (32, .bool true)], [(0, ⟨true, eGraph g⟩), (1, ⟨true, eGraph h⟩), (2, ⟨true, eVal v⟩)]⟩ (fun is his => ?_) ?_
    · simp only [List.mem_cons, List.not_mem_nil, or_false] at his
      rcases his with rfl | rfl | rfl
      all_goals (first | (refine CWops.run htt 1 (by simp only [List.map_cons, List.map_nil, nthO_zero, nthO_succ, go_sem, simprocAttr, eGraph, eVal]; exact rfl) (by simp) ?_; refine CWops.callA (graph_Reach up g) (by simp only [go_sem, simprocAttr, eGraph, eVal]) (by simp only [go_sem, simprocAttr, eGraph, eVal]; first | done | exact rfl) (by simp only [go_sem, simprocAttr, eGraph, eVal]) (by simp only [go_sem, simprocAttr, eGraph, eVal]) (fun r9 hr9 => ?_); subst hr9) | (refine CWops.run htt 2 (by simp only [List.map_cons, List.map_nil, nthO_zero, nthO_succ, go_sem, simprocAttr, eGraph, eVal]; exact rfl) (by simp) ?_; refine CWops.callA (graph_Reach up g) (by simp only [go_sem, simprocAttr, eGraph, eVal]) (by simp only [go_sem, simprocAttr, eGraph, eVal]; first | done | exact rfl) (by simp only [go_sem, simprocAttr, eGraph, eVal]) (by simp only [go_sem, simprocAttr, eGraph, eVal]) (fun r9 hr9 => ?_); subst hr9))
      all_goals (first | (refine CWops.callA (ref08_Reach up g hsm hN) (by simp only [go_sem, simprocAttr, eGraph, eVal]) (by simp only [go_sem, simprocAttr, eGraph, eVal]; first | done | exact rfl) (by simp only [go_sem, simprocAttr, eGraph, eVal]) (by simp only [go_sem, simprocAttr, eGraph, eVal]) (fun r9 hr9 => ?_); subst hr9) | (refine CWops.run htt 1 (by simp only [List.map_cons, List.map_nil, nthO_zero, nthO_succ, go_sem, simprocAttr, eGraph, eVal]; exact rfl) (by simp) ?_; refine CWops.callA (ref08_Reach up g hsm hN) (by simp only [go_sem, simprocAttr, eGraph, eVal]) (by simp only [go_sem, simprocAttr, eGraph, eVal]; first | done | exact rfl) (by simp only [go_sem, simprocAttr, eGraph, eVal]) (by simp only [go_sem, simprocAttr, eGraph, eVal]) (fun r9 hr9 => ?_); subst hr9))
      all_goals (first | (refine CWops.call (ref08_IntsT up (gReach g)) (by simp only [go_sem, simprocAttr, eGraph, eVal]) (by simp only [go_sem, simprocAttr, eGraph, eVal]; first | done | exact rfl) (by simp only [go_sem, simprocAttr, eGraph, eVal]) (fun r9 hr9 => ?_); subst hr9; refine ⟨rfl, ?_⟩))
      all_goals (first | (refine CWops.run htt 1 (by simp only [List.map_cons, List.map_nil, nthO_zero, nthO_succ, go_sem, simprocAttr, eGraph, eVal]; exact rfl) (by simp) ?_; refine CWops.done ?_))
      all_goals (refine Sh.wk0 ?_; simp [Wk, go_sem, simprocAttr, eGraph, eVal])
    refine Wave.done ?_
    refine CW.seq ?_
    refine CW.rg ?_
    refine CWops.run htt 1 (by simp only [go_sem, simprocAttr, eGraph, eVal]; exact rfl) (by simp [go_sem, simprocAttr, eGraph, eVal]) ?_
    refine CWops.call (ref08_May up g hsm hN) (by simp only [go_sem, simprocAttr, eGraph, eVal]) (by simp only [go_sem, simprocAttr, eGraph, eVal]; first | done | exact rfl) (by simp only [go_sem, simprocAttr, eGraph, eVal]) (fun rt115 hrt115 => ?_)
    subst hrt115; refine ⟨rfl, ?_⟩
    refine CWops.run htt 1 (by simp only [go_sem, simprocAttr, eGraph, eVal]; exact rfl) (by simp [go_sem, simprocAttr, eGraph, eVal]) ?_
    refine CWops.done ?_
    refine CW.cut ⟨3, [(2, .int .i64 a), (3, .int .i64 b), (5, .lv 0 [] 0), (6, .lv 1 [] 0), (9, .lv 2 [] 0), (15, .int .i64 n2), (16, .int .i64 n3), (18, .int .i64 n2), (19, .int .i64 n3), (21, .int .i64 s2), (23, .int .i64 s2), (25, .int .i64 r2), (27, .int .i64 r2), (28, .bool true), (29, .bool true), (30, .bool true), (31, .bool true), (32, .bool true), (33, .bool (gMay g)), (34, .bool (decide (g = h)))], [(0, ⟨true, eGraph g⟩), (1, ⟨true, eGraph h⟩), (2, ⟨true, eVal v⟩)]⟩ ?_ ?_
    · refine CW.rg ?_
      refine CWops.run htt 2 (by simp only [go_sem, simprocAttr, eGraph, eVal]; exact rfl) (by simp [go_sem, simprocAttr, eGraph, eVal]) ?_
      refine CWops.call (ref08_Same up g h) (by simp only [go_sem, simprocAttr, eGraph, eVal]) (by simp only [go_sem, simprocAttr, eGraph, eVal]; first | done | exact rfl) (by simp only [go_sem, simprocAttr, eGraph, eVal]) (fun rt118 hrt118 => ?_)
      subst hrt118; refine ⟨rfl, ?_⟩
      refine CWops.run htt 1 (by simp only [go_sem, simprocAttr, eGraph, eVal]; exact rfl) (by simp [go_sem, simprocAttr, eGraph, eVal]) ?_
      refine CWops.done ?_
      first | refine ⟨rfl, Sh.wk0 ?_⟩ | refine Sh.wk0 ?_
      simp [Wk, go_sem, simprocAttr, eGraph, eVal]
    refine CW.seq ?_
    refine CW.waves mixed (by kernel_rfl) (by kernel_rfl) (by kernel_rfl) [[[0, 1, 2, 3, 4, 5, 6, 7, 8, 9, 10, 11, 12]], [[13, 14, 15, 16, 17], [13, 15, 14, 16, 17]], [[18, 19, 20, 21, 22], [18, 20, 19, 21, 22]], [[23, 24, 25, 26, 27], [23, 25, 24, 26, 27]], [[28, 29, 30, 31, 32], [28, 30, 29, 31, 32]], [[33, 34, 35, 36, 37, 38], [33, 34, 36, 35, 37, 38], [33, 36, 34, 35, 37, 38]], [[39, 40, 41, 42, 43, 44, 45], [39, 40, 41, 43, 42, 44, 45], [39, 40, 43, 41, 42, 44, 45], [39, 41, 40, 42, 43, 44, 45], [39, 41, 40, 43, 42, 44, 45], [39, 41, 43, 40, 42, 44, 45], [39, 43, 40, 41, 42, 44, 45], [39, 43, 41, 40, 42, 44, 45]], [[46, 47, 48, 49, 50, 51, 52, 53, 54, 55], [46, 47, 48, 49, 51, 50, 52, 53, 54, 55], [46, 47, 48, 50, 49, 51, 52, 53, 54, 55], [46, 47, 48, 50, 51, 49, 52, 53, 54, 55], [46, 47, 48, 51, 49, 50, 52, 53, 54, 55], [46, 47, 48, 51, 50, 49, 52, 53, 54, 55], [46, 47, 50, 48, 49, 51, 52, 53, 54, 55], [46, 47, 50, 48, 51, 49, 52, 53, 54, 55], [46, 47, 50, 51, 48, 49, 52, 53, 54, 55], [46, 47, 51, 48, 49, 50, 52, 53, 54, 55], [46, 47, 51, 48, 50, 49, 52, 53, 54, 55], [46, 47, 51, 50, 48, 49, 52, 53, 54, 55], [46, 48, 47, 49, 50, 51, 52, 53, 54, 55], [46, 48, 47, 49, 51, 50, 52, 53, 54, 55], [46, 48, 47, 50, 49, 51, 52, 53, 54, 55], [46, 48, 47, 50, 51, 49, 52, 53, 54, 55], [46, 48, 47, 51, 49, 50, 52, 53, 54, 55], [46, 48, 47, 51, 50, 49, 52, 53, 54, 55], [46, 48, 50, 47, 49, 51, 52, 53, 54, 55], [46, 48, 50, 47, 51, 49, 52, 53, 54, 55], [46, 48, 50, 51, 47, 49, 52, 53, 54, 55], [46, 48, 51, 47, 49, 50, 52, 53, 54, 55], [46, 48, 51, 47, 50, 49, 52, 53, 54, 55], [46, 48, 51, 50, 47, 49, 52, 53, 54, 55], [46, 50, 47, 48, 49, 51, 52, 53, 54, 55], [46, 50, 47, 48, 51, 49, 52, 53, 54, 55], [46, 50, 47, 51, 48, 49, 52, 53, 54, 55], [46, 50, 48, 47, 49, 51, 52, 53, 54, 55], [46, 50, 48, 47, 51, 49, 52, 53, 54, 55], [46, 50, 48, 51, 47, 49, 52, 53, 54, 55], [46, 50, 51, 47, 48, 49, 52, 53, 54, 55], [46, 50, 51, 48, 47, 49, 52, 53, 54, 55], [46, 51, 47, 48, 49, 50, 52, 53, 54, 55], [46, 51, 47, 48, 50, 49, 52, 53, 54, 55], [46, 51, 47, 50, 48, 49, 52, 53, 54, 55], [46, 51, 48, 47, 49, 50, 52, 53, 54, 55], [46, 51, 48, 47, 50, 49, 52, 53, 54, 55], [46, 51, 48, 50, 47, 49, 52, 53, 54, 55], [46, 51, 50, 47, 48, 49, 52, 53, 54, 55], [46, 51, 50, 48, 47, 49, 52, 53, 54, 55]]] (by kernel_rfl) ?_
    refine Wave.cons ⟨3, [(2, .int .i64 a), (3, .int .i64 b), (5, .lv 0 [] 0), (6, .lv 1 [] 0), (9, .lv 2 [] 0), (15, .int .i64 n2), (16, .int .i64 n3), (18, .int .i64 n2), (19, .int .i64 n3), (21, .int .i64 s2), (23, .int .i64 s2), (25, .int .i64 r2), (27, .int .i64 r2), (28, .bool true), (29, .bool true), (30, .bool true), (31, .bool true), (32, .bool true), (33, .bool (gMay g)), (34, .bool (decide (g = h))), (131, .bool true)], [(0, ⟨true, eGraph g⟩), (1, ⟨true, eGraph h⟩), (2, ⟨true, eVal v⟩)]⟩ (fun is his => ?_) ?_
    · simp only [List.mem_cons, List.not_mem_nil, or_false] at his
      rcases his with rfl
      all_goals (first | (refine CWops.run htt 13 (by simp only [List.map_cons, List.map_nil, nthO_zero, nthO_succ, go_sem, simprocAttr, eGraph, eVal]; exact rfl) (by simp) ?_; refine CWops.done ?_))
      all_goals (refine Sh.wk0 ?_; simp [Wk, go_sem, simprocAttr, eGraph, eVal])
    refine Wave.cons ⟨3, [(2, .int .i64 a), (3, .int .i64 b), (5, .lv 0 [] 0), (6, .lv 1 [] 0), (9, .lv 2 [] 0), (15, .int .i64 n2), (16, .int .i64 n3), (18, .int .i64 n2), (19, .int .i64 n3), (21, .int .i64 s2), (23, .int .i64 s2), (25, .int .i64 r2), (27, .int .i64 r2), (28, .bool true), (29, .bool true), (30, .bool true), (31, .bool true), (32, .bool true), (33, .bool (gMay g)), (34, .bool (decide (g = h))), (136, .bool true)], [(0, ⟨true, eGraph g⟩), (1, ⟨true, eGraph h⟩), (2, ⟨true, eVal v⟩)]⟩ (fun is his => ?_) ?_
    · simp only [List.mem_cons, List.not_mem_nil, or_false] at his
      rcases his with rfl | rfl
      all_goals (first | (refine CWops.run htt 5 (by simp only [List.map_cons, List.map_nil, nthO_zero, nthO_succ, go_sem, simprocAttr, eGraph, eVal]; exact rfl) (by simp) ?_; refine CWops.done ?_))
      all_goals (refine Sh.wk0 ?_; simp [Wk, go_sem, simprocAttr, eGraph, eVal])
    refine Wave.cons ⟨3, [(2, .int .i64 a), (3, .int .i64 b), (5, .lv 0 [] 0), (6, .lv 1 [] 0), (9, .lv 2 [] 0), (15, .int .i64 n2), (16, .int .i64 n3), (18, .int .i64 n2), (19, .int .i64 n3), (21, .int .i64 s2), (23, .int .i64 s2), (25, .int .i64 r2), (27, .int .i64 r2), (28, .bool true), (29, .bool true), (30, .bool true), (31, .bool true), (32, .bool true), (33, .bool (gMay g)), (34, .bool (decide (g = h))), (141, .bool true)], [(0, ⟨true, eGraph g⟩), (1, ⟨true, eGraph h⟩), (2, ⟨true, eVal v⟩)]⟩ (fun is his => ?_) ?_
    · simp only [List.mem_cons, List.not_mem_nil, or_false] at his
      rcases his with rfl | rfl
      all_goals (first | (refine CWops.run htt 5 (by simp only [List.map_cons, List.map_nil, nthO_zero, nthO_succ, go_sem, simprocAttr, eGraph, eVal]; exact rfl) (by simp) ?_; refine CWops.done ?_))
      all_goals (refine Sh.wk0 ?_; simp [Wk, go_sem, simprocAttr, eGraph, eVal])
    refine Wave.cons ⟨3, [(2, .int .i64 a), (3, .int .i64 b), (5, .lv 0 [] 0), (6, .lv 1 [] 0), (9, .lv 2 [] 0), (15, .int .i64 n2), (16, .int .i64 n3), (18, .int .i64 n2), (19, .int .i64 n3), (21, .int .i64 s2), (23, .int .i64 s2), (25, .int .i64 r2), (27, .int .i64 r2), (28, .bool true), (29, .bool true), (30, .bool true), (31, .bool true), (32, .bool true), (33, .bool (gMay g)), (34, .bool (decide (g = h))), (146, .bool true)], [(0, ⟨true, eGraph g⟩), (1, ⟨true, eGraph h⟩), (2, ⟨true, eVal v⟩)]⟩ (fun is his => ?_) ?_
    · simp only [List.mem_cons, List.not_mem_nil, or_false] at his
      rcases his with rfl | rfl
      all_goals (first | (refine CWops.run htt 5 (by simp only [List.map_cons, List.map_nil, nthO_zero, nthO_succ, go_sem, simprocAttr, eGraph, eVal]; exact rfl) (by simp) ?_; refine CWops.done ?_))
      all_goals (refine Sh.wk0 ?_; simp [Wk, go_sem, simprocAttr, eGraph, eVal])
    refine Wave.cons ⟨3, [(2, .int .i64 a), (3, .int .i64 b), (5, .lv 0 [] 0), (6, .lv 1 [] 0), (9, .lv 2 [] 0), (15, .int .i64 n2), (16, .int .i64 n3), (18, .int .i64 n2), (19, .int .i64 n3), (21, .int .i64 s2), (23, .int .i64 s2), (25, .int .i64 r2), (27, .int .i64 r2), (28, .bool true), (29, .bool true), (30, .bool true), (31, .bool true), (32, .bool true), (33, .bool (gMay g)), (34, .bool (decide (g = h))), (151, .bool true)], [(0, ⟨true, eGraph g⟩), (1, ⟨true, eGraph h⟩), (2, ⟨true, eVal v⟩)]⟩ (fun is his => ?_) ?_
    · simp only [List.mem_cons, List.not_mem_nil, or_false] at his
      rcases his with rfl | rfl
      all_goals (first | (refine CWops.run htt 5 (by simp only [List.map_cons, List.map_nil, nthO_zero, nthO_succ, go_sem, simprocAttr, eGraph, eVal]; exact rfl) (by simp) ?_; refine CWops.done ?_))
      all_goals (refine Sh.wk0 ?_; simp [Wk, go_sem, simprocAttr, eGraph, eVal])
    refine Wave.cons ⟨3, [(2, .int .i64 a), (3, .int .i64 b), (5, .lv 0 [] 0), (6, .lv 1 [] 0), (9, .lv 2 [] 0), (15, .int .i64 n2), (16, .int .i64 n3), (18, .int .i64 n2), (19, .int .i64 n3), (21, .int .i64 s2), (23, .int .i64 s2), (25, .int .i64 r2), (27, .int .i64 r2), (28, .bool true), (29, .bool true), (30, .bool true), (31, .bool true), (32, .bool true), (33, .bool (gMay g)), (34, .bool (decide (g = h))), (157, .bool true)], [(0, ⟨true, eGraph g⟩), (1, ⟨true, eGraph h⟩), (2, ⟨true, eVal v⟩)]⟩ (fun is his => ?_) ?_
    · simp only [List.mem_cons, List.not_mem_nil, or_false] at his
      rcases his with rfl | rfl | rfl
      all_goals (first | (refine CWops.run htt 2 (by simp only [List.map_cons, List.map_nil, nthO_zero, nthO_succ, go_sem, simprocAttr, eGraph, eVal]; exact rfl) (by simp) ?_; refine CWops.call (graph_May up g) (by simp only [go_sem, simprocAttr, eGraph, eVal]) (by simp only [go_sem, simprocAttr, eGraph, eVal]; first | done | exact rfl) (by simp only [go_sem, simprocAttr, eGraph, eVal]) (fun r9 hr9 => ?_); subst hr9; refine ⟨rfl, ?_⟩) | (refine CWops.run htt 3 (by simp only [List.map_cons, List.map_nil, nthO_zero, nthO_succ, go_sem, simprocAttr, eGraph, eVal]; exact rfl) (by simp) ?_; refine CWops.call (graph_May up g) (by simp only [go_sem, simprocAttr, eGraph, eVal]) (by simp only [go_sem, simprocAttr, eGraph, eVal]; first | done | exact rfl) (by simp only [go_sem, simprocAttr, eGraph, eVal]) (fun r9 hr9 => ?_); subst hr9; refine ⟨rfl, ?_⟩))
      all_goals (first | (refine CWops.run htt 2 (by simp only [List.map_cons, List.map_nil, nthO_zero, nthO_succ, go_sem, simprocAttr, eGraph, eVal]; exact rfl) (by simp) ?_; refine CWops.done ?_) | (refine CWops.run htt 3 (by simp only [List.map_cons, List.map_nil, nthO_zero, nthO_succ, go_sem, simprocAttr, eGraph, eVal]; exact rfl) (by simp) ?_; refine CWops.done ?_))
      all_goals (refine Sh.wk0 ?_; simp [Wk, go_sem, simprocAttr, eGraph, eVal])
    refine Wave.cons ⟨3, [(2, .int .i64 a), (3, .int .i64 b), (5, .lv 0 [] 0), (6, .lv 1 [] 0), (9, .lv 2 [] 0), (15, .int .i64 n2), (16, .int .i64 n3), (18, .int .i64 n2), (19, .int .i64 n3), (21, .int .i64 s2), (23, .int .i64 s2), (25, .int .i64 r2), (27, .int .i64 r2), (28, .bool true), (29, .bool true), (30, .bool true), (31, .bool true), (32, .bool true), (33, .bool (gMay g)), (34, .bool (decide (g = h))), (164, .bool true)], [(0, ⟨true, eGraph g⟩), (1, ⟨true, eGraph h⟩), (2, ⟨true, eVal v⟩)]⟩ (fun is his => ?_) ?_
    · simp only [List.mem_cons, List.not_mem_nil, or_false] at his
      rcases his with rfl | rfl | rfl | rfl | rfl | rfl | rfl | rfl
      all_goals (first | (refine CWops.run htt 3 (by simp only [List.map_cons, List.map_nil, nthO_zero, nthO_succ, go_sem, simprocAttr, eGraph, eVal]; exact rfl) (by simp) ?_; refine CWops.call (graph_Same up g h) (by simp only [go_sem, simprocAttr, eGraph, eVal]) (by simp only [go_sem, simprocAttr, eGraph, eVal]; first | done | exact rfl) (by simp only [go_sem, simprocAttr, eGraph, eVal]) (fun r9 hr9 => ?_); subst hr9; refine ⟨rfl, ?_⟩) | (refine CWops.run htt 4 (by simp only [List.map_cons, List.map_nil, nthO_zero, nthO_succ, go_sem, simprocAttr, eGraph, eVal]; exact rfl) (by simp) ?_; refine CWops.call (graph_Same up g h) (by simp only [go_sem, simprocAttr, eGraph, eVal]) (by simp only [go_sem, simprocAttr, eGraph, eVal]; first | done | exact rfl) (by simp only [go_sem, simprocAttr, eGraph, eVal]) (fun r9 hr9 => ?_); subst hr9; refine ⟨rfl, ?_⟩))
      all_goals (first | (refine CWops.run htt 2 (by simp only [List.map_cons, List.map_nil, nthO_zero, nthO_succ, go_sem, simprocAttr, eGraph, eVal]; exact rfl) (by simp) ?_; refine CWops.done ?_) | (refine CWops.run htt 3 (by simp only [List.map_cons, List.map_nil, nthO_zero, nthO_succ, go_sem, simprocAttr, eGraph, eVal]; exact rfl) (by simp) ?_; refine CWops.done ?_))
      all_goals (refine Sh.wk0 ?_; simp [Wk, go_sem, simprocAttr, eGraph, eVal])
    refine Wave.cons ⟨3, [(2, .int .i64 a), (3, .int .i64 b), (5, .lv 0 [] 0), (6, .lv 1 [] 0), (9, .lv 2 [] 0), (10, .bool true)], [(0, ⟨true, eGraph g⟩), (1, ⟨true, eGraph h⟩), (2, ⟨true, eVal v⟩)]⟩ (fun is his => ?_) ?_
    · simp only [List.mem_cons, List.not_mem_nil, or_false] at his
      rcases his with rfl | rfl | rfl | rfl | rfl | rfl | rfl | rfl | rfl | rfl | rfl | rfl | rfl | rfl | rfl | rfl | rfl | rfl | rfl | rfl | rfl | rfl | rfl | rfl | rfl | rfl | rfl | rfl | rfl | rfl | rfl | rfl | rfl | rfl | rfl | rfl | rfl | rfl | rfl | rfl
      all_goals (first | (refine CWops.run htt 3 (by simp only [List.map_cons, List.map_nil, nthO_zero, nthO_succ, go_sem, simprocAttr, eGraph, eVal]; exact rfl) (by simp) ?_; refine CWops.call (graph_Find up g a) (by simp only [go_sem, simprocAttr, eGraph, eVal]) (by simp only [go_sem, simprocAttr, eGraph, eVal]; first | done | exact rfl) (by simp only [go_sem, simprocAttr, eGraph, eVal]) (fun r9 hr9 => ?_); subst hr9; refine ⟨rfl, ?_⟩) | (refine CWops.run htt 4 (by simp only [List.map_cons, List.map_nil, nthO_zero, nthO_succ, go_sem, simprocAttr, eGraph, eVal]; exact rfl) (by simp) ?_; refine CWops.call (graph_Find up g a) (by simp only [go_sem, simprocAttr, eGraph, eVal]) (by simp only [go_sem, simprocAttr, eGraph, eVal]; first | done | exact rfl) (by simp only [go_sem, simprocAttr, eGraph, eVal]) (fun r9 hr9 => ?_); subst hr9; refine ⟨rfl, ?_⟩) | (refine CWops.run htt 5 (by simp only [List.map_cons, List.map_nil, nthO_zero, nthO_succ, go_sem, simprocAttr, eGraph, eVal]; exact rfl) (by simp) ?_; refine CWops.call (graph_Find up g a) (by simp only [go_sem, simprocAttr, eGraph, eVal]) (by simp only [go_sem, simprocAttr, eGraph, eVal]; first | done | exact rfl) (by simp only [go_sem, simprocAttr, eGraph, eVal]) (fun r9 hr9 => ?_); subst hr9; refine ⟨rfl, ?_⟩))
      all_goals (first | (refine CWops.call (ref08_Find up g a) (by simp only [go_sem, simprocAttr, eGraph, eVal]) (by simp only [go_sem, simprocAttr, eGraph, eVal]; first | done | exact rfl) (by simp only [go_sem, simprocAttr, eGraph, eVal]) (fun r9 hr9 => ?_); subst hr9; refine ⟨rfl, ?_⟩) | (refine CWops.run htt 1 (by simp only [List.map_cons, List.map_nil, nthO_zero, nthO_succ, go_sem, simprocAttr, eGraph, eVal]; exact rfl) (by simp) ?_; refine CWops.call (ref08_Find up g a) (by simp only [go_sem, simprocAttr, eGraph, eVal]) (by simp only [go_sem, simprocAttr, eGraph, eVal]; first | done | exact rfl) (by simp only [go_sem, simprocAttr, eGraph, eVal]) (fun r9 hr9 => ?_); subst hr9; refine ⟨rfl, ?_⟩) | (refine CWops.run htt 2 (by simp only [List.map_cons, List.map_nil, nthO_zero, nthO_succ, go_sem, simprocAttr, eGraph, eVal]; exact rfl) (by simp) ?_; refine CWops.call (ref08_Find up g a) (by simp only [go_sem, simprocAttr, eGraph, eVal]) (by simp only [go_sem, simprocAttr, eGraph, eVal]; first | done | exact rfl) (by simp only [go_sem, simprocAttr, eGraph, eVal]) (fun r9 hr9 => ?_); subst hr9; refine ⟨rfl, ?_⟩))
      all_goals (first | (refine CWops.run htt 3 (by simp only [List.map_cons, List.map_nil, nthO_zero, nthO_succ, go_sem, simprocAttr, eGraph, eVal]; exact rfl) (by simp) ?_; refine CWops.done ?_))
      all_goals (refine Sh.wk0 ?_; simp [Wk, go_sem, simprocAttr, eGraph, eVal])
    refine Wave.done ?_
    refine CW.ret ?_
    refine retQ.ret (by simp only [f3, go_sem, simprocAttr]; exact rfl) (by simp only [go_sem, simprocAttr]; exact rfl) ?_ -- ret2
    refine ⟨_, ?_, rfl⟩
    first | (simp [leP]; done) | (simp_all [leP]; done)
end Go.Ab
