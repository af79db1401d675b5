/-
  What functions of the program answer: each by its contract. No condition but those of each theorem.
-/
import Derived.Test.YtgnkdehaknhieaaProg
import Derived.WalkKit
import Derived.Below
import Derived.Scope
import Derived.Orders
import Derived.Still
import Derived.Deep.RegionLaw
import Derived.Lib.AppendZerosOnto
import Derived.Lib.Walk
import Derived.Lib.SliceRun
import Derived.Test.YtgnkdehaknhieaaFa
import Derived.Test.YtgnkdehaknhieaaFb
import Derived.Test.YtgnkdehaknhieaaFc
import Derived.Test.YtgnkdehaknhieaaFd
import Derived.Test.YtgnkdehaknhieaaFe
import Derived.Test.YtgnkdehaknhieaaFf
import Derived.Test.YtgnkdehaknhieaaDa
import Derived.Test.YtgnkdehaknhieaaVa
set_option linter.unusedVariables false
set_option linter.unusedSimpArgs false
namespace Go.Ab
open Go Go.Proofs.Try
open Nat (reduceEqDiff reduceAdd reduceLT reduceLeDiff reduceBEq reduceSub reduceMul)
open Int (reduceToNat)
set_option maxRecDepth 100000
set_option linter.unusedSimpArgs false
set_option linter.unusedVariables false
theorem clone_ValG (up : Bool) (xs : List GVal) (hx : xs.length * 32 ≤ MX) : GCall prog up 45 [.sl 3 (xs.map eVal)] 0 [] (fun r σ' => r = .ref 0 [] 0 ∧ σ'.n = 1 ∧ σ'.s = [(0, ⟨false, [.own 3 (xs.map eVal)]⟩)]) := by
  refine GCall.intro htt 0 func45 (by kernel_rfl) rfl (Nat.le_of_ble_eq_true rfl) (CW.told ?_)
  have hx1 : xs.length ≤ MX := by omega
  simp only [tmps0, Nat.reduceAdd]
  refine CW.seq ?_
  refine CW.region (by kernel_rfl) (by kernel_rfl) ?_ -- r0
  refine CWops.run htt 1 (by simp only [go_sem, reduceIte, reduceCtorEq, reduceEqDiff, reduceAdd, reduceLT, reduceLeDiff, reduceToNat, reduceMul]; exact rfl) (by simp [go_sem, reduceIte, reduceCtorEq, reduceEqDiff, reduceAdd, reduceLT, reduceLeDiff, reduceToNat, reduceMul]) ?_
  refine CWops.done ?_
  refine CW.seq ?_
  refine CW.seq ?_
  refine CW.region (by kernel_rfl) (by kernel_rfl) ?_ -- r1
  refine CWops.run htt 1 (by simp only [go_sem, reduceIte, reduceCtorEq, reduceEqDiff, reduceAdd, reduceLT, reduceLeDiff, reduceToNat, reduceMul]; exact rfl) (by simp [go_sem, reduceIte, reduceCtorEq, reduceEqDiff, reduceAdd, reduceLT, reduceLeDiff, reduceToNat, reduceMul]) ?_
  refine CWops.nilcmp (n := 3) (l := xs.map eVal) htt (by simp only [go_sem, reduceIte, reduceCtorEq, reduceEqDiff, reduceAdd, reduceLT, reduceLeDiff, reduceToNat, reduceMul]) (by simp only [go_sem, reduceIte, reduceCtorEq, reduceEqDiff, reduceAdd, reduceLT, reduceLeDiff, reduceToNat, reduceMul]) (by simp only [go_sem, reduceIte, reduceCtorEq, reduceEqDiff, reduceAdd, reduceLT, reduceLeDiff, reduceToNat, reduceMul]) tt_38 rfl (fun b hb => ⟨_, rfl, ?_⟩)
  refine CWops.done ?_
  refine CW.cond (by simp only [go_sem, reduceIte, reduceCtorEq, reduceEqDiff, reduceAdd, reduceLT, reduceLeDiff, reduceToNat, reduceMul]; first | done | exact rfl) (fun ct4 => ?_) (fun ct4 => ?_)
  · refine CW.seq ?_
    refine CW.region (by kernel_rfl) (by kernel_rfl) ?_ -- r2
    refine CWops.run htt 1 (by simp only [go_sem, reduceIte, reduceCtorEq, reduceEqDiff, reduceAdd, reduceLT, reduceLeDiff, reduceToNat, reduceMul]; exact rfl) (by simp [go_sem, reduceIte, reduceCtorEq, reduceEqDiff, reduceAdd, reduceLT, reduceLeDiff, reduceToNat, reduceMul]) ?_
    refine CWops.done ?_
    refine CW.ret ?_
    refine ⟨⟨1, [(2, .ref 0 [] 0)], [(0, ⟨false, [.own 3 (xs.map eVal)]⟩)]⟩, ?_, .inr rfl, by simp [ptrOK, go_sem, reduceIte, reduceCtorEq, reduceEqDiff, reduceAdd, reduceLT, reduceLeDiff, reduceToNat, reduceMul], _, by simp only [f45, go_sem, reduceIte, reduceCtorEq, reduceEqDiff, reduceAdd, reduceLT, reduceLeDiff, reduceToNat, reduceMul]; exact rfl, ?_⟩ -- ret1
    · have h0 := hb ct4
      refine Sh.trans (Sh.nilRoot 2 3 (by simp only [go_sem, reduceIte, reduceCtorEq, reduceEqDiff, reduceAdd, reduceLT, reduceLeDiff, reduceToNat, reduceMul]) rfl) (Sh.wk0 ?_)
      simp [Wk, go_sem, reduceIte, reduceCtorEq, reduceEqDiff, reduceAdd, reduceLT, reduceLeDiff, reduceToNat, reduceMul, h0]
    · exact ⟨rfl, rfl, rfl⟩
  · refine CW.skip ?_
    refine CW.seq ?_
    refine CW.region (by kernel_rfl) (by kernel_rfl) ?_ -- r3
    refine CWops.run htt 4 (by simp only [go_sem, reduceIte, reduceCtorEq, reduceEqDiff, reduceAdd, reduceLT, reduceLeDiff, reduceToNat, reduceMul]; exact rfl) (by refine ⟨?_, ?_, ?_⟩ <;> first | (simp [eVal, AV.cell]; done) | (simp; omega)) ?_
    refine CWops.done ?_
    refine CW.ret ?_
    refine ⟨⟨1, [(2, .ref 0 [] 0)], [(0, ⟨false, [.own 3 (xs.map eVal)]⟩)]⟩, ?_, .inr rfl, by simp [ptrOK, go_sem, reduceIte, reduceCtorEq, reduceEqDiff, reduceAdd, reduceLT, reduceLeDiff, reduceToNat, reduceMul], _, by simp only [f45, go_sem, reduceIte, reduceCtorEq, reduceEqDiff, reduceAdd, reduceLT, reduceLeDiff, reduceToNat, reduceMul]; exact rfl, ?_⟩ -- ret2
    · refine Sh.wk (fun x => x + 1) ?_
      simp [Wk, go_sem, reduceIte, reduceCtorEq, reduceEqDiff, reduceAdd, reduceLT, reduceLeDiff, reduceToNat, reduceMul]
    · exact ⟨rfl, rfl, rfl⟩
theorem clone_TypeG (up : Bool) (xs : List GType) (hx : xs.length * 40 ≤ MX) : GCall prog up 112 [.sl 2 (xs.map eType)] 0 [] (fun r σ' => r = .ref 0 [] 0 ∧ σ'.n = 1 ∧ σ'.s = [(0, ⟨false, [.own 2 (xs.map eType)]⟩)]) := by
  refine GCall.intro htt 0 func112 (by kernel_rfl) rfl (Nat.le_of_ble_eq_true rfl) (CW.told ?_)
  have hx1 : xs.length ≤ MX := by omega
  simp only [tmps0, Nat.reduceAdd]
  refine CW.seq ?_
  refine CW.region (by kernel_rfl) (by kernel_rfl) ?_ -- r0
  refine CWops.run htt 1 (by simp only [go_sem, reduceIte, reduceCtorEq, reduceEqDiff, reduceAdd, reduceLT, reduceLeDiff, reduceToNat, reduceMul]; exact rfl) (by simp [go_sem, reduceIte, reduceCtorEq, reduceEqDiff, reduceAdd, reduceLT, reduceLeDiff, reduceToNat, reduceMul]) ?_
  refine CWops.done ?_
  refine CW.seq ?_
  refine CW.seq ?_
  refine CW.region (by kernel_rfl) (by kernel_rfl) ?_ -- r1
  refine CWops.run htt 1 (by simp only [go_sem, reduceIte, reduceCtorEq, reduceEqDiff, reduceAdd, reduceLT, reduceLeDiff, reduceToNat, reduceMul]; exact rfl) (by simp [go_sem, reduceIte, reduceCtorEq, reduceEqDiff, reduceAdd, reduceLT, reduceLeDiff, reduceToNat, reduceMul]) ?_
  refine CWops.nilcmp (n := 2) (l := xs.map eType) htt (by simp only [go_sem, reduceIte, reduceCtorEq, reduceEqDiff, reduceAdd, reduceLT, reduceLeDiff, reduceToNat, reduceMul]) (by simp only [go_sem, reduceIte, reduceCtorEq, reduceEqDiff, reduceAdd, reduceLT, reduceLeDiff, reduceToNat, reduceMul]) (by simp only [go_sem, reduceIte, reduceCtorEq, reduceEqDiff, reduceAdd, reduceLT, reduceLeDiff, reduceToNat, reduceMul]) tt_22 rfl (fun b hb => ⟨_, rfl, ?_⟩)
  refine CWops.done ?_
  refine CW.cond (by simp only [go_sem, reduceIte, reduceCtorEq, reduceEqDiff, reduceAdd, reduceLT, reduceLeDiff, reduceToNat, reduceMul]; first | done | exact rfl) (fun ct4 => ?_) (fun ct4 => ?_)
  · refine CW.seq ?_
    refine CW.region (by kernel_rfl) (by kernel_rfl) ?_ -- r2
    refine CWops.run htt 1 (by simp only [go_sem, reduceIte, reduceCtorEq, reduceEqDiff, reduceAdd, reduceLT, reduceLeDiff, reduceToNat, reduceMul]; exact rfl) (by simp [go_sem, reduceIte, reduceCtorEq, reduceEqDiff, reduceAdd, reduceLT, reduceLeDiff, reduceToNat, reduceMul]) ?_
    refine CWops.done ?_
    refine CW.ret ?_
    refine ⟨⟨1, [(2, .ref 0 [] 0)], [(0, ⟨false, [.own 2 (xs.map eType)]⟩)]⟩, ?_, .inr rfl, by simp [ptrOK, go_sem, reduceIte, reduceCtorEq, reduceEqDiff, reduceAdd, reduceLT, reduceLeDiff, reduceToNat, reduceMul], _, by simp only [f112, go_sem, reduceIte, reduceCtorEq, reduceEqDiff, reduceAdd, reduceLT, reduceLeDiff, reduceToNat, reduceMul]; exact rfl, ?_⟩ -- ret1
    · have h0 := hb ct4
      refine Sh.trans (Sh.nilRoot 2 2 (by simp only [go_sem, reduceIte, reduceCtorEq, reduceEqDiff, reduceAdd, reduceLT, reduceLeDiff, reduceToNat, reduceMul]) rfl) (Sh.wk0 ?_)
      simp [Wk, go_sem, reduceIte, reduceCtorEq, reduceEqDiff, reduceAdd, reduceLT, reduceLeDiff, reduceToNat, reduceMul, h0]
    · exact ⟨rfl, rfl, rfl⟩
  · refine CW.skip ?_
    refine CW.seq ?_
    refine CW.region (by kernel_rfl) (by kernel_rfl) ?_ -- r3
    refine CWops.run htt 4 (by simp only [go_sem, reduceIte, reduceCtorEq, reduceEqDiff, reduceAdd, reduceLT, reduceLeDiff, reduceToNat, reduceMul]; exact rfl) (by refine ⟨?_, ?_, ?_⟩ <;> first | (simp [eType, AV.cell]; done) | (simp; omega)) ?_
    refine CWops.done ?_
    refine CW.ret ?_
    refine ⟨⟨1, [(2, .ref 0 [] 0)], [(0, ⟨false, [.own 2 (xs.map eType)]⟩)]⟩, ?_, .inr rfl, by simp [ptrOK, go_sem, reduceIte, reduceCtorEq, reduceEqDiff, reduceAdd, reduceLT, reduceLeDiff, reduceToNat, reduceMul], _, by simp only [f112, go_sem, reduceIte, reduceCtorEq, reduceEqDiff, reduceAdd, reduceLT, reduceLeDiff, reduceToNat, reduceMul]; exact rfl, ?_⟩ -- ret2
    · refine Sh.wk (fun x => x + 1) ?_
      simp [Wk, go_sem, reduceIte, reduceCtorEq, reduceEqDiff, reduceAdd, reduceLT, reduceLeDiff, reduceToNat, reduceMul]
    · exact ⟨rfl, rfl, rfl⟩
end Go.Ab
namespace Go.Ab
open Go Go.Proofs.Try
open Nat (reduceEqDiff reduceAdd reduceLT reduceLeDiff reduceBEq reduceSub reduceMul)
open Int (reduceToNat)
set_option maxRecDepth 100000
set_option linter.unusedSimpArgs false
set_option linter.unusedVariables false
theorem one_MX (b : UInt8) : (Array.size #[b] ≤ MX) = True := eq_true (by show 1 ≤ MX; unfold MX; decide)
theorem law06_Few (up : Bool) (s : List GType) (k : Int) : PCall prog up 16 [.agg (eSchema s), .int .i64 k] (· = .bool (few06 s k)) := by
  refine PCall.intro htt func16 (by kernel_rfl) rfl (Nat.le_of_ble_eq_true rfl) fun hl => ?_
  have hL := (hl (.agg (eSchema s)) (by simp)).agg
  have hb := (hL (.sl 2 (s.map eType)) (by simp [eSchema])).sl.1
  simp only [List.length_map] at hb
  simp only [tmps0, Nat.reduceAdd]
  refine CW.seq ?_
  refine CW.region (by kernel_rfl) (by kernel_rfl) ?_ -- r0
  refine CWops.run htt 2 (by simp only [go_sem, reduceIte, reduceCtorEq, reduceEqDiff, reduceAdd, reduceLT, reduceLeDiff, reduceToNat, eSchema]; exact rfl) (by simp [go_sem, reduceIte, reduceCtorEq, reduceEqDiff, reduceAdd, reduceLT, reduceLeDiff, reduceToNat, eSchema]) ?_
  refine CWops.done ?_
  refine CW.seq ?_
  refine CW.seq ?_
  refine CW.region (by kernel_rfl) (by kernel_rfl) ?_ -- r1
  refine CWops.run htt 1 (by simp only [go_sem, reduceIte, reduceCtorEq, reduceEqDiff, reduceAdd, reduceLT, reduceLeDiff, reduceToNat]; exact rfl) (by simp [go_sem, reduceIte, reduceCtorEq, reduceEqDiff, reduceAdd, reduceLT, reduceLeDiff, reduceToNat]) ?_
  refine CWops.done ?_
  refine CW.block ?_
  refine CW.loop (S := Nat) (fun i => ⟨1, [(1, .int .i64 k), (2, .lv 0 [] 0), (5, .int .i64 i)], [(0, ⟨true, eSchema s⟩)]⟩) (fun i => i ≤ s.length ∧ ∀ (j : Nat) (y), j < i → s[j]? = some y → decide ((y.F.length : Int) ≤ k) = true) (fun i => s.length - i) (0) ?_ ⟨Nat.zero_le _, fun j y hj => by omega⟩ (fun i ⟨h1, h2⟩ => ?_)
  · refine Sh.wk0 ?_; simp [Wk, go_sem, reduceIte, reduceCtorEq, reduceEqDiff, reduceAdd, reduceLT, reduceLeDiff, reduceToNat, eSchema]
  refine CW.seq ?_
  refine CW.seq ?_
  refine CW.region (by kernel_rfl) (by kernel_rfl) ?_ -- r2
  refine CWops.run htt 5 (by simp only [go_sem, reduceIte, reduceCtorEq, reduceEqDiff, reduceAdd, reduceLT, reduceLeDiff, reduceToNat, eSchema]; exact rfl) (by simp [go_sem, reduceIte, reduceCtorEq, reduceEqDiff, reduceAdd, reduceLT, reduceLeDiff, reduceToNat, eSchema]) ?_
  refine CWops.done ?_
  refine CW.cond (by simp only [go_sem, reduceIte, reduceCtorEq, reduceEqDiff, reduceAdd, reduceLT, reduceLeDiff, reduceToNat]; first | done | exact rfl) (fun ct10 => ?_) (fun ct10 => ?_)
  · have hi : i < s.length := by simpa using ct10
    obtain ⟨x, hx⟩ : ∃ x, s[i]? = some x := ⟨s[i], List.getElem?_eq_getElem hi⟩
    refine CW.skip ?_
    refine CW.seq ?_
    refine CW.block ?_
    refine CW.seq ?_
    refine CW.region (by kernel_rfl) (by kernel_rfl) ?_ -- r4
    refine CWops.run htt 9 (by simp only [go_sem, reduceIte, reduceCtorEq, reduceEqDiff, reduceAdd, reduceLT, reduceLeDiff, reduceToNat, eSchema, hx, eType]; exact rfl) (by simp [go_sem, reduceIte, reduceCtorEq, reduceEqDiff, reduceAdd, reduceLT, reduceLeDiff, reduceToNat, eSchema, hx, eType]) ?_
    refine CWops.done ?_
    refine CW.cond (by simp only [go_sem, reduceIte, reduceCtorEq, reduceEqDiff, reduceAdd, reduceLT, reduceLeDiff, reduceToNat]; first | done | exact rfl) (fun ct21 => ?_) (fun ct21 => ?_)
    · have hp : decide ((x.F.length : Int) ≤ k) = false := by simp at ct21 ⊢; omega
      refine CW.seq ?_
      refine CW.region (by kernel_rfl) (by kernel_rfl) ?_ -- r5
      refine CWops.run htt 1 (by simp only [go_sem, reduceIte, reduceCtorEq, reduceEqDiff, reduceAdd, reduceLT, reduceLeDiff, reduceToNat]; exact rfl) (by simp [go_sem, reduceIte, reduceCtorEq, reduceEqDiff, reduceAdd, reduceLT, reduceLeDiff, reduceToNat]) ?_
      refine CWops.done ?_
      refine CW.ret ?_
      refine retQ.ret (by simp only [f16, go_sem, reduceIte, reduceCtorEq, reduceEqDiff, reduceAdd, reduceLT, reduceLeDiff, reduceToNat]; exact rfl) (by simp only [go_sem, reduceIte, reduceCtorEq, reduceEqDiff, reduceAdd, reduceLT, reduceLeDiff, reduceToNat]; exact rfl) ?_ -- ret1
      refine ⟨_, ?_, rfl⟩
      have : few06 s k = false := by unfold few06; rw [allI_no hx hp]; rfl
      simp [leP, this]
    · have hp : decide ((x.F.length : Int) ≤ k) = true := by simp at ct21 ⊢; omega
      refine CW.skip ?_
      refine CW.region (by kernel_rfl) (by kernel_rfl) ?_ -- r3
      refine CWops.run htt 3 (by simp only [go_sem, reduceIte, reduceCtorEq, reduceEqDiff, reduceAdd, reduceLT, reduceLeDiff, reduceToNat, wrap_succ (Nat.lt_of_lt_of_le hi hb)]; exact rfl) (by simp [go_sem, reduceIte, reduceCtorEq, reduceEqDiff, reduceAdd, reduceLT, reduceLeDiff, reduceToNat, wrap_succ (Nat.lt_of_lt_of_le hi hb)]) ?_
      refine CWops.done ?_
      refine ⟨i + 1, ?_, ?_, ?_⟩
      · refine Sh.wk0 ?_; simp [Wk, go_sem, reduceIte, reduceCtorEq, reduceEqDiff, reduceAdd, reduceLT, reduceLeDiff, reduceToNat, eSchema]
      · exact ⟨hi, belowI_succ (p := fun _ y => decide ((y.F.length : Int) ≤ k)) h2 hx hp⟩
      · simp only; omega
  · have hi : i = s.length := by simp at ct10; omega
    refine CW.exit ?_
    refine CW.seq ?_
    refine CW.region (by kernel_rfl) (by kernel_rfl) ?_ -- r6
    refine CWops.run htt 6 (by simp only [go_sem, reduceIte, reduceCtorEq, reduceEqDiff, reduceAdd, reduceLT, reduceLeDiff, reduceToNat, eSchema]; exact rfl) (by simp [go_sem, reduceIte, reduceCtorEq, reduceEqDiff, reduceAdd, reduceLT, reduceLeDiff, reduceToNat, eSchema]) ?_
    refine CWops.done ?_
    refine CW.ret ?_
    refine retQ.ret (by simp only [f16, go_sem, reduceIte, reduceCtorEq, reduceEqDiff, reduceAdd, reduceLT, reduceLeDiff, reduceToNat]; exact rfl) (by simp only [go_sem, reduceIte, reduceCtorEq, reduceEqDiff, reduceAdd, reduceLT, reduceLeDiff, reduceToNat]; exact rfl) ?_ -- ret2
    refine ⟨_, ?_, rfl⟩
    have : few06 s k = decide ((s.length : Int) ≤ k) := by unfold few06; rw [belowI_all (p := fun _ (y : GType) => decide ((y.F.length : Int) ≤ k)) (by rw [← hi]; exact h2)]; simp
    simp [leP, this]
theorem law08_Few (up : Bool) (g : Graph) : PCall prog up 11 [.agg (eGraph g)] (· = .bool (fewG g)) := by
  refine PCall.intro htt func11 (by kernel_rfl) rfl (Nat.le_of_ble_eq_true rfl) fun hl => ?_
  have hL := (hl (.agg (eGraph g)) (by simp)).agg
  have hb := (hL (.sl 3 (g.O.map eObj)) (by simp [eGraph])).sl.1
  simp only [List.length_map] at hb
  simp only [tmps0, Nat.reduceAdd]
  refine CW.seq ?_
  refine CW.region (by kernel_rfl) (by kernel_rfl) ?_ -- r0
  refine CWops.run htt 2 (by simp only [go_sem, reduceIte, reduceCtorEq, reduceEqDiff, reduceAdd, reduceLT, reduceLeDiff, reduceToNat, eGraph]; exact rfl) (by simp [go_sem, reduceIte, reduceCtorEq, reduceEqDiff, reduceAdd, reduceLT, reduceLeDiff, reduceToNat, eGraph]) ?_
  refine CWops.done ?_
  refine CW.seq ?_
  refine CW.region (by kernel_rfl) (by kernel_rfl) ?_ -- r1
  refine CWops.run htt 2 (by simp only [go_sem, reduceIte, reduceCtorEq, reduceEqDiff, reduceAdd, reduceLT, reduceLeDiff, reduceToNat, eGraph, eSchema]; exact rfl) (by simp [go_sem, reduceIte, reduceCtorEq, reduceEqDiff, reduceAdd, reduceLT, reduceLeDiff, reduceToNat, eGraph, eSchema]) ?_
  refine CWops.call (law06_Few up g.S 10) (by simp only [go_sem, reduceIte, reduceCtorEq, reduceEqDiff, reduceAdd, reduceLT, reduceLeDiff, reduceToNat, eGraph, eSchema]) (by simp only [go_sem, reduceIte, reduceCtorEq, reduceEqDiff, reduceAdd, reduceLT, reduceLeDiff, reduceToNat, eGraph, eSchema]; first | done | exact rfl) (by simp only [go_sem, reduceIte, reduceCtorEq, reduceEqDiff, reduceAdd, reduceLT, reduceLeDiff, reduceToNat, eGraph, eSchema]) (fun rt7 hrt7 => ?_)
  subst hrt7; refine ⟨rfl, ?_⟩
  refine CWops.run htt 1 (by simp only [go_sem, reduceIte, reduceCtorEq, reduceEqDiff, reduceAdd, reduceLT, reduceLeDiff, reduceToNat, eGraph, eSchema]; exact rfl) (by simp [go_sem, reduceIte, reduceCtorEq, reduceEqDiff, reduceAdd, reduceLT, reduceLeDiff, reduceToNat, eGraph, eSchema]) ?_
  refine CWops.done ?_
  refine CW.seq ?_
  refine CW.cut ⟨1, [(1, .lv 0 [] 0), (21, .bool (!((few06 g.S 10 && decide (g.O.length ≤ 12)) && decide (g.Roots.length ≤ 10))))], [(0, ⟨true, eGraph g⟩)]⟩ ?_ ?_
  · refine CW.region (by kernel_rfl) (by kernel_rfl) ?_ -- r2
    refine CWops.run htt 3 (by simp only [go_sem, reduceIte, reduceCtorEq, reduceEqDiff, reduceAdd, reduceLT, reduceLeDiff, reduceToNat, eGraph]; exact rfl) (by simp [go_sem, reduceIte, reduceCtorEq, reduceEqDiff, reduceAdd, reduceLT, reduceLeDiff, reduceToNat, eGraph]) ?_
    all_goals (first | refine CWops.guard 10 (by simp only [go_sem, reduceIte, reduceCtorEq, reduceEqDiff, reduceAdd, reduceLT, reduceLeDiff, reduceToNat, eGraph]; exact rfl) (fun g10 => ?_) (fun g10 => ?_) | skip)
    all_goals (refine CWops.run htt 6 (by simp only [go_sem, reduceIte, reduceCtorEq, reduceEqDiff, reduceAdd, reduceLT, reduceLeDiff, reduceToNat, eGraph]; exact rfl) (by simp [go_sem, reduceIte, reduceCtorEq, reduceEqDiff, reduceAdd, reduceLT, reduceLeDiff, reduceToNat, eGraph]) ?_)
    all_goals (first | refine CWops.guard 16 (by simp only [go_sem, reduceIte, reduceCtorEq, reduceEqDiff, reduceAdd, reduceLT, reduceLeDiff, reduceToNat, eGraph]; exact rfl) (fun g16 => ?_) (fun g16 => ?_) | skip)
    all_goals (refine CWops.run htt 5 (by simp only [go_sem, reduceIte, reduceCtorEq, reduceEqDiff, reduceAdd, reduceLT, reduceLeDiff, reduceToNat, eGraph]; exact rfl) (by simp [go_sem, reduceIte, reduceCtorEq, reduceEqDiff, reduceAdd, reduceLT, reduceLeDiff, reduceToNat, eGraph]) ?_)
    all_goals (refine CWops.done ?_)
    all_goals (
      refine ⟨rfl, Sh.wk0 ?_⟩
      simp_all [Wk, go_sem, reduceIte, reduceCtorEq, reduceEqDiff, reduceAdd, reduceLT, reduceLeDiff, reduceToNat, eGraph] <;> first | done | omega | rfl | (rw [Bool.eq_iff_iff]; done) | (rw [Bool.eq_iff_iff]; simp; done) | (rw [Bool.eq_iff_iff]; simp; omega))
  refine CW.cond (by simp only [go_sem, reduceIte, reduceCtorEq, reduceEqDiff, reduceAdd, reduceLT, reduceLeDiff, reduceToNat]; first | done | exact rfl) (fun ct21 => ?_) (fun ct21 => ?_)
  · simp only [Bool.not_eq_true'] at ct21
    refine CW.seq ?_
    refine CW.region (by kernel_rfl) (by kernel_rfl) ?_ -- r3
    refine CWops.run htt 1 (by simp only [go_sem, reduceIte, reduceCtorEq, reduceEqDiff, reduceAdd, reduceLT, reduceLeDiff, reduceToNat]; exact rfl) (by simp [go_sem, reduceIte, reduceCtorEq, reduceEqDiff, reduceAdd, reduceLT, reduceLeDiff, reduceToNat]) ?_
    refine CWops.done ?_
    refine CW.ret ?_
    refine retQ.ret (by simp only [f11, go_sem, reduceIte, reduceCtorEq, reduceEqDiff, reduceAdd, reduceLT, reduceLeDiff, reduceToNat]; exact rfl) (by simp only [go_sem, reduceIte, reduceCtorEq, reduceEqDiff, reduceAdd, reduceLT, reduceLeDiff, reduceToNat]; exact rfl) ?_ -- ret1
    refine ⟨_, ?_, rfl⟩
    have : fewG g = false := by unfold fewG; rw [ct21]; rfl
    simp [leP, this]
  · simp only [Bool.not_eq_false'] at ct21
    refine CW.skip ?_
    refine CW.seq ?_
    refine CW.seq ?_
    refine CW.region (by kernel_rfl) (by kernel_rfl) ?_ -- r4
    refine CWops.run htt 1 (by simp only [go_sem, reduceIte, reduceCtorEq, reduceEqDiff, reduceAdd, reduceLT, reduceLeDiff, reduceToNat]; exact rfl) (by simp [go_sem, reduceIte, reduceCtorEq, reduceEqDiff, reduceAdd, reduceLT, reduceLeDiff, reduceToNat]) ?_
    refine CWops.done ?_
    refine CW.block ?_
    refine CW.loop (S := Nat) (fun i => ⟨1, [(1, .lv 0 [] 0), (4, .int .i64 i)], [(0, ⟨true, eGraph g⟩)]⟩) (fun i => i ≤ g.O.length ∧ ∀ (j : Nat) (y), j < i → g.O[j]? = some y → decide (y.F.length ≤ 10) = true) (fun i => g.O.length - i) (0) ?_ ⟨Nat.zero_le _, fun j y hj => by omega⟩ (fun i ⟨h1, h2⟩ => ?_)
    · refine Sh.wk0 ?_; simp [Wk, go_sem, reduceIte, reduceCtorEq, reduceEqDiff, reduceAdd, reduceLT, reduceLeDiff, reduceToNat, eGraph]
    refine CW.seq ?_
    refine CW.seq ?_
    refine CW.region (by kernel_rfl) (by kernel_rfl) ?_ -- r5
    refine CWops.run htt 5 (by simp only [go_sem, reduceIte, reduceCtorEq, reduceEqDiff, reduceAdd, reduceLT, reduceLeDiff, reduceToNat, eGraph]; exact rfl) (by simp [go_sem, reduceIte, reduceCtorEq, reduceEqDiff, reduceAdd, reduceLT, reduceLeDiff, reduceToNat, eGraph]) ?_
    refine CWops.done ?_
    refine CW.cond (by simp only [go_sem, reduceIte, reduceCtorEq, reduceEqDiff, reduceAdd, reduceLT, reduceLeDiff, reduceToNat]; first | done | exact rfl) (fun ct26 => ?_) (fun ct26 => ?_)
    · have hi : i < g.O.length := by simpa using ct26
      obtain ⟨x, hx⟩ : ∃ x, g.O[i]? = some x := ⟨g.O[i], List.getElem?_eq_getElem hi⟩
      refine CW.skip ?_
      refine CW.seq ?_
      refine CW.block ?_
      refine CW.seq ?_
      refine CW.region (by kernel_rfl) (by kernel_rfl) ?_ -- r7
      refine CWops.run htt 8 (by simp only [go_sem, reduceIte, reduceCtorEq, reduceEqDiff, reduceAdd, reduceLT, reduceLeDiff, reduceToNat, eGraph, hx, eObj]; exact rfl) (by simp [go_sem, reduceIte, reduceCtorEq, reduceEqDiff, reduceAdd, reduceLT, reduceLeDiff, reduceToNat, eGraph, hx, eObj]) ?_
      refine CWops.done ?_
      refine CW.cond (by simp only [go_sem, reduceIte, reduceCtorEq, reduceEqDiff, reduceAdd, reduceLT, reduceLeDiff, reduceToNat]; first | done | exact rfl) (fun ct36 => ?_) (fun ct36 => ?_)
      · have hp : decide (x.F.length ≤ 10) = false := by simp at ct36 ⊢; omega
        refine CW.seq ?_
        refine CW.region (by kernel_rfl) (by kernel_rfl) ?_ -- r8
        refine CWops.run htt 1 (by simp only [go_sem, reduceIte, reduceCtorEq, reduceEqDiff, reduceAdd, reduceLT, reduceLeDiff, reduceToNat]; exact rfl) (by simp [go_sem, reduceIte, reduceCtorEq, reduceEqDiff, reduceAdd, reduceLT, reduceLeDiff, reduceToNat]) ?_
        refine CWops.done ?_
        refine CW.ret ?_
        refine retQ.ret (by simp only [f11, go_sem, reduceIte, reduceCtorEq, reduceEqDiff, reduceAdd, reduceLT, reduceLeDiff, reduceToNat]; exact rfl) (by simp only [go_sem, reduceIte, reduceCtorEq, reduceEqDiff, reduceAdd, reduceLT, reduceLeDiff, reduceToNat]; exact rfl) ?_ -- ret2
        refine ⟨_, ?_, rfl⟩
        have : fewG g = false := by unfold fewG; rw [allI_no hx hp]; simp
        simp [leP, this]
      · have hp : decide (x.F.length ≤ 10) = true := by simp at ct36 ⊢; omega
        refine CW.skip ?_
        refine CW.region (by kernel_rfl) (by kernel_rfl) ?_ -- r6
        refine CWops.run htt 3 (by simp only [go_sem, reduceIte, reduceCtorEq, reduceEqDiff, reduceAdd, reduceLT, reduceLeDiff, reduceToNat, wrap_succ (Nat.lt_of_lt_of_le hi hb)]; exact rfl) (by simp [go_sem, reduceIte, reduceCtorEq, reduceEqDiff, reduceAdd, reduceLT, reduceLeDiff, reduceToNat, wrap_succ (Nat.lt_of_lt_of_le hi hb)]) ?_
        refine CWops.done ?_
        refine ⟨i + 1, ?_, ?_, ?_⟩
        · refine Sh.wk0 ?_; simp [Wk, go_sem, reduceIte, reduceCtorEq, reduceEqDiff, reduceAdd, reduceLT, reduceLeDiff, reduceToNat, eGraph]
        · exact ⟨hi, belowI_succ (p := fun _ y => decide (y.F.length ≤ 10)) h2 hx hp⟩
        · simp only; omega
    · have hi : i = g.O.length := by simp at ct26; omega
      refine CW.exit ?_
      refine CW.seq ?_
      refine CW.region (by kernel_rfl) (by kernel_rfl) ?_ -- r9
      refine CWops.run htt 1 (by simp only [go_sem, reduceIte, reduceCtorEq, reduceEqDiff, reduceAdd, reduceLT, reduceLeDiff, reduceToNat]; exact rfl) (by simp [go_sem, reduceIte, reduceCtorEq, reduceEqDiff, reduceAdd, reduceLT, reduceLeDiff, reduceToNat]) ?_
      refine CWops.done ?_
      refine CW.ret ?_
      refine retQ.ret (by simp only [f11, go_sem, reduceIte, reduceCtorEq, reduceEqDiff, reduceAdd, reduceLT, reduceLeDiff, reduceToNat]; exact rfl) (by simp only [go_sem, reduceIte, reduceCtorEq, reduceEqDiff, reduceAdd, reduceLT, reduceLeDiff, reduceToNat]; exact rfl) ?_ -- ret3
      refine ⟨_, ?_, rfl⟩
      have : fewG g = true := by unfold fewG; rw [ct21, belowI_all (p := fun _ (y : GObj) => decide (y.F.length ≤ 10)) (by rw [← hi]; exact h2)]; rfl
      simp [leP, this]
end Go.Ab
namespace Go.Ab
open Go Go.Proofs.Try
open Nat (reduceEqDiff reduceAdd reduceLT reduceLeDiff reduceBEq reduceSub reduceMul)
open Int (reduceToNat)
set_option maxRecDepth 100000
set_option linter.unusedSimpArgs false
set_option linter.unusedVariables false
@[go_sem] theorem tt_69 : tiOf prog 69 = some ⟨.slice 112, 1, 24, [.nilsl], false⟩ := by kernel_rfl
@[go_sem] theorem tt_71 : tiOf prog 71 = some ⟨.struct [(26, 0), (26, 1), (69, 2), (26, 3)], 4, 96, [.nilsl, .nilsl, .nilsl, .nilsl], true⟩ := by kernel_rfl
@[go_sem] theorem tt_35 : tiOf prog 35 = some ⟨.int IntKind.i64, 1, 8, [.int .i64 0], false⟩ := by kernel_rfl
@[go_sem] theorem tt_112 : tiOf prog 112 = some ⟨.array 2 3, 2, 16, [.int .i64 0, .int .i64 0], false⟩ := by kernel_rfl
theorem clone_ObjG (up : Bool) (xs : List GObj) (hx : xs.length * 40 ≤ MX) : GCall prog up 98 [.sl 3 (xs.map eObj)] 0 [] (fun r σ' => r = .ref 0 [] 0 ∧ σ'.n = 1 ∧ σ'.s = [(0, ⟨false, [.own 3 (xs.map eObj)]⟩)]) := by
  refine GCall.intro htt 0 func98 (by kernel_rfl) rfl (Nat.le_of_ble_eq_true rfl) (CW.told ?_)
  have hx1 : xs.length ≤ MX := by omega
  simp only [tmps0, Nat.reduceAdd]
  refine CW.seq ?_
  refine CW.region (by kernel_rfl) (by kernel_rfl) ?_ -- r0
  refine CWops.run htt 1 (by simp only [go_sem, reduceIte, reduceCtorEq, reduceEqDiff, reduceAdd, reduceLT, reduceLeDiff, reduceToNat, reduceMul]; exact rfl) (by simp [go_sem, reduceIte, reduceCtorEq, reduceEqDiff, reduceAdd, reduceLT, reduceLeDiff, reduceToNat, reduceMul]) ?_
  refine CWops.done ?_
  refine CW.seq ?_
  refine CW.seq ?_
  refine CW.region (by kernel_rfl) (by kernel_rfl) ?_ -- r1
  refine CWops.run htt 1 (by simp only [go_sem, reduceIte, reduceCtorEq, reduceEqDiff, reduceAdd, reduceLT, reduceLeDiff, reduceToNat, reduceMul]; exact rfl) (by simp [go_sem, reduceIte, reduceCtorEq, reduceEqDiff, reduceAdd, reduceLT, reduceLeDiff, reduceToNat, reduceMul]) ?_
  refine CWops.nilcmp (n := 3) (l := xs.map eObj) htt (by simp only [go_sem, reduceIte, reduceCtorEq, reduceEqDiff, reduceAdd, reduceLT, reduceLeDiff, reduceToNat, reduceMul]) (by simp only [go_sem, reduceIte, reduceCtorEq, reduceEqDiff, reduceAdd, reduceLT, reduceLeDiff, reduceToNat, reduceMul]) (by simp only [go_sem, reduceIte, reduceCtorEq, reduceEqDiff, reduceAdd, reduceLT, reduceLeDiff, reduceToNat, reduceMul]) tt_25 rfl (fun b hb => ⟨_, rfl, ?_⟩)
  refine CWops.done ?_
  refine CW.cond (by simp only [go_sem, reduceIte, reduceCtorEq, reduceEqDiff, reduceAdd, reduceLT, reduceLeDiff, reduceToNat, reduceMul]; first | done | exact rfl) (fun ct4 => ?_) (fun ct4 => ?_)
  · refine CW.seq ?_
    refine CW.region (by kernel_rfl) (by kernel_rfl) ?_ -- r2
    refine CWops.run htt 1 (by simp only [go_sem, reduceIte, reduceCtorEq, reduceEqDiff, reduceAdd, reduceLT, reduceLeDiff, reduceToNat, reduceMul]; exact rfl) (by simp [go_sem, reduceIte, reduceCtorEq, reduceEqDiff, reduceAdd, reduceLT, reduceLeDiff, reduceToNat, reduceMul]) ?_
    refine CWops.done ?_
    refine CW.ret ?_
    refine ⟨⟨1, [(2, .ref 0 [] 0)], [(0, ⟨false, [.own 3 (xs.map eObj)]⟩)]⟩, ?_, .inr rfl, by simp [ptrOK, go_sem, reduceIte, reduceCtorEq, reduceEqDiff, reduceAdd, reduceLT, reduceLeDiff, reduceToNat, reduceMul], _, by simp only [f98, go_sem, reduceIte, reduceCtorEq, reduceEqDiff, reduceAdd, reduceLT, reduceLeDiff, reduceToNat, reduceMul]; exact rfl, ?_⟩ -- ret1
    · have h0 := hb ct4
      refine Sh.trans (Sh.nilRoot 2 3 (by simp only [go_sem, reduceIte, reduceCtorEq, reduceEqDiff, reduceAdd, reduceLT, reduceLeDiff, reduceToNat, reduceMul]) rfl) (Sh.wk0 ?_)
      simp [Wk, go_sem, reduceIte, reduceCtorEq, reduceEqDiff, reduceAdd, reduceLT, reduceLeDiff, reduceToNat, reduceMul, h0]
    · exact ⟨rfl, rfl, rfl⟩
  · refine CW.skip ?_
    refine CW.seq ?_
    refine CW.region (by kernel_rfl) (by kernel_rfl) ?_ -- r3
    refine CWops.run htt 4 (by simp only [go_sem, reduceIte, reduceCtorEq, reduceEqDiff, reduceAdd, reduceLT, reduceLeDiff, reduceToNat, reduceMul]; exact rfl) (by refine ⟨?_, ?_, ?_⟩ <;> first | (simp [eObj, AV.cell]; done) | (simp; omega)) ?_
    refine CWops.done ?_
    refine CW.ret ?_
    refine ⟨⟨1, [(2, .ref 0 [] 0)], [(0, ⟨false, [.own 3 (xs.map eObj)]⟩)]⟩, ?_, .inr rfl, by simp [ptrOK, go_sem, reduceIte, reduceCtorEq, reduceEqDiff, reduceAdd, reduceLT, reduceLeDiff, reduceToNat, reduceMul], _, by simp only [f98, go_sem, reduceIte, reduceCtorEq, reduceEqDiff, reduceAdd, reduceLT, reduceLeDiff, reduceToNat, reduceMul]; exact rfl, ?_⟩ -- ret2
    · refine Sh.wk (fun x => x + 1) ?_
      simp [Wk, go_sem, reduceIte, reduceCtorEq, reduceEqDiff, reduceAdd, reduceLT, reduceLeDiff, reduceToNat, reduceMul]
    · exact ⟨rfl, rfl, rfl⟩
end Go.Ab
namespace Go.Ab
open Go Go.Proofs.Try
open Nat (reduceEqDiff reduceAdd reduceLT reduceLeDiff reduceBEq reduceSub reduceMul)
open Int (reduceToNat)
set_option maxRecDepth 100000
set_option linter.unusedSimpArgs false
set_option linter.unusedVariables false
theorem value_Zero (up : Bool) (f : GField) : PCall prog up 15 [.agg (eField f)] (· = .agg (eVal (zeroV f))) := by
  refine PCall.intro htt func15 (by kernel_rfl) rfl (Nat.le_of_ble_eq_true rfl) fun hl => ?_

  simp only [tmps0, Nat.reduceAdd]
  refine CW.seq ?_
  refine CW.region (by kernel_rfl) (by kernel_rfl) ?_ -- r0
  refine CWops.run htt 2 (by simp only [go_sem, reduceIte, reduceCtorEq, reduceEqDiff, reduceAdd, reduceLT, reduceLeDiff, reduceToNat, eField]; exact rfl) (by simp [go_sem, reduceIte, reduceCtorEq, reduceEqDiff, reduceAdd, reduceLT, reduceLeDiff, reduceToNat, eField]) ?_
  refine CWops.done ?_
  refine CW.seq ?_
  refine CW.seq ?_
  refine CW.region (by kernel_rfl) (by kernel_rfl) ?_ -- r1
  refine CWops.run htt 3 (by simp only [go_sem, reduceIte, reduceCtorEq, reduceEqDiff, reduceAdd, reduceLT, reduceLeDiff, reduceToNat, eField]; exact rfl) (by simp [go_sem, reduceIte, reduceCtorEq, reduceEqDiff, reduceAdd, reduceLT, reduceLeDiff, reduceToNat, eField]) ?_
  refine CWops.done ?_
  refine CW.cond (by simp only [go_sem, reduceIte, reduceCtorEq, reduceEqDiff, reduceAdd, reduceLT, reduceLeDiff, reduceToNat]; first | done | exact rfl) (fun ct5 => ?_) (fun ct5 => ?_)
  · have hk : f.Kind = 5 := by simpa using ct5
    refine CW.seq ?_
    refine CW.region (by kernel_rfl) (by kernel_rfl) ?_ -- r2
    refine CWops.run htt 2 (by simp only [go_sem, reduceIte, reduceCtorEq, reduceEqDiff, reduceAdd, reduceLT, reduceLeDiff, reduceToNat]; exact rfl) (by simp [go_sem, reduceIte, reduceCtorEq, reduceEqDiff, reduceAdd, reduceLT, reduceLeDiff, reduceToNat]) ?_
    refine CWops.done ?_
    refine CW.ret ?_
    refine retQ.ret (by simp only [f15, go_sem, reduceIte, reduceCtorEq, reduceEqDiff, reduceAdd, reduceLT, reduceLeDiff, reduceToNat]; exact rfl) (by simp only [go_sem, reduceIte, reduceCtorEq, reduceEqDiff, reduceAdd, reduceLT, reduceLeDiff, reduceToNat]; exact rfl) ?_ -- ret1
    refine ⟨_, ?_, rfl⟩
    simp [leP, leL, zeroV, hk, eVal]
  · have hk : ¬ f.Kind = 5 := by simpa using ct5
    refine CW.skip ?_
    refine CW.seq ?_
    refine CW.region (by kernel_rfl) (by kernel_rfl) ?_ -- r3
    refine CWops.run htt 2 (by simp only [go_sem, reduceIte, reduceCtorEq, reduceEqDiff, reduceAdd, reduceLT, reduceLeDiff, reduceToNat]; exact rfl) (by simp [go_sem, reduceIte, reduceCtorEq, reduceEqDiff, reduceAdd, reduceLT, reduceLeDiff, reduceToNat]) ?_
    refine CWops.done ?_
    refine CW.ret ?_
    refine retQ.ret (by simp only [f15, go_sem, reduceIte, reduceCtorEq, reduceEqDiff, reduceAdd, reduceLT, reduceLeDiff, reduceToNat]; exact rfl) (by simp only [go_sem, reduceIte, reduceCtorEq, reduceEqDiff, reduceAdd, reduceLT, reduceLeDiff, reduceToNat]; exact rfl) ?_ -- ret2
    refine ⟨_, ?_, rfl⟩
    simp [leP, leL, zeroV, hk, eVal]
end Go.Ab
namespace Go.Ab
open Go Go.Proofs.Try
open Nat (reduceEqDiff reduceAdd reduceLT reduceLeDiff reduceBEq reduceSub reduceMul)
open Int (reduceToNat)
set_option maxRecDepth 100000
set_option linter.unusedSimpArgs false
set_option linter.unusedVariables false
@[go_sem] theorem tt_135 : tiOf prog 135 = some ⟨.int IntKind.u64, 1, 8, [.int .u64 0], false⟩ := by kernel_rfl
@[go_sem] theorem tt_162 : tiOf prog 162 = some ⟨.int IntKind.u64, 1, 8, [.int .u64 0], false⟩ := by kernel_rfl
@[go_sem] theorem tt_160 : tiOf prog 160 = some ⟨.int IntKind.u32, 1, 4, [.int .u32 0], false⟩ := by kernel_rfl
end Go.Ab
namespace Go.Ab
open Go Go.Proofs.Try
open Nat (reduceEqDiff reduceAdd reduceLT reduceLeDiff reduceBEq reduceSub reduceMul)
open Int (reduceToNat)
set_option maxRecDepth 100000
set_option linter.unusedSimpArgs false
set_option linter.unusedVariables false
@[go_sem] theorem tt_106 : tiOf prog 106 = some ⟨.map 3 4, 1, 8, [.nilmap], false⟩ := by kernel_rfl
@[go_sem] theorem tt_107 : tiOf prog 107 = some ⟨.func, 1, 8, [.nilfunc], false⟩ := by kernel_rfl
end Go.Ab
namespace Go.Ab
open Go Go.Proofs.Try
open Nat (reduceEqDiff reduceAdd reduceLT reduceLeDiff reduceBEq reduceSub reduceMul)
open Int (reduceToNat)
set_option maxRecDepth 100000
set_option linter.unusedSimpArgs false
set_option linter.unusedVariables false
theorem May.sz {g : Graph} (h : May g) : GSz g := by
  obtain ⟨h1, h2, h3⟩ := h.small
  have h4 := h.o
  have h5 := h.r
  exact ⟨by unfold MX; omega, fun x hx => by have := h2 x hx; unfold MX; omega, by unfold MX; omega, fun x hx => by have := h3 x hx; unfold MX; omega, by unfold MX; omega⟩
end Go.Ab
namespace Go.Ab
open Go Go.Proofs.Try
open Nat (reduceEqDiff reduceAdd reduceLT reduceLeDiff reduceBEq reduceSub reduceMul)
open Int (reduceToNat)
set_option maxRecDepth 100000
set_option maxHeartbeats 1600000
set_option linter.unusedSimpArgs false
set_option linter.unusedVariables false
@[go_sem] theorem tt_32 : tiOf prog 32 = some ⟨.struct [(3, 0), (9, 1), (30, 2)], 5, 64, [.int .i64 0, .str ⟨#[]⟩, .str ⟨#[]⟩, .int .i64 0, .str ⟨#[]⟩], true⟩ := by kernel_rfl
@[go_sem] theorem tt_82 : tiOf prog 82 = some ⟨.ptr 86, 1, 8, [.nilp], false⟩ := by kernel_rfl
@[go_sem] theorem tt_86 : tiOf prog 86 = some ⟨.struct [(24, 0), (32, 1), (3, 6), (3, 7)], 8, 104, [.nilsl, .int .i64 0, .str ⟨#[]⟩, .str ⟨#[]⟩, .int .i64 0, .str ⟨#[]⟩, .int .i64 0, .int .i64 0], true⟩ := by kernel_rfl
@[go_sem] theorem tt_123 : tiOf prog 123 = some ⟨.ptr 43, 1, 8, [.nilp], false⟩ := by kernel_rfl
@[go_sem] theorem tt_146 : tiOf prog 146 = some ⟨.ptr 30, 1, 8, [.nilp], false⟩ := by kernel_rfl
@[go_sem] theorem tt_125 : tiOf prog 125 = some ⟨.func, 1, 8, [.nilfunc], false⟩ := by kernel_rfl
open Go.RowKit
theorem inf30 : (prog.info? 30).map (fun i => (i.zero, i.size, i.bytes)) = some (some (.agg #[.string ⟨#[]⟩, .int .i64 0, .string ⟨#[]⟩]), 3, 40) := by kernel_rfl
set_option maxHeartbeats 4000000 in
set_option maxRecDepth 1000000 in
theorem delete_Field_calls (b cap n i : Nat) (w W1 : World) (news : List Value) (hi : i < n) (hl : n ≤ cap) (hm : cap ≤ 9223372036854775807)
    (A : Addr) (hA : (if cap = i + 1 then some (⟨b, 0, none⟩ : Addr) else some ⟨b, (i + 1) * 3, none⟩) = some A) (hnews : Hid (∀ j u, news[j]? = some u → w.drew.cell? (A.add j) = some u)) (s1 : Hid (news.length = (n - (i + 1)) * 3)) (s2 : Hid (∀ u ∈ news, u.oneCell' = true))
    (s3 : Hid (∀ j, j < news.length → (w.drew.cell? ⟨b, 0 + i * 3 + j, none⟩).isSome = true ∧ w.drew.frozen? ⟨b, 0 + i * 3 + j, none⟩ = false)) (hW : Hid (W1 = w.drew.setCells b (0 + i * 3) news))
    (w' : World) (hcl : ∀ ty, (Builtin.clear_ #[41] ty #[.slice (some ⟨b, (i + (n - (i + 1))) * 3, none⟩) (n - (i + (n - (i + 1)))) (cap - (i + (n - (i + 1))))]).run prog W1 = .ok (.tuple #[]) w') :
    Calls prog 117 #[.slice (some ⟨b, 0, none⟩) n cap, .int .i64 i, .int .i64 ((i : Int) + 1)] w fun e w'' => e = .returned (.slice (some ⟨b, 0, none⟩) (i + (n - (i + 1))) cap) ∧ w'' = w' := by
  obtain ⟨i0, hi0, hz0, hz1, hz2⟩ := info_parts inf30
  have hic : i ≤ cap := by omega
  have hjc : i + 1 ≤ cap := by omega
  have hp0 : (0 : Int) ≤ (i : Int) + 1 := by omega
  have hp1 : (i : Int) + 1 ≤ (n : Int) := by omega
  have hp2 : ((i : Int) + 1).toNat = i + 1 := by omega
  have mixed : prog.follows .mixedOrders = true := by kernel_rfl
  go_enter func117, ntmps117
  go_wp2_with fail
  go_region_law (refine step_append_room rfl (.tmp 22) (.tmp 25) 41 rfl 30 i0 3 underlying41 hi0 hz1 b 0 i cap (by simp [Act.eval, Act.put]) A (n - (i + 1)) (cap - (i + 1)) news (by simp [Act.eval, Act.put]) s1.out hnews.out s2.out (by omega) s3.out ?_; rw [← hW.out])
  go_wp2
  go_ret
  exact ⟨rfl, rfl⟩
theorem delete_Field (up : Bool) (xs : List GField) (i : Nat) (hi : i < xs.length) : GCall prog up 117 [.ref 0 [] 0, .int .i64 (i : Int), .int .i64 ((i : Int) + 1)] 1 [(0, ⟨false, [.own 3 (xs.map eField)]⟩)] (fun r σ' => r = .ref 1 [] 0 ∧ σ'.n = 2 ∧ σ'.s = [(1, ⟨false, [.own 3 ((xs.eraseIdx i).map eField)]⟩)]) := by
  have hz : ZeroOK [.str ⟨#[]⟩, .int .i64 0, .str ⟨#[]⟩] [.string ⟨#[]⟩, .int .i64 0, .string ⟨#[]⟩] := ⟨rfl, fun i a v h1 h2 => by
    rcases i with _ | _ | _ | i
    all_goals first | (cases h1; cases h2; exact ⟨fun _ _ => .str _ (Nat.zero_le _), rfl⟩) | (cases h1; cases h2; exact ⟨fun _ _ => .int _ _, rfl⟩) | (simp at h1)⟩
  have hmap : (xs.eraseIdx i).map eField = (xs.map eField).eraseIdx i := by
    rw [List.eraseIdx_eq_take_drop_succ, List.eraseIdx_eq_take_drop_succ, List.map_append, List.map_take, List.map_drop]
  rw [hmap]
  refine GCall.delete ⟨_, func117, by kernel_rfl, rfl⟩ (by decide) (by simpa using hi) (fields_plain xs) hz rfl fun b cap w vs T news h1 h2 h3 h4 h5 h6 h7 => ?_
  rw [List.length_map] at h3 h5 ⊢
  have hnew : news.length = (xs.length - (i + 1)) * 3 := h5
  have hcell : ∀ (w : World) (vs : Array Value), w.heap[b]? = some (.cells vs T (0, 0)) → ∀ k, k < vs.size → (w.cell? ⟨b, k, none⟩).isSome = true ∧ w.frozen? ⟨b, k, none⟩ = false := fun w vs h k hk => by
    refine ⟨by simp [World.cell?, h, hk], by simp [World.frozen?, h]⟩
  obtain ⟨vs', q1, q2, _⟩ := setCells_facts (b := b) (o := i * 3) news 0 w.drew vs h1 (by rw [h2, hnew]; omega)
  have e1 : setCells b (i * 3) w.drew 0 news = w.drew.setCells b (0 + i * 3) news := by rw [setCells_eq]; congr 1; omega
  have hlen3 : (0 + i * 3 + news.length) = (i + (xs.length - (i + 1))) * 3 := by rw [hnew]; omega
  refine (delete_Field_calls b cap xs.length i w _ news hi h3 (by unfold maxLen at h4; omega) (if cap = i + 1 then ⟨b, 0, none⟩ else ⟨b, (i + 1) * 3, none⟩) (by split <;> rfl) ?_ hnew h7 (fun j hj => ?_) rfl
    ((w.drew.setCells b (0 + i * 3) news).setCells b (0 + i * 3 + news.length) [.string ⟨#[]⟩, .int .i64 0, .string ⟨#[]⟩]) (fun ty => ?_)).mono fun e w' he => ?_
  · intro j u hu
    by_cases hc : cap = i + 1
    · exfalso
      have := (List.getElem?_eq_some_iff.1 hu).1
      rw [hnew] at this; omega
    · rw [if_neg hc, Addr.add_lit]; exact h6 j u hu
  · refine hcell w.drew vs h1 _ ?_
    rw [h2]; rw [hnew] at hj; omega
  · rw [show xs.length - (i + (xs.length - (i + 1))) = 1 by omega, ← hlen3]
    have hst := run_storeCells (P := prog) [.string ⟨#[]⟩, .int .i64 0, .string ⟨#[]⟩] 0 (w.drew.setCells b (0 + i * 3) news) vs' (b := b) (o := 0 + i * 3 + news.length) (by rw [← e1]; exact q1) (by rw [q2, h2, hnew]; simp; omega) (by simp [Value.oneCell'])
    rw [setCells_eq] at hst
    have hz := zeroValue30 (w.drew.setCells b (0 + i * 3) news)
    have hzc : (Builtin.zeroCells (Value.cells (.agg #[.string ⟨#[]⟩, .int .i64 0, .string ⟨#[]⟩])) 1).toList = [.string ⟨#[]⟩, .int .i64 0, .string ⟨#[]⟩] := by kernel_rfl
    simp only [Nat.zero_add, Nat.add_zero] at hst
    simp [Builtin.clear_, run_underlying underlying41, hz, hzc, hst]
  · obtain ⟨rfl, rfl⟩ := he
    refine ⟨by rw [show i + (xs.length - (i + 1)) = xs.length - 1 by omega], ?_⟩
    rw [setCells_eq, setCells_app, show i * 3 + 0 = 0 + i * 3 by omega]
theorem inf46 : (prog.info? 46).map (fun i => (i.zero, i.size, i.bytes)) = some (some (.agg #[.int .i64 0, .string ⟨#[]⟩, .int .i64 0]), 3, 32) := by kernel_rfl
set_option maxHeartbeats 4000000 in
set_option maxRecDepth 1000000 in
theorem delete_Val_calls (b cap n i : Nat) (w W1 : World) (news : List Value) (hi : i < n) (hl : n ≤ cap) (hm : cap ≤ 9223372036854775807)
    (A : Addr) (hA : (if cap = i + 1 then some (⟨b, 0, none⟩ : Addr) else some ⟨b, (i + 1) * 3, none⟩) = some A) (hnews : Hid (∀ j u, news[j]? = some u → w.drew.cell? (A.add j) = some u)) (s1 : Hid (news.length = (n - (i + 1)) * 3)) (s2 : Hid (∀ u ∈ news, u.oneCell' = true))
    (s3 : Hid (∀ j, j < news.length → (w.drew.cell? ⟨b, 0 + i * 3 + j, none⟩).isSome = true ∧ w.drew.frozen? ⟨b, 0 + i * 3 + j, none⟩ = false)) (hW : Hid (W1 = w.drew.setCells b (0 + i * 3) news))
    (w' : World) (hcl : ∀ ty, (Builtin.clear_ #[38] ty #[.slice (some ⟨b, (i + (n - (i + 1))) * 3, none⟩) (n - (i + (n - (i + 1)))) (cap - (i + (n - (i + 1))))]).run prog W1 = .ok (.tuple #[]) w') :
    Calls prog 46 #[.slice (some ⟨b, 0, none⟩) n cap, .int .i64 i, .int .i64 ((i : Int) + 1)] w fun e w'' => e = .returned (.slice (some ⟨b, 0, none⟩) (i + (n - (i + 1))) cap) ∧ w'' = w' := by
  obtain ⟨i0, hi0, hz0, hz1, hz2⟩ := info_parts inf46
  have hic : i ≤ cap := by omega
  have hjc : i + 1 ≤ cap := by omega
  have hp0 : (0 : Int) ≤ (i : Int) + 1 := by omega
  have hp1 : (i : Int) + 1 ≤ (n : Int) := by omega
  have hp2 : ((i : Int) + 1).toNat = i + 1 := by omega
  have mixed : prog.follows .mixedOrders = true := by kernel_rfl
  go_enter func46, ntmps46
  go_wp2_with fail
  go_region_law (refine step_append_room rfl (.tmp 22) (.tmp 25) 38 rfl 46 i0 3 underlying38 hi0 hz1 b 0 i cap (by simp [Act.eval, Act.put]) A (n - (i + 1)) (cap - (i + 1)) news (by simp [Act.eval, Act.put]) s1.out hnews.out s2.out (by omega) s3.out ?_; rw [← hW.out])
  go_wp2
  go_ret
  exact ⟨rfl, rfl⟩
theorem delete_Val (up : Bool) (xs : List GVal) (i : Nat) (hi : i < xs.length) : GCall prog up 46 [.ref 0 [] 0, .int .i64 (i : Int), .int .i64 ((i : Int) + 1)] 1 [(0, ⟨false, [.own 3 (xs.map eVal)]⟩)] (fun r σ' => r = .ref 1 [] 0 ∧ σ'.n = 2 ∧ σ'.s = [(1, ⟨false, [.own 3 ((xs.eraseIdx i).map eVal)]⟩)]) := by
  have hz : ZeroOK [.int .i64 0, .str ⟨#[]⟩, .int .i64 0] [.int .i64 0, .string ⟨#[]⟩, .int .i64 0] := ⟨rfl, fun i a v h1 h2 => by
    rcases i with _ | _ | _ | i
    all_goals first | (cases h1; cases h2; exact ⟨fun _ _ => .str _ (Nat.zero_le _), rfl⟩) | (cases h1; cases h2; exact ⟨fun _ _ => .int _ _, rfl⟩) | (simp at h1)⟩
  have hmap : (xs.eraseIdx i).map eVal = (xs.map eVal).eraseIdx i := by
    rw [List.eraseIdx_eq_take_drop_succ, List.eraseIdx_eq_take_drop_succ, List.map_append, List.map_take, List.map_drop]
  rw [hmap]
  refine GCall.delete ⟨_, func46, by kernel_rfl, rfl⟩ (by decide) (by simpa using hi) (vals_plain xs) hz rfl fun b cap w vs T news h1 h2 h3 h4 h5 h6 h7 => ?_
  rw [List.length_map] at h3 h5 ⊢
  have hnew : news.length = (xs.length - (i + 1)) * 3 := h5
  have hcell : ∀ (w : World) (vs : Array Value), w.heap[b]? = some (.cells vs T (0, 0)) → ∀ k, k < vs.size → (w.cell? ⟨b, k, none⟩).isSome = true ∧ w.frozen? ⟨b, k, none⟩ = false := fun w vs h k hk => by
    refine ⟨by simp [World.cell?, h, hk], by simp [World.frozen?, h]⟩
  obtain ⟨vs', q1, q2, _⟩ := setCells_facts (b := b) (o := i * 3) news 0 w.drew vs h1 (by rw [h2, hnew]; omega)
  have e1 : setCells b (i * 3) w.drew 0 news = w.drew.setCells b (0 + i * 3) news := by rw [setCells_eq]; congr 1; omega
  have hlen3 : (0 + i * 3 + news.length) = (i + (xs.length - (i + 1))) * 3 := by rw [hnew]; omega
  refine (delete_Val_calls b cap xs.length i w _ news hi h3 (by unfold maxLen at h4; omega) (if cap = i + 1 then ⟨b, 0, none⟩ else ⟨b, (i + 1) * 3, none⟩) (by split <;> rfl) ?_ hnew h7 (fun j hj => ?_) rfl
    ((w.drew.setCells b (0 + i * 3) news).setCells b (0 + i * 3 + news.length) [.int .i64 0, .string ⟨#[]⟩, .int .i64 0]) (fun ty => ?_)).mono fun e w' he => ?_
  · intro j u hu
    by_cases hc : cap = i + 1
    · exfalso
      have := (List.getElem?_eq_some_iff.1 hu).1
      rw [hnew] at this; omega
    · rw [if_neg hc, Addr.add_lit]; exact h6 j u hu
  · refine hcell w.drew vs h1 _ ?_
    rw [h2]; rw [hnew] at hj; omega
  · rw [show xs.length - (i + (xs.length - (i + 1))) = 1 by omega, ← hlen3]
    have hst := run_storeCells (P := prog) [.int .i64 0, .string ⟨#[]⟩, .int .i64 0] 0 (w.drew.setCells b (0 + i * 3) news) vs' (b := b) (o := 0 + i * 3 + news.length) (by rw [← e1]; exact q1) (by rw [q2, h2, hnew]; simp; omega) (by simp [Value.oneCell'])
    rw [setCells_eq] at hst
    have hz := zeroValue46 (w.drew.setCells b (0 + i * 3) news)
    have hzc : (Builtin.zeroCells (Value.cells (.agg #[.int .i64 0, .string ⟨#[]⟩, .int .i64 0])) 1).toList = [.int .i64 0, .string ⟨#[]⟩, .int .i64 0] := by kernel_rfl
    simp only [Nat.zero_add, Nat.add_zero] at hst
    simp [Builtin.clear_, run_underlying underlying38, hz, hzc, hst]
  · obtain ⟨rfl, rfl⟩ := he
    refine ⟨by rw [show i + (xs.length - (i + 1)) = xs.length - 1 by omega], ?_⟩
    rw [setCells_eq, setCells_app, show i * 3 + 0 = 0 + i * 3 by omega]
end Go.Ab
namespace Go.Ab
open Go Go.Proofs.Try
open Nat (reduceEqDiff reduceAdd reduceLT reduceLeDiff reduceBEq reduceSub reduceMul)
open Int (reduceToNat)
set_option maxRecDepth 100000
set_option maxHeartbeats 1600000
set_option linter.unusedSimpArgs false
set_option linter.unusedVariables false
theorem clone_FieldG (up : Bool) (xs : List GField) (hx : xs.length * 40 ≤ MX) : GCall prog up 113 [.sl 3 (xs.map eField)] 0 [] (fun r σ' => r = .ref 0 [] 0 ∧ σ'.n = 1 ∧ σ'.s = [(0, ⟨false, [.own 3 (xs.map eField)]⟩)]) := by
  refine GCall.intro htt 0 func113 (by kernel_rfl) rfl (Nat.le_of_ble_eq_true rfl) (CW.told ?_)
  have hx1 : xs.length ≤ MX := by omega
  simp only [tmps0, Nat.reduceAdd]
  refine CW.seq ?_
  refine CW.region (by kernel_rfl) (by kernel_rfl) ?_ -- r0
  refine CWops.run htt 1 (by simp only [go_sem, reduceIte, reduceCtorEq, reduceEqDiff, reduceAdd, reduceLT, reduceLeDiff, reduceToNat, reduceMul]; exact rfl) (by simp [go_sem, reduceIte, reduceCtorEq, reduceEqDiff, reduceAdd, reduceLT, reduceLeDiff, reduceToNat, reduceMul]) ?_
  refine CWops.done ?_
  refine CW.seq ?_
  refine CW.seq ?_
  refine CW.region (by kernel_rfl) (by kernel_rfl) ?_ -- r1
  refine CWops.run htt 1 (by simp only [go_sem, reduceIte, reduceCtorEq, reduceEqDiff, reduceAdd, reduceLT, reduceLeDiff, reduceToNat, reduceMul]; exact rfl) (by simp [go_sem, reduceIte, reduceCtorEq, reduceEqDiff, reduceAdd, reduceLT, reduceLeDiff, reduceToNat, reduceMul]) ?_
  refine CWops.nilcmp (n := 3) (l := xs.map eField) htt (by simp only [go_sem, reduceIte, reduceCtorEq, reduceEqDiff, reduceAdd, reduceLT, reduceLeDiff, reduceToNat, reduceMul]) (by simp only [go_sem, reduceIte, reduceCtorEq, reduceEqDiff, reduceAdd, reduceLT, reduceLeDiff, reduceToNat, reduceMul]) (by simp only [go_sem, reduceIte, reduceCtorEq, reduceEqDiff, reduceAdd, reduceLT, reduceLeDiff, reduceToNat, reduceMul]) tt_41 rfl (fun b hb => ⟨_, rfl, ?_⟩)
  refine CWops.done ?_
  refine CW.cond (by simp only [go_sem, reduceIte, reduceCtorEq, reduceEqDiff, reduceAdd, reduceLT, reduceLeDiff, reduceToNat, reduceMul]; first | done | exact rfl) (fun ct4 => ?_) (fun ct4 => ?_)
  · refine CW.seq ?_
    refine CW.region (by kernel_rfl) (by kernel_rfl) ?_ -- r2
    refine CWops.run htt 1 (by simp only [go_sem, reduceIte, reduceCtorEq, reduceEqDiff, reduceAdd, reduceLT, reduceLeDiff, reduceToNat, reduceMul]; exact rfl) (by simp [go_sem, reduceIte, reduceCtorEq, reduceEqDiff, reduceAdd, reduceLT, reduceLeDiff, reduceToNat, reduceMul]) ?_
    refine CWops.done ?_
    refine CW.ret ?_
    refine ⟨⟨1, [(2, .ref 0 [] 0)], [(0, ⟨false, [.own 3 (xs.map eField)]⟩)]⟩, ?_, .inr rfl, by simp [ptrOK, go_sem, reduceIte, reduceCtorEq, reduceEqDiff, reduceAdd, reduceLT, reduceLeDiff, reduceToNat, reduceMul], _, by simp only [f113, go_sem, reduceIte, reduceCtorEq, reduceEqDiff, reduceAdd, reduceLT, reduceLeDiff, reduceToNat, reduceMul]; exact rfl, ?_⟩ -- ret1
    · have h0 := hb ct4
      refine Sh.trans (Sh.nilRoot 2 3 (by simp only [go_sem, reduceIte, reduceCtorEq, reduceEqDiff, reduceAdd, reduceLT, reduceLeDiff, reduceToNat, reduceMul]) rfl) (Sh.wk0 ?_)
      simp [Wk, go_sem, reduceIte, reduceCtorEq, reduceEqDiff, reduceAdd, reduceLT, reduceLeDiff, reduceToNat, reduceMul, h0]
    · exact ⟨rfl, rfl, rfl⟩
  · refine CW.skip ?_
    refine CW.seq ?_
    refine CW.region (by kernel_rfl) (by kernel_rfl) ?_ -- r3
    refine CWops.run htt 4 (by simp only [go_sem, reduceIte, reduceCtorEq, reduceEqDiff, reduceAdd, reduceLT, reduceLeDiff, reduceToNat, reduceMul]; exact rfl) (by refine ⟨?_, ?_, ?_⟩ <;> first | (simp [eField, AV.cell]; done) | (simp; omega)) ?_
    refine CWops.done ?_
    refine CW.ret ?_
    refine ⟨⟨1, [(2, .ref 0 [] 0)], [(0, ⟨false, [.own 3 (xs.map eField)]⟩)]⟩, ?_, .inr rfl, by simp [ptrOK, go_sem, reduceIte, reduceCtorEq, reduceEqDiff, reduceAdd, reduceLT, reduceLeDiff, reduceToNat, reduceMul], _, by simp only [f113, go_sem, reduceIte, reduceCtorEq, reduceEqDiff, reduceAdd, reduceLT, reduceLeDiff, reduceToNat, reduceMul]; exact rfl, ?_⟩ -- ret2
    · refine Sh.wk (fun x => x + 1) ?_
      simp [Wk, go_sem, reduceIte, reduceCtorEq, reduceEqDiff, reduceAdd, reduceLT, reduceLeDiff, reduceToNat, reduceMul]
    · exact ⟨rfl, rfl, rfl⟩
theorem grade_own (up : Bool) (s : List GType) (h1 : s.length * 40 ≤ MX) (h2 : ∀ x ∈ s, x.F.length * 40 ≤ MX) : GCall prog up 89 [.agg (eSchema s)] 0 [] (fun r σ' => r = .agg [.ref 0 [] 0] ∧ σ'.n = 2 ∧ σ'.s = [(0, ⟨false, [.own 2 (s.map eTypeO)]⟩), (1, ⟨true, [.ref 0 [] 0]⟩)]) := by
  refine GCall.intro htt 0 func89 (by kernel_rfl) rfl (Nat.le_of_ble_eq_true rfl) (CW.told ?_)
  have hb : s.length ≤ MX := by omega
  simp only [tmps0, Nat.reduceAdd]
  refine CW.seq ?_
  refine CW.region (by kernel_rfl) (by kernel_rfl) ?_ -- r0
  refine CWops.run htt 2 (by simp only [go_sem, reduceIte, reduceCtorEq, reduceEqDiff, reduceAdd, reduceLT, reduceLeDiff, reduceToNat, reduceMul, eSchema]; exact rfl) (by simp [go_sem, reduceIte, reduceCtorEq, reduceEqDiff, reduceAdd, reduceLT, reduceLeDiff, reduceToNat, reduceMul, eSchema]) ?_
  refine CWops.done ?_
  refine CW.seq ?_
  refine CW.region (by kernel_rfl) (by kernel_rfl) ?_ -- r1
  refine CWops.run htt 2 (by simp only [go_sem, reduceIte, reduceCtorEq, reduceEqDiff, reduceAdd, reduceLT, reduceLeDiff, reduceToNat, reduceMul, eSchema]; exact rfl) (by simp [go_sem, reduceIte, reduceCtorEq, reduceEqDiff, reduceAdd, reduceLT, reduceLeDiff, reduceToNat, reduceMul, eSchema]) ?_
  refine CWops.callG [] rfl (clone_TypeG up s h1) (by simp only [go_sem, reduceIte, reduceCtorEq, reduceEqDiff, reduceAdd, reduceLT, reduceLeDiff, reduceToNat, reduceMul]) (by simp only [go_sem, reduceIte, reduceCtorEq, reduceEqDiff, reduceAdd, reduceLT, reduceLeDiff, reduceToNat, reduceMul]; first | done | exact rfl) (by decide) (by simp [go_sem, reduceIte, reduceCtorEq, reduceEqDiff, reduceAdd, reduceLT, reduceLeDiff, reduceToNat, reduceMul, mName, memB]) (by simp [go_sem, reduceIte, reduceCtorEq, reduceEqDiff, reduceAdd, reduceLT, reduceLeDiff, reduceToNat, reduceMul, mName]) (by simp [go_sem, reduceIte, reduceCtorEq, reduceEqDiff, reduceAdd, reduceLT, reduceLeDiff, reduceToNat, reduceMul]) (by simp [go_sem, reduceIte, reduceCtorEq, reduceEqDiff, reduceAdd, reduceLT, reduceLeDiff, reduceToNat, reduceMul]) (by simp [go_sem, reduceIte, reduceCtorEq, reduceEqDiff, reduceAdd, reduceLT, reduceLeDiff, reduceToNat, reduceMul, mName]) (fun r σ' hσ => ?_)
  obtain ⟨σn, σt, σs⟩ := σ'
  simp only at hσ
  obtain ⟨rfl, rfl, rfl⟩ := hσ
  simp only [aftS, renS, delAll, memB, mName, List.getD_nil, killH, kref, ren, Nat.beq_eq, go_sem, reduceIte, reduceCtorEq, reduceEqDiff, reduceAdd, reduceLT, reduceLeDiff, reduceToNat, reduceMul]
  refine CWops.run htt 2 (by simp only [go_sem, reduceIte, reduceCtorEq, reduceEqDiff, reduceAdd, reduceLT, reduceLeDiff, reduceToNat, reduceMul, eSchema]; exact rfl) (by simp [go_sem, reduceIte, reduceCtorEq, reduceEqDiff, reduceAdd, reduceLT, reduceLeDiff, reduceToNat, reduceMul, eSchema]) ?_
  refine CWops.done ?_
  refine CW.seq ?_
  refine CW.seq ?_
  refine CW.region (by kernel_rfl) (by kernel_rfl) ?_ -- r2
  refine CWops.run htt 4 (by simp only [go_sem, reduceIte, reduceCtorEq, reduceEqDiff, reduceAdd, reduceLT, reduceLeDiff, reduceToNat, reduceMul]; exact rfl) (by simp [go_sem, reduceIte, reduceCtorEq, reduceEqDiff, reduceAdd, reduceLT, reduceLeDiff, reduceToNat, reduceMul]) ?_
  refine CWops.done ?_
  refine CW.block ?_
  refine CW.loop (S := Nat) (fun i => ⟨2, [(1, .lv 0 [] 0), (2, .lv 1 [] 0), (10, .ref 0 [] 0), (11, .int .i64 s.length), (12, .int .i64 i)], [(0, ⟨true, [.own 2 (mixT s i)]⟩), (1, ⟨true, [.nilsl]⟩)]⟩) (fun i => i ≤ s.length) (fun i => s.length - i) (0) ?_ (Nat.zero_le _) (fun i h3 => ?_)
  · refine Sh.wk0 ?_; simp [Wk, go_sem, reduceIte, reduceCtorEq, reduceEqDiff, reduceAdd, reduceLT, reduceLeDiff, reduceToNat, reduceMul, mixT_zero]
  refine CW.seq ?_
  refine CW.region (by kernel_rfl) (by kernel_rfl) ?_ -- r3
  refine CWops.run htt 1 (by simp only [go_sem, reduceIte, reduceCtorEq, reduceEqDiff, reduceAdd, reduceLT, reduceLeDiff, reduceToNat, reduceMul]; exact rfl) (by simp [go_sem, reduceIte, reduceCtorEq, reduceEqDiff, reduceAdd, reduceLT, reduceLeDiff, reduceToNat, reduceMul]) ?_
  refine CWops.done ?_
  refine CW.seq ?_
  refine CW.cond (by simp only [go_sem, reduceIte, reduceCtorEq, reduceEqDiff, reduceAdd, reduceLT, reduceLeDiff, reduceToNat, reduceMul]; first | done | exact rfl) (fun ct13 => ?_) (fun ct13 => ?_)
  · have hi : i < s.length := by simpa using ct13
    obtain ⟨x, hx⟩ : ∃ x, s[i]? = some x := ⟨s[i], List.getElem?_eq_getElem hi⟩
    refine CW.skip ?_
    refine CW.seq ?_
    refine CW.block ?_
    refine CW.seq ?_
    refine CW.region (by kernel_rfl) (by kernel_rfl) ?_ -- r4
    refine CWops.run htt 6 (by simp only [go_sem, reduceIte, reduceCtorEq, reduceEqDiff, reduceAdd, reduceLT, reduceLeDiff, reduceToNat, reduceMul, hi, mixT_get hx, mixT_len, eType]; exact rfl) (by simp [go_sem, reduceIte, reduceCtorEq, reduceEqDiff, reduceAdd, reduceLT, reduceLeDiff, reduceToNat, reduceMul, hi, mixT_get hx, mixT_len, eType]) ?_
    refine CWops.done ?_
    refine CW.drawn mixed 6 (by decide) (by kernel_rfl) (by kernel_rfl) (by kernel_rfl) ?_ -- r5
    refine Seg.run htt 5 (by simp only [go_sem, reduceIte, reduceCtorEq, reduceEqDiff, reduceAdd, reduceLT, reduceLeDiff, reduceToNat, reduceMul, hi, mixT_get hx, mixT_len, eType]; exact rfl) ?_
    refine Seg.callN (clone_FieldG up x.F (h2 x (List.mem_of_getElem? hx))) (by simp only [go_sem, reduceIte, reduceCtorEq, reduceEqDiff, reduceAdd, reduceLT, reduceLeDiff, reduceToNat, reduceMul]) (by simp only [go_sem, reduceIte, reduceCtorEq, reduceEqDiff, reduceAdd, reduceLT, reduceLeDiff, reduceToNat, reduceMul]; first | done | exact rfl) (by simp [go_sem, reduceIte, reduceCtorEq, reduceEqDiff, reduceAdd, reduceLT, reduceLeDiff, reduceToNat, reduceMul]) ?_
    refine Seg.done ?_
    refine CWops.run htt 3 (by simp only [go_sem, reduceIte, reduceCtorEq, reduceEqDiff, reduceAdd, reduceLT, reduceLeDiff, reduceToNat, reduceMul, hi, mixT_get hx, mixT_len, eType]; exact rfl) (by simp [go_sem, reduceIte, reduceCtorEq, reduceEqDiff, reduceAdd, reduceLT, reduceLeDiff, reduceToNat, reduceMul, hi, mixT_get hx, mixT_len, eType]) ?_
    refine CWops.done ?_
    refine CW.region (by kernel_rfl) (by kernel_rfl) ?_ -- r6
    refine CWops.run htt 2 (by simp only [go_sem, reduceIte, reduceCtorEq, reduceEqDiff, reduceAdd, reduceLT, reduceLeDiff, reduceToNat, reduceMul, wrap_succ (Nat.lt_of_lt_of_le hi hb)]; exact rfl) (by simp [go_sem, reduceIte, reduceCtorEq, reduceEqDiff, reduceAdd, reduceLT, reduceLeDiff, reduceToNat, reduceMul, wrap_succ (Nat.lt_of_lt_of_le hi hb)]) ?_
    refine CWops.done ?_
    refine ⟨i + 1, ?_, ?_, ?_⟩
    · refine Sh.wk0 ?_
      dsimp only
      rw [← mixT_set hx]
      simp [Wk, go_sem, reduceIte, reduceCtorEq, reduceEqDiff, reduceAdd, reduceLT, reduceLeDiff, reduceToNat, reduceMul, eTypeO]
    · exact hi
    · simp only; omega
  · have hi : i = s.length := by simp at ct13; omega
    refine CW.exit ?_
    refine CW.seq ?_
    refine CW.region (by kernel_rfl) (by kernel_rfl) ?_ -- r7
    refine CWops.run htt 2 (by simp only [go_sem, reduceIte, reduceCtorEq, reduceEqDiff, reduceAdd, reduceLT, reduceLeDiff, reduceToNat, reduceMul]; exact rfl) (by simp [go_sem, reduceIte, reduceCtorEq, reduceEqDiff, reduceAdd, reduceLT, reduceLeDiff, reduceToNat, reduceMul]) ?_
    refine CWops.done ?_
    refine CW.ret ?_
    refine ⟨⟨2, [(2, .lv 1 [] 0)], [(0, ⟨false, [.own 2 (s.map eTypeO)]⟩), (1, ⟨true, [.ref 0 [] 0]⟩)]⟩, ?_, .inr rfl, by simp [ptrOK, go_sem, reduceIte, reduceCtorEq, reduceEqDiff, reduceAdd, reduceLT, reduceLeDiff, reduceToNat, reduceMul], _, by simp only [f89, go_sem, reduceIte, reduceCtorEq, reduceEqDiff, reduceAdd, reduceLT, reduceLeDiff, reduceToNat, reduceMul]; exact rfl, ?_⟩ -- ret1
    · rw [hi, mixT_all]
      refine Sh.trans (Sh.out 0 0 rfl rfl rfl) (Sh.wk (fun x => if x = 0 then 2 else x) ?_)
      simp [Wk, go_sem, reduceIte, reduceCtorEq, reduceEqDiff, reduceAdd, reduceLT, reduceLeDiff, reduceToNat, reduceMul, mapT, mapS, outF, putAt]
    · exact ⟨rfl, rfl, rfl⟩
theorem grade_wider (up : Bool) (k than : Int) : PCall prog up 100 [.int .i64 k, .int .i64 than] (· = .bool (wider k than)) := by
  refine PCall.intro htt func100 (by kernel_rfl) rfl (Nat.le_of_ble_eq_true rfl) fun hl => ?_

  simp only [tmps0, Nat.reduceAdd]
  refine CW.seq ?_
  refine CW.region (by kernel_rfl) (by kernel_rfl) ?_ -- r0
  refine CWops.run htt 1 (by simp only [go_sem, reduceIte, reduceCtorEq, reduceEqDiff, reduceAdd, reduceLT, reduceLeDiff, reduceToNat, reduceMul]; exact rfl) (by simp [go_sem, reduceIte, reduceCtorEq, reduceEqDiff, reduceAdd, reduceLT, reduceLeDiff, reduceToNat, reduceMul]) ?_
  refine CWops.done ?_
  refine CW.seq ?_
  refine CW.region (by kernel_rfl) (by kernel_rfl) ?_ -- r1
  refine CWops.run htt 3 (by simp only [go_sem, reduceIte, reduceCtorEq, reduceEqDiff, reduceAdd, reduceLT, reduceLeDiff, reduceToNat, reduceMul]; exact rfl) (by simp [go_sem, reduceIte, reduceCtorEq, reduceEqDiff, reduceAdd, reduceLT, reduceLeDiff, reduceToNat, reduceMul]) ?_
  all_goals (first | refine CWops.guard 7 (by simp only [go_sem, reduceIte, reduceCtorEq, reduceEqDiff, reduceAdd, reduceLT, reduceLeDiff, reduceToNat, reduceMul]; exact rfl) (fun g7 => ?_) (fun g7 => ?_) | skip)
  all_goals (refine CWops.run htt 5 (by simp only [go_sem, reduceIte, reduceCtorEq, reduceEqDiff, reduceAdd, reduceLT, reduceLeDiff, reduceToNat, reduceMul]; exact rfl) (by simp [go_sem, reduceIte, reduceCtorEq, reduceEqDiff, reduceAdd, reduceLT, reduceLeDiff, reduceToNat, reduceMul]) ?_)
  all_goals (first | refine CWops.guard 12 (by simp only [go_sem, reduceIte, reduceCtorEq, reduceEqDiff, reduceAdd, reduceLT, reduceLeDiff, reduceToNat, reduceMul]; exact rfl) (fun g12 => ?_) (fun g12 => ?_) | skip)
  all_goals (refine CWops.run htt 4 (by simp only [go_sem, reduceIte, reduceCtorEq, reduceEqDiff, reduceAdd, reduceLT, reduceLeDiff, reduceToNat, reduceMul]; exact rfl) (by simp [go_sem, reduceIte, reduceCtorEq, reduceEqDiff, reduceAdd, reduceLT, reduceLeDiff, reduceToNat, reduceMul]) ?_)
  all_goals (refine CWops.done ?_)
  all_goals (
    refine CW.ret ?_
    refine retQ.ret (by simp only [f100, go_sem, reduceIte, reduceCtorEq, reduceEqDiff, reduceAdd, reduceLT, reduceLeDiff, reduceToNat, reduceMul]; exact rfl) (by simp only [go_sem, reduceIte, reduceCtorEq, reduceEqDiff, reduceAdd, reduceLT, reduceLeDiff, reduceToNat, reduceMul]; exact rfl) ?_ -- ret1
    refine ⟨_, ?_, rfl⟩
    first | (simp_all [leP, wider]; done) | (simp_all [leP, wider]; omega))
theorem kind_R (x y t : Nat) (a1 a2 a3 a4 a5 a7 : AV) (b : Bool) (rows : List (List AV)) (n : Nat) (s : List (Nat × Root)) (hx : getS s x = some ⟨true, [.ref y [] 0, a1, a2, a3, a4, a5, .int .i64 (t : Int), a7]⟩) (hy : getS s y = some ⟨b, [.own 2 rows]⟩) (ht : t < rows.length) :
    RCall prog 90 [.lv x [] 0] n s (.lv y [(0, t)] 0) := by
  refine RCall.intro (σ1 := ?s1) (τ := ?ta) htt mixed func90 (by kernel_rfl) rfl (Nat.le_of_ble_eq_true rfl) (by kernel_rfl) (by kernel_rfl) (by kernel_rfl) (StillS.run htt ?h0) (StillS.run htt ?h1) ?h2 ?h3
  case h0 => simp only [runV, stillB, tmps0, go_sem, reduceIte, reduceCtorEq, reduceEqDiff, reduceAdd, reduceLT, reduceLeDiff, reduceToNat, reduceMul]; exact rfl
  case h1 => simp only [runV, stillB, go_sem, reduceIte, reduceCtorEq, reduceEqDiff, reduceAdd, reduceLT, reduceLeDiff, reduceToNat, reduceMul, hx, hy, ht]; exact rfl
  case h2 => rfl
  case h3 => exact ⟨_, by simp only [f90, go_sem, reduceIte, reduceCtorEq, reduceEqDiff, reduceAdd, reduceLT, reduceLeDiff, reduceToNat, reduceMul]; exact rfl, rfl⟩
end Go.Ab
namespace Go.Ab
open Go Go.Proofs.Try
open Nat (reduceEqDiff reduceAdd reduceLT reduceLeDiff reduceBEq reduceSub reduceMul)
open Int (reduceToNat)
set_option maxRecDepth 100000
set_option maxHeartbeats 1600000
set_option linter.unusedSimpArgs false
set_option linter.unusedVariables false
theorem work_widen_no (up : Bool) (s : List GType) (x : GStep) (t : Nat)  : GCall prog up 91 [.lv 1 [] 0] 2 [(0, ⟨false, [.own 2 (List.map eTypeO (s))]⟩), (1, ⟨true, eWork 0 x (t : Int) (-1)⟩)] (fun r σ' => r = .int .i64 (11) ∧ ∃ tt, σ' = ⟨2, tt, [(0, ⟨false, [.own 2 (List.map eTypeO (s))]⟩), (1, ⟨true, eWork 0 x (t : Int) (-1)⟩)]⟩) := by
  refine GCall.intro htt 1 func91 (by kernel_rfl) rfl (Nat.le_of_ble_eq_true rfl) (CW.told ?_)

  simp only [tmps0, Nat.reduceAdd]
  refine CW.seq ?_
  refine CW.region (by kernel_rfl) (by kernel_rfl) ?_ -- r0
  refine CWops.run htt 1 (by simp only [go_sem, reduceIte, reduceCtorEq, reduceEqDiff, reduceAdd, reduceLT, reduceLeDiff, reduceToNat, eWork]; exact rfl) (by simp [go_sem, reduceIte, reduceCtorEq, reduceEqDiff, reduceAdd, reduceLT, reduceLeDiff, reduceToNat, eWork]) ?_
  refine CWops.done ?_
  refine CW.seq ?_
  refine CW.seq ?_
  refine CW.region (by kernel_rfl) (by kernel_rfl) ?_ -- r1
  refine CWops.run htt 5 (by simp only [go_sem, reduceIte, reduceCtorEq, reduceEqDiff, reduceAdd, reduceLT, reduceLeDiff, reduceToNat, eWork]; exact rfl) (by simp [go_sem, reduceIte, reduceCtorEq, reduceEqDiff, reduceAdd, reduceLT, reduceLeDiff, reduceToNat, eWork]) ?_
  refine CWops.done ?_
  refine CW.cond (by simp only [go_sem, reduceIte, reduceCtorEq, reduceEqDiff, reduceAdd, reduceLT, reduceLeDiff, reduceToNat]; first | done | exact rfl) (fun ct8 => ?_) (fun ct8 => ?_)
  · refine CW.seq ?_
    refine CW.region (by kernel_rfl) (by kernel_rfl) ?_ -- r2
    refine CWops.run htt 1 (by simp only [go_sem, reduceIte, reduceCtorEq, reduceEqDiff, reduceAdd, reduceLT, reduceLeDiff, reduceToNat, eWork]; exact rfl) (by simp [go_sem, reduceIte, reduceCtorEq, reduceEqDiff, reduceAdd, reduceLT, reduceLeDiff, reduceToNat, eWork]) ?_
    refine CWops.done ?_
    refine CW.ret ?_
    refine ⟨⟨2, [(0, .lv 1 [] 0), (2, .int .i64 (11))], [(0, ⟨false, [.own 2 (List.map eTypeO (s))]⟩), (1, ⟨true, eWork 0 x (t : Int) (-1)⟩)]⟩, ?_, .inr rfl, by simp [ptrOK, go_sem, reduceIte, reduceCtorEq, reduceEqDiff, reduceAdd, reduceLT, reduceLeDiff, reduceToNat], _, by simp only [f91, go_sem, reduceIte, reduceCtorEq, reduceEqDiff, reduceAdd, reduceLT, reduceLeDiff, reduceToNat]; exact rfl, ?_⟩ -- ret1
    · refine Sh.wk0 ?_
      simp [Wk, go_sem, reduceIte, reduceCtorEq, reduceEqDiff, reduceAdd, reduceLT, reduceLeDiff, reduceToNat, eWork]
    · exact ⟨rfl, _, rfl⟩
  · exfalso; revert ct8; simp
theorem work_widen_at (up : Bool) (s : List GType) (x : GStep) (t : Nat) (ty : GType) (hS : s[t]? = some ty) (q : Nat) (f0 : GField) (hF : ty.F[q]? = some f0) : GCall prog up 91 [.lv 1 [] 0] 2 [(0, ⟨false, [.own 2 (List.map eTypeO (s))]⟩), (1, ⟨true, eWork 0 x (t : Int) ((q : Int))⟩)] (fun r σ' => r = .int .i64 (if wider x.F.Kind f0.Kind = true then 0 else 6) ∧ ∃ tt, σ' = ⟨2, tt, [(0, ⟨false, [.own 2 (List.map eTypeO (if wider x.F.Kind f0.Kind = true then s.set t ⟨ty.Name, ty.F.set q ⟨f0.Name, x.F.Kind, f0.To⟩⟩ else s))]⟩), (1, ⟨true, eWork 0 x (t : Int) ((q : Int))⟩)]⟩) := by
  refine GCall.intro htt 1 func91 (by kernel_rfl) rfl (Nat.le_of_ble_eq_true rfl) (CW.told ?_)
  have htl : t < s.length := (List.getElem?_eq_some_iff.1 hS).1
  have hql : q < ty.F.length := (List.getElem?_eq_some_iff.1 hF).1
  simp only [tmps0, Nat.reduceAdd]
  refine CW.seq ?_
  refine CW.region (by kernel_rfl) (by kernel_rfl) ?_ -- r0
  refine CWops.run htt 1 (by simp only [go_sem, reduceIte, reduceCtorEq, reduceEqDiff, reduceAdd, reduceLT, reduceLeDiff, reduceToNat, eWork]; exact rfl) (by simp [go_sem, reduceIte, reduceCtorEq, reduceEqDiff, reduceAdd, reduceLT, reduceLeDiff, reduceToNat, eWork]) ?_
  refine CWops.done ?_
  refine CW.seq ?_
  refine CW.seq ?_
  refine CW.region (by kernel_rfl) (by kernel_rfl) ?_ -- r1
  refine CWops.run htt 5 (by simp only [go_sem, reduceIte, reduceCtorEq, reduceEqDiff, reduceAdd, reduceLT, reduceLeDiff, reduceToNat, eWork]; exact rfl) (by simp [go_sem, reduceIte, reduceCtorEq, reduceEqDiff, reduceAdd, reduceLT, reduceLeDiff, reduceToNat, eWork]) ?_
  refine CWops.done ?_
  refine CW.cond (by simp only [go_sem, reduceIte, reduceCtorEq, reduceEqDiff, reduceAdd, reduceLT, reduceLeDiff, reduceToNat]; first | done | exact rfl) (fun ct8 => ?_) (fun ct8 => ?_)
  · exfalso; revert ct8; simp <;> omega 
  · refine CW.skip ?_
    refine CW.seq ?_
    refine CW.drawn mixed 9 (by decide) (by kernel_rfl) (by kernel_rfl) (by kernel_rfl) ?_ -- r3
    refine Seg.run htt 1 (by simp only [go_sem, reduceIte, reduceCtorEq, reduceEqDiff, reduceAdd, reduceLT, reduceLeDiff, reduceToNat, eWork, hS, htl, eTypeO, hF, hql]; exact rfl) ?_
    refine Seg.callR (v := .lv 0 [(0, t)] 0) (by simp only [go_sem, reduceIte, reduceCtorEq, reduceEqDiff, reduceAdd, reduceLT, reduceLeDiff, reduceToNat]) (by simp only [go_sem, reduceIte, reduceCtorEq, reduceEqDiff, reduceAdd, reduceLT, reduceLeDiff, reduceToNat]; first | done | exact rfl) (fun n s' hs => by simp only [go_sem, reduceIte, reduceCtorEq, reduceEqDiff, reduceAdd, reduceLT, reduceLeDiff, reduceToNat]; exact kind_R 1 0 t _ _ _ _ _ _ false (s.map eTypeO) n s' (hs _ _ rfl) (hs _ _ rfl) (by simpa using htl)) ?_
    refine Seg.run htt 7 (by simp only [go_sem, reduceIte, reduceCtorEq, reduceEqDiff, reduceAdd, reduceLT, reduceLeDiff, reduceToNat, eWork, hS, htl, eTypeO, hF, hql]; exact rfl) ?_
    refine Seg.done ?_
    refine CWops.run htt 2 (by simp only [go_sem, reduceIte, reduceCtorEq, reduceEqDiff, reduceAdd, reduceLT, reduceLeDiff, reduceToNat, eWork, hS, htl, eTypeO, hF, hql]; exact rfl) (by simp [go_sem, reduceIte, reduceCtorEq, reduceEqDiff, reduceAdd, reduceLT, reduceLeDiff, reduceToNat, eWork, hS, htl, eTypeO, hF, hql]) ?_
    refine CWops.done ?_
    refine CW.seq ?_
    refine CW.seq ?_
    refine CW.drawn mixed 10 (by decide) (by kernel_rfl) (by kernel_rfl) (by kernel_rfl) ?_ -- r4
    refine Seg.run htt 10 (by simp only [go_sem, reduceIte, reduceCtorEq, reduceEqDiff, reduceAdd, reduceLT, reduceLeDiff, reduceToNat, eWork, hS, htl, eTypeO, hF, hql, eField]; exact rfl) ?_
    refine Seg.done ?_
    refine CWops.callA (grade_wider up x.F.Kind f0.Kind) (by simp only [go_sem, reduceIte, reduceCtorEq, reduceEqDiff, reduceAdd, reduceLT, reduceLeDiff, reduceToNat, eWork, hS, htl, eTypeO, hF, hql, eField]) (by simp only [go_sem, reduceIte, reduceCtorEq, reduceEqDiff, reduceAdd, reduceLT, reduceLeDiff, reduceToNat, eWork, hS, htl, eTypeO, hF, hql, eField]; first | done | exact rfl) (by simp only [go_sem, reduceIte, reduceCtorEq, reduceEqDiff, reduceAdd, reduceLT, reduceLeDiff, reduceToNat, eWork, hS, htl, eTypeO, hF, hql, eField]) (by simp only [go_sem, reduceIte, reduceCtorEq, reduceEqDiff, reduceAdd, reduceLT, reduceLeDiff, reduceToNat, eWork, hS, htl, eTypeO, hF, hql, eField]) (fun rt29 hrt29 => ?_)
    subst hrt29
    refine CWops.run htt 1 (by simp only [go_sem, reduceIte, reduceCtorEq, reduceEqDiff, reduceAdd, reduceLT, reduceLeDiff, reduceToNat, eWork, hS, htl, eTypeO, hF, hql, eField]; exact rfl) (by simp [go_sem, reduceIte, reduceCtorEq, reduceEqDiff, reduceAdd, reduceLT, reduceLeDiff, reduceToNat, eWork, hS, htl, eTypeO, hF, hql, eField]) ?_
    refine CWops.done ?_
    refine CW.cond (by simp only [go_sem, reduceIte, reduceCtorEq, reduceEqDiff, reduceAdd, reduceLT, reduceLeDiff, reduceToNat]; first | done | exact rfl) (fun ct30 => ?_) (fun ct30 => ?_)
    · have hw : wider x.F.Kind f0.Kind = false := by simpa using ct30
      refine CW.seq ?_
      refine CW.region (by kernel_rfl) (by kernel_rfl) ?_ -- r5
      refine CWops.run htt 1 (by simp only [go_sem, reduceIte, reduceCtorEq, reduceEqDiff, reduceAdd, reduceLT, reduceLeDiff, reduceToNat, eWork, hS, htl, eTypeO]; exact rfl) (by simp [go_sem, reduceIte, reduceCtorEq, reduceEqDiff, reduceAdd, reduceLT, reduceLeDiff, reduceToNat, eWork, hS, htl, eTypeO]) ?_
      refine CWops.done ?_
      refine CW.ret ?_
      refine ⟨⟨2, [(0, .lv 1 [] 0), (2, .int .i64 (if wider x.F.Kind f0.Kind = true then 0 else 6))], [(0, ⟨false, [.own 2 (List.map eTypeO (if wider x.F.Kind f0.Kind = true then s.set t ⟨ty.Name, ty.F.set q ⟨f0.Name, x.F.Kind, f0.To⟩⟩ else s))]⟩), (1, ⟨true, eWork 0 x (t : Int) ((q : Int))⟩)]⟩, ?_, .inr rfl, by simp [ptrOK, go_sem, reduceIte, reduceCtorEq, reduceEqDiff, reduceAdd, reduceLT, reduceLeDiff, reduceToNat], _, by simp only [f91, go_sem, reduceIte, reduceCtorEq, reduceEqDiff, reduceAdd, reduceLT, reduceLeDiff, reduceToNat]; exact rfl, ?_⟩ -- ret1
      · rw [hw]
        refine Sh.wk0 ?_
        simp [Wk, go_sem, reduceIte, reduceCtorEq, reduceEqDiff, reduceAdd, reduceLT, reduceLeDiff, reduceToNat, eWork]
      · exact ⟨rfl, _, rfl⟩
    · have hw : wider x.F.Kind f0.Kind = true := by simpa using ct30
      refine CW.skip ?_
      refine CW.seq ?_
      refine CW.region (by kernel_rfl) (by kernel_rfl) ?_ -- r6
      refine CWops.run htt 10 (by simp only [go_sem, reduceIte, reduceCtorEq, reduceEqDiff, reduceAdd, reduceLT, reduceLeDiff, reduceToNat, eWork, hS, htl, eTypeO, hF, hql, eField]; exact rfl) (by simp [go_sem, reduceIte, reduceCtorEq, reduceEqDiff, reduceAdd, reduceLT, reduceLeDiff, reduceToNat, eWork, hS, htl, eTypeO, hF, hql, eField]) ?_
      refine CWops.done ?_
      refine CW.seq ?_
      refine CW.region (by kernel_rfl) (by kernel_rfl) ?_ -- r7
      refine CWops.run htt 1 (by simp only [go_sem, reduceIte, reduceCtorEq, reduceEqDiff, reduceAdd, reduceLT, reduceLeDiff, reduceToNat, eWork, hS, htl, eTypeO]; exact rfl) (by simp [go_sem, reduceIte, reduceCtorEq, reduceEqDiff, reduceAdd, reduceLT, reduceLeDiff, reduceToNat, eWork, hS, htl, eTypeO]) ?_
      refine CWops.done ?_
      refine CW.ret ?_
      refine ⟨⟨2, [(0, .lv 1 [] 0), (2, .int .i64 (if wider x.F.Kind f0.Kind = true then 0 else 6))], [(0, ⟨false, [.own 2 (List.map eTypeO (if wider x.F.Kind f0.Kind = true then s.set t ⟨ty.Name, ty.F.set q ⟨f0.Name, x.F.Kind, f0.To⟩⟩ else s))]⟩), (1, ⟨true, eWork 0 x (t : Int) ((q : Int))⟩)]⟩, ?_, .inr rfl, by simp [ptrOK, go_sem, reduceIte, reduceCtorEq, reduceEqDiff, reduceAdd, reduceLT, reduceLeDiff, reduceToNat], _, by simp only [f91, go_sem, reduceIte, reduceCtorEq, reduceEqDiff, reduceAdd, reduceLT, reduceLeDiff, reduceToNat]; exact rfl, ?_⟩ -- ret2
      · rw [hw]
        have hset : (List.map eTypeO s).set t [.str ty.Name, .own 3 ((List.map eField ty.F).set q [.str f0.Name, .int .i64 x.F.Kind, .str f0.To])] = List.map eTypeO (s.set t ⟨ty.Name, ty.F.set q ⟨f0.Name, x.F.Kind, f0.To⟩⟩) := by
          rw [← set_TypeO, List.map_set]; rfl
        refine Sh.wk0 ?_
        simp only [if_true]
        rw [← hset]
        simp [Wk, go_sem, reduceIte, reduceCtorEq, reduceEqDiff, reduceAdd, reduceLT, reduceLeDiff, reduceToNat, eWork]
      · exact ⟨rfl, _, rfl⟩
end Go.Ab
namespace Go.Ab
open Go Go.Proofs.Try
open Nat (reduceEqDiff reduceAdd reduceLT reduceLeDiff reduceBEq reduceSub reduceMul)
open Int (reduceToNat)
set_option maxRecDepth 100000
set_option maxHeartbeats 1600000
set_option linter.unusedSimpArgs false
set_option linter.unusedVariables false
theorem work_add (up : Bool) (s : List GType) (x : GStep) (t : Nat) (at_ : Int) (ty : GType) (hS : s[t]? = some ty) (h5 : ty.F.length ≤ 5) : GCall prog up 92 [.lv 1 [] 0] 2 [(0, ⟨false, [.own 2 (List.map eTypeO (s))]⟩), (1, ⟨true, eWork 0 x (t : Int) (at_)⟩)] (fun r σ' => r = .int .i64 (if (fieldMay s x.F && decide (at_ = -1)) = true then (if ty.F.length = 5 then 5 else 0) else 6) ∧ ∃ tt, σ' = ⟨2, tt, [(0, ⟨false, [.own 2 (List.map eTypeO (if (fieldMay s x.F && decide (at_ = -1)) = true ∧ ¬ ty.F.length = 5 then s.set t ⟨ty.Name, ty.F ++ [x.F]⟩ else s))]⟩), (1, ⟨true, eWork 0 x (t : Int) (at_)⟩)]⟩) := by
  refine GCall.intro htt 1 func92 (by kernel_rfl) rfl (Nat.le_of_ble_eq_true rfl) (CW.told ?_)
  have htl : t < s.length := (List.getElem?_eq_some_iff.1 hS).1
  simp only [tmps0, Nat.reduceAdd]
  refine CW.seq ?_
  refine CW.region (by kernel_rfl) (by kernel_rfl) ?_ -- r0
  refine CWops.run htt 1 (by simp only [go_sem, reduceIte, reduceCtorEq, reduceEqDiff, reduceAdd, reduceLT, reduceLeDiff, reduceToNat, eWork]; exact rfl) (by simp [go_sem, reduceIte, reduceCtorEq, reduceEqDiff, reduceAdd, reduceLT, reduceLeDiff, reduceToNat, eWork]) ?_
  refine CWops.done ?_
  refine CW.seq ?_
  refine CW.region (by kernel_rfl) (by kernel_rfl) ?_ -- r1
  refine CWops.run htt 7 (by simp only [go_sem, reduceIte, reduceCtorEq, reduceEqDiff, reduceAdd, reduceLT, reduceLeDiff, reduceToNat, eWork, eField]; exact rfl) (by simp [go_sem, reduceIte, reduceCtorEq, reduceEqDiff, reduceAdd, reduceLT, reduceLeDiff, reduceToNat, eWork, eField]) ?_
  refine CWops.done ?_
  refine CW.seq ?_
  refine CW.region (by kernel_rfl) (by kernel_rfl) ?_ -- r2
  refine CWops.run htt 4 (by simp only [go_sem, reduceIte, reduceCtorEq, reduceEqDiff, reduceAdd, reduceLT, reduceLeDiff, reduceToNat, eField]; exact rfl) (by simp [go_sem, reduceIte, reduceCtorEq, reduceEqDiff, reduceAdd, reduceLT, reduceLeDiff, reduceToNat, eField]) ?_
  refine CWops.done ?_
  refine CW.cut ⟨3, [(0, .lv 1 [] 0), (3, .lv 2 [] 0), (4, .bool (if x.F.Kind = 5 then !decide (sFind s x.F.To = -1) else decide (x.F.To = ⟨#[]⟩)))], [(0, ⟨false, [.own 2 (List.map eTypeO s)]⟩), (1, ⟨true, eWork 0 x (t : Int) at_⟩), (2, ⟨true, eField x.F⟩)]⟩ ?_ ?_
  · refine CW.seq ?_
    refine CW.region (by kernel_rfl) (by kernel_rfl) ?_ -- r3
    refine CWops.run htt 3 (by simp only [go_sem, reduceIte, reduceCtorEq, reduceEqDiff, reduceAdd, reduceLT, reduceLeDiff, reduceToNat, eField]; exact rfl) (by simp [go_sem, reduceIte, reduceCtorEq, reduceEqDiff, reduceAdd, reduceLT, reduceLeDiff, reduceToNat, eField]) ?_
    refine CWops.done ?_
    refine CW.cond (by simp only [go_sem, reduceIte, reduceCtorEq, reduceEqDiff, reduceAdd, reduceLT, reduceLeDiff, reduceToNat]; first | done | exact rfl) (fun ct15 => ?_) (fun ct15 => ?_)
    · refine CW.drawn mixed 6 (by decide) (by kernel_rfl) (by kernel_rfl) (by kernel_rfl) ?_ -- r4
      refine Seg.run htt 6 (by simp only [go_sem, reduceIte, reduceCtorEq, reduceEqDiff, reduceAdd, reduceLT, reduceLeDiff, reduceToNat, eWork, eSchema, eField]; exact rfl) ?_
      refine Seg.done ?_
      refine CWops.call (schema_Find up s x.F.To) (by simp only [go_sem, reduceIte, reduceCtorEq, reduceEqDiff, reduceAdd, reduceLT, reduceLeDiff, reduceToNat, eWork, eSchema, eField]) (by simp only [go_sem, reduceIte, reduceCtorEq, reduceEqDiff, reduceAdd, reduceLT, reduceLeDiff, reduceToNat, eWork, eSchema, eField]; first | done | exact rfl) (by simp only [go_sem, reduceIte, reduceCtorEq, reduceEqDiff, reduceAdd, reduceLT, reduceLeDiff, reduceToNat, eWork, eSchema, eField]) (fun rt22 hrt22 => ?_)
      subst hrt22; refine ⟨rfl, ?_⟩
      refine CWops.run htt 2 (by simp only [go_sem, reduceIte, reduceCtorEq, reduceEqDiff, reduceAdd, reduceLT, reduceLeDiff, reduceToNat, eWork, eSchema, eField]; exact rfl) (by simp [go_sem, reduceIte, reduceCtorEq, reduceEqDiff, reduceAdd, reduceLT, reduceLeDiff, reduceToNat, eWork, eSchema, eField]) ?_
      refine CWops.done ?_
      first | refine ⟨rfl, Sh.wk0 ?_⟩ | refine Sh.wk0 ?_
      simp_all [Wk, go_sem, reduceIte, reduceCtorEq, reduceEqDiff, reduceAdd, reduceLT, reduceLeDiff, reduceToNat, eSchema, eField, eWork, sFind] <;> rfl
    · refine CW.skip ?_
      first | refine ⟨rfl, Sh.wk0 ?_⟩ | refine Sh.wk0 ?_
      simp_all [Wk, go_sem, reduceIte, reduceCtorEq, reduceEqDiff, reduceAdd, reduceLT, reduceLeDiff, reduceToNat, eSchema, eField, eWork, sFind] <;> rfl
  refine CW.seq ?_
  refine CW.cut ⟨3, [(0, .lv 1 [] 0), (3, .lv 2 [] 0), (48, .bool (!(fieldMay s x.F && decide (at_ = -1))))], [(0, ⟨false, [.own 2 (List.map eTypeO s)]⟩), (1, ⟨true, eWork 0 x (t : Int) at_⟩), (2, ⟨true, eField x.F⟩)]⟩ ?_ ?_
  · refine CW.region (by kernel_rfl) (by kernel_rfl) ?_ -- r5
    refine CWops.run htt 3 (by simp only [go_sem, reduceIte, reduceCtorEq, reduceEqDiff, reduceAdd, reduceLT, reduceLeDiff, reduceToNat, eWork, eField]; exact rfl) (by simp [go_sem, reduceIte, reduceCtorEq, reduceEqDiff, reduceAdd, reduceLT, reduceLeDiff, reduceToNat, eWork, eField]) ?_
    all_goals (first | refine CWops.guard 26 (by simp only [go_sem, reduceIte, reduceCtorEq, reduceEqDiff, reduceAdd, reduceLT, reduceLeDiff, reduceToNat, eWork, eField]; exact rfl) (fun g26 => ?_) (fun g26 => ?_) | skip)
    all_goals (refine CWops.run htt 7 (by simp only [go_sem, reduceIte, reduceCtorEq, reduceEqDiff, reduceAdd, reduceLT, reduceLeDiff, reduceToNat, eWork, eField]; exact rfl) (by simp [go_sem, reduceIte, reduceCtorEq, reduceEqDiff, reduceAdd, reduceLT, reduceLeDiff, reduceToNat, eWork, eField]) ?_)
    all_goals (first | refine CWops.guard 33 (by simp only [go_sem, reduceIte, reduceCtorEq, reduceEqDiff, reduceAdd, reduceLT, reduceLeDiff, reduceToNat, eWork, eField]; exact rfl) (fun g33 => ?_) (fun g33 => ?_) | skip)
    all_goals (refine CWops.run htt 2 (by simp only [go_sem, reduceIte, reduceCtorEq, reduceEqDiff, reduceAdd, reduceLT, reduceLeDiff, reduceToNat, eWork, eField]; exact rfl) (by simp [go_sem, reduceIte, reduceCtorEq, reduceEqDiff, reduceAdd, reduceLT, reduceLeDiff, reduceToNat, eWork, eField]) ?_)
    all_goals (first | (refine CWops.skip ?_ ?_; next => (simp only [go_sem, reduceIte, reduceCtorEq, reduceEqDiff, reduceAdd, reduceLT, reduceLeDiff, reduceToNat]; done)) | (refine CWops.callA (name_May up x.F.Name) (by simp only [go_sem, reduceIte, reduceCtorEq, reduceEqDiff, reduceAdd, reduceLT, reduceLeDiff, reduceToNat, eWork, eField]) (by simp only [go_sem, reduceIte, reduceCtorEq, reduceEqDiff, reduceAdd, reduceLT, reduceLeDiff, reduceToNat, eWork, eField]; first | done | exact rfl) (by simp only [go_sem, reduceIte, reduceCtorEq, reduceEqDiff, reduceAdd, reduceLT, reduceLeDiff, reduceToNat, eWork, eField]) (by simp only [go_sem, reduceIte, reduceCtorEq, reduceEqDiff, reduceAdd, reduceLT, reduceLeDiff, reduceToNat, eWork, eField]) (fun rt36 hrt36 => ?_); subst hrt36))
    all_goals (refine CWops.run htt 3 (by simp only [go_sem, reduceIte, reduceCtorEq, reduceEqDiff, reduceAdd, reduceLT, reduceLeDiff, reduceToNat, eWork, eField]; exact rfl) (by simp [go_sem, reduceIte, reduceCtorEq, reduceEqDiff, reduceAdd, reduceLT, reduceLeDiff, reduceToNat, eWork, eField]) ?_)
    all_goals (first | refine CWops.guard 39 (by simp only [go_sem, reduceIte, reduceCtorEq, reduceEqDiff, reduceAdd, reduceLT, reduceLeDiff, reduceToNat, eWork, eField]; exact rfl) (fun g39 => ?_) (fun g39 => ?_) | skip)
    all_goals (refine CWops.run htt 5 (by simp only [go_sem, reduceIte, reduceCtorEq, reduceEqDiff, reduceAdd, reduceLT, reduceLeDiff, reduceToNat, eWork, eField]; exact rfl) (by simp [go_sem, reduceIte, reduceCtorEq, reduceEqDiff, reduceAdd, reduceLT, reduceLeDiff, reduceToNat, eWork, eField]) ?_)
    all_goals (first | refine CWops.guard 44 (by simp only [go_sem, reduceIte, reduceCtorEq, reduceEqDiff, reduceAdd, reduceLT, reduceLeDiff, reduceToNat, eWork, eField]; exact rfl) (fun g44 => ?_) (fun g44 => ?_) | skip)
    all_goals (refine CWops.run htt 4 (by simp only [go_sem, reduceIte, reduceCtorEq, reduceEqDiff, reduceAdd, reduceLT, reduceLeDiff, reduceToNat, eWork, eField]; exact rfl) (by simp [go_sem, reduceIte, reduceCtorEq, reduceEqDiff, reduceAdd, reduceLT, reduceLeDiff, reduceToNat, eWork, eField]) ?_)
    all_goals (refine CWops.done ?_)
    all_goals (
      first | refine ⟨rfl, Sh.wk0 ?_⟩ | refine Sh.wk0 ?_
      unfold fieldMay
      by_cases hk : x.F.Kind = 5 <;> by_cases ha : at_ = -1 <;> simp_all [Wk, go_sem, reduceIte, reduceCtorEq, reduceEqDiff, reduceAdd, reduceLT, reduceLeDiff, reduceToNat, eField, eWork] <;> first | done | omega | (rw [Bool.eq_iff_iff]; simp <;> omega))
  refine CW.cond (by simp only [go_sem, reduceIte, reduceCtorEq, reduceEqDiff, reduceAdd, reduceLT, reduceLeDiff, reduceToNat]; first | done | exact rfl) (fun ct48 => ?_) (fun ct48 => ?_)
  · have hok : (fieldMay s x.F && decide (at_ = -1)) = false := by simp only [Bool.not_eq_true'] at ct48; exact ct48
    refine CW.seq ?_
    refine CW.region (by kernel_rfl) (by kernel_rfl) ?_ -- r6
    refine CWops.run htt 1 (by simp only [go_sem, reduceIte, reduceCtorEq, reduceEqDiff, reduceAdd, reduceLT, reduceLeDiff, reduceToNat, eWork]; exact rfl) (by simp [go_sem, reduceIte, reduceCtorEq, reduceEqDiff, reduceAdd, reduceLT, reduceLeDiff, reduceToNat, eWork]) ?_
    refine CWops.done ?_
    refine CW.ret ?_
    refine ⟨⟨2, [(0, .lv 1 [] 0), (2, .int .i64 (if (fieldMay s x.F && decide (at_ = -1)) = true then (if ty.F.length = 5 then 5 else 0) else 6))], [(0, ⟨false, [.own 2 (List.map eTypeO (if (fieldMay s x.F && decide (at_ = -1)) = true ∧ ¬ ty.F.length = 5 then s.set t ⟨ty.Name, ty.F ++ [x.F]⟩ else s))]⟩), (1, ⟨true, eWork 0 x (t : Int) (at_)⟩)]⟩, ?_, .inr rfl, by simp [ptrOK, go_sem, reduceIte, reduceCtorEq, reduceEqDiff, reduceAdd, reduceLT, reduceLeDiff, reduceToNat], _, by simp only [f92, go_sem, reduceIte, reduceCtorEq, reduceEqDiff, reduceAdd, reduceLT, reduceLeDiff, reduceToNat]; exact rfl, ?_⟩ -- ret1
    · rw [hok]
      refine Sh.wk0 ?_
      simp [Wk, go_sem, reduceIte, reduceCtorEq, reduceEqDiff, reduceAdd, reduceLT, reduceLeDiff, reduceToNat, eWork]
    · exact ⟨rfl, _, rfl⟩
  · have hok : (fieldMay s x.F && decide (at_ = -1)) = true := by simp only [Bool.not_eq_false'] at ct48; exact ct48
    refine CW.skip ?_
    refine CW.seq ?_
    refine CW.seq ?_
    refine CW.region (by kernel_rfl) (by kernel_rfl) ?_ -- r7
    refine CWops.run htt 1 (by simp only [go_sem, reduceIte, reduceCtorEq, reduceEqDiff, reduceAdd, reduceLT, reduceLeDiff, reduceToNat, eWork, hS, htl, eTypeO]; exact rfl) (by simp [go_sem, reduceIte, reduceCtorEq, reduceEqDiff, reduceAdd, reduceLT, reduceLeDiff, reduceToNat, eWork, hS, htl, eTypeO]) ?_
    refine CWops.callR (r := .lv 0 [(0, t)] 0) (by simp only [go_sem, reduceIte, reduceCtorEq, reduceEqDiff, reduceAdd, reduceLT, reduceLeDiff, reduceToNat]) (by simp only [go_sem, reduceIte, reduceCtorEq, reduceEqDiff, reduceAdd, reduceLT, reduceLeDiff, reduceToNat]; first | done | exact rfl) (by simp only [go_sem, reduceIte, reduceCtorEq, reduceEqDiff, reduceAdd, reduceLT, reduceLeDiff, reduceToNat]; exact kind_R 1 0 t _ _ _ _ _ _ false (s.map eTypeO) _ _ rfl rfl (by simpa using htl)) ?_
    refine CWops.run htt 5 (by simp only [go_sem, reduceIte, reduceCtorEq, reduceEqDiff, reduceAdd, reduceLT, reduceLeDiff, reduceToNat, eWork, hS, htl, eTypeO]; exact rfl) (by simp [go_sem, reduceIte, reduceCtorEq, reduceEqDiff, reduceAdd, reduceLT, reduceLeDiff, reduceToNat, eWork, hS, htl, eTypeO]) ?_
    refine CWops.done ?_
    refine CW.cond (by simp only [go_sem, reduceIte, reduceCtorEq, reduceEqDiff, reduceAdd, reduceLT, reduceLeDiff, reduceToNat]; first | done | exact rfl) (fun ct55 => ?_) (fun ct55 => ?_)
    · have h55 : ty.F.length = 5 := by simp at ct55; omega
      refine CW.seq ?_
      refine CW.region (by kernel_rfl) (by kernel_rfl) ?_ -- r8
      refine CWops.run htt 1 (by simp only [go_sem, reduceIte, reduceCtorEq, reduceEqDiff, reduceAdd, reduceLT, reduceLeDiff, reduceToNat, eWork]; exact rfl) (by simp [go_sem, reduceIte, reduceCtorEq, reduceEqDiff, reduceAdd, reduceLT, reduceLeDiff, reduceToNat, eWork]) ?_
      refine CWops.done ?_
      refine CW.ret ?_
      refine ⟨⟨2, [(0, .lv 1 [] 0), (2, .int .i64 (if (fieldMay s x.F && decide (at_ = -1)) = true then (if ty.F.length = 5 then 5 else 0) else 6))], [(0, ⟨false, [.own 2 (List.map eTypeO (if (fieldMay s x.F && decide (at_ = -1)) = true ∧ ¬ ty.F.length = 5 then s.set t ⟨ty.Name, ty.F ++ [x.F]⟩ else s))]⟩), (1, ⟨true, eWork 0 x (t : Int) (at_)⟩)]⟩, ?_, .inr rfl, by simp [ptrOK, go_sem, reduceIte, reduceCtorEq, reduceEqDiff, reduceAdd, reduceLT, reduceLeDiff, reduceToNat], _, by simp only [f92, go_sem, reduceIte, reduceCtorEq, reduceEqDiff, reduceAdd, reduceLT, reduceLeDiff, reduceToNat]; exact rfl, ?_⟩ -- ret2
      · rw [hok, h55]
        refine Sh.wk0 ?_
        simp [Wk, go_sem, reduceIte, reduceCtorEq, reduceEqDiff, reduceAdd, reduceLT, reduceLeDiff, reduceToNat, eWork]
      · exact ⟨rfl, _, rfl⟩
    · have h55 : ¬ ty.F.length = 5 := by simp at ct55; omega
      refine CW.skip ?_
      refine CW.seq ?_
      refine CW.drawn mixed 9 (by decide) (by kernel_rfl) (by kernel_rfl) (by kernel_rfl) ?_ -- r9
      refine Seg.run htt 1 (by simp only [go_sem, reduceIte, reduceCtorEq, reduceEqDiff, reduceAdd, reduceLT, reduceLeDiff, reduceToNat, eWork, hS, htl, eTypeO, eField, List.getElem?_set_self, List.length_map, List.set_set]; exact rfl) ?_
      refine Seg.callR (v := .lv 0 [(0, t)] 0) (by simp only [go_sem, reduceIte, reduceCtorEq, reduceEqDiff, reduceAdd, reduceLT, reduceLeDiff, reduceToNat]) (by simp only [go_sem, reduceIte, reduceCtorEq, reduceEqDiff, reduceAdd, reduceLT, reduceLeDiff, reduceToNat]; first | done | exact rfl) (fun n s' hs => by simp only [go_sem, reduceIte, reduceCtorEq, reduceEqDiff, reduceAdd, reduceLT, reduceLeDiff, reduceToNat]; exact kind_R 1 0 t _ _ _ _ _ _ false (s.map eTypeO) n s' (hs _ _ rfl) (hs _ _ rfl) (by simpa using htl)) ?_
      refine Seg.run htt 1 (by simp only [go_sem, reduceIte, reduceCtorEq, reduceEqDiff, reduceAdd, reduceLT, reduceLeDiff, reduceToNat, eWork, hS, htl, eTypeO, eField, List.getElem?_set_self, List.length_map, List.set_set]; exact rfl) ?_
      refine Seg.callR (v := .lv 0 [(0, t)] 0) (by simp only [go_sem, reduceIte, reduceCtorEq, reduceEqDiff, reduceAdd, reduceLT, reduceLeDiff, reduceToNat]) (by simp only [go_sem, reduceIte, reduceCtorEq, reduceEqDiff, reduceAdd, reduceLT, reduceLeDiff, reduceToNat]; first | done | exact rfl) (fun n s' hs => by simp only [go_sem, reduceIte, reduceCtorEq, reduceEqDiff, reduceAdd, reduceLT, reduceLeDiff, reduceToNat]; exact kind_R 1 0 t _ _ _ _ _ _ false (s.map eTypeO) n s' (hs _ _ rfl) (hs _ _ rfl) (by simpa using htl)) ?_
      refine Seg.run htt 5 (by simp only [go_sem, reduceIte, reduceCtorEq, reduceEqDiff, reduceAdd, reduceLT, reduceLeDiff, reduceToNat, eWork, hS, htl, eTypeO, eField, List.getElem?_set_self, List.length_map, List.set_set]; exact rfl) ?_
      refine Seg.done ?_
      refine CWops.run htt 4 (by simp only [go_sem, reduceIte, reduceCtorEq, reduceEqDiff, reduceAdd, reduceLT, reduceLeDiff, reduceToNat, eWork, hS, htl, eTypeO, eField, List.getElem?_set_self, List.length_map, List.set_set]; exact rfl) (by simp [AV.cell, AV.tree, eField, MX] <;> omega) ?_
      refine CWops.done ?_
      refine CW.seq ?_
      refine CW.region (by kernel_rfl) (by kernel_rfl) ?_ -- r10
      refine CWops.run htt 1 (by simp only [go_sem, reduceIte, reduceCtorEq, reduceEqDiff, reduceAdd, reduceLT, reduceLeDiff, reduceToNat, eWork]; exact rfl) (by simp [go_sem, reduceIte, reduceCtorEq, reduceEqDiff, reduceAdd, reduceLT, reduceLeDiff, reduceToNat, eWork]) ?_
      refine CWops.done ?_
      refine CW.ret ?_
      refine ⟨⟨2, [(0, .lv 1 [] 0), (2, .int .i64 (if (fieldMay s x.F && decide (at_ = -1)) = true then (if ty.F.length = 5 then 5 else 0) else 6))], [(0, ⟨false, [.own 2 (List.map eTypeO (if (fieldMay s x.F && decide (at_ = -1)) = true ∧ ¬ ty.F.length = 5 then s.set t ⟨ty.Name, ty.F ++ [x.F]⟩ else s))]⟩), (1, ⟨true, eWork 0 x (t : Int) (at_)⟩)]⟩, ?_, .inr rfl, by simp [ptrOK, go_sem, reduceIte, reduceCtorEq, reduceEqDiff, reduceAdd, reduceLT, reduceLeDiff, reduceToNat], _, by simp only [f92, go_sem, reduceIte, reduceCtorEq, reduceEqDiff, reduceAdd, reduceLT, reduceLeDiff, reduceToNat]; exact rfl, ?_⟩ -- ret3
      · have hset : (List.map eTypeO s).set t [.str ty.Name, .own 3 (List.map eField ty.F ++ [[.str x.F.Name, .int .i64 x.F.Kind, .str x.F.To]])] = List.map eTypeO (s.set t ⟨ty.Name, ty.F ++ [x.F]⟩) := by
          rw [← set_TypeO, List.map_append]; rfl
        rw [hok, if_pos rfl, if_neg h55, if_pos ⟨rfl, h55⟩, ← hset]
        refine Sh.wk0 ?_
        simp [Wk, go_sem, reduceIte, reduceCtorEq, reduceEqDiff, reduceAdd, reduceLT, reduceLeDiff, reduceToNat, eWork]
      · exact ⟨rfl, _, rfl⟩
theorem work_drop_no (up : Bool) (s : List GType) (x : GStep) (t : Nat)  : GCall prog up 93 [.lv 1 [] 0] 2 [(0, ⟨false, [.own 2 (List.map eTypeO (s))]⟩), (1, ⟨true, eWork 0 x (t : Int) (-1)⟩)] (fun r σ' => r = .int .i64 (11) ∧ ∃ tt, σ' = ⟨2, tt, [(0, ⟨false, [.own 2 (List.map eTypeO (s))]⟩), (1, ⟨true, eWork 0 x (t : Int) (-1)⟩)]⟩) := by
  refine GCall.intro htt 1 func93 (by kernel_rfl) rfl (Nat.le_of_ble_eq_true rfl) (CW.told ?_)

  simp only [tmps0, Nat.reduceAdd]
  refine CW.seq ?_
  refine CW.region (by kernel_rfl) (by kernel_rfl) ?_ -- r0
  refine CWops.run htt 1 (by simp only [go_sem, reduceIte, reduceCtorEq, reduceEqDiff, reduceAdd, reduceLT, reduceLeDiff, reduceToNat, eWork]; exact rfl) (by simp [go_sem, reduceIte, reduceCtorEq, reduceEqDiff, reduceAdd, reduceLT, reduceLeDiff, reduceToNat, eWork]) ?_
  refine CWops.done ?_
  refine CW.seq ?_
  refine CW.seq ?_
  refine CW.region (by kernel_rfl) (by kernel_rfl) ?_ -- r1
  refine CWops.run htt 5 (by simp only [go_sem, reduceIte, reduceCtorEq, reduceEqDiff, reduceAdd, reduceLT, reduceLeDiff, reduceToNat, eWork]; exact rfl) (by simp [go_sem, reduceIte, reduceCtorEq, reduceEqDiff, reduceAdd, reduceLT, reduceLeDiff, reduceToNat, eWork]) ?_
  refine CWops.done ?_
  refine CW.cond (by simp only [go_sem, reduceIte, reduceCtorEq, reduceEqDiff, reduceAdd, reduceLT, reduceLeDiff, reduceToNat]; first | done | exact rfl) (fun ct7 => ?_) (fun ct7 => ?_)
  · refine CW.seq ?_
    refine CW.region (by kernel_rfl) (by kernel_rfl) ?_ -- r2
    refine CWops.run htt 1 (by simp only [go_sem, reduceIte, reduceCtorEq, reduceEqDiff, reduceAdd, reduceLT, reduceLeDiff, reduceToNat, eWork]; exact rfl) (by simp [go_sem, reduceIte, reduceCtorEq, reduceEqDiff, reduceAdd, reduceLT, reduceLeDiff, reduceToNat, eWork]) ?_
    refine CWops.done ?_
    refine CW.ret ?_
    refine ⟨⟨2, [(0, .lv 1 [] 0), (2, .int .i64 (11))], [(0, ⟨false, [.own 2 (List.map eTypeO (s))]⟩), (1, ⟨true, eWork 0 x (t : Int) (-1)⟩)]⟩, ?_, .inr rfl, by simp [ptrOK, go_sem, reduceIte, reduceCtorEq, reduceEqDiff, reduceAdd, reduceLT, reduceLeDiff, reduceToNat], _, by simp only [f93, go_sem, reduceIte, reduceCtorEq, reduceEqDiff, reduceAdd, reduceLT, reduceLeDiff, reduceToNat]; exact rfl, ?_⟩ -- ret1
    · refine Sh.wk0 ?_
      simp [Wk, go_sem, reduceIte, reduceCtorEq, reduceEqDiff, reduceAdd, reduceLT, reduceLeDiff, reduceToNat, eWork]
    · exact ⟨rfl, _, rfl⟩
  · exfalso; revert ct7; simp
end Go.Ab
namespace Go.Ab
open Go Go.Proofs.Try
open Nat (reduceEqDiff reduceAdd reduceLT reduceLeDiff reduceBEq reduceSub reduceMul)
open Int (reduceToNat)
set_option maxRecDepth 100000
set_option maxHeartbeats 1600000
set_option linter.unusedSimpArgs false
set_option linter.unusedVariables false
theorem work_drop_at (up : Bool) (s : List GType) (x : GStep) (t : Nat) (ty : GType) (hS : s[t]? = some ty) (q : Nat) (f0 : GField) (hF : ty.F[q]? = some f0) (h5 : ty.F.length ≤ 5) : GCall prog up 93 [.lv 1 [] 0] 2 [(0, ⟨false, [.own 2 (List.map eTypeO (s))]⟩), (1, ⟨true, eWork 0 x (t : Int) ((q : Int))⟩)] (fun r σ' => r = .int .i64 (0) ∧ ∃ tt, σ' = ⟨2, tt, [(0, ⟨false, [.own 2 (List.map eTypeO (s.set t ⟨ty.Name, ty.F.eraseIdx q⟩))]⟩), (1, ⟨true, eWork 0 x (t : Int) ((q : Int))⟩)]⟩) := by
  refine GCall.intro htt 1 func93 (by kernel_rfl) rfl (Nat.le_of_ble_eq_true rfl) (CW.told ?_)
  have htl : t < s.length := (List.getElem?_eq_some_iff.1 hS).1
  have hql : q < ty.F.length := (List.getElem?_eq_some_iff.1 hF).1
  have hw1 : IntKind.i64.wrap ((q : Int) + 1) = (q : Int) + 1 := by have := @wrap_succ q (by unfold MX; omega); rw [this]; omega
  simp only [tmps0, Nat.reduceAdd]
  refine CW.seq ?_
  refine CW.region (by kernel_rfl) (by kernel_rfl) ?_ -- r0
  refine CWops.run htt 1 (by simp only [go_sem, reduceIte, reduceCtorEq, reduceEqDiff, reduceAdd, reduceLT, reduceLeDiff, reduceToNat, eWork]; exact rfl) (by simp [go_sem, reduceIte, reduceCtorEq, reduceEqDiff, reduceAdd, reduceLT, reduceLeDiff, reduceToNat, eWork]) ?_
  refine CWops.done ?_
  refine CW.seq ?_
  refine CW.seq ?_
  refine CW.region (by kernel_rfl) (by kernel_rfl) ?_ -- r1
  refine CWops.run htt 5 (by simp only [go_sem, reduceIte, reduceCtorEq, reduceEqDiff, reduceAdd, reduceLT, reduceLeDiff, reduceToNat, eWork]; exact rfl) (by simp [go_sem, reduceIte, reduceCtorEq, reduceEqDiff, reduceAdd, reduceLT, reduceLeDiff, reduceToNat, eWork]) ?_
  refine CWops.done ?_
  refine CW.cond (by simp only [go_sem, reduceIte, reduceCtorEq, reduceEqDiff, reduceAdd, reduceLT, reduceLeDiff, reduceToNat]; first | done | exact rfl) (fun ct7 => ?_) (fun ct7 => ?_)
  · exfalso; revert ct7; simp <;> omega 
  · refine CW.skip ?_
    refine CW.seq ?_
    refine CW.drawn mixed 16 (by decide) (by kernel_rfl) (by kernel_rfl) (by kernel_rfl) ?_ -- r3
    refine Seg.run htt 1 (by simp only [go_sem, reduceIte, reduceCtorEq, reduceEqDiff, reduceAdd, reduceLT, reduceLeDiff, reduceToNat, eWork, hS, htl, eTypeO, eField, List.getElem?_set_self, List.length_map, List.set_set, hF, hql, hw1]; exact rfl) ?_
    refine Seg.callR (v := .lv 0 [(0, t)] 0) (by simp only [go_sem, reduceIte, reduceCtorEq, reduceEqDiff, reduceAdd, reduceLT, reduceLeDiff, reduceToNat]) (by simp only [go_sem, reduceIte, reduceCtorEq, reduceEqDiff, reduceAdd, reduceLT, reduceLeDiff, reduceToNat]; first | done | exact rfl) (fun n s' hs => by simp only [go_sem, reduceIte, reduceCtorEq, reduceEqDiff, reduceAdd, reduceLT, reduceLeDiff, reduceToNat]; exact kind_R 1 0 t _ _ _ _ _ _ false (s.map eTypeO) n s' (hs _ _ rfl) (hs _ _ rfl) (by simpa using htl)) ?_
    refine Seg.run htt 1 (by simp only [go_sem, reduceIte, reduceCtorEq, reduceEqDiff, reduceAdd, reduceLT, reduceLeDiff, reduceToNat, eWork, hS, htl, eTypeO, eField, List.getElem?_set_self, List.length_map, List.set_set, hF, hql, hw1]; exact rfl) ?_
    refine Seg.callR (v := .lv 0 [(0, t)] 0) (by simp only [go_sem, reduceIte, reduceCtorEq, reduceEqDiff, reduceAdd, reduceLT, reduceLeDiff, reduceToNat]) (by simp only [go_sem, reduceIte, reduceCtorEq, reduceEqDiff, reduceAdd, reduceLT, reduceLeDiff, reduceToNat]; first | done | exact rfl) (fun n s' hs => by simp only [go_sem, reduceIte, reduceCtorEq, reduceEqDiff, reduceAdd, reduceLT, reduceLeDiff, reduceToNat]; exact kind_R 1 0 t _ _ _ _ _ _ false (s.map eTypeO) n s' (hs _ _ rfl) (hs _ _ rfl) (by simpa using htl)) ?_
    refine Seg.run htt 12 (by simp only [go_sem, reduceIte, reduceCtorEq, reduceEqDiff, reduceAdd, reduceLT, reduceLeDiff, reduceToNat, eWork, hS, htl, eTypeO, eField, List.getElem?_set_self, List.length_map, List.set_set, hF, hql, hw1]; exact rfl) ?_
    refine Seg.done ?_
    refine CWops.sh (Sh.outP 14 0 [(0, t)] 1 (n := 3) (rows := ty.F.map eField) (by simp only [go_sem, reduceIte, reduceCtorEq, reduceEqDiff, reduceAdd, reduceLT, reduceLeDiff, reduceToNat]) (by simp only [go_sem, reduceIte, reduceCtorEq, reduceEqDiff, reduceAdd, reduceLT, reduceLeDiff, reduceToNat, eWork, hS, htl, eTypeO]) rfl) ?_
    simp only [go_sem, reduceIte, reduceCtorEq, reduceEqDiff, reduceAdd, reduceLT, reduceLeDiff, reduceToNat, eWork, hS, htl, eTypeO]
    refine CWops.callG [2] rfl (delete_Field up ty.F q hql) (by simp only [go_sem, reduceIte, reduceCtorEq, reduceEqDiff, reduceAdd, reduceLT, reduceLeDiff, reduceToNat]) (by simp only [go_sem, reduceIte, reduceCtorEq, reduceEqDiff, reduceAdd, reduceLT, reduceLeDiff, reduceToNat]; first | done | exact rfl) (by decide) (by simp [go_sem, reduceIte, reduceCtorEq, reduceEqDiff, reduceAdd, reduceLT, reduceLeDiff, reduceToNat, mName, memB]) (by simp [go_sem, reduceIte, reduceCtorEq, reduceEqDiff, reduceAdd, reduceLT, reduceLeDiff, reduceToNat, mName]) (by simp [go_sem, reduceIte, reduceCtorEq, reduceEqDiff, reduceAdd, reduceLT, reduceLeDiff, reduceToNat]) (by simp [go_sem, reduceIte, reduceCtorEq, reduceEqDiff, reduceAdd, reduceLT, reduceLeDiff, reduceToNat]) (by simp [go_sem, reduceIte, reduceCtorEq, reduceEqDiff, reduceAdd, reduceLT, reduceLeDiff, reduceToNat, mName]) (fun r σ' hσ => ?_)
    obtain ⟨σn, σt, σs⟩ := σ'
    simp only at hσ
    obtain ⟨rfl, rfl, rfl⟩ := hσ
    simp only [aftS, renS, delAll, memB, mName, List.getD_nil, killH, kref, ren, Nat.beq_eq, go_sem, reduceIte, reduceCtorEq, reduceEqDiff, reduceAdd, reduceLT, reduceLeDiff, reduceToNat]
    refine CWops.run htt 3 (by simp only [go_sem, reduceIte, reduceCtorEq, reduceEqDiff, reduceAdd, reduceLT, reduceLeDiff, reduceToNat, eWork, hS, htl, eTypeO, eField, List.getElem?_set_self, List.length_map, List.set_set, hF, hql, hw1]; exact rfl) (by simp [go_sem, reduceIte, reduceCtorEq, reduceEqDiff, reduceAdd, reduceLT, reduceLeDiff, reduceToNat, eWork, hS, htl, eTypeO, eField, List.getElem?_set_self, List.length_map, List.set_set, hF, hql, hw1]) ?_
    refine CWops.done ?_
    refine CW.seq ?_
    refine CW.region (by kernel_rfl) (by kernel_rfl) ?_ -- r4
    refine CWops.run htt 1 (by simp only [go_sem, reduceIte, reduceCtorEq, reduceEqDiff, reduceAdd, reduceLT, reduceLeDiff, reduceToNat, eWork]; exact rfl) (by simp [go_sem, reduceIte, reduceCtorEq, reduceEqDiff, reduceAdd, reduceLT, reduceLeDiff, reduceToNat, eWork]) ?_
    refine CWops.done ?_
    refine CW.ret ?_
    refine ⟨⟨2, [(0, .lv 1 [] 0), (2, .int .i64 (0))], [(0, ⟨false, [.own 2 (List.map eTypeO (s.set t ⟨ty.Name, ty.F.eraseIdx q⟩))]⟩), (1, ⟨true, eWork 0 x (t : Int) ((q : Int))⟩)]⟩, ?_, .inr rfl, by simp [ptrOK, go_sem, reduceIte, reduceCtorEq, reduceEqDiff, reduceAdd, reduceLT, reduceLeDiff, reduceToNat], _, by simp only [f93, go_sem, reduceIte, reduceCtorEq, reduceEqDiff, reduceAdd, reduceLT, reduceLeDiff, reduceToNat]; exact rfl, ?_⟩ -- ret1
    · have hset : (List.map eTypeO s).set t [.str ty.Name, .own 3 (List.map eField (ty.F.eraseIdx q))] = List.map eTypeO (s.set t ⟨ty.Name, ty.F.eraseIdx q⟩) := by
        rw [← set_TypeO]
      rw [← hset]
      refine Sh.wk0 ?_
      simp [Wk, go_sem, reduceIte, reduceCtorEq, reduceEqDiff, reduceAdd, reduceLT, reduceLeDiff, reduceToNat, eWork]
    · exact ⟨rfl, _, rfl⟩
end Go.Ab
namespace Go.Ab
open Go Go.Proofs.Try
open Nat (reduceEqDiff reduceAdd reduceLT reduceLeDiff reduceBEq reduceSub reduceMul)
open Int (reduceToNat)
set_option maxRecDepth 100000
set_option maxHeartbeats 1600000
set_option linter.unusedSimpArgs false
set_option linter.unusedVariables false
theorem grade_own1 (up : Bool) (s : List GType) (h1 : s.length * 40 ≤ MX) (h2 : ∀ x ∈ s, x.F.length * 40 ≤ MX) : GCall prog up 89 [.agg (eSchema s)] 0 [] (fun r σ' => r = .agg [.ref 0 [] 0] ∧ σ'.n = 1 ∧ σ'.s = [(0, ⟨false, [.own 2 (s.map eTypeO)]⟩)]) := by
  refine GCall.told0 (grade_own up s h1 h2) fun r σ' hσ => ?_
  obtain ⟨σn, σt, σs⟩ := σ'
  simp only at hσ
  obtain ⟨rfl, rfl, rfl⟩ := hσ
  refine ⟨⟨1, [(0, .agg [.ref 0 [] 0])], [(0, ⟨false, [.own 2 (s.map eTypeO)]⟩)]⟩, Sh.wk0 ?_, rfl, rfl, rfl⟩
  simp [Wk, go_sem, reduceIte, reduceCtorEq, reduceEqDiff, reduceAdd, reduceLT, reduceLeDiff, reduceToNat]
theorem do_bad (up : Bool) (s : List GType) (x : GStep) (hb : (schemaMay s && (decide (0 ≤ x.Do) && decide (x.Do < 3))) = false) : GCall prog up 43 [.agg (eSchema s), .agg (eStep x)] 0 [] (fun r σ' => r = .tup [.nilp, .int .i64 (1)] ∧ σ'.n = 0 ∧ σ'.s = []) := by
  refine GCall.intro htt 0 func43 (by kernel_rfl) rfl (Nat.le_of_ble_eq_true rfl) (CW.told ?_)

  simp only [tmps0, Nat.reduceAdd]
  refine CW.seq ?_
  refine CW.region (by kernel_rfl) (by kernel_rfl) ?_ -- r0
  refine CWops.run htt 4 (by simp only [go_sem, reduceIte, reduceCtorEq, reduceEqDiff, reduceAdd, reduceLT, reduceLeDiff, reduceToNat, eSchema, eStep]; exact rfl) (by simp [go_sem, reduceIte, reduceCtorEq, reduceEqDiff, reduceAdd, reduceLT, reduceLeDiff, reduceToNat, eSchema, eStep]) ?_
  refine CWops.done ?_
  refine CW.seq ?_
  refine CW.cut ⟨2, [(2, .lv 0 [] 0), (3, .lv 1 [] 0), (21, .bool (!(schemaMay s && (decide (0 ≤ x.Do) && decide (x.Do < 3)))))], [(0, ⟨true, eSchema s⟩), (1, ⟨true, eStep x⟩)]⟩ ?_ ?_
  · refine CW.region (by kernel_rfl) (by kernel_rfl) ?_ -- r1
    refine CWops.run htt 1 (by simp only [go_sem, reduceIte, reduceCtorEq, reduceEqDiff, reduceAdd, reduceLT, reduceLeDiff, reduceToNat, eSchema, eStep]; exact rfl) (by simp [go_sem, reduceIte, reduceCtorEq, reduceEqDiff, reduceAdd, reduceLT, reduceLeDiff, reduceToNat, eSchema, eStep]) ?_
    refine CWops.call (schema_May up s) (by simp only [go_sem, reduceIte, reduceCtorEq, reduceEqDiff, reduceAdd, reduceLT, reduceLeDiff, reduceToNat, eSchema, eStep]) (by simp only [go_sem, reduceIte, reduceCtorEq, reduceEqDiff, reduceAdd, reduceLT, reduceLeDiff, reduceToNat, eSchema, eStep]; first | done | exact rfl) (by simp only [go_sem, reduceIte, reduceCtorEq, reduceEqDiff, reduceAdd, reduceLT, reduceLeDiff, reduceToNat, eSchema, eStep]) (fun rt10 hrt10 => ?_)
    subst hrt10; refine ⟨rfl, ?_⟩
    refine CWops.run htt 2 (by simp only [go_sem, reduceIte, reduceCtorEq, reduceEqDiff, reduceAdd, reduceLT, reduceLeDiff, reduceToNat, eSchema, eStep]; exact rfl) (by simp [go_sem, reduceIte, reduceCtorEq, reduceEqDiff, reduceAdd, reduceLT, reduceLeDiff, reduceToNat, eSchema, eStep]) ?_
    all_goals (first | refine CWops.guard 12 (by simp only [go_sem, reduceIte, reduceCtorEq, reduceEqDiff, reduceAdd, reduceLT, reduceLeDiff, reduceToNat, eSchema, eStep]; exact rfl) (fun g12 => ?_) (fun g12 => ?_) | skip)
    all_goals (refine CWops.run htt 5 (by simp only [go_sem, reduceIte, reduceCtorEq, reduceEqDiff, reduceAdd, reduceLT, reduceLeDiff, reduceToNat, eSchema, eStep]; exact rfl) (by simp [go_sem, reduceIte, reduceCtorEq, reduceEqDiff, reduceAdd, reduceLT, reduceLeDiff, reduceToNat, eSchema, eStep]) ?_)
    all_goals (first | refine CWops.guard 17 (by simp only [go_sem, reduceIte, reduceCtorEq, reduceEqDiff, reduceAdd, reduceLT, reduceLeDiff, reduceToNat, eSchema, eStep]; exact rfl) (fun g17 => ?_) (fun g17 => ?_) | skip)
    all_goals (refine CWops.run htt 4 (by simp only [go_sem, reduceIte, reduceCtorEq, reduceEqDiff, reduceAdd, reduceLT, reduceLeDiff, reduceToNat, eSchema, eStep]; exact rfl) (by simp [go_sem, reduceIte, reduceCtorEq, reduceEqDiff, reduceAdd, reduceLT, reduceLeDiff, reduceToNat, eSchema, eStep]) ?_)
    all_goals (refine CWops.done ?_)
    all_goals (
      first | refine ⟨rfl, Sh.wk0 ?_⟩ | refine Sh.wk0 ?_
      by_cases b1 : 0 ≤ x.Do <;> by_cases b2 : x.Do < 3 <;> cases hsm : schemaMay s <;> simp_all [Wk, go_sem, reduceIte, reduceCtorEq, reduceEqDiff, reduceAdd, reduceLT, reduceLeDiff, reduceToNat, eSchema, eStep] <;> first | done | omega)
  refine CW.cond (by simp only [go_sem, reduceIte, reduceCtorEq, reduceEqDiff, reduceAdd, reduceLT, reduceLeDiff, reduceToNat]; first | done | exact rfl) (fun ct21 => ?_) (fun ct21 => ?_)
  · refine CW.seq ?_
    refine CW.region (by kernel_rfl) (by kernel_rfl) ?_ -- r2
    refine CWops.run htt 2 (by simp only [go_sem, reduceIte, reduceCtorEq, reduceEqDiff, reduceAdd, reduceLT, reduceLeDiff, reduceToNat]; exact rfl) (by simp [go_sem, reduceIte, reduceCtorEq, reduceEqDiff, reduceAdd, reduceLT, reduceLeDiff, reduceToNat]) ?_
    refine CWops.done ?_
    refine CW.ret ?_
    refine ⟨⟨0, [(4, .nilp), (5, .int .i64 (1))], []⟩, ?_, .inr rfl, by simp [ptrOK, go_sem, reduceIte, reduceCtorEq, reduceEqDiff, reduceAdd, reduceLT, reduceLeDiff, reduceToNat], _, by simp only [f43, go_sem, reduceIte, reduceCtorEq, reduceEqDiff, reduceAdd, reduceLT, reduceLeDiff, reduceToNat]; exact rfl, ?_⟩ -- ret1
    · refine Sh.wk0 ?_
      simp [Wk, go_sem, reduceIte, reduceCtorEq, reduceEqDiff, reduceAdd, reduceLT, reduceLeDiff, reduceToNat]
    · exact ⟨rfl, rfl, rfl⟩
  · rw [hb] at ct21; cases ct21
theorem do_none (up : Bool) (s : List GType) (x : GStep) (h1 : s.length * 40 ≤ MX) (h2 : ∀ x ∈ s, x.F.length * 40 ≤ MX) (hb : (schemaMay s && (decide (0 ≤ x.Do) && decide (x.Do < 3))) = true) (hf : fnd (fun o => decide (o.Name = x.Ty)) s = -1) : GCall prog up 43 [.agg (eSchema s), .agg (eStep x)] 0 [] (fun r σ' => r = .tup [.nilp, .int .i64 (11)] ∧ σ'.n = 0 ∧ σ'.s = []) := by
  refine GCall.intro htt 0 func43 (by kernel_rfl) rfl (Nat.le_of_ble_eq_true rfl) (CW.told ?_)

  simp only [tmps0, Nat.reduceAdd]
  refine CW.seq ?_
  refine CW.region (by kernel_rfl) (by kernel_rfl) ?_ -- r0
  refine CWops.run htt 4 (by simp only [go_sem, reduceIte, reduceCtorEq, reduceEqDiff, reduceAdd, reduceLT, reduceLeDiff, reduceToNat, eSchema, eStep]; exact rfl) (by simp [go_sem, reduceIte, reduceCtorEq, reduceEqDiff, reduceAdd, reduceLT, reduceLeDiff, reduceToNat, eSchema, eStep]) ?_
  refine CWops.done ?_
  refine CW.seq ?_
  refine CW.cut ⟨2, [(2, .lv 0 [] 0), (3, .lv 1 [] 0), (21, .bool (!(schemaMay s && (decide (0 ≤ x.Do) && decide (x.Do < 3)))))], [(0, ⟨true, eSchema s⟩), (1, ⟨true, eStep x⟩)]⟩ ?_ ?_
  · refine CW.region (by kernel_rfl) (by kernel_rfl) ?_ -- r1
    refine CWops.run htt 1 (by simp only [go_sem, reduceIte, reduceCtorEq, reduceEqDiff, reduceAdd, reduceLT, reduceLeDiff, reduceToNat, eSchema, eStep]; exact rfl) (by simp [go_sem, reduceIte, reduceCtorEq, reduceEqDiff, reduceAdd, reduceLT, reduceLeDiff, reduceToNat, eSchema, eStep]) ?_
    refine CWops.call (schema_May up s) (by simp only [go_sem, reduceIte, reduceCtorEq, reduceEqDiff, reduceAdd, reduceLT, reduceLeDiff, reduceToNat, eSchema, eStep]) (by simp only [go_sem, reduceIte, reduceCtorEq, reduceEqDiff, reduceAdd, reduceLT, reduceLeDiff, reduceToNat, eSchema, eStep]; first | done | exact rfl) (by simp only [go_sem, reduceIte, reduceCtorEq, reduceEqDiff, reduceAdd, reduceLT, reduceLeDiff, reduceToNat, eSchema, eStep]) (fun rt10 hrt10 => ?_)
    subst hrt10; refine ⟨rfl, ?_⟩
    refine CWops.run htt 2 (by simp only [go_sem, reduceIte, reduceCtorEq, reduceEqDiff, reduceAdd, reduceLT, reduceLeDiff, reduceToNat, eSchema, eStep]; exact rfl) (by simp [go_sem, reduceIte, reduceCtorEq, reduceEqDiff, reduceAdd, reduceLT, reduceLeDiff, reduceToNat, eSchema, eStep]) ?_
    all_goals (first | refine CWops.guard 12 (by simp only [go_sem, reduceIte, reduceCtorEq, reduceEqDiff, reduceAdd, reduceLT, reduceLeDiff, reduceToNat, eSchema, eStep]; exact rfl) (fun g12 => ?_) (fun g12 => ?_) | skip)
    all_goals (refine CWops.run htt 5 (by simp only [go_sem, reduceIte, reduceCtorEq, reduceEqDiff, reduceAdd, reduceLT, reduceLeDiff, reduceToNat, eSchema, eStep]; exact rfl) (by simp [go_sem, reduceIte, reduceCtorEq, reduceEqDiff, reduceAdd, reduceLT, reduceLeDiff, reduceToNat, eSchema, eStep]) ?_)
    all_goals (first | refine CWops.guard 17 (by simp only [go_sem, reduceIte, reduceCtorEq, reduceEqDiff, reduceAdd, reduceLT, reduceLeDiff, reduceToNat, eSchema, eStep]; exact rfl) (fun g17 => ?_) (fun g17 => ?_) | skip)
    all_goals (refine CWops.run htt 4 (by simp only [go_sem, reduceIte, reduceCtorEq, reduceEqDiff, reduceAdd, reduceLT, reduceLeDiff, reduceToNat, eSchema, eStep]; exact rfl) (by simp [go_sem, reduceIte, reduceCtorEq, reduceEqDiff, reduceAdd, reduceLT, reduceLeDiff, reduceToNat, eSchema, eStep]) ?_)
    all_goals (refine CWops.done ?_)
    all_goals (
      first | refine ⟨rfl, Sh.wk0 ?_⟩ | refine Sh.wk0 ?_
      by_cases b1 : 0 ≤ x.Do <;> by_cases b2 : x.Do < 3 <;> cases hsm : schemaMay s <;> simp_all [Wk, go_sem, reduceIte, reduceCtorEq, reduceEqDiff, reduceAdd, reduceLT, reduceLeDiff, reduceToNat, eSchema, eStep] <;> first | done | omega)
  refine CW.cond (by simp only [go_sem, reduceIte, reduceCtorEq, reduceEqDiff, reduceAdd, reduceLT, reduceLeDiff, reduceToNat]; first | done | exact rfl) (fun ct21 => ?_) (fun ct21 => ?_)
  · rw [hb] at ct21; cases ct21 
  · refine CW.skip ?_
    refine CW.seq ?_
    refine CW.drawn mixed 7 (by decide) (by kernel_rfl) (by kernel_rfl) (by kernel_rfl) ?_ -- r3
    refine Seg.run htt 1 (by simp only [go_sem, reduceIte, reduceCtorEq, reduceEqDiff, reduceAdd, reduceLT, reduceLeDiff, reduceToNat, eSchema, eStep, hf]; exact rfl) ?_
    refine Seg.callNA (grade_own1 up s h1 h2) (by simp only [go_sem, reduceIte, reduceCtorEq, reduceEqDiff, reduceAdd, reduceLT, reduceLeDiff, reduceToNat]) (by simp only [go_sem, reduceIte, reduceCtorEq, reduceEqDiff, reduceAdd, reduceLT, reduceLeDiff, reduceToNat]; first | done | exact rfl) (by simp [go_sem, reduceIte, reduceCtorEq, reduceEqDiff, reduceAdd, reduceLT, reduceLeDiff, reduceToNat, eSchema]) ?_
    refine Seg.run htt 4 (by simp only [go_sem, reduceIte, reduceCtorEq, reduceEqDiff, reduceAdd, reduceLT, reduceLeDiff, reduceToNat, eSchema, eStep, hf]; exact rfl) ?_
    refine Seg.call (schema_Find up s x.Ty) (by simp only [go_sem, reduceIte, reduceCtorEq, reduceEqDiff, reduceAdd, reduceLT, reduceLeDiff, reduceToNat, eSchema, eStep, hf]) (by simp only [go_sem, reduceIte, reduceCtorEq, reduceEqDiff, reduceAdd, reduceLT, reduceLeDiff, reduceToNat, eSchema, eStep, hf]; first | done | exact rfl) (by simp only [go_sem, reduceIte, reduceCtorEq, reduceEqDiff, reduceAdd, reduceLT, reduceLeDiff, reduceToNat, eSchema, eStep, hf]) (by simp only [go_sem, reduceIte, reduceCtorEq, reduceEqDiff, reduceAdd, reduceLT, reduceLeDiff, reduceToNat, eSchema, eStep, hf]) rfl ?_
    refine Seg.done ?_
    refine CWops.run htt 3 (by simp only [go_sem, reduceIte, reduceCtorEq, reduceEqDiff, reduceAdd, reduceLT, reduceLeDiff, reduceToNat, eSchema, eStep, hf]; exact rfl) (by simp [go_sem, reduceIte, reduceCtorEq, reduceEqDiff, reduceAdd, reduceLT, reduceLeDiff, reduceToNat, eSchema, eStep, hf]) ?_
    refine CWops.done ?_
    refine CW.seq ?_
    refine CW.seq ?_
    refine CW.region (by kernel_rfl) (by kernel_rfl) ?_ -- r4
    refine CWops.run htt 5 (by simp only [go_sem, reduceIte, reduceCtorEq, reduceEqDiff, reduceAdd, reduceLT, reduceLeDiff, reduceToNat]; exact rfl) (by simp [go_sem, reduceIte, reduceCtorEq, reduceEqDiff, reduceAdd, reduceLT, reduceLeDiff, reduceToNat]) ?_
    refine CWops.done ?_
    refine CW.cond (by simp only [go_sem, reduceIte, reduceCtorEq, reduceEqDiff, reduceAdd, reduceLT, reduceLeDiff, reduceToNat]; first | done | exact rfl) (fun ct35 => ?_) (fun ct35 => ?_)
    · refine CW.seq ?_
      refine CW.region (by kernel_rfl) (by kernel_rfl) ?_ -- r5
      refine CWops.run htt 2 (by simp only [go_sem, reduceIte, reduceCtorEq, reduceEqDiff, reduceAdd, reduceLT, reduceLeDiff, reduceToNat]; exact rfl) (by simp [go_sem, reduceIte, reduceCtorEq, reduceEqDiff, reduceAdd, reduceLT, reduceLeDiff, reduceToNat]) ?_
      refine CWops.done ?_
      refine CW.ret ?_
      refine ⟨⟨0, [(4, .nilp), (5, .int .i64 (11))], []⟩, ?_, .inr rfl, by simp [ptrOK, go_sem, reduceIte, reduceCtorEq, reduceEqDiff, reduceAdd, reduceLT, reduceLeDiff, reduceToNat], _, by simp only [f43, go_sem, reduceIte, reduceCtorEq, reduceEqDiff, reduceAdd, reduceLT, reduceLeDiff, reduceToNat]; exact rfl, ?_⟩ -- ret1
      · refine Sh.wk0 ?_
        simp [Wk, go_sem, reduceIte, reduceCtorEq, reduceEqDiff, reduceAdd, reduceLT, reduceLeDiff, reduceToNat]
      · exact ⟨rfl, rfl, rfl⟩
    · simp at ct35
end Go.Ab
namespace Go.Ab
open Go Go.Proofs.Try
open Nat (reduceEqDiff reduceAdd reduceLT reduceLeDiff reduceBEq reduceSub reduceMul)
open Int (reduceToNat)
set_option maxRecDepth 100000
set_option maxHeartbeats 1600000
set_option linter.unusedSimpArgs false
set_option linter.unusedVariables false
theorem do_step (up : Bool) (s : List GType) (x : GStep) (h1 : s.length * 40 ≤ MX) (h2 : ∀ x ∈ s, x.F.length * 40 ≤ MX) (hb : (schemaMay s && (decide (0 ≤ x.Do) && decide (x.Do < 3))) = true) (t : Nat) (hf : fnd (fun o => decide (o.Name = x.Ty)) s = t) (ty : GType) (hS : s[t]? = some ty) (at_ : Int) (ha : fnd (fun o => decide (o.Name = x.F.Name)) ty.F = at_) (e : Int) (s2 : List GType) (fm : FuncId) (hsel : (x.Do = 0 ∧ fm = 92) ∨ (x.Do = 1 ∧ fm = 93) ∨ (x.Do = 2 ∧ fm = 91)) (hcall : GCall prog up fm [.lv 1 [] 0] 2 [(0, ⟨false, [.own 2 (List.map eTypeO (s))]⟩), (1, ⟨true, eWork 0 x (t : Int) (at_)⟩)] (fun r σ' => r = .int .i64 (e) ∧ ∃ tt, σ' = ⟨2, tt, [(0, ⟨false, [.own 2 (List.map eTypeO (s2))]⟩), (1, ⟨true, eWork 0 x (t : Int) (at_)⟩)]⟩)) : GCall prog up 43 [.agg (eSchema s), .agg (eStep x)] 0 [] (fun r σ' => (e = 0 ∧ r = .tup [.lv 1 [] 0, .int .i64 0] ∧ σ'.n = 2 ∧ σ'.s = [(0, ⟨false, [.own 2 (List.map eTypeO (s2))]⟩), (1, ⟨true, eWork 0 x (t : Int) (at_)⟩)]) ∨ (e ≠ 0 ∧ r = .tup [.nilp, .int .i64 e] ∧ σ'.n = 0 ∧ σ'.s = [])) := by
  refine GCall.intro htt 0 func43 (by kernel_rfl) rfl (Nat.le_of_ble_eq_true rfl) (CW.told ?_)
  have htl : t < s.length := (List.getElem?_eq_some_iff.1 hS).1
  simp only [tmps0, Nat.reduceAdd]
  refine CW.seq ?_
  refine CW.region (by kernel_rfl) (by kernel_rfl) ?_ -- r0
  refine CWops.run htt 4 (by simp only [go_sem, reduceIte, reduceCtorEq, reduceEqDiff, reduceAdd, reduceLT, reduceLeDiff, reduceToNat, eSchema, eStep]; exact rfl) (by simp [go_sem, reduceIte, reduceCtorEq, reduceEqDiff, reduceAdd, reduceLT, reduceLeDiff, reduceToNat, eSchema, eStep]) ?_
  refine CWops.done ?_
  refine CW.seq ?_
  refine CW.cut ⟨2, [(2, .lv 0 [] 0), (3, .lv 1 [] 0), (21, .bool (!(schemaMay s && (decide (0 ≤ x.Do) && decide (x.Do < 3)))))], [(0, ⟨true, eSchema s⟩), (1, ⟨true, eStep x⟩)]⟩ ?_ ?_
  · refine CW.region (by kernel_rfl) (by kernel_rfl) ?_ -- r1
    refine CWops.run htt 1 (by simp only [go_sem, reduceIte, reduceCtorEq, reduceEqDiff, reduceAdd, reduceLT, reduceLeDiff, reduceToNat, eSchema, eStep]; exact rfl) (by simp [go_sem, reduceIte, reduceCtorEq, reduceEqDiff, reduceAdd, reduceLT, reduceLeDiff, reduceToNat, eSchema, eStep]) ?_
    refine CWops.call (schema_May up s) (by simp only [go_sem, reduceIte, reduceCtorEq, reduceEqDiff, reduceAdd, reduceLT, reduceLeDiff, reduceToNat, eSchema, eStep]) (by simp only [go_sem, reduceIte, reduceCtorEq, reduceEqDiff, reduceAdd, reduceLT, reduceLeDiff, reduceToNat, eSchema, eStep]; first | done | exact rfl) (by simp only [go_sem, reduceIte, reduceCtorEq, reduceEqDiff, reduceAdd, reduceLT, reduceLeDiff, reduceToNat, eSchema, eStep]) (fun rt10 hrt10 => ?_)
    subst hrt10; refine ⟨rfl, ?_⟩
    refine CWops.run htt 2 (by simp only [go_sem, reduceIte, reduceCtorEq, reduceEqDiff, reduceAdd, reduceLT, reduceLeDiff, reduceToNat, eSchema, eStep]; exact rfl) (by simp [go_sem, reduceIte, reduceCtorEq, reduceEqDiff, reduceAdd, reduceLT, reduceLeDiff, reduceToNat, eSchema, eStep]) ?_
    all_goals (first | refine CWops.guard 12 (by simp only [go_sem, reduceIte, reduceCtorEq, reduceEqDiff, reduceAdd, reduceLT, reduceLeDiff, reduceToNat, eSchema, eStep]; exact rfl) (fun g12 => ?_) (fun g12 => ?_) | skip)
    all_goals (refine CWops.run htt 5 (by simp only [go_sem, reduceIte, reduceCtorEq, reduceEqDiff, reduceAdd, reduceLT, reduceLeDiff, reduceToNat, eSchema, eStep]; exact rfl) (by simp [go_sem, reduceIte, reduceCtorEq, reduceEqDiff, reduceAdd, reduceLT, reduceLeDiff, reduceToNat, eSchema, eStep]) ?_)
    all_goals (first | refine CWops.guard 17 (by simp only [go_sem, reduceIte, reduceCtorEq, reduceEqDiff, reduceAdd, reduceLT, reduceLeDiff, reduceToNat, eSchema, eStep]; exact rfl) (fun g17 => ?_) (fun g17 => ?_) | skip)
    all_goals (refine CWops.run htt 4 (by simp only [go_sem, reduceIte, reduceCtorEq, reduceEqDiff, reduceAdd, reduceLT, reduceLeDiff, reduceToNat, eSchema, eStep]; exact rfl) (by simp [go_sem, reduceIte, reduceCtorEq, reduceEqDiff, reduceAdd, reduceLT, reduceLeDiff, reduceToNat, eSchema, eStep]) ?_)
    all_goals (refine CWops.done ?_)
    all_goals (
      first | refine ⟨rfl, Sh.wk0 ?_⟩ | refine Sh.wk0 ?_
      by_cases b1 : 0 ≤ x.Do <;> by_cases b2 : x.Do < 3 <;> cases hsm : schemaMay s <;> simp_all [Wk, go_sem, reduceIte, reduceCtorEq, reduceEqDiff, reduceAdd, reduceLT, reduceLeDiff, reduceToNat, eSchema, eStep] <;> first | done | omega)
  refine CW.cond (by simp only [go_sem, reduceIte, reduceCtorEq, reduceEqDiff, reduceAdd, reduceLT, reduceLeDiff, reduceToNat]; first | done | exact rfl) (fun ct21 => ?_) (fun ct21 => ?_)
  · rw [hb] at ct21; cases ct21 
  · refine CW.skip ?_
    refine CW.seq ?_
    refine CW.drawn mixed 7 (by decide) (by kernel_rfl) (by kernel_rfl) (by kernel_rfl) ?_ -- r3
    refine Seg.run htt 1 (by simp only [go_sem, reduceIte, reduceCtorEq, reduceEqDiff, reduceAdd, reduceLT, reduceLeDiff, reduceToNat, eSchema, eStep, hf]; exact rfl) ?_
    refine Seg.callNA (grade_own1 up s h1 h2) (by simp only [go_sem, reduceIte, reduceCtorEq, reduceEqDiff, reduceAdd, reduceLT, reduceLeDiff, reduceToNat]) (by simp only [go_sem, reduceIte, reduceCtorEq, reduceEqDiff, reduceAdd, reduceLT, reduceLeDiff, reduceToNat]; first | done | exact rfl) (by simp [go_sem, reduceIte, reduceCtorEq, reduceEqDiff, reduceAdd, reduceLT, reduceLeDiff, reduceToNat, eSchema]) ?_
    refine Seg.run htt 4 (by simp only [go_sem, reduceIte, reduceCtorEq, reduceEqDiff, reduceAdd, reduceLT, reduceLeDiff, reduceToNat, eSchema, eStep, hf]; exact rfl) ?_
    refine Seg.call (schema_Find up s x.Ty) (by simp only [go_sem, reduceIte, reduceCtorEq, reduceEqDiff, reduceAdd, reduceLT, reduceLeDiff, reduceToNat, eSchema, eStep, hf]) (by simp only [go_sem, reduceIte, reduceCtorEq, reduceEqDiff, reduceAdd, reduceLT, reduceLeDiff, reduceToNat, eSchema, eStep, hf]; first | done | exact rfl) (by simp only [go_sem, reduceIte, reduceCtorEq, reduceEqDiff, reduceAdd, reduceLT, reduceLeDiff, reduceToNat, eSchema, eStep, hf]) (by simp only [go_sem, reduceIte, reduceCtorEq, reduceEqDiff, reduceAdd, reduceLT, reduceLeDiff, reduceToNat, eSchema, eStep, hf]) rfl ?_
    refine Seg.done ?_
    refine CWops.run htt 3 (by simp only [go_sem, reduceIte, reduceCtorEq, reduceEqDiff, reduceAdd, reduceLT, reduceLeDiff, reduceToNat, eSchema, eStep, hf]; exact rfl) (by simp [go_sem, reduceIte, reduceCtorEq, reduceEqDiff, reduceAdd, reduceLT, reduceLeDiff, reduceToNat, eSchema, eStep, hf]) ?_
    refine CWops.done ?_
    refine CW.seq ?_
    refine CW.seq ?_
    refine CW.sh (Sh.out 3 0 rfl rfl rfl) ?_
    simp only [go_sem, reduceIte, reduceCtorEq, reduceEqDiff, reduceAdd, reduceLT, reduceLeDiff, reduceToNat, mapT, mapS, outF, List.map_cons, List.map_nil, putAt, List.set_cons_zero, List.set_cons_succ]
    refine CW.region (by kernel_rfl) (by kernel_rfl) ?_ -- r4
    refine CWops.run htt 5 (by simp only [go_sem, reduceIte, reduceCtorEq, reduceEqDiff, reduceAdd, reduceLT, reduceLeDiff, reduceToNat]; exact rfl) (by simp [go_sem, reduceIte, reduceCtorEq, reduceEqDiff, reduceAdd, reduceLT, reduceLeDiff, reduceToNat]) ?_
    refine CWops.done ?_
    refine CW.cond (by simp only [go_sem, reduceIte, reduceCtorEq, reduceEqDiff, reduceAdd, reduceLT, reduceLeDiff, reduceToNat]; first | done | exact rfl) (fun ct35 => ?_) (fun ct35 => ?_)
    · exfalso; revert ct35; simp <;> omega 
    · refine CW.skip ?_
      refine CW.seq ?_
      refine CW.drawn mixed 9 (by decide) (by kernel_rfl) (by kernel_rfl) (by kernel_rfl) ?_ -- r6
      refine Seg.run htt 2 (by simp only [go_sem, reduceIte, reduceCtorEq, reduceEqDiff, reduceAdd, reduceLT, reduceLeDiff, reduceToNat, eStep, hS, htl, eTypeO, eType, ha]; exact rfl) ?_
      refine Seg.callR (v := .lv 4 [(0, t)] 0) (by simp only [go_sem, reduceIte, reduceCtorEq, reduceEqDiff, reduceAdd, reduceLT, reduceLeDiff, reduceToNat]) (by simp only [go_sem, reduceIte, reduceCtorEq, reduceEqDiff, reduceAdd, reduceLT, reduceLeDiff, reduceToNat]; first | done | exact rfl) (fun n s' hs => by simp only [go_sem, reduceIte, reduceCtorEq, reduceEqDiff, reduceAdd, reduceLT, reduceLeDiff, reduceToNat]; exact kind_R 3 4 t _ _ _ _ _ _ false (s.map eTypeO) n s' (hs _ _ rfl) (hs _ _ rfl) (by simpa using htl)) ?_
      refine Seg.run htt 5 (by simp only [go_sem, reduceIte, reduceCtorEq, reduceEqDiff, reduceAdd, reduceLT, reduceLeDiff, reduceToNat, eStep, hS, htl, eTypeO, eType, ha]; exact rfl) ?_
      refine Seg.call (schema_Field up ty x.F.Name) (by simp only [go_sem, reduceIte, reduceCtorEq, reduceEqDiff, reduceAdd, reduceLT, reduceLeDiff, reduceToNat, eStep, hS, htl, eTypeO, eType, ha]) (by simp only [go_sem, reduceIte, reduceCtorEq, reduceEqDiff, reduceAdd, reduceLT, reduceLeDiff, reduceToNat, eStep, hS, htl, eTypeO, eType, ha]; first | done | exact rfl) (by simp only [go_sem, reduceIte, reduceCtorEq, reduceEqDiff, reduceAdd, reduceLT, reduceLeDiff, reduceToNat, eStep, hS, htl, eTypeO, eType, ha]) (by simp only [go_sem, reduceIte, reduceCtorEq, reduceEqDiff, reduceAdd, reduceLT, reduceLeDiff, reduceToNat, eStep, hS, htl, eTypeO, eType, ha]) rfl ?_
      refine Seg.done ?_
      refine CWops.run htt 3 (by simp only [go_sem, reduceIte, reduceCtorEq, reduceEqDiff, reduceAdd, reduceLT, reduceLeDiff, reduceToNat, eStep, hS, htl, eTypeO, eType, ha]; exact rfl) (by simp [go_sem, reduceIte, reduceCtorEq, reduceEqDiff, reduceAdd, reduceLT, reduceLeDiff, reduceToNat, eStep, hS, htl, eTypeO, eType, ha]) ?_
      refine CWops.done ?_
      refine CW.seq ?_
      refine CW.region (by kernel_rfl) (by kernel_rfl) ?_ -- r7
      refine CWops.run htt 3 (by simp only [go_sem, reduceIte, reduceCtorEq, reduceEqDiff, reduceAdd, reduceLT, reduceLeDiff, reduceToNat, eStep]; exact rfl) (by simp [go_sem, reduceIte, reduceCtorEq, reduceEqDiff, reduceAdd, reduceLT, reduceLeDiff, reduceToNat, eStep]) ?_
      refine CWops.done ?_
      refine CW.seq ?_
      refine CW.seq ?_
      refine CW.region (by kernel_rfl) (by kernel_rfl) ?_ -- r8
      refine CWops.run htt 2 (by simp only [go_sem, reduceIte, reduceCtorEq, reduceEqDiff, reduceAdd, reduceLT, reduceLeDiff, reduceToNat, eStep]; exact rfl) (by simp [go_sem, reduceIte, reduceCtorEq, reduceEqDiff, reduceAdd, reduceLT, reduceLeDiff, reduceToNat, eStep]) ?_
      refine CWops.done ?_
      refine CW.block ?_
      refine CW.seq ?_
      refine CW.region (by kernel_rfl) (by kernel_rfl) ?_ -- r9
      refine CWops.run htt 2 (by simp only [go_sem, reduceIte, reduceCtorEq, reduceEqDiff, reduceAdd, reduceLT, reduceLeDiff, reduceToNat]; exact rfl) (by simp [go_sem, reduceIte, reduceCtorEq, reduceEqDiff, reduceAdd, reduceLT, reduceLeDiff, reduceToNat]) ?_
      refine CWops.done ?_
      refine CW.cond (by simp only [go_sem, reduceIte, reduceCtorEq, reduceEqDiff, reduceAdd, reduceLT, reduceLeDiff, reduceToNat]; first | done | exact rfl) (fun ct51 => ?_) (fun ct51 => ?_)
      · have hd : x.Do = 0 := by simpa using ct51
        have hfm : fm = 92 := by rcases hsel with ⟨h, h'⟩ | ⟨h, h'⟩ | ⟨h, h'⟩ <;> first | exact h' | (exfalso; omega)
        subst hfm
        refine CW.region (by kernel_rfl) (by kernel_rfl) ?_ -- r10
        refine CWops.run htt 3 (by simp only [go_sem, reduceIte, reduceCtorEq, reduceEqDiff, reduceAdd, reduceLT, reduceLeDiff, reduceToNat]; exact rfl) (by simp [go_sem, reduceIte, reduceCtorEq, reduceEqDiff, reduceAdd, reduceLT, reduceLeDiff, reduceToNat]) ?_
        refine CWops.done ?_
        refine CW.seq ?_
        refine CW.seq ?_
        refine CW.region (by kernel_rfl) (by kernel_rfl) ?_ -- r13
        refine CWops.run htt 1 (by simp only [go_sem, reduceIte, reduceCtorEq, reduceEqDiff, reduceAdd, reduceLT, reduceLeDiff, reduceToNat]; exact rfl) (by simp [go_sem, reduceIte, reduceCtorEq, reduceEqDiff, reduceAdd, reduceLT, reduceLeDiff, reduceToNat]) ?_
        refine CWops.callG [4, 3] rfl (hcall) (by simp only [go_sem, reduceIte, reduceCtorEq, reduceEqDiff, reduceAdd, reduceLT, reduceLeDiff, reduceToNat]) (by simp only [go_sem, reduceIte, reduceCtorEq, reduceEqDiff, reduceAdd, reduceLT, reduceLeDiff, reduceToNat]; first | done | exact rfl) (by decide) (by simp [go_sem, reduceIte, reduceCtorEq, reduceEqDiff, reduceAdd, reduceLT, reduceLeDiff, reduceToNat, mName, memB, eWork]) (by simp [go_sem, reduceIte, reduceCtorEq, reduceEqDiff, reduceAdd, reduceLT, reduceLeDiff, reduceToNat, mName]) (by simp [go_sem, reduceIte, reduceCtorEq, reduceEqDiff, reduceAdd, reduceLT, reduceLeDiff, reduceToNat]) (by intro y hy; rcases y with _ | _ | y <;> first | (simp [go_sem, reduceIte, reduceCtorEq, reduceEqDiff, reduceAdd, reduceLT, reduceLeDiff, reduceToNat]; done) | (exfalso; simp at hy; done) | (exfalso; simp at hy; omega)) (by simp [go_sem, reduceIte, reduceCtorEq, reduceEqDiff, reduceAdd, reduceLT, reduceLeDiff, reduceToNat, mName]) (fun r σ' hσ => ?_)
        obtain ⟨rfl, tt, rfl⟩ := hσ
        simp only [aftS, renS, delAll, memB, mName, List.getD_nil, killH, kref, ren, Nat.beq_eq, go_sem, reduceIte, reduceCtorEq, reduceEqDiff, reduceAdd, reduceLT, reduceLeDiff, reduceToNat, eWork]
        refine CWops.run htt 1 (by simp only [go_sem, reduceIte, reduceCtorEq, reduceEqDiff, reduceAdd, reduceLT, reduceLeDiff, reduceToNat]; exact rfl) (by simp [go_sem, reduceIte, reduceCtorEq, reduceEqDiff, reduceAdd, reduceLT, reduceLeDiff, reduceToNat]) ?_
        refine CWops.done ?_
        refine CW.seq ?_
        refine CW.region (by kernel_rfl) (by kernel_rfl) ?_ -- r14
        refine CWops.run htt 2 (by simp only [go_sem, reduceIte, reduceCtorEq, reduceEqDiff, reduceAdd, reduceLT, reduceLeDiff, reduceToNat]; exact rfl) (by simp [go_sem, reduceIte, reduceCtorEq, reduceEqDiff, reduceAdd, reduceLT, reduceLeDiff, reduceToNat]) ?_
        refine CWops.done ?_
        refine CW.cond (by simp only [go_sem, reduceIte, reduceCtorEq, reduceEqDiff, reduceAdd, reduceLT, reduceLeDiff, reduceToNat]; first | done | exact rfl) (fun ct62 => ?_) (fun ct62 => ?_)
        · refine CW.seq ?_
          refine CW.region (by kernel_rfl) (by kernel_rfl) ?_ -- r15
          refine CWops.run htt 3 (by simp only [go_sem, reduceIte, reduceCtorEq, reduceEqDiff, reduceAdd, reduceLT, reduceLeDiff, reduceToNat]; exact rfl) (by simp [go_sem, reduceIte, reduceCtorEq, reduceEqDiff, reduceAdd, reduceLT, reduceLeDiff, reduceToNat]) ?_
          refine CWops.done ?_
          refine CW.ret ?_
          refine ⟨⟨0, [(4, .nilp), (5, .int .i64 e)], []⟩, ?_, .inr rfl, by simp [ptrOK, go_sem, reduceIte, reduceCtorEq, reduceEqDiff, reduceAdd, reduceLT, reduceLeDiff, reduceToNat], _, by simp only [f43, go_sem, reduceIte, reduceCtorEq, reduceEqDiff, reduceAdd, reduceLT, reduceLeDiff, reduceToNat]; exact rfl, ?_⟩ -- ret1
          · refine Sh.wk0 ?_
            simp [Wk, go_sem, reduceIte, reduceCtorEq, reduceEqDiff, reduceAdd, reduceLT, reduceLeDiff, reduceToNat]
          · exact .inr ⟨by simpa using ct62, rfl, rfl, rfl⟩
        · refine CW.skip ?_
          refine CW.seq ?_
          refine CW.region (by kernel_rfl) (by kernel_rfl) ?_ -- r16
          refine CWops.run htt 3 (by simp only [go_sem, reduceIte, reduceCtorEq, reduceEqDiff, reduceAdd, reduceLT, reduceLeDiff, reduceToNat]; exact rfl) (by simp [go_sem, reduceIte, reduceCtorEq, reduceEqDiff, reduceAdd, reduceLT, reduceLeDiff, reduceToNat]) ?_
          refine CWops.done ?_
          refine CW.ret ?_
          refine ⟨⟨2, [(4, .lv 1 [] 0), (5, .int .i64 0)], [(0, ⟨false, [.own 2 (List.map eTypeO (s2))]⟩), (1, ⟨true, eWork 0 x (t : Int) (at_)⟩)]⟩, ?_, .inr rfl, by simp [ptrOK, go_sem, reduceIte, reduceCtorEq, reduceEqDiff, reduceAdd, reduceLT, reduceLeDiff, reduceToNat], _, by simp only [f43, go_sem, reduceIte, reduceCtorEq, reduceEqDiff, reduceAdd, reduceLT, reduceLeDiff, reduceToNat]; exact rfl, ?_⟩ -- ret2
          · refine Sh.wk (fun x => if x = 0 then 4 else if x = 1 then 3 else x) ?_
            simp [Wk, go_sem, reduceIte, reduceCtorEq, reduceEqDiff, reduceAdd, reduceLT, reduceLeDiff, reduceToNat, eWork]
          · exact .inl ⟨by simpa using ct62, rfl, rfl, rfl⟩
      · have hd0 : ¬ x.Do = 0 := by simpa using ct51
        refine CW.seq ?_
        refine CW.region (by kernel_rfl) (by kernel_rfl) ?_ -- r11
        refine CWops.run htt 2 (by simp only [go_sem, reduceIte, reduceCtorEq, reduceEqDiff, reduceAdd, reduceLT, reduceLeDiff, reduceToNat]; exact rfl) (by simp [go_sem, reduceIte, reduceCtorEq, reduceEqDiff, reduceAdd, reduceLT, reduceLeDiff, reduceToNat]) ?_
        refine CWops.done ?_
        refine CW.cond (by simp only [go_sem, reduceIte, reduceCtorEq, reduceEqDiff, reduceAdd, reduceLT, reduceLeDiff, reduceToNat]; first | done | exact rfl) (fun ct55 => ?_) (fun ct55 => ?_)
        · have hd : x.Do = 1 := by simpa using ct55
          have hfm : fm = 93 := by rcases hsel with ⟨h, h'⟩ | ⟨h, h'⟩ | ⟨h, h'⟩ <;> first | exact h' | (exfalso; omega)
          subst hfm
          refine CW.region (by kernel_rfl) (by kernel_rfl) ?_ -- r12
          refine CWops.run htt 3 (by simp only [go_sem, reduceIte, reduceCtorEq, reduceEqDiff, reduceAdd, reduceLT, reduceLeDiff, reduceToNat]; exact rfl) (by simp [go_sem, reduceIte, reduceCtorEq, reduceEqDiff, reduceAdd, reduceLT, reduceLeDiff, reduceToNat]) ?_
          refine CWops.done ?_
          refine CW.seq ?_
          refine CW.seq ?_
          refine CW.region (by kernel_rfl) (by kernel_rfl) ?_ -- r13
          refine CWops.run htt 1 (by simp only [go_sem, reduceIte, reduceCtorEq, reduceEqDiff, reduceAdd, reduceLT, reduceLeDiff, reduceToNat]; exact rfl) (by simp [go_sem, reduceIte, reduceCtorEq, reduceEqDiff, reduceAdd, reduceLT, reduceLeDiff, reduceToNat]) ?_
          refine CWops.callG [4, 3] rfl (hcall) (by simp only [go_sem, reduceIte, reduceCtorEq, reduceEqDiff, reduceAdd, reduceLT, reduceLeDiff, reduceToNat]) (by simp only [go_sem, reduceIte, reduceCtorEq, reduceEqDiff, reduceAdd, reduceLT, reduceLeDiff, reduceToNat]; first | done | exact rfl) (by decide) (by simp [go_sem, reduceIte, reduceCtorEq, reduceEqDiff, reduceAdd, reduceLT, reduceLeDiff, reduceToNat, mName, memB, eWork]) (by simp [go_sem, reduceIte, reduceCtorEq, reduceEqDiff, reduceAdd, reduceLT, reduceLeDiff, reduceToNat, mName]) (by simp [go_sem, reduceIte, reduceCtorEq, reduceEqDiff, reduceAdd, reduceLT, reduceLeDiff, reduceToNat]) (by intro y hy; rcases y with _ | _ | y <;> first | (simp [go_sem, reduceIte, reduceCtorEq, reduceEqDiff, reduceAdd, reduceLT, reduceLeDiff, reduceToNat]; done) | (exfalso; simp at hy; done) | (exfalso; simp at hy; omega)) (by simp [go_sem, reduceIte, reduceCtorEq, reduceEqDiff, reduceAdd, reduceLT, reduceLeDiff, reduceToNat, mName]) (fun r σ' hσ => ?_)
          obtain ⟨rfl, tt, rfl⟩ := hσ
          simp only [aftS, renS, delAll, memB, mName, List.getD_nil, killH, kref, ren, Nat.beq_eq, go_sem, reduceIte, reduceCtorEq, reduceEqDiff, reduceAdd, reduceLT, reduceLeDiff, reduceToNat, eWork]
          refine CWops.run htt 1 (by simp only [go_sem, reduceIte, reduceCtorEq, reduceEqDiff, reduceAdd, reduceLT, reduceLeDiff, reduceToNat]; exact rfl) (by simp [go_sem, reduceIte, reduceCtorEq, reduceEqDiff, reduceAdd, reduceLT, reduceLeDiff, reduceToNat]) ?_
          refine CWops.done ?_
          refine CW.seq ?_
          refine CW.region (by kernel_rfl) (by kernel_rfl) ?_ -- r14
          refine CWops.run htt 2 (by simp only [go_sem, reduceIte, reduceCtorEq, reduceEqDiff, reduceAdd, reduceLT, reduceLeDiff, reduceToNat]; exact rfl) (by simp [go_sem, reduceIte, reduceCtorEq, reduceEqDiff, reduceAdd, reduceLT, reduceLeDiff, reduceToNat]) ?_
          refine CWops.done ?_
          refine CW.cond (by simp only [go_sem, reduceIte, reduceCtorEq, reduceEqDiff, reduceAdd, reduceLT, reduceLeDiff, reduceToNat]; first | done | exact rfl) (fun ct62 => ?_) (fun ct62 => ?_)
          · refine CW.seq ?_
            refine CW.region (by kernel_rfl) (by kernel_rfl) ?_ -- r15
            refine CWops.run htt 3 (by simp only [go_sem, reduceIte, reduceCtorEq, reduceEqDiff, reduceAdd, reduceLT, reduceLeDiff, reduceToNat]; exact rfl) (by simp [go_sem, reduceIte, reduceCtorEq, reduceEqDiff, reduceAdd, reduceLT, reduceLeDiff, reduceToNat]) ?_
            refine CWops.done ?_
            refine CW.ret ?_
            refine ⟨⟨0, [(4, .nilp), (5, .int .i64 e)], []⟩, ?_, .inr rfl, by simp [ptrOK, go_sem, reduceIte, reduceCtorEq, reduceEqDiff, reduceAdd, reduceLT, reduceLeDiff, reduceToNat], _, by simp only [f43, go_sem, reduceIte, reduceCtorEq, reduceEqDiff, reduceAdd, reduceLT, reduceLeDiff, reduceToNat]; exact rfl, ?_⟩ -- ret3
            · refine Sh.wk0 ?_
              simp [Wk, go_sem, reduceIte, reduceCtorEq, reduceEqDiff, reduceAdd, reduceLT, reduceLeDiff, reduceToNat]
            · exact .inr ⟨by simpa using ct62, rfl, rfl, rfl⟩
          · refine CW.skip ?_
            refine CW.seq ?_
            refine CW.region (by kernel_rfl) (by kernel_rfl) ?_ -- r16
            refine CWops.run htt 3 (by simp only [go_sem, reduceIte, reduceCtorEq, reduceEqDiff, reduceAdd, reduceLT, reduceLeDiff, reduceToNat]; exact rfl) (by simp [go_sem, reduceIte, reduceCtorEq, reduceEqDiff, reduceAdd, reduceLT, reduceLeDiff, reduceToNat]) ?_
            refine CWops.done ?_
            refine CW.ret ?_
            refine ⟨⟨2, [(4, .lv 1 [] 0), (5, .int .i64 0)], [(0, ⟨false, [.own 2 (List.map eTypeO (s2))]⟩), (1, ⟨true, eWork 0 x (t : Int) (at_)⟩)]⟩, ?_, .inr rfl, by simp [ptrOK, go_sem, reduceIte, reduceCtorEq, reduceEqDiff, reduceAdd, reduceLT, reduceLeDiff, reduceToNat], _, by simp only [f43, go_sem, reduceIte, reduceCtorEq, reduceEqDiff, reduceAdd, reduceLT, reduceLeDiff, reduceToNat]; exact rfl, ?_⟩ -- ret4
            · refine Sh.wk (fun x => if x = 0 then 4 else if x = 1 then 3 else x) ?_
              simp [Wk, go_sem, reduceIte, reduceCtorEq, reduceEqDiff, reduceAdd, reduceLT, reduceLeDiff, reduceToNat, eWork]
            · exact .inl ⟨by simpa using ct62, rfl, rfl, rfl⟩
        · have hd1 : ¬ x.Do = 1 := by simpa using ct55
          have hd : x.Do = 2 := by rcases hsel with ⟨h, _⟩ | ⟨h, _⟩ | ⟨h, _⟩ <;> omega
          have hfm : fm = 91 := by rcases hsel with ⟨h, h'⟩ | ⟨h, h'⟩ | ⟨h, h'⟩ <;> first | exact h' | (exfalso; omega)
          subst hfm
          refine CW.skip ?_
          refine CW.seq ?_
          refine CW.seq ?_
          refine CW.region (by kernel_rfl) (by kernel_rfl) ?_ -- r13
          refine CWops.run htt 1 (by simp only [go_sem, reduceIte, reduceCtorEq, reduceEqDiff, reduceAdd, reduceLT, reduceLeDiff, reduceToNat]; exact rfl) (by simp [go_sem, reduceIte, reduceCtorEq, reduceEqDiff, reduceAdd, reduceLT, reduceLeDiff, reduceToNat]) ?_
          refine CWops.callG [4, 3] rfl (hcall) (by simp only [go_sem, reduceIte, reduceCtorEq, reduceEqDiff, reduceAdd, reduceLT, reduceLeDiff, reduceToNat]) (by simp only [go_sem, reduceIte, reduceCtorEq, reduceEqDiff, reduceAdd, reduceLT, reduceLeDiff, reduceToNat]; first | done | exact rfl) (by decide) (by simp [go_sem, reduceIte, reduceCtorEq, reduceEqDiff, reduceAdd, reduceLT, reduceLeDiff, reduceToNat, mName, memB, eWork]) (by simp [go_sem, reduceIte, reduceCtorEq, reduceEqDiff, reduceAdd, reduceLT, reduceLeDiff, reduceToNat, mName]) (by simp [go_sem, reduceIte, reduceCtorEq, reduceEqDiff, reduceAdd, reduceLT, reduceLeDiff, reduceToNat]) (by intro y hy; rcases y with _ | _ | y <;> first | (simp [go_sem, reduceIte, reduceCtorEq, reduceEqDiff, reduceAdd, reduceLT, reduceLeDiff, reduceToNat]; done) | (exfalso; simp at hy; done) | (exfalso; simp at hy; omega)) (by simp [go_sem, reduceIte, reduceCtorEq, reduceEqDiff, reduceAdd, reduceLT, reduceLeDiff, reduceToNat, mName]) (fun r σ' hσ => ?_)
          obtain ⟨rfl, tt, rfl⟩ := hσ
          simp only [aftS, renS, delAll, memB, mName, List.getD_nil, killH, kref, ren, Nat.beq_eq, go_sem, reduceIte, reduceCtorEq, reduceEqDiff, reduceAdd, reduceLT, reduceLeDiff, reduceToNat, eWork]
          refine CWops.run htt 1 (by simp only [go_sem, reduceIte, reduceCtorEq, reduceEqDiff, reduceAdd, reduceLT, reduceLeDiff, reduceToNat]; exact rfl) (by simp [go_sem, reduceIte, reduceCtorEq, reduceEqDiff, reduceAdd, reduceLT, reduceLeDiff, reduceToNat]) ?_
          refine CWops.done ?_
          refine CW.seq ?_
          refine CW.region (by kernel_rfl) (by kernel_rfl) ?_ -- r14
          refine CWops.run htt 2 (by simp only [go_sem, reduceIte, reduceCtorEq, reduceEqDiff, reduceAdd, reduceLT, reduceLeDiff, reduceToNat]; exact rfl) (by simp [go_sem, reduceIte, reduceCtorEq, reduceEqDiff, reduceAdd, reduceLT, reduceLeDiff, reduceToNat]) ?_
          refine CWops.done ?_
          refine CW.cond (by simp only [go_sem, reduceIte, reduceCtorEq, reduceEqDiff, reduceAdd, reduceLT, reduceLeDiff, reduceToNat]; first | done | exact rfl) (fun ct62 => ?_) (fun ct62 => ?_)
          · refine CW.seq ?_
            refine CW.region (by kernel_rfl) (by kernel_rfl) ?_ -- r15
            refine CWops.run htt 3 (by simp only [go_sem, reduceIte, reduceCtorEq, reduceEqDiff, reduceAdd, reduceLT, reduceLeDiff, reduceToNat]; exact rfl) (by simp [go_sem, reduceIte, reduceCtorEq, reduceEqDiff, reduceAdd, reduceLT, reduceLeDiff, reduceToNat]) ?_
            refine CWops.done ?_
            refine CW.ret ?_
            refine ⟨⟨0, [(4, .nilp), (5, .int .i64 e)], []⟩, ?_, .inr rfl, by simp [ptrOK, go_sem, reduceIte, reduceCtorEq, reduceEqDiff, reduceAdd, reduceLT, reduceLeDiff, reduceToNat], _, by simp only [f43, go_sem, reduceIte, reduceCtorEq, reduceEqDiff, reduceAdd, reduceLT, reduceLeDiff, reduceToNat]; exact rfl, ?_⟩ -- ret5
            · refine Sh.wk0 ?_
              simp [Wk, go_sem, reduceIte, reduceCtorEq, reduceEqDiff, reduceAdd, reduceLT, reduceLeDiff, reduceToNat]
            · exact .inr ⟨by simpa using ct62, rfl, rfl, rfl⟩
          · refine CW.skip ?_
            refine CW.seq ?_
            refine CW.region (by kernel_rfl) (by kernel_rfl) ?_ -- r16
            refine CWops.run htt 3 (by simp only [go_sem, reduceIte, reduceCtorEq, reduceEqDiff, reduceAdd, reduceLT, reduceLeDiff, reduceToNat]; exact rfl) (by simp [go_sem, reduceIte, reduceCtorEq, reduceEqDiff, reduceAdd, reduceLT, reduceLeDiff, reduceToNat]) ?_
            refine CWops.done ?_
            refine CW.ret ?_
            refine ⟨⟨2, [(4, .lv 1 [] 0), (5, .int .i64 0)], [(0, ⟨false, [.own 2 (List.map eTypeO (s2))]⟩), (1, ⟨true, eWork 0 x (t : Int) (at_)⟩)]⟩, ?_, .inr rfl, by simp [ptrOK, go_sem, reduceIte, reduceCtorEq, reduceEqDiff, reduceAdd, reduceLT, reduceLeDiff, reduceToNat], _, by simp only [f43, go_sem, reduceIte, reduceCtorEq, reduceEqDiff, reduceAdd, reduceLT, reduceLeDiff, reduceToNat]; exact rfl, ?_⟩ -- ret6
            · refine Sh.wk (fun x => if x = 0 then 4 else if x = 1 then 3 else x) ?_
              simp [Wk, go_sem, reduceIte, reduceCtorEq, reduceEqDiff, reduceAdd, reduceLT, reduceLeDiff, reduceToNat, eWork]
            · exact .inl ⟨by simpa using ct62, rfl, rfl, rfl⟩
end Go.Ab
namespace Go.Ab
open Go Go.Proofs.Try
open Nat (reduceEqDiff reduceAdd reduceLT reduceLeDiff reduceBEq reduceSub reduceMul)
open Int (reduceToNat)
set_option maxRecDepth 100000
set_option maxHeartbeats 1600000
set_option linter.unusedSimpArgs false
set_option linter.unusedVariables false
theorem do_G (up : Bool) (s : List GType) (x : GStep) (h1 : s.length * 40 ≤ MX) (h2 : ∀ x ∈ s, x.F.length * 40 ≤ MX) : GCall prog up 43 [.agg (eSchema s), .agg (eStep x)] 0 [] (fun r σ' => ((gDo s x).1 = 0 ∧ (fun r σ' => r = .tup [.lv 1 [] 0, .int .i64 0] ∧ σ'.n = 2 ∧ σ'.s = [(0, ⟨false, [.own 2 (List.map eTypeO (gDo s x).2.1)]⟩), (1, ⟨true, eWork 0 x ((gDo s x).2.2.1 : Int) (gDo s x).2.2.2⟩)]) r σ') ∨ ((gDo s x).1 ≠ 0 ∧ (fun r σ' => r = .tup [.nilp, .int .i64 (gDo s x).1] ∧ σ'.n = 0 ∧ σ'.s = []) r σ')) := by
  by_cases hb : (schemaMay s && (decide (0 ≤ x.Do) && decide (x.Do < 3))) = true
  · have hs : schemaMay s = true := by simp only [Bool.and_eq_true] at hb; exact hb.1
    have hD : 0 ≤ x.Do ∧ x.Do < 3 := by simp only [Bool.and_eq_true, decide_eq_true_eq] at hb; exact hb.2
    have hSM := (smay_iff s).1 hs
    rcases find_cases (fun o : GType => decide (o.Name = x.Ty)) s with ⟨f1, f2, f3⟩ | ⟨t, ty, f1, f2, f3, f4, f5⟩
    · have e : gDo s x = (11, [], 0, -1) := by unfold gDo; rw [if_pos hb, f3]
      rw [e]
      exact (do_none up s x h1 h2 hb f1).mono fun r σ' h => .inr ⟨by decide, h⟩
    · have e : gDo s x = if (gStepF s x ty.F).1 = 0 then (0, s.set t ⟨ty.Name, (gStepF s x ty.F).2⟩, t, fFind ty.F x.F.Name) else ((gStepF s x ty.F).1, [], 0, -1) := by
        unfold gDo; rw [if_pos hb, f4]; simp only [f2]
      have h5 := hSM.flen t ty f2
      have key : ∃ (fm : FuncId) (e1 : Int) (s2 : List GType), ((x.Do = 0 ∧ fm = 92) ∨ (x.Do = 1 ∧ fm = 93) ∨ (x.Do = 2 ∧ fm = 91)) ∧ GCall prog up fm [.lv 1 [] 0] 2 [(0, ⟨false, [.own 2 (List.map eTypeO (s))]⟩), (1, ⟨true, eWork 0 x (t : Int) (fFind ty.F x.F.Name)⟩)] (fun r σ' => r = .int .i64 e1 ∧ ∃ tt, σ' = ⟨2, tt, [(0, ⟨false, [.own 2 (List.map eTypeO (s2))]⟩), (1, ⟨true, eWork 0 x (t : Int) (fFind ty.F x.F.Name)⟩)]⟩) ∧ e1 = (gStepF s x ty.F).1 ∧ (e1 = 0 → s2 = s.set t ⟨ty.Name, (gStepF s x ty.F).2⟩) := by
        rcases (by omega : x.Do = 0 ∨ x.Do = 1 ∨ x.Do = 2) with h | h | h
        · refine ⟨_, _, _, .inl ⟨h, rfl⟩, work_add up s x t _ ty f2 h5, ?_, ?_⟩
          · unfold gStepF fFind; rw [if_pos h]; split <;> (try split) <;> simp_all
          · unfold gStepF fFind; rw [if_pos h]; intro h0; split at h0
            · rename_i hok; rw [if_pos hok]; split at h0
              · exact absurd h0 (by decide)
              · rename_i hl; rw [if_neg hl, if_pos ⟨hok, hl⟩]
            · exact absurd h0 (by decide)
        · rcases find_cases (fun f : GField => decide (f.Name = x.F.Name)) ty.F with ⟨g1, g2, g3⟩ | ⟨q, f0, g1, g2, g3, g4, g5⟩
          · exact ⟨_, 11, s, .inr (.inl ⟨h, rfl⟩), by rw [show fFind ty.F x.F.Name = -1 from g1]; exact work_drop_no up s x t, by unfold gStepF; rw [if_neg (show ¬ x.Do = 0 by omega), g3], fun h => absurd h (by decide)⟩
          · exact ⟨_, 0, _, .inr (.inl ⟨h, rfl⟩), by rw [show fFind ty.F x.F.Name = q from g1]; exact work_drop_at up s x t ty f2 q f0 g2 h5, by unfold gStepF; rw [if_neg (show ¬ x.Do = 0 by omega), g4]; simp only; rw [if_pos h], fun _ => by unfold gStepF; rw [if_neg (show ¬ x.Do = 0 by omega), g4]; simp only; rw [if_pos h]⟩
        · rcases find_cases (fun f : GField => decide (f.Name = x.F.Name)) ty.F with ⟨g1, g2, g3⟩ | ⟨q, f0, g1, g2, g3, g4, g5⟩
          · exact ⟨_, 11, s, .inr (.inr ⟨h, rfl⟩), by rw [show fFind ty.F x.F.Name = -1 from g1]; exact work_widen_no up s x t, by unfold gStepF; rw [if_neg (show ¬ x.Do = 0 by omega), g3], fun h => absurd h (by decide)⟩
          · refine ⟨_, _, _, .inr (.inr ⟨h, rfl⟩), by rw [show fFind ty.F x.F.Name = q from g1]; exact work_widen_at up s x t ty f2 q f0 g2, ?_, ?_⟩
            · unfold gStepF; rw [if_neg (show ¬ x.Do = 0 by omega), g4]; simp only; rw [if_neg (show ¬ x.Do = 1 by omega), g2]; simp only; split <;> rfl
            · unfold gStepF; rw [if_neg (show ¬ x.Do = 0 by omega), g4]; simp only; rw [if_neg (show ¬ x.Do = 1 by omega), g2]; simp only
              intro h0
              split at h0
              · rename_i hw; rw [if_pos hw, if_pos hw]
              · exact absurd h0 (by decide)
      obtain ⟨fm, e1, s2, hsel, hcall, he, hs2⟩ := key
      refine (do_step up s x h1 h2 hb t f1 ty f2 _ rfl e1 s2 fm hsel hcall).mono fun r σ' h => ?_
      rcases h with ⟨h0, hr, hn, hσ⟩ | ⟨h0, h⟩
      · left
        rw [e, if_pos (by rw [← he]; exact h0)]
        rw [hs2 h0] at hσ
        exact ⟨rfl, hr, hn, hσ⟩
      · right
        rw [e, if_neg (by rw [← he]; exact h0)]
        simp only
        rw [← he]
        exact ⟨h0, h⟩
  · have hb' : (schemaMay s && (decide (0 ≤ x.Do) && decide (x.Do < 3))) = false := by simpa only [Bool.not_eq_true] using hb
    have e : gDo s x = (1, [], 0, -1) := by unfold gDo; rw [if_neg hb]
    rw [e]
    exact (do_bad up s x hb').mono fun r σ' h => .inr ⟨by decide, h⟩
theorem doG_ok (up : Bool) (s : List GType) (x : GStep) (h1 : s.length * 40 ≤ MX) (h2 : ∀ x ∈ s, x.F.length * 40 ≤ MX) (h0 : (gDo s x).1 = 0) : GCall prog up 43 [.agg (eSchema s), .agg (eStep x)] 0 [] (fun r σ' => r = .tup [.lv 1 [] 0, .int .i64 0] ∧ σ'.n = 2 ∧ σ'.s = [(0, ⟨false, [.own 2 (List.map eTypeO (gDo s x).2.1)]⟩), (1, ⟨true, eWork 0 x ((gDo s x).2.2.1 : Int) (gDo s x).2.2.2⟩)]) := (do_G up s x h1 h2).mono fun r σ' h => (h.resolve_right fun h => h.1 h0).2
theorem doG_err (up : Bool) (s : List GType) (x : GStep) (h1 : s.length * 40 ≤ MX) (h2 : ∀ x ∈ s, x.F.length * 40 ≤ MX) (h0 : (gDo s x).1 ≠ 0) : GCall prog up 43 [.agg (eSchema s), .agg (eStep x)] 0 [] (fun r σ' => r = .tup [.nilp, .int .i64 (gDo s x).1] ∧ σ'.n = 0 ∧ σ'.s = []) := (do_G up s x h1 h2).mono fun r σ' h => (h.resolve_left fun h => h0 h.1).2
theorem Schema_ok (up : Bool) (s : List GType) (x : GStep) (h1 : s.length * 40 ≤ MX) (h2 : ∀ x ∈ s, x.F.length * 40 ≤ MX) (h0 : (gDo s x).1 = 0) : PCall prog up 17 [.agg (eSchema s), .agg (eStep x)] (· = .tup [.agg (eSchema (gDo s x).2.1), .int .i64 0]) := by
  refine PCall.intro htt func17 (by kernel_rfl) rfl (Nat.le_of_ble_eq_true rfl) fun hl => ?_

  simp only [tmps0, Nat.reduceAdd]
  refine CW.seq ?_
  refine CW.region (by kernel_rfl) (by kernel_rfl) ?_ -- r0
  refine CWops.run htt 4 (by simp only [go_sem, reduceIte, reduceCtorEq, reduceEqDiff, reduceAdd, reduceLT, reduceLeDiff, reduceToNat, eSchema, eStep]; exact rfl) (by simp [go_sem, reduceIte, reduceCtorEq, reduceEqDiff, reduceAdd, reduceLT, reduceLeDiff, reduceToNat, eSchema, eStep]) ?_
  refine CWops.done ?_
  refine CW.seq ?_
  refine CW.region (by kernel_rfl) (by kernel_rfl) ?_ -- r1
  refine CWops.run htt 2 (by simp only [go_sem, reduceIte, reduceCtorEq, reduceEqDiff, reduceAdd, reduceLT, reduceLeDiff, reduceToNat, eSchema, eStep]; exact rfl) (by simp [go_sem, reduceIte, reduceCtorEq, reduceEqDiff, reduceAdd, reduceLT, reduceLeDiff, reduceToNat, eSchema, eStep]) ?_
  refine CWops.callG [] rfl (doG_ok up s x h1 h2 h0) (by simp only [go_sem, reduceIte, reduceCtorEq, reduceEqDiff, reduceAdd, reduceLT, reduceLeDiff, reduceToNat]) (by simp only [go_sem, reduceIte, reduceCtorEq, reduceEqDiff, reduceAdd, reduceLT, reduceLeDiff, reduceToNat]; first | done | exact rfl) (by decide) (by simp [go_sem, reduceIte, reduceCtorEq, reduceEqDiff, reduceAdd, reduceLT, reduceLeDiff, reduceToNat, mName, memB]) (by simp [go_sem, reduceIte, reduceCtorEq, reduceEqDiff, reduceAdd, reduceLT, reduceLeDiff, reduceToNat, mName]) (by simp [go_sem, reduceIte, reduceCtorEq, reduceEqDiff, reduceAdd, reduceLT, reduceLeDiff, reduceToNat]) (by simp [go_sem, reduceIte, reduceCtorEq, reduceEqDiff, reduceAdd, reduceLT, reduceLeDiff, reduceToNat]) (by simp [go_sem, reduceIte, reduceCtorEq, reduceEqDiff, reduceAdd, reduceLT, reduceLeDiff, reduceToNat, mName, eSchema, eStep]) (fun r σ' hσ => ?_)
  obtain ⟨σn, σt, σs⟩ := σ'
  simp only at hσ
  obtain ⟨rfl, rfl, rfl⟩ := hσ
  simp only [aftS, renS, delAll, memB, mName, List.getD_nil, killH, kref, ren, Nat.beq_eq, go_sem, reduceIte, reduceCtorEq, reduceEqDiff, reduceAdd, reduceLT, reduceLeDiff, reduceToNat, eWork]
  refine CWops.run htt 5 (by simp only [go_sem, reduceIte, reduceCtorEq, reduceEqDiff, reduceAdd, reduceLT, reduceLeDiff, reduceToNat, eSchema, eStep]; exact rfl) (by simp [go_sem, reduceIte, reduceCtorEq, reduceEqDiff, reduceAdd, reduceLT, reduceLeDiff, reduceToNat, eSchema, eStep]) ?_
  refine CWops.done ?_
  refine CW.seq ?_
  refine CW.seq ?_
  refine CW.region (by kernel_rfl) (by kernel_rfl) ?_ -- r2
  refine CWops.run htt 2 (by simp only [go_sem, reduceIte, reduceCtorEq, reduceEqDiff, reduceAdd, reduceLT, reduceLeDiff, reduceToNat]; exact rfl) (by simp [go_sem, reduceIte, reduceCtorEq, reduceEqDiff, reduceAdd, reduceLT, reduceLeDiff, reduceToNat]) ?_
  refine CWops.done ?_
  refine CW.cond (by simp only [go_sem, reduceIte, reduceCtorEq, reduceEqDiff, reduceAdd, reduceLT, reduceLeDiff, reduceToNat]; first | done | exact rfl) (fun ct15 => ?_) (fun ct15 => ?_)
  · simp at ct15 
  · refine CW.skip ?_
    refine CW.seq ?_
    refine CW.region (by kernel_rfl) (by kernel_rfl) ?_ -- r4
    refine CWops.run htt 6 (by simp only [go_sem, reduceIte, reduceCtorEq, reduceEqDiff, reduceAdd, reduceLT, reduceLeDiff, reduceToNat, eWork]; exact rfl) (by simp [go_sem, reduceIte, reduceCtorEq, reduceEqDiff, reduceAdd, reduceLT, reduceLeDiff, reduceToNat, eWork]) ?_
    refine CWops.done ?_
    refine CW.ret ?_
    refine retQ.ret (by simp only [f17, go_sem, reduceIte, reduceCtorEq, reduceEqDiff, reduceAdd, reduceLT, reduceLeDiff, reduceToNat]; exact rfl) (by simp only [go_sem, reduceIte, reduceCtorEq, reduceEqDiff, reduceAdd, reduceLT, reduceLeDiff, reduceToNat]; exact rfl) ?_ -- ret1
    refine ⟨_, ?_, rfl⟩
    simp [leP, leL, eSchema, frz_TypeO]
theorem Schema_err (up : Bool) (s : List GType) (x : GStep) (h1 : s.length * 40 ≤ MX) (h2 : ∀ x ∈ s, x.F.length * 40 ≤ MX) (h0 : (gDo s x).1 ≠ 0) : PCall prog up 17 [.agg (eSchema s), .agg (eStep x)] (· = .tup [.agg (eSchema []), .int .i64 (gDo s x).1]) := by
  refine PCall.intro htt func17 (by kernel_rfl) rfl (Nat.le_of_ble_eq_true rfl) fun hl => ?_

  simp only [tmps0, Nat.reduceAdd]
  refine CW.seq ?_
  refine CW.region (by kernel_rfl) (by kernel_rfl) ?_ -- r0
  refine CWops.run htt 4 (by simp only [go_sem, reduceIte, reduceCtorEq, reduceEqDiff, reduceAdd, reduceLT, reduceLeDiff, reduceToNat, eSchema, eStep]; exact rfl) (by simp [go_sem, reduceIte, reduceCtorEq, reduceEqDiff, reduceAdd, reduceLT, reduceLeDiff, reduceToNat, eSchema, eStep]) ?_
  refine CWops.done ?_
  refine CW.seq ?_
  refine CW.region (by kernel_rfl) (by kernel_rfl) ?_ -- r1
  refine CWops.run htt 2 (by simp only [go_sem, reduceIte, reduceCtorEq, reduceEqDiff, reduceAdd, reduceLT, reduceLeDiff, reduceToNat, eSchema, eStep]; exact rfl) (by simp [go_sem, reduceIte, reduceCtorEq, reduceEqDiff, reduceAdd, reduceLT, reduceLeDiff, reduceToNat, eSchema, eStep]) ?_
  refine CWops.callG [] rfl (doG_err up s x h1 h2 h0) (by simp only [go_sem, reduceIte, reduceCtorEq, reduceEqDiff, reduceAdd, reduceLT, reduceLeDiff, reduceToNat]) (by simp only [go_sem, reduceIte, reduceCtorEq, reduceEqDiff, reduceAdd, reduceLT, reduceLeDiff, reduceToNat]; first | done | exact rfl) (by decide) (by simp [go_sem, reduceIte, reduceCtorEq, reduceEqDiff, reduceAdd, reduceLT, reduceLeDiff, reduceToNat, mName, memB]) (by simp [go_sem, reduceIte, reduceCtorEq, reduceEqDiff, reduceAdd, reduceLT, reduceLeDiff, reduceToNat, mName]) (by simp [go_sem, reduceIte, reduceCtorEq, reduceEqDiff, reduceAdd, reduceLT, reduceLeDiff, reduceToNat]) (by simp [go_sem, reduceIte, reduceCtorEq, reduceEqDiff, reduceAdd, reduceLT, reduceLeDiff, reduceToNat]) (by simp [go_sem, reduceIte, reduceCtorEq, reduceEqDiff, reduceAdd, reduceLT, reduceLeDiff, reduceToNat, mName, eSchema, eStep]) (fun r σ' hσ => ?_)
  obtain ⟨σn, σt, σs⟩ := σ'
  simp only at hσ
  obtain ⟨rfl, rfl, rfl⟩ := hσ
  simp only [aftS, renS, delAll, memB, mName, List.getD_nil, killH, kref, ren, Nat.beq_eq, go_sem, reduceIte, reduceCtorEq, reduceEqDiff, reduceAdd, reduceLT, reduceLeDiff, reduceToNat, eWork]
  refine CWops.run htt 5 (by simp only [go_sem, reduceIte, reduceCtorEq, reduceEqDiff, reduceAdd, reduceLT, reduceLeDiff, reduceToNat, eSchema, eStep]; exact rfl) (by simp [go_sem, reduceIte, reduceCtorEq, reduceEqDiff, reduceAdd, reduceLT, reduceLeDiff, reduceToNat, eSchema, eStep]) ?_
  refine CWops.done ?_
  refine CW.seq ?_
  refine CW.seq ?_
  refine CW.region (by kernel_rfl) (by kernel_rfl) ?_ -- r2
  refine CWops.run htt 2 (by simp only [go_sem, reduceIte, reduceCtorEq, reduceEqDiff, reduceAdd, reduceLT, reduceLeDiff, reduceToNat]; exact rfl) (by simp [go_sem, reduceIte, reduceCtorEq, reduceEqDiff, reduceAdd, reduceLT, reduceLeDiff, reduceToNat]) ?_
  refine CWops.done ?_
  refine CW.cond (by simp only [go_sem, reduceIte, reduceCtorEq, reduceEqDiff, reduceAdd, reduceLT, reduceLeDiff, reduceToNat]; first | done | exact rfl) (fun ct15 => ?_) (fun ct15 => ?_)
  · refine CW.seq ?_
    refine CW.region (by kernel_rfl) (by kernel_rfl) ?_ -- r3
    refine CWops.run htt 4 (by simp only [go_sem, reduceIte, reduceCtorEq, reduceEqDiff, reduceAdd, reduceLT, reduceLeDiff, reduceToNat]; exact rfl) (by simp [go_sem, reduceIte, reduceCtorEq, reduceEqDiff, reduceAdd, reduceLT, reduceLeDiff, reduceToNat]) ?_
    refine CWops.done ?_
    refine CW.ret ?_
    refine retQ.ret (by simp only [f17, go_sem, reduceIte, reduceCtorEq, reduceEqDiff, reduceAdd, reduceLT, reduceLeDiff, reduceToNat]; exact rfl) (by simp only [go_sem, reduceIte, reduceCtorEq, reduceEqDiff, reduceAdd, reduceLT, reduceLeDiff, reduceToNat]; exact rfl) ?_ -- ret1
    refine ⟨_, ?_, rfl⟩
    simp [leP, leL, eSchema, frz_TypeO]
  · exfalso; revert ct15; simp [h0]
theorem grade_Schema (up : Bool) (s : List GType) (x : GStep) (h1 : s.length * 40 ≤ MX) (h2 : ∀ x ∈ s, x.F.length * 40 ≤ MX) : PCall prog up 17 [.agg (eSchema s), .agg (eStep x)] (· = .tup [.agg (eSchema (gSchema s x).1), .int .i64 (gSchema s x).2]) := by
  unfold gSchema
  by_cases h0 : (gDo s x).1 = 0
  · rw [h0]; exact Schema_ok up s x h1 h2 h0
  · rw [gDo_err h0]; exact Schema_err up s x h1 h2 h0
end Go.Ab
namespace Go.Ab
open Go Go.Proofs.Try
open Nat (reduceEqDiff reduceAdd reduceLT reduceLeDiff reduceBEq reduceSub reduceMul)
open Int (reduceToNat)
set_option maxRecDepth 100000
set_option maxHeartbeats 3200000
set_option linter.unusedSimpArgs false
set_option linter.unusedVariables false
theorem clone_Int (up : Bool) (xs : List Int) (hx : xs.length * 8 ≤ MX) : PCall prog up 44 [.sl 1 (xs.map eI)] (· = .sl 1 (xs.map eI)) := by
  refine PCall.intro htt func44 (by kernel_rfl) rfl (Nat.le_of_ble_eq_true rfl) fun hl => ?_
  have hx1 : xs.length ≤ MX := by omega
  simp only [tmps0, Nat.reduceAdd]
  refine CW.seq ?_
  refine CW.region (by kernel_rfl) (by kernel_rfl) ?_ -- r0
  refine CWops.run htt 1 (by simp only [go_sem, reduceIte, reduceCtorEq, reduceEqDiff, reduceAdd, reduceLT, reduceLeDiff, reduceToNat, reduceMul]; exact rfl) (by simp [go_sem, reduceIte, reduceCtorEq, reduceEqDiff, reduceAdd, reduceLT, reduceLeDiff, reduceToNat, reduceMul]) ?_
  refine CWops.done ?_
  refine CW.seq ?_
  refine CW.seq ?_
  refine CW.region (by kernel_rfl) (by kernel_rfl) ?_ -- r1
  refine CWops.run htt 1 (by simp only [go_sem, reduceIte, reduceCtorEq, reduceEqDiff, reduceAdd, reduceLT, reduceLeDiff, reduceToNat, reduceMul]; exact rfl) (by simp [go_sem, reduceIte, reduceCtorEq, reduceEqDiff, reduceAdd, reduceLT, reduceLeDiff, reduceToNat, reduceMul]) ?_
  refine CWops.nilcmp (n := 1) (l := xs.map eI) htt (by simp only [go_sem, reduceIte, reduceCtorEq, reduceEqDiff, reduceAdd, reduceLT, reduceLeDiff, reduceToNat, reduceMul]) (by simp only [go_sem, reduceIte, reduceCtorEq, reduceEqDiff, reduceAdd, reduceLT, reduceLeDiff, reduceToNat, reduceMul]) (by simp only [go_sem, reduceIte, reduceCtorEq, reduceEqDiff, reduceAdd, reduceLT, reduceLeDiff, reduceToNat, reduceMul]) tt_26 rfl (fun b hb => ⟨_, rfl, ?_⟩)
  refine CWops.done ?_
  refine CW.cond (by simp only [go_sem, reduceIte, reduceCtorEq, reduceEqDiff, reduceAdd, reduceLT, reduceLeDiff, reduceToNat, reduceMul]; first | done | exact rfl) (fun ct4 => ?_) (fun ct4 => ?_)
  · refine CW.seq ?_
    refine CW.region (by kernel_rfl) (by kernel_rfl) ?_ -- r2
    refine CWops.run htt 1 (by simp only [go_sem, reduceIte, reduceCtorEq, reduceEqDiff, reduceAdd, reduceLT, reduceLeDiff, reduceToNat, reduceMul]; exact rfl) (by simp [go_sem, reduceIte, reduceCtorEq, reduceEqDiff, reduceAdd, reduceLT, reduceLeDiff, reduceToNat, reduceMul]) ?_
    refine CWops.done ?_
    refine CW.ret ?_
    refine retQ.ret (by simp only [f44, go_sem, reduceIte, reduceCtorEq, reduceEqDiff, reduceAdd, reduceLT, reduceLeDiff, reduceToNat, reduceMul]; exact rfl) (by simp only [go_sem, reduceIte, reduceCtorEq, reduceEqDiff, reduceAdd, reduceLT, reduceLeDiff, reduceToNat, reduceMul]; exact rfl) ?_ -- ret1
    refine ⟨_, ?_, rfl⟩
    have h0 := hb ct4; simp [leP, h0]
  · refine CW.skip ?_
    refine CW.seq ?_
    refine CW.region (by kernel_rfl) (by kernel_rfl) ?_ -- r3
    refine CWops.run htt 4 (by simp only [go_sem, reduceIte, reduceCtorEq, reduceEqDiff, reduceAdd, reduceLT, reduceLeDiff, reduceToNat, reduceMul]; exact rfl) (by refine ⟨?_, ?_, ?_⟩ <;> first | (simp [eI, AV.cell]; done) | (simp; omega)) ?_
    refine CWops.done ?_
    refine CW.ret ?_
    refine retQ.ret (by simp only [f44, go_sem, reduceIte, reduceCtorEq, reduceEqDiff, reduceAdd, reduceLT, reduceLeDiff, reduceToNat, reduceMul]; exact rfl) (by simp only [go_sem, reduceIte, reduceCtorEq, reduceEqDiff, reduceAdd, reduceLT, reduceLeDiff, reduceToNat, reduceMul]; exact rfl) ?_ -- ret2
    refine ⟨_, ?_, rfl⟩
    simp [leP, frz_I, frz_Val, frz_Obj, frz_Field, frz_Type]
theorem grade_Graph_bad (up : Bool) (g : Graph) (x : GStep) (hm : gMay g = false) : PCall prog up 13 [.agg (eGraph g), .agg (eStep x)] (· = .tup [.agg (eGraph (gGrade g x).1), .int .i64 (gGrade g x).2]) := by
  refine PCall.intro htt func13 (by kernel_rfl) rfl (Nat.le_of_ble_eq_true rfl) fun hl => ?_

  simp only [tmps0, Nat.reduceAdd]
  refine CW.seq ?_
  refine CW.region (by kernel_rfl) (by kernel_rfl) ?_ -- r0
  refine CWops.run htt 4 (by simp only [go_sem, reduceIte, reduceCtorEq, reduceEqDiff, reduceAdd, reduceLT, reduceLeDiff, reduceToNat, reduceMul, eGraph, eStep]; exact rfl) (by simp [go_sem, reduceIte, reduceCtorEq, reduceEqDiff, reduceAdd, reduceLT, reduceLeDiff, reduceToNat, reduceMul, eGraph, eStep]) ?_
  refine CWops.done ?_
  refine CW.seq ?_
  refine CW.seq ?_
  refine CW.region (by kernel_rfl) (by kernel_rfl) ?_ -- r1
  refine CWops.run htt 1 (by simp only [go_sem, reduceIte, reduceCtorEq, reduceEqDiff, reduceAdd, reduceLT, reduceLeDiff, reduceToNat, reduceMul, eGraph]; exact rfl) (by simp [go_sem, reduceIte, reduceCtorEq, reduceEqDiff, reduceAdd, reduceLT, reduceLeDiff, reduceToNat, reduceMul, eGraph]) ?_
  refine CWops.call (graph_May up g) (by simp only [go_sem, reduceIte, reduceCtorEq, reduceEqDiff, reduceAdd, reduceLT, reduceLeDiff, reduceToNat, reduceMul, eGraph]) (by simp only [go_sem, reduceIte, reduceCtorEq, reduceEqDiff, reduceAdd, reduceLT, reduceLeDiff, reduceToNat, reduceMul, eGraph]; first | done | exact rfl) (by simp only [go_sem, reduceIte, reduceCtorEq, reduceEqDiff, reduceAdd, reduceLT, reduceLeDiff, reduceToNat, reduceMul, eGraph]) (fun rt12 hrt12 => ?_)
  subst hrt12; refine ⟨rfl, ?_⟩
  refine CWops.run htt 1 (by simp only [go_sem, reduceIte, reduceCtorEq, reduceEqDiff, reduceAdd, reduceLT, reduceLeDiff, reduceToNat, reduceMul, eGraph]; exact rfl) (by simp [go_sem, reduceIte, reduceCtorEq, reduceEqDiff, reduceAdd, reduceLT, reduceLeDiff, reduceToNat, reduceMul, eGraph]) ?_
  refine CWops.done ?_
  refine CW.cond (by simp only [go_sem, reduceIte, reduceCtorEq, reduceEqDiff, reduceAdd, reduceLT, reduceLeDiff, reduceToNat, reduceMul]; first | done | exact rfl) (fun ct13 => ?_) (fun ct13 => ?_)
  · refine CW.seq ?_
    refine CW.region (by kernel_rfl) (by kernel_rfl) ?_ -- r2
    refine CWops.run htt 3 (by simp only [go_sem, reduceIte, reduceCtorEq, reduceEqDiff, reduceAdd, reduceLT, reduceLeDiff, reduceToNat, reduceMul]; exact rfl) (by simp [go_sem, reduceIte, reduceCtorEq, reduceEqDiff, reduceAdd, reduceLT, reduceLeDiff, reduceToNat, reduceMul]) ?_
    refine CWops.done ?_
    refine CW.ret ?_
    refine retQ.ret (by simp only [f13, go_sem, reduceIte, reduceCtorEq, reduceEqDiff, reduceAdd, reduceLT, reduceLeDiff, reduceToNat, reduceMul]; exact rfl) (by simp only [go_sem, reduceIte, reduceCtorEq, reduceEqDiff, reduceAdd, reduceLT, reduceLeDiff, reduceToNat, reduceMul]; exact rfl) ?_ -- ret1
    refine ⟨_, ?_, rfl⟩
    have : gGrade g x = (⟨[], [], []⟩, 1) := by unfold gGrade; rw [if_pos hm]
    simp [leP, leL, this, eGraph]
  · rw [hm] at ct13; cases ct13
theorem grade_Graph_err (up : Bool) (g : Graph) (x : GStep) (hm : gMay g = true) (h0 : (gDo g.S x).1 ≠ 0) : PCall prog up 13 [.agg (eGraph g), .agg (eStep x)] (· = .tup [.agg (eGraph (gGrade g x).1), .int .i64 (gGrade g x).2]) := by
  refine PCall.intro htt func13 (by kernel_rfl) rfl (Nat.le_of_ble_eq_true rfl) fun hl => ?_
  have hM := (may_iff g).1 hm
  have hsm := hM.small
  have hs4 := hsm.1
  have hs5 := hsm.2.1
  have hr3 := hM.r
  have ho8 := hM.o
  have h1 : g.S.length * 40 ≤ MX := by unfold MX; omega
  have h2 : ∀ y ∈ g.S, y.F.length * 40 ≤ MX := fun y hy => by have := hs5 y hy; unfold MX; omega
  simp only [tmps0, Nat.reduceAdd]
  refine CW.seq ?_
  refine CW.region (by kernel_rfl) (by kernel_rfl) ?_ -- r0
  refine CWops.run htt 4 (by simp only [go_sem, reduceIte, reduceCtorEq, reduceEqDiff, reduceAdd, reduceLT, reduceLeDiff, reduceToNat, reduceMul, eGraph, eStep]; exact rfl) (by simp [go_sem, reduceIte, reduceCtorEq, reduceEqDiff, reduceAdd, reduceLT, reduceLeDiff, reduceToNat, reduceMul, eGraph, eStep]) ?_
  refine CWops.done ?_
  refine CW.seq ?_
  refine CW.seq ?_
  refine CW.region (by kernel_rfl) (by kernel_rfl) ?_ -- r1
  refine CWops.run htt 1 (by simp only [go_sem, reduceIte, reduceCtorEq, reduceEqDiff, reduceAdd, reduceLT, reduceLeDiff, reduceToNat, reduceMul, eGraph]; exact rfl) (by simp [go_sem, reduceIte, reduceCtorEq, reduceEqDiff, reduceAdd, reduceLT, reduceLeDiff, reduceToNat, reduceMul, eGraph]) ?_
  refine CWops.call (graph_May up g) (by simp only [go_sem, reduceIte, reduceCtorEq, reduceEqDiff, reduceAdd, reduceLT, reduceLeDiff, reduceToNat, reduceMul, eGraph]) (by simp only [go_sem, reduceIte, reduceCtorEq, reduceEqDiff, reduceAdd, reduceLT, reduceLeDiff, reduceToNat, reduceMul, eGraph]; first | done | exact rfl) (by simp only [go_sem, reduceIte, reduceCtorEq, reduceEqDiff, reduceAdd, reduceLT, reduceLeDiff, reduceToNat, reduceMul, eGraph]) (fun rt12 hrt12 => ?_)
  subst hrt12; refine ⟨rfl, ?_⟩
  refine CWops.run htt 1 (by simp only [go_sem, reduceIte, reduceCtorEq, reduceEqDiff, reduceAdd, reduceLT, reduceLeDiff, reduceToNat, reduceMul, eGraph]; exact rfl) (by simp [go_sem, reduceIte, reduceCtorEq, reduceEqDiff, reduceAdd, reduceLT, reduceLeDiff, reduceToNat, reduceMul, eGraph]) ?_
  refine CWops.done ?_
  refine CW.cond (by simp only [go_sem, reduceIte, reduceCtorEq, reduceEqDiff, reduceAdd, reduceLT, reduceLeDiff, reduceToNat, reduceMul]; first | done | exact rfl) (fun ct13 => ?_) (fun ct13 => ?_)
  · rw [hm] at ct13; cases ct13 
  · refine CW.skip ?_
    refine CW.seq ?_
    refine CW.region (by kernel_rfl) (by kernel_rfl) ?_ -- r3
    refine CWops.run htt 3 (by simp only [go_sem, reduceIte, reduceCtorEq, reduceEqDiff, reduceAdd, reduceLT, reduceLeDiff, reduceToNat, reduceMul, eGraph, eStep]; exact rfl) (by simp [go_sem, reduceIte, reduceCtorEq, reduceEqDiff, reduceAdd, reduceLT, reduceLeDiff, reduceToNat, reduceMul, eGraph, eStep]) ?_
    refine CWops.callG [] rfl (doG_err up g.S x h1 h2 h0) (by simp only [go_sem, reduceIte, reduceCtorEq, reduceEqDiff, reduceAdd, reduceLT, reduceLeDiff, reduceToNat, reduceMul]) (by simp only [go_sem, reduceIte, reduceCtorEq, reduceEqDiff, reduceAdd, reduceLT, reduceLeDiff, reduceToNat, reduceMul]; first | done | exact rfl) (by decide) (by simp [go_sem, reduceIte, reduceCtorEq, reduceEqDiff, reduceAdd, reduceLT, reduceLeDiff, reduceToNat, reduceMul, mName, memB]) (by simp [go_sem, reduceIte, reduceCtorEq, reduceEqDiff, reduceAdd, reduceLT, reduceLeDiff, reduceToNat, reduceMul, mName]) (by simp [go_sem, reduceIte, reduceCtorEq, reduceEqDiff, reduceAdd, reduceLT, reduceLeDiff, reduceToNat, reduceMul]) (by simp [go_sem, reduceIte, reduceCtorEq, reduceEqDiff, reduceAdd, reduceLT, reduceLeDiff, reduceToNat, reduceMul]) (by simp [go_sem, reduceIte, reduceCtorEq, reduceEqDiff, reduceAdd, reduceLT, reduceLeDiff, reduceToNat, reduceMul, mName, eSchema, eStep]) (fun r σ' hσ => ?_)
    obtain ⟨σn, σt, σs⟩ := σ'
    simp only at hσ
    obtain ⟨rfl, rfl, rfl⟩ := hσ
    simp only [aftS, renS, delAll, memB, mName, List.getD_nil, killH, kref, ren, Nat.beq_eq, go_sem, reduceIte, reduceCtorEq, reduceEqDiff, reduceAdd, reduceLT, reduceLeDiff, reduceToNat, reduceMul, eWork]
    refine CWops.run htt 5 (by simp only [go_sem, reduceIte, reduceCtorEq, reduceEqDiff, reduceAdd, reduceLT, reduceLeDiff, reduceToNat, reduceMul, eGraph, eStep]; exact rfl) (by simp [go_sem, reduceIte, reduceCtorEq, reduceEqDiff, reduceAdd, reduceLT, reduceLeDiff, reduceToNat, reduceMul, eGraph, eStep]) ?_
    refine CWops.done ?_
    refine CW.seq ?_
    refine CW.seq ?_
    refine CW.region (by kernel_rfl) (by kernel_rfl) ?_ -- r4
    refine CWops.run htt 2 (by simp only [go_sem, reduceIte, reduceCtorEq, reduceEqDiff, reduceAdd, reduceLT, reduceLeDiff, reduceToNat, reduceMul]; exact rfl) (by simp [go_sem, reduceIte, reduceCtorEq, reduceEqDiff, reduceAdd, reduceLT, reduceLeDiff, reduceToNat, reduceMul]) ?_
    refine CWops.done ?_
    refine CW.cond (by simp only [go_sem, reduceIte, reduceCtorEq, reduceEqDiff, reduceAdd, reduceLT, reduceLeDiff, reduceToNat, reduceMul]; first | done | exact rfl) (fun ct23 => ?_) (fun ct23 => ?_)
    · refine CW.seq ?_
      refine CW.region (by kernel_rfl) (by kernel_rfl) ?_ -- r5
      refine CWops.run htt 4 (by simp only [go_sem, reduceIte, reduceCtorEq, reduceEqDiff, reduceAdd, reduceLT, reduceLeDiff, reduceToNat, reduceMul]; exact rfl) (by simp [go_sem, reduceIte, reduceCtorEq, reduceEqDiff, reduceAdd, reduceLT, reduceLeDiff, reduceToNat, reduceMul]) ?_
      refine CWops.done ?_
      refine CW.ret ?_
      refine retQ.ret (by simp only [f13, go_sem, reduceIte, reduceCtorEq, reduceEqDiff, reduceAdd, reduceLT, reduceLeDiff, reduceToNat, reduceMul]; exact rfl) (by simp only [go_sem, reduceIte, reduceCtorEq, reduceEqDiff, reduceAdd, reduceLT, reduceLeDiff, reduceToNat, reduceMul]; exact rfl) ?_ -- ret1
      refine ⟨_, ?_, rfl⟩
      have : gGrade g x = (⟨[], [], []⟩, (gDo g.S x).1) := by unfold gGrade; rw [if_neg (by rw [hm]; decide), if_neg h0]
      simp [leP, leL, this, eGraph]
    · exfalso; revert ct23; simp [h0]
theorem grade_Graph_ok (up : Bool) (g : Graph) (x : GStep) (hm : gMay g = true) (h0 : (gDo g.S x).1 = 0) : PCall prog up 13 [.agg (eGraph g), .agg (eStep x)] (· = .tup [.agg (eGraph (gGrade g x).1), .int .i64 (gGrade g x).2]) := by
  refine PCall.intro htt func13 (by kernel_rfl) rfl (Nat.le_of_ble_eq_true rfl) fun hl => ?_
  have hM := (may_iff g).1 hm
  have hsm := hM.small
  have hs4 := hsm.1
  have hs5 := hsm.2.1
  have hr3 := hM.r
  have ho8 := hM.o
  have h1 : g.S.length * 40 ≤ MX := by unfold MX; omega
  have h2 : ∀ y ∈ g.S, y.F.length * 40 ≤ MX := fun y hy => by have := hs5 y hy; unfold MX; omega
  have hdrop := grade_drop hm h0
  have hG : gGrade g x = (⟨(gDo g.S x).2.1, g.O.map (gradeO x (gDo g.S x).2.2.1 (gDo g.S x).2.2.2), g.Roots⟩, 0) := by unfold gGrade; rw [if_neg (by rw [hm]; decide), if_pos h0]
  rw [hG]
  have hdo := doG_ok up g.S x h1 h2 h0
  revert hdrop hdo
  generalize (gDo g.S x).2.1 = S2
  generalize (gDo g.S x).2.2.1 = t
  generalize (gDo g.S x).2.2.2 = at_
  intro hdrop hdo
  simp only [tmps0, Nat.reduceAdd]
  refine CW.seq ?_
  refine CW.region (by kernel_rfl) (by kernel_rfl) ?_ -- r0
  refine CWops.run htt 4 (by simp only [go_sem, reduceIte, reduceCtorEq, reduceEqDiff, reduceAdd, reduceLT, reduceLeDiff, reduceToNat, reduceMul, eGraph, eStep]; exact rfl) (by simp [go_sem, reduceIte, reduceCtorEq, reduceEqDiff, reduceAdd, reduceLT, reduceLeDiff, reduceToNat, reduceMul, eGraph, eStep]) ?_
  refine CWops.done ?_
  refine CW.seq ?_
  refine CW.seq ?_
  refine CW.region (by kernel_rfl) (by kernel_rfl) ?_ -- r1
  refine CWops.run htt 1 (by simp only [go_sem, reduceIte, reduceCtorEq, reduceEqDiff, reduceAdd, reduceLT, reduceLeDiff, reduceToNat, reduceMul, eGraph]; exact rfl) (by simp [go_sem, reduceIte, reduceCtorEq, reduceEqDiff, reduceAdd, reduceLT, reduceLeDiff, reduceToNat, reduceMul, eGraph]) ?_
  refine CWops.call (graph_May up g) (by simp only [go_sem, reduceIte, reduceCtorEq, reduceEqDiff, reduceAdd, reduceLT, reduceLeDiff, reduceToNat, reduceMul, eGraph]) (by simp only [go_sem, reduceIte, reduceCtorEq, reduceEqDiff, reduceAdd, reduceLT, reduceLeDiff, reduceToNat, reduceMul, eGraph]; first | done | exact rfl) (by simp only [go_sem, reduceIte, reduceCtorEq, reduceEqDiff, reduceAdd, reduceLT, reduceLeDiff, reduceToNat, reduceMul, eGraph]) (fun rt12 hrt12 => ?_)
  subst hrt12; refine ⟨rfl, ?_⟩
  refine CWops.run htt 1 (by simp only [go_sem, reduceIte, reduceCtorEq, reduceEqDiff, reduceAdd, reduceLT, reduceLeDiff, reduceToNat, reduceMul, eGraph]; exact rfl) (by simp [go_sem, reduceIte, reduceCtorEq, reduceEqDiff, reduceAdd, reduceLT, reduceLeDiff, reduceToNat, reduceMul, eGraph]) ?_
  refine CWops.done ?_
  refine CW.cond (by simp only [go_sem, reduceIte, reduceCtorEq, reduceEqDiff, reduceAdd, reduceLT, reduceLeDiff, reduceToNat, reduceMul]; first | done | exact rfl) (fun ct13 => ?_) (fun ct13 => ?_)
  · rw [hm] at ct13; cases ct13 
  · refine CW.skip ?_
    refine CW.seq ?_
    refine CW.region (by kernel_rfl) (by kernel_rfl) ?_ -- r3
    refine CWops.run htt 3 (by simp only [go_sem, reduceIte, reduceCtorEq, reduceEqDiff, reduceAdd, reduceLT, reduceLeDiff, reduceToNat, reduceMul, eGraph, eStep]; exact rfl) (by simp [go_sem, reduceIte, reduceCtorEq, reduceEqDiff, reduceAdd, reduceLT, reduceLeDiff, reduceToNat, reduceMul, eGraph, eStep]) ?_
    refine CWops.callG [] rfl (hdo) (by simp only [go_sem, reduceIte, reduceCtorEq, reduceEqDiff, reduceAdd, reduceLT, reduceLeDiff, reduceToNat, reduceMul]) (by simp only [go_sem, reduceIte, reduceCtorEq, reduceEqDiff, reduceAdd, reduceLT, reduceLeDiff, reduceToNat, reduceMul]; first | done | exact rfl) (by decide) (by simp [go_sem, reduceIte, reduceCtorEq, reduceEqDiff, reduceAdd, reduceLT, reduceLeDiff, reduceToNat, reduceMul, mName, memB]) (by simp [go_sem, reduceIte, reduceCtorEq, reduceEqDiff, reduceAdd, reduceLT, reduceLeDiff, reduceToNat, reduceMul, mName]) (by simp [go_sem, reduceIte, reduceCtorEq, reduceEqDiff, reduceAdd, reduceLT, reduceLeDiff, reduceToNat, reduceMul]) (by simp [go_sem, reduceIte, reduceCtorEq, reduceEqDiff, reduceAdd, reduceLT, reduceLeDiff, reduceToNat, reduceMul]) (by simp [go_sem, reduceIte, reduceCtorEq, reduceEqDiff, reduceAdd, reduceLT, reduceLeDiff, reduceToNat, reduceMul, mName, eSchema, eStep]) (fun r σ' hσ => ?_)
    obtain ⟨σn, σt, σs⟩ := σ'
    simp only at hσ
    obtain ⟨rfl, rfl, rfl⟩ := hσ
    simp only [aftS, renS, delAll, memB, mName, List.getD_nil, killH, kref, ren, Nat.beq_eq, go_sem, reduceIte, reduceCtorEq, reduceEqDiff, reduceAdd, reduceLT, reduceLeDiff, reduceToNat, reduceMul, eWork]
    refine CWops.run htt 5 (by simp only [go_sem, reduceIte, reduceCtorEq, reduceEqDiff, reduceAdd, reduceLT, reduceLeDiff, reduceToNat, reduceMul, eGraph, eStep]; exact rfl) (by simp [go_sem, reduceIte, reduceCtorEq, reduceEqDiff, reduceAdd, reduceLT, reduceLeDiff, reduceToNat, reduceMul, eGraph, eStep]) ?_
    refine CWops.done ?_
    refine CW.seq ?_
    refine CW.seq ?_
    refine CW.region (by kernel_rfl) (by kernel_rfl) ?_ -- r4
    refine CWops.run htt 2 (by simp only [go_sem, reduceIte, reduceCtorEq, reduceEqDiff, reduceAdd, reduceLT, reduceLeDiff, reduceToNat, reduceMul]; exact rfl) (by simp [go_sem, reduceIte, reduceCtorEq, reduceEqDiff, reduceAdd, reduceLT, reduceLeDiff, reduceToNat, reduceMul]) ?_
    refine CWops.done ?_
    refine CW.cond (by simp only [go_sem, reduceIte, reduceCtorEq, reduceEqDiff, reduceAdd, reduceLT, reduceLeDiff, reduceToNat, reduceMul]; first | done | exact rfl) (fun ct23 => ?_) (fun ct23 => ?_)
    · simp at ct23 
    · refine CW.skip ?_
      refine CW.seq ?_
      refine CW.drawn mixed 9 (by decide) (by kernel_rfl) (by kernel_rfl) (by kernel_rfl) ?_ -- r6
      refine Seg.run htt 6 (by simp only [go_sem, reduceIte, reduceCtorEq, reduceEqDiff, reduceAdd, reduceLT, reduceLeDiff, reduceToNat, reduceMul, eGraph, eWork]; exact rfl) ?_
      refine Seg.callA (clone_Int up g.Roots (by unfold MX; omega)) (by simp only [go_sem, reduceIte, reduceCtorEq, reduceEqDiff, reduceAdd, reduceLT, reduceLeDiff, reduceToNat, reduceMul, eGraph, eWork]) (by simp only [go_sem, reduceIte, reduceCtorEq, reduceEqDiff, reduceAdd, reduceLT, reduceLeDiff, reduceToNat, reduceMul, eGraph, eWork]; first | done | exact rfl) (by simp only [go_sem, reduceIte, reduceCtorEq, reduceEqDiff, reduceAdd, reduceLT, reduceLeDiff, reduceToNat, reduceMul, eGraph, eWork]) (by simp only [go_sem, reduceIte, reduceCtorEq, reduceEqDiff, reduceAdd, reduceLT, reduceLeDiff, reduceToNat, reduceMul, eGraph, eWork]) ?_
      refine Seg.run htt 2 (by simp only [go_sem, reduceIte, reduceCtorEq, reduceEqDiff, reduceAdd, reduceLT, reduceLeDiff, reduceToNat, reduceMul, eGraph, eWork]; exact rfl) ?_
      refine Seg.done ?_
      refine CWops.run htt 1 (by simp only [go_sem, reduceIte, reduceCtorEq, reduceEqDiff, reduceAdd, reduceLT, reduceLeDiff, reduceToNat, reduceMul, eGraph, eWork]; exact rfl) (by simp [go_sem, reduceIte, reduceCtorEq, reduceEqDiff, reduceAdd, reduceLT, reduceLeDiff, reduceToNat, reduceMul, eGraph, eWork]) ?_
      refine CWops.done ?_
      refine CW.seq ?_
      refine CW.seq ?_
      refine CW.region (by kernel_rfl) (by kernel_rfl) ?_ -- r7
      refine CWops.run htt 4 (by simp only [go_sem, reduceIte, reduceCtorEq, reduceEqDiff, reduceAdd, reduceLT, reduceLeDiff, reduceToNat, reduceMul, eGraph]; exact rfl) (by simp [go_sem, reduceIte, reduceCtorEq, reduceEqDiff, reduceAdd, reduceLT, reduceLeDiff, reduceToNat, reduceMul, eGraph]) ?_
      refine CWops.done ?_
      refine CW.block ?_
      refine CW.loop (S := Nat) (fun i => ⟨6, [(2, .lv 0 [] 0), (3, .lv 1 [] 0), (4, .lv 2 [] 0), (6, .lv 4 [] 0), (8, .lv 5 [] 0), (35, .sl 3 (g.O.map eObj)), (36, .int .i64 g.O.length), (37, .int .i64 i)], [(0, ⟨true, eGraph g⟩), (1, ⟨true, eStep x⟩), (2, ⟨true, [.nilsl, .nilsl, .nilsl]⟩), (4, ⟨true, [.undef, .int .i64 x.Do, .str x.Ty, .str x.F.Name, .int .i64 x.F.Kind, .str x.F.To, .int .i64 (t : Int), .int .i64 at_]⟩), (5, ⟨true, [.own 2 (List.map eTypeO S2), .own 3 (List.map eObj (List.map (gradeO x t at_) (g.O.take i))), .sl 1 (g.Roots.map eI)]⟩)]⟩) (fun i => i ≤ g.O.length) (fun i => g.O.length - i) (0) ?_ (Nat.zero_le _) (fun i h3 => ?_)
      · refine Sh.trans (Sh.nilCell 5 [] 1 3 (by simp [go_sem, reduceIte, reduceCtorEq, reduceEqDiff, reduceAdd, reduceLT, reduceLeDiff, reduceToNat, reduceMul]) rfl) (Sh.wk0 ?_); simp [Wk, go_sem, reduceIte, reduceCtorEq, reduceEqDiff, reduceAdd, reduceLT, reduceLeDiff, reduceToNat, reduceMul, eGraph, eStep, eWork]
      refine CW.seq ?_
      refine CW.region (by kernel_rfl) (by kernel_rfl) ?_ -- r8
      refine CWops.run htt 1 (by simp only [go_sem, reduceIte, reduceCtorEq, reduceEqDiff, reduceAdd, reduceLT, reduceLeDiff, reduceToNat, reduceMul]; exact rfl) (by simp [go_sem, reduceIte, reduceCtorEq, reduceEqDiff, reduceAdd, reduceLT, reduceLeDiff, reduceToNat, reduceMul]) ?_
      refine CWops.done ?_
      refine CW.seq ?_
      refine CW.cond (by simp only [go_sem, reduceIte, reduceCtorEq, reduceEqDiff, reduceAdd, reduceLT, reduceLeDiff, reduceToNat, reduceMul]; first | done | exact rfl) (fun ct38 => ?_) (fun ct38 => ?_)
      · have hi : i < g.O.length := by simpa using ct38
        obtain ⟨o, ho⟩ : ∃ x, g.O[i]? = some x := ⟨g.O[i], List.getElem?_eq_getElem hi⟩
        have ho5 := hsm.2.2 o (List.mem_of_getElem? ho)
        refine CW.skip ?_
        refine CW.seq ?_
        refine CW.block ?_
        refine CW.seq ?_
        refine CW.region (by kernel_rfl) (by kernel_rfl) ?_ -- r9
        refine CWops.run htt 4 (by simp only [go_sem, reduceIte, reduceCtorEq, reduceEqDiff, reduceAdd, reduceLT, reduceLeDiff, reduceToNat, reduceMul, hi, ho, eObj]; exact rfl) (by simp [go_sem, reduceIte, reduceCtorEq, reduceEqDiff, reduceAdd, reduceLT, reduceLeDiff, reduceToNat, reduceMul, hi, ho, eObj]) ?_
        refine CWops.done ?_
        refine CW.seq ?_
        refine CW.region (by kernel_rfl) (by kernel_rfl) ?_ -- r10
        refine CWops.run htt 2 (by simp only [go_sem, reduceIte, reduceCtorEq, reduceEqDiff, reduceAdd, reduceLT, reduceLeDiff, reduceToNat, reduceMul]; exact rfl) (by simp [go_sem, reduceIte, reduceCtorEq, reduceEqDiff, reduceAdd, reduceLT, reduceLeDiff, reduceToNat, reduceMul]) ?_
        refine CWops.callG [] rfl (clone_ValG up o.F (by unfold MX; omega)) (by simp only [go_sem, reduceIte, reduceCtorEq, reduceEqDiff, reduceAdd, reduceLT, reduceLeDiff, reduceToNat, reduceMul]) (by simp only [go_sem, reduceIte, reduceCtorEq, reduceEqDiff, reduceAdd, reduceLT, reduceLeDiff, reduceToNat, reduceMul]; first | done | exact rfl) (by decide) (by simp [go_sem, reduceIte, reduceCtorEq, reduceEqDiff, reduceAdd, reduceLT, reduceLeDiff, reduceToNat, reduceMul, mName, memB]) (by simp [go_sem, reduceIte, reduceCtorEq, reduceEqDiff, reduceAdd, reduceLT, reduceLeDiff, reduceToNat, reduceMul, mName]) (by simp [go_sem, reduceIte, reduceCtorEq, reduceEqDiff, reduceAdd, reduceLT, reduceLeDiff, reduceToNat, reduceMul]) (by simp [go_sem, reduceIte, reduceCtorEq, reduceEqDiff, reduceAdd, reduceLT, reduceLeDiff, reduceToNat, reduceMul]) (by simp [go_sem, reduceIte, reduceCtorEq, reduceEqDiff, reduceAdd, reduceLT, reduceLeDiff, reduceToNat, reduceMul, mName, eObj]) (fun r σ' hσ => ?_)
        obtain ⟨σn, σt, σs⟩ := σ'
        simp only at hσ
        obtain ⟨rfl, rfl, rfl⟩ := hσ
        simp only [aftS, renS, delAll, memB, mName, List.getD_nil, killH, kref, ren, Nat.beq_eq, go_sem, reduceIte, reduceCtorEq, reduceEqDiff, reduceAdd, reduceLT, reduceLeDiff, reduceToNat, reduceMul]
        refine CWops.run htt 2 (by simp only [go_sem, reduceIte, reduceCtorEq, reduceEqDiff, reduceAdd, reduceLT, reduceLeDiff, reduceToNat, reduceMul]; exact rfl) (by simp [go_sem, reduceIte, reduceCtorEq, reduceEqDiff, reduceAdd, reduceLT, reduceLeDiff, reduceToNat, reduceMul]) ?_
        refine CWops.done ?_
        refine CW.seq ?_
        refine CW.block ?_
        refine CW.seq ?_
        refine CW.drawn mixed 6 (by decide) (by kernel_rfl) (by kernel_rfl) (by kernel_rfl) ?_ -- r11
        refine Seg.run htt 6 (by simp only [go_sem, reduceIte, reduceCtorEq, reduceEqDiff, reduceAdd, reduceLT, reduceLeDiff, reduceToNat, reduceMul, eStep]; exact rfl) ?_
        refine Seg.done ?_
        refine CWops.run htt 2 (by simp only [go_sem, reduceIte, reduceCtorEq, reduceEqDiff, reduceAdd, reduceLT, reduceLeDiff, reduceToNat, reduceMul, eStep]; exact rfl) (by simp [go_sem, reduceIte, reduceCtorEq, reduceEqDiff, reduceAdd, reduceLT, reduceLeDiff, reduceToNat, reduceMul, eStep]) ?_
        refine CWops.done ?_
        refine CW.cond (by simp only [go_sem, reduceIte, reduceCtorEq, reduceEqDiff, reduceAdd, reduceLT, reduceLeDiff, reduceToNat, reduceMul]; first | done | exact rfl) (fun ct45 => ?_) (fun ct45 => ?_)
        · have hT : ¬ o.T = t := by simpa using ct45
          refine CW.skip ?_
          refine CW.sh (Sh.frz 6 2 rfl rfl) ?_
          simp only [go_sem, reduceIte, reduceCtorEq, reduceEqDiff, reduceAdd, reduceLT, reduceLeDiff, reduceToNat, reduceMul]
          refine CW.region (by kernel_rfl) (by kernel_rfl) ?_ -- r16
          refine CWops.run htt 7 (by simp only [go_sem, reduceIte, reduceCtorEq, reduceEqDiff, reduceAdd, reduceLT, reduceLeDiff, reduceToNat, reduceMul, List.replicate]; exact rfl) (by simp [AV.cell, AV.tree, MX] <;> omega) ?_
          refine CWops.done ?_
          refine CW.region (by kernel_rfl) (by kernel_rfl) ?_ -- r17
          refine CWops.run htt 2 (by simp only [go_sem, reduceIte, reduceCtorEq, reduceEqDiff, reduceAdd, reduceLT, reduceLeDiff, reduceToNat, reduceMul, wrap_succ (show i < MX by unfold MX; omega)]; exact rfl) (by simp [go_sem, reduceIte, reduceCtorEq, reduceEqDiff, reduceAdd, reduceLT, reduceLeDiff, reduceToNat, reduceMul, wrap_succ (show i < MX by unfold MX; omega)]) ?_
          refine CWops.done ?_
          refine ⟨i + 1, ?_, ?_, ?_⟩
          · refine Sh.wk0 ?_
            dsimp only
            first | (simp [Wk, go_sem, reduceIte, reduceCtorEq, reduceEqDiff, reduceAdd, reduceLT, reduceLeDiff, reduceToNat, reduceMul, List.take_add_one, ho, gradeO, hT, eObj, eGraph, eStep]; done) | (simp [Wk, go_sem, reduceIte, reduceCtorEq, reduceEqDiff, reduceAdd, reduceLT, reduceLeDiff, reduceToNat, reduceMul, List.take_add_one, ho, gradeO, hT, gradeF, hd0, eObj, eGraph, eStep]; done) | (simp [Wk, go_sem, reduceIte, reduceCtorEq, reduceEqDiff, reduceAdd, reduceLT, reduceLeDiff, reduceToNat, reduceMul, List.take_add_one, ho, gradeO, hT, gradeF, hd1, hqa, eObj, eGraph, eStep]; done) | (simp [Wk, go_sem, reduceIte, reduceCtorEq, reduceEqDiff, reduceAdd, reduceLT, reduceLeDiff, reduceToNat, reduceMul, List.take_add_one, ho, gradeO, hT, gradeF, hd0, hd1, eObj, eGraph, eStep]; done)
          · exact hi
          · simp only; omega
        · have hT : o.T = t := by simpa using ct45
          refine CW.seq ?_
          refine CW.region (by kernel_rfl) (by kernel_rfl) ?_ -- r12
          refine CWops.run htt 4 (by simp only [go_sem, reduceIte, reduceCtorEq, reduceEqDiff, reduceAdd, reduceLT, reduceLeDiff, reduceToNat, reduceMul, eStep]; exact rfl) (by simp [go_sem, reduceIte, reduceCtorEq, reduceEqDiff, reduceAdd, reduceLT, reduceLeDiff, reduceToNat, reduceMul, eStep]) ?_
          refine CWops.done ?_
          refine CW.cond (by simp only [go_sem, reduceIte, reduceCtorEq, reduceEqDiff, reduceAdd, reduceLT, reduceLeDiff, reduceToNat, reduceMul]; first | done | exact rfl) (fun ct53 => ?_) (fun ct53 => ?_)
          · have hd0 : x.Do = 0 := by simpa using ct53
            refine CW.drawn mixed 6 (by decide) (by kernel_rfl) (by kernel_rfl) (by kernel_rfl) ?_ -- r13
            refine Seg.run htt 4 (by simp only [go_sem, reduceIte, reduceCtorEq, reduceEqDiff, reduceAdd, reduceLT, reduceLeDiff, reduceToNat, reduceMul, eStep, eField, List.replicate]; exact rfl) ?_
            refine Seg.callA (value_Zero up x.F) (by simp only [go_sem, reduceIte, reduceCtorEq, reduceEqDiff, reduceAdd, reduceLT, reduceLeDiff, reduceToNat, reduceMul, eStep, eField, List.replicate]) (by simp only [go_sem, reduceIte, reduceCtorEq, reduceEqDiff, reduceAdd, reduceLT, reduceLeDiff, reduceToNat, reduceMul, eStep, eField, List.replicate]; first | done | exact rfl) (by simp only [go_sem, reduceIte, reduceCtorEq, reduceEqDiff, reduceAdd, reduceLT, reduceLeDiff, reduceToNat, reduceMul, eStep, eField, List.replicate]) (by simp only [go_sem, reduceIte, reduceCtorEq, reduceEqDiff, reduceAdd, reduceLT, reduceLeDiff, reduceToNat, reduceMul, eStep, eField, List.replicate]) ?_
            refine Seg.run htt 1 (by simp only [go_sem, reduceIte, reduceCtorEq, reduceEqDiff, reduceAdd, reduceLT, reduceLeDiff, reduceToNat, reduceMul, eStep, eField, List.replicate]; exact rfl) ?_
            refine Seg.done ?_
            refine CWops.run htt 3 (by simp only [go_sem, reduceIte, reduceCtorEq, reduceEqDiff, reduceAdd, reduceLT, reduceLeDiff, reduceToNat, reduceMul, eStep, eField, List.replicate]; exact rfl) (by unfold zeroV; split <;> simp [AV.cell, AV.tree, eVal, MX] <;> omega) ?_
            refine CWops.done ?_
            rw [show (List.map eVal o.F ++ [eVal (zeroV x.F)]) = List.map eVal (o.F ++ [zeroV x.F]) by simp]
            refine CW.sh (Sh.frz 6 2 rfl rfl) ?_
            simp only [go_sem, reduceIte, reduceCtorEq, reduceEqDiff, reduceAdd, reduceLT, reduceLeDiff, reduceToNat, reduceMul]
            refine CW.region (by kernel_rfl) (by kernel_rfl) ?_ -- r16
            refine CWops.run htt 7 (by simp only [go_sem, reduceIte, reduceCtorEq, reduceEqDiff, reduceAdd, reduceLT, reduceLeDiff, reduceToNat, reduceMul, List.replicate]; exact rfl) (by simp [AV.cell, AV.tree, MX] <;> omega) ?_
            refine CWops.done ?_
            refine CW.region (by kernel_rfl) (by kernel_rfl) ?_ -- r17
            refine CWops.run htt 2 (by simp only [go_sem, reduceIte, reduceCtorEq, reduceEqDiff, reduceAdd, reduceLT, reduceLeDiff, reduceToNat, reduceMul, wrap_succ (show i < MX by unfold MX; omega)]; exact rfl) (by simp [go_sem, reduceIte, reduceCtorEq, reduceEqDiff, reduceAdd, reduceLT, reduceLeDiff, reduceToNat, reduceMul, wrap_succ (show i < MX by unfold MX; omega)]) ?_
            refine CWops.done ?_
            refine ⟨i + 1, ?_, ?_, ?_⟩
            · refine Sh.wk0 ?_
              dsimp only
              first | (simp [Wk, go_sem, reduceIte, reduceCtorEq, reduceEqDiff, reduceAdd, reduceLT, reduceLeDiff, reduceToNat, reduceMul, List.take_add_one, ho, gradeO, hT, eObj, eGraph, eStep]; done) | (simp [Wk, go_sem, reduceIte, reduceCtorEq, reduceEqDiff, reduceAdd, reduceLT, reduceLeDiff, reduceToNat, reduceMul, List.take_add_one, ho, gradeO, hT, gradeF, hd0, eObj, eGraph, eStep]; done) | (simp [Wk, go_sem, reduceIte, reduceCtorEq, reduceEqDiff, reduceAdd, reduceLT, reduceLeDiff, reduceToNat, reduceMul, List.take_add_one, ho, gradeO, hT, gradeF, hd1, hqa, eObj, eGraph, eStep]; done) | (simp [Wk, go_sem, reduceIte, reduceCtorEq, reduceEqDiff, reduceAdd, reduceLT, reduceLeDiff, reduceToNat, reduceMul, List.take_add_one, ho, gradeO, hT, gradeF, hd0, hd1, eObj, eGraph, eStep]; done)
            · exact hi
            · simp only; omega
          · have hd0 : ¬ x.Do = 0 := by simpa using ct53
            refine CW.seq ?_
            refine CW.region (by kernel_rfl) (by kernel_rfl) ?_ -- r14
            refine CWops.run htt 4 (by simp only [go_sem, reduceIte, reduceCtorEq, reduceEqDiff, reduceAdd, reduceLT, reduceLeDiff, reduceToNat, reduceMul, eStep]; exact rfl) (by simp [go_sem, reduceIte, reduceCtorEq, reduceEqDiff, reduceAdd, reduceLT, reduceLeDiff, reduceToNat, reduceMul, eStep]) ?_
            refine CWops.done ?_
            refine CW.cond (by simp only [go_sem, reduceIte, reduceCtorEq, reduceEqDiff, reduceAdd, reduceLT, reduceLeDiff, reduceToNat, reduceMul]; first | done | exact rfl) (fun ct65 => ?_) (fun ct65 => ?_)
            · have hd1 : x.Do = 1 := by simpa using ct65
              obtain ⟨q, hqa, hqo⟩ := hdrop hd1 o (List.mem_of_getElem? ho) hT
              subst hqa
              have hqa := (rfl : (q : Int) = q)
              have hw1 : IntKind.i64.wrap ((q : Int) + 1) = (q : Int) + 1 := by have := @wrap_succ q (by unfold MX; omega); rw [this]; omega
              refine CW.drawn mixed 11 (by decide) (by kernel_rfl) (by kernel_rfl) (by kernel_rfl) ?_ -- r15
              refine Seg.run htt 11 (by simp only [go_sem, reduceIte, reduceCtorEq, reduceEqDiff, reduceAdd, reduceLT, reduceLeDiff, reduceToNat, reduceMul, eStep, hw1]; exact rfl) ?_
              refine Seg.done ?_
              refine CWops.sh (Sh.outP 70 6 [] 2 (n := 3) (rows := o.F.map eVal) (by simp only [go_sem, reduceIte, reduceCtorEq, reduceEqDiff, reduceAdd, reduceLT, reduceLeDiff, reduceToNat, reduceMul]) (by simp only [go_sem, reduceIte, reduceCtorEq, reduceEqDiff, reduceAdd, reduceLT, reduceLeDiff, reduceToNat, reduceMul]) rfl) ?_
              simp only [go_sem, reduceIte, reduceCtorEq, reduceEqDiff, reduceAdd, reduceLT, reduceLeDiff, reduceToNat, reduceMul]
              refine CWops.callG [8] rfl (delete_Val up o.F q hqo) (by simp only [go_sem, reduceIte, reduceCtorEq, reduceEqDiff, reduceAdd, reduceLT, reduceLeDiff, reduceToNat, reduceMul]) (by simp only [go_sem, reduceIte, reduceCtorEq, reduceEqDiff, reduceAdd, reduceLT, reduceLeDiff, reduceToNat, reduceMul]; first | done | exact rfl) (by decide) (by simp [go_sem, reduceIte, reduceCtorEq, reduceEqDiff, reduceAdd, reduceLT, reduceLeDiff, reduceToNat, reduceMul, mName, memB]) (by simp [go_sem, reduceIte, reduceCtorEq, reduceEqDiff, reduceAdd, reduceLT, reduceLeDiff, reduceToNat, reduceMul, mName]) (by simp [go_sem, reduceIte, reduceCtorEq, reduceEqDiff, reduceAdd, reduceLT, reduceLeDiff, reduceToNat, reduceMul]) (by simp [go_sem, reduceIte, reduceCtorEq, reduceEqDiff, reduceAdd, reduceLT, reduceLeDiff, reduceToNat, reduceMul]) (by simp [go_sem, reduceIte, reduceCtorEq, reduceEqDiff, reduceAdd, reduceLT, reduceLeDiff, reduceToNat, reduceMul, mName]) (fun r σ' hσ => ?_)
              obtain ⟨σn, σt, σs⟩ := σ'
              simp only at hσ
              obtain ⟨rfl, rfl, rfl⟩ := hσ
              simp only [aftS, renS, delAll, memB, mName, List.getD_nil, killH, kref, ren, Nat.beq_eq, go_sem, reduceIte, reduceCtorEq, reduceEqDiff, reduceAdd, reduceLT, reduceLeDiff, reduceToNat, reduceMul]
              refine CWops.run htt 2 (by simp only [go_sem, reduceIte, reduceCtorEq, reduceEqDiff, reduceAdd, reduceLT, reduceLeDiff, reduceToNat, reduceMul, eStep, hw1]; exact rfl) (by simp [go_sem, reduceIte, reduceCtorEq, reduceEqDiff, reduceAdd, reduceLT, reduceLeDiff, reduceToNat, reduceMul, eStep, hw1]) ?_
              refine CWops.done ?_
              refine CW.sh (Sh.frz 6 2 rfl rfl) ?_
              simp only [go_sem, reduceIte, reduceCtorEq, reduceEqDiff, reduceAdd, reduceLT, reduceLeDiff, reduceToNat, reduceMul]
              refine CW.region (by kernel_rfl) (by kernel_rfl) ?_ -- r16
              refine CWops.run htt 7 (by simp only [go_sem, reduceIte, reduceCtorEq, reduceEqDiff, reduceAdd, reduceLT, reduceLeDiff, reduceToNat, reduceMul, List.replicate]; exact rfl) (by simp [AV.cell, AV.tree, MX] <;> omega) ?_
              refine CWops.done ?_
              refine CW.region (by kernel_rfl) (by kernel_rfl) ?_ -- r17
              refine CWops.run htt 2 (by simp only [go_sem, reduceIte, reduceCtorEq, reduceEqDiff, reduceAdd, reduceLT, reduceLeDiff, reduceToNat, reduceMul, wrap_succ (show i < MX by unfold MX; omega)]; exact rfl) (by simp [go_sem, reduceIte, reduceCtorEq, reduceEqDiff, reduceAdd, reduceLT, reduceLeDiff, reduceToNat, reduceMul, wrap_succ (show i < MX by unfold MX; omega)]) ?_
              refine CWops.done ?_
              refine ⟨i + 1, ?_, ?_, ?_⟩
              · refine Sh.wk0 ?_
                dsimp only
                first | (simp [Wk, go_sem, reduceIte, reduceCtorEq, reduceEqDiff, reduceAdd, reduceLT, reduceLeDiff, reduceToNat, reduceMul, List.take_add_one, ho, gradeO, hT, eObj, eGraph, eStep]; done) | (simp [Wk, go_sem, reduceIte, reduceCtorEq, reduceEqDiff, reduceAdd, reduceLT, reduceLeDiff, reduceToNat, reduceMul, List.take_add_one, ho, gradeO, hT, gradeF, hd0, eObj, eGraph, eStep]; done) | (simp [Wk, go_sem, reduceIte, reduceCtorEq, reduceEqDiff, reduceAdd, reduceLT, reduceLeDiff, reduceToNat, reduceMul, List.take_add_one, ho, gradeO, hT, gradeF, hd1, hqa, eObj, eGraph, eStep]; done) | (simp [Wk, go_sem, reduceIte, reduceCtorEq, reduceEqDiff, reduceAdd, reduceLT, reduceLeDiff, reduceToNat, reduceMul, List.take_add_one, ho, gradeO, hT, gradeF, hd0, hd1, eObj, eGraph, eStep]; done)
              · exact hi
              · simp only; omega
            · have hd1 : ¬ x.Do = 1 := by simpa using ct65
              refine CW.skip ?_
              refine CW.sh (Sh.frz 6 2 rfl rfl) ?_
              simp only [go_sem, reduceIte, reduceCtorEq, reduceEqDiff, reduceAdd, reduceLT, reduceLeDiff, reduceToNat, reduceMul]
              refine CW.region (by kernel_rfl) (by kernel_rfl) ?_ -- r16
              refine CWops.run htt 7 (by simp only [go_sem, reduceIte, reduceCtorEq, reduceEqDiff, reduceAdd, reduceLT, reduceLeDiff, reduceToNat, reduceMul, List.replicate]; exact rfl) (by simp [AV.cell, AV.tree, MX] <;> omega) ?_
              refine CWops.done ?_
              refine CW.region (by kernel_rfl) (by kernel_rfl) ?_ -- r17
              refine CWops.run htt 2 (by simp only [go_sem, reduceIte, reduceCtorEq, reduceEqDiff, reduceAdd, reduceLT, reduceLeDiff, reduceToNat, reduceMul, wrap_succ (show i < MX by unfold MX; omega)]; exact rfl) (by simp [go_sem, reduceIte, reduceCtorEq, reduceEqDiff, reduceAdd, reduceLT, reduceLeDiff, reduceToNat, reduceMul, wrap_succ (show i < MX by unfold MX; omega)]) ?_
              refine CWops.done ?_
              refine ⟨i + 1, ?_, ?_, ?_⟩
              · refine Sh.wk0 ?_
                dsimp only
                first | (simp [Wk, go_sem, reduceIte, reduceCtorEq, reduceEqDiff, reduceAdd, reduceLT, reduceLeDiff, reduceToNat, reduceMul, List.take_add_one, ho, gradeO, hT, eObj, eGraph, eStep]; done) | (simp [Wk, go_sem, reduceIte, reduceCtorEq, reduceEqDiff, reduceAdd, reduceLT, reduceLeDiff, reduceToNat, reduceMul, List.take_add_one, ho, gradeO, hT, gradeF, hd0, eObj, eGraph, eStep]; done) | (simp [Wk, go_sem, reduceIte, reduceCtorEq, reduceEqDiff, reduceAdd, reduceLT, reduceLeDiff, reduceToNat, reduceMul, List.take_add_one, ho, gradeO, hT, gradeF, hd1, hqa, eObj, eGraph, eStep]; done) | (simp [Wk, go_sem, reduceIte, reduceCtorEq, reduceEqDiff, reduceAdd, reduceLT, reduceLeDiff, reduceToNat, reduceMul, List.take_add_one, ho, gradeO, hT, gradeF, hd0, hd1, eObj, eGraph, eStep]; done)
              · exact hi
              · simp only; omega
      · have hi : i = g.O.length := by simp at ct38; omega
        rw [hi, List.take_length]
        refine CW.exit ?_
        refine CW.seq ?_
        refine CW.region (by kernel_rfl) (by kernel_rfl) ?_ -- r18
        refine CWops.run htt 3 (by simp only [go_sem, reduceIte, reduceCtorEq, reduceEqDiff, reduceAdd, reduceLT, reduceLeDiff, reduceToNat, reduceMul]; exact rfl) (by simp [go_sem, reduceIte, reduceCtorEq, reduceEqDiff, reduceAdd, reduceLT, reduceLeDiff, reduceToNat, reduceMul]) ?_
        refine CWops.done ?_
        refine CW.ret ?_
        refine retQ.ret (by simp only [f13, go_sem, reduceIte, reduceCtorEq, reduceEqDiff, reduceAdd, reduceLT, reduceLeDiff, reduceToNat, reduceMul]; exact rfl) (by simp only [go_sem, reduceIte, reduceCtorEq, reduceEqDiff, reduceAdd, reduceLT, reduceLeDiff, reduceToNat, reduceMul]; exact rfl) ?_ -- ret1
        refine ⟨_, ?_, rfl⟩
        simp [leP, leL, eGraph]
end Go.Ab
namespace Go.Ab
open Go Go.Proofs.Try
open Nat (reduceEqDiff reduceAdd reduceLT reduceLeDiff reduceBEq reduceSub reduceMul)
open Int (reduceToNat)
set_option maxRecDepth 100000
set_option maxHeartbeats 3200000
set_option linter.unusedSimpArgs false
set_option linter.unusedVariables false
@[go_sem] theorem tt_49 : tiOf prog 49 = some ⟨.slice 32, 1, 24, [.nilsl], false⟩ := by kernel_rfl
@[go_sem] theorem tt_149 : tiOf prog 149 = some ⟨.slice 49, 1, 24, [.nilsl], false⟩ := by kernel_rfl
open Go.RowKit
theorem inf32 : (prog.info? 32).map (fun i => (i.zero, i.size, i.bytes)) = some (some (.agg #[.int .i64 0, .string ⟨#[]⟩, .string ⟨#[]⟩, .int .i64 0, .string ⟨#[]⟩]), 5, 64) := by kernel_rfl
theorem grow_none (w : World) : Calls prog 122 #[.slice none 0 0, .int .i64 0] w fun e w' => e = .returned (.slice none 0 0) ∧ w' = w := by
  go_enter func122, ntmps122
  go_wp2
  go_ret
  exact ⟨rfl, rfl⟩
theorem grow_some (n : Nat) (w : World) (hn : 0 < n) (hbig : n * 64 ≤ 140737488355328) :
    ∃ (cap : Nat) (vs : Array Value), vs.size = cap * 5 ∧ cap ≤ maxLen ∧ Calls prog 122 #[.slice none 0 0, .int .i64 n] w fun e w' => e = .returned (.slice (some ⟨w.heap.size, 0, none⟩) 0 cap) ∧ w' = w.drew.alloc (.cells vs 32) := by
  obtain ⟨i0, hi0, hz0, hz1, hz2⟩ := info_parts inf32
  have h1 : ¬ ((n : Int) < 0) := by omega
  have h4 : (n : Int) > 0 := by omega
  have hrz : ∀ ty, (Builtin.append_ #[49, 3] ty #[.slice none 0 0, .int .i64 (n : Int)]).run prog w =
      .ok (.slice (some ⟨w.heap.size, 0, none⟩) n (grownCap w n 0 32)) (w.drew.alloc (.cells (#[] ++ Builtin.zeroCells (Value.cells (.agg #[.int .i64 0, .string ⟨#[]⟩, .string ⟨#[]⟩, .int .i64 0, .string ⟨#[]⟩])) n ++ Builtin.zeroCells (Value.cells (.agg #[.int .i64 0, .string ⟨#[]⟩, .string ⟨#[]⟩, .int .i64 0, .string ⟨#[]⟩])) (grownCap w n 0 32 - n)) 32)) := fun ty => by
    have h := Lib.run_append_grow_zeros w 49 3 ty 32 i0 _ .i64 .i64 underlying49 underlying3 hi0 hz0 none 0 0 [] (run_firstCells_none w.drew i0.size 0 0 0) n hn (by rw [hz1]; decide) (by omega) (by omega) (by rw [hz2]; omega) (growslice_fits (by omega) (by rw [hz2]; omega))
    simpa only [Nat.zero_add] using h
  have hGn : n ≤ grownCap w n 0 32 := grownCap_ge w _ _ _
  have hG63 := grownCap_le_maxLen w n 0 32 (by unfold maxLen; omega)
  obtain ⟨G, hG⟩ : ∃ G, G = grownCap w n 0 32 := ⟨_, rfl⟩
  rw [← hG] at hrz hGn hG63
  obtain ⟨vs, hvs⟩ : ∃ vs, vs = (#[] ++ Builtin.zeroCells (Value.cells (.agg #[.int .i64 0, .string ⟨#[]⟩, .string ⟨#[]⟩, .int .i64 0, .string ⟨#[]⟩])) n ++ Builtin.zeroCells (Value.cells (.agg #[.int .i64 0, .string ⟨#[]⟩, .string ⟨#[]⟩, .int .i64 0, .string ⟨#[]⟩])) (G - n)) := ⟨_, rfl⟩
  have hsz : vs.size = G * 5 := by
    have h5 : (Value.cells (.agg #[.int .i64 0, .string ⟨#[]⟩, .string ⟨#[]⟩, .int .i64 0, .string ⟨#[]⟩])).size = 5 := by kernel_rfl
    rw [hvs]; simp [Builtin.zeroCells, h5]; omega
  rw [← hvs] at hrz
  clear hvs hG
  have hG9 : G ≤ 9223372036854775807 := by unfold maxLen at hG63; omega
  refine ⟨G, vs, hsz, hG63, ?_⟩
  go_enter func122, ntmps122
  go_wp2_with (at_builtin; refine Lib.wpList_append_run _ rfl _ _ _ _ rfl _ _ rfl rfl _ _ (hrz _) ?_)
  all_goals (go_ret; exact ⟨rfl, rfl⟩)
theorem grow_Step (up : Bool) (n : Nat) (hbig : n * 64 ≤ 140737488355328) : GCall prog up 122 [.nilsl, .int .i64 (n : Int)] 0 [] (fun r σ' => r = .ref 0 [] 0 ∧ σ'.n = 1 ∧ σ'.s = [(0, ⟨false, [.own 5 []]⟩)]) := by
  refine ⟨⟨_, func122, by kernel_rfl, rfl⟩, fun w A G vs hA hinv hvl hrel => ?_⟩
  have hH : Holds A (GFp G) w 0 { n := 0, t := [], s := [] } ⟨#[], []⟩ w G := ⟨hinv, rfl, rfl, fun i hi => by omega, fun i _ => rfl, ⟨rfl, rfl, rfl, Nat.le_refl _, fun _ _ _ => rfl⟩, fun b hb => .inl hb, hA⟩
  obtain ⟨v0, v1, rfl⟩ : ∃ v0 v1, vs = [v0, v1] := by
    match vs, hvl with
    | [a, b], _ => exact ⟨a, b, rfl⟩
  have e0 : v0 = .slice none 0 0 := (hrel 0 _ rfl).nilsl_inv
  have e1 : v1 = .int .i64 (n : Int) := (hrel 1 _ rfl).int_inv
  subst e0 e1
  have hsep : ∀ v : Value, Sep (.own 5 v []) := fun v => .own _ _ _ (fun i r jj g hr => by simp at hr) (fun i r jj g hr => by simp at hr) (fun i r jj g i' r' j' g' hr => by simp at hr)
  rcases Nat.eq_zero_or_pos n with h | h
  · subst h
    refine (grow_none w).mono fun e w' he => ?_
    obtain ⟨rfl, rfl⟩ := he
    obtain ⟨G', q1, q2⟩ := hH.newDet (.own 5 (.slice none 0 0) []) (w' := w') (fun _ _ => rfl) ⟨rfl, rfl, rfl, Nat.le_refl _⟩ rfl (hsep _) (fun k hk => by cases hk with | own _ _ _ i r jj g _ hr => simp at hr) (fun A _ => .onil 5)
    exact ⟨_, G', .ref 0 [] 0, ⟨rfl, rfl, by simp [GT.er]⟩, q1.inv, q2, q1.fr, q1.own, fun x g g' hx => absurd hx (Nat.not_lt_zero x), fun x hx => by cases hx⟩
  · obtain ⟨cap, vs, hs, hcap, hc⟩ := grow_some n w h hbig
    refine hc.mono fun e w' he => ?_
    obtain ⟨rfl, rfl⟩ := he
    have hheap : (w.drew.alloc (.cells vs 32)).heap[w.heap.size]? = some (.cells vs 32 (0, 0)) := Go.heap_alloc_new w.drew _
    obtain ⟨G', q1, q2⟩ := hH.newDet (.own 5 (.slice (some ⟨w.heap.size, 0, none⟩) ([] : List (List GT)).length cap) []) (w' := w.drew.alloc (.cells vs 32)) (fun b hb => Below.heap_alloc w.drew _ b hb) ⟨rfl, rfl, rfl, by show w.heap.size ≤ (w.heap.push _).size; simp⟩ rfl (hsep _) (fun k hk => by
        cases hk with
        | own0 => exact Nat.le_refl _
        | own _ _ _ i r jj g _ hr => simp at hr) (fun A _ => .own 5 _ cap vs _ [] hheap hs (Nat.zero_le _) hcap (Nat.zero_le _) (fun i r hr => by simp at hr) (fun i r jj g hr => by simp at hr) (fun i r jj g hr => by simp at hr))
    exact ⟨_, G', .ref 0 [] 0, ⟨rfl, rfl, by simp [GT.er]⟩, q1.inv, q2, q1.fr, q1.own, fun x g g' hx => absurd hx (Nat.not_lt_zero x), fun x hx => by cases hx⟩
end Go.Ab
