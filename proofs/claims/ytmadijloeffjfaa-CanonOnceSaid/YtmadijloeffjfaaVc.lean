/-
  What functions of the program answer: each by its contract. No condition but those of each theorem.
-/
import Derived.Test.YtmadijloeffjfaaProg
import Derived.WalkKit
import Derived.Below
import Derived.Scope
import Derived.Orders
import Derived.Test.YtmadijloeffjfaaFa
import Derived.Test.YtmadijloeffjfaaFb
import Derived.Test.YtmadijloeffjfaaFc
import Derived.Test.YtmadijloeffjfaaFd
import Derived.Test.YtmadijloeffjfaaFe
import Derived.Test.YtmadijloeffjfaaDa
import Derived.Test.YtmadijloeffjfaaVa
import Derived.Test.YtmadijloeffjfaaVb
set_option linter.unusedVariables false
set_option linter.unusedSimpArgs false
namespace Go.Ab
open Go Go.Proofs.Try
open Nat (reduceEqDiff reduceAdd reduceLT reduceLeDiff reduceBEq reduceSub reduceMul)
open Int (reduceToNat)
set_option maxRecDepth 100000
set_option linter.unusedSimpArgs false
set_option linter.unusedVariables false
theorem bits_Len64 (up : Bool) (n : Nat) (hn : n < 256) : PCall prog up 101 [.int .u64 n] (fun r => ∃ m : Int, r = .int .i64 m) := by
  refine PCall.intro htt func101 (by kernel_rfl) rfl (Nat.le_of_ble_eq_true rfl) fun hl => ?_
  have hwu : IntKind.u8.wrap (n : Int) = (n : Int) := by
    simp only [IntKind.wrap, IntKind.bits, IntKind.signed]
    simp
    omega
  have hMX : (256 ≤ MX) = True := eq_true (by decide)
  simp only [tmps0, Nat.reduceAdd]
  refine CW.seq ?_
  refine CW.region (by kernel_rfl) (by kernel_rfl) ?_ -- r0
  refine CWops.run htt 1 (by simp only [go_sem, reduceIte, reduceCtorEq, reduceEqDiff, reduceAdd, reduceLT, reduceLeDiff, reduceToNat]; exact rfl) (by simp [go_sem, reduceIte, reduceCtorEq, reduceEqDiff, reduceAdd, reduceLT, reduceLeDiff, reduceToNat]) ?_
  refine CWops.done ?_
  refine CW.seq ?_
  refine CW.seq ?_
  refine CW.region (by kernel_rfl) (by kernel_rfl) ?_ -- r1
  refine CWops.run htt 2 (by simp only [go_sem, reduceIte, reduceCtorEq, reduceEqDiff, reduceAdd, reduceLT, reduceLeDiff, reduceToNat]; exact rfl) (by simp [go_sem, reduceIte, reduceCtorEq, reduceEqDiff, reduceAdd, reduceLT, reduceLeDiff, reduceToNat]) ?_
  refine CWops.done ?_
  refine CW.cond (by simp only [go_sem, reduceIte, reduceCtorEq, reduceEqDiff, reduceAdd, reduceLT, reduceLeDiff, reduceToNat]; first | done | exact rfl) (fun ct4 => ?_) (fun ct4 => ?_)
  · exfalso; simp at ct4; omega 
  · refine CW.skip ?_
    refine CW.seq ?_
    refine CW.seq ?_
    refine CW.region (by kernel_rfl) (by kernel_rfl) ?_ -- r4
    refine CWops.run htt 2 (by simp only [go_sem, reduceIte, reduceCtorEq, reduceEqDiff, reduceAdd, reduceLT, reduceLeDiff, reduceToNat]; exact rfl) (by simp [go_sem, reduceIte, reduceCtorEq, reduceEqDiff, reduceAdd, reduceLT, reduceLeDiff, reduceToNat]) ?_
    refine CWops.done ?_
    refine CW.cond (by simp only [go_sem, reduceIte, reduceCtorEq, reduceEqDiff, reduceAdd, reduceLT, reduceLeDiff, reduceToNat]; first | done | exact rfl) (fun ct8 => ?_) (fun ct8 => ?_)
    · exfalso; simp at ct8; omega 
    · refine CW.skip ?_
      refine CW.seq ?_
      refine CW.seq ?_
      refine CW.region (by kernel_rfl) (by kernel_rfl) ?_ -- r7
      refine CWops.run htt 2 (by simp only [go_sem, reduceIte, reduceCtorEq, reduceEqDiff, reduceAdd, reduceLT, reduceLeDiff, reduceToNat]; exact rfl) (by simp [go_sem, reduceIte, reduceCtorEq, reduceEqDiff, reduceAdd, reduceLT, reduceLeDiff, reduceToNat]) ?_
      refine CWops.done ?_
      refine CW.cond (by simp only [go_sem, reduceIte, reduceCtorEq, reduceEqDiff, reduceAdd, reduceLT, reduceLeDiff, reduceToNat]; first | done | exact rfl) (fun ct14 => ?_) (fun ct14 => ?_)
      · exfalso; simp at ct14; omega 
      · refine CW.skip ?_
        refine CW.seq ?_
        refine CW.region (by kernel_rfl) (by kernel_rfl) ?_ -- r10
        refine CWops.run htt 2 (by simp only [go_sem, reduceIte, reduceCtorEq, reduceEqDiff, reduceAdd, reduceLT, reduceLeDiff, reduceToNat]; exact rfl) (by simp [go_sem, reduceIte, reduceCtorEq, reduceEqDiff, reduceAdd, reduceLT, reduceLeDiff, reduceToNat]) ?_
        refine CWops.conv (n := (n : Int)) (k := .u64) (k' := .u8) htt (by simp only [go_sem, reduceIte, reduceCtorEq, reduceEqDiff, reduceAdd, reduceLT, reduceLeDiff, reduceToNat]) tt_134 rfl tt_5 rfl (by simp only [go_sem, reduceIte, reduceCtorEq, reduceEqDiff, reduceAdd, reduceLT, reduceLeDiff, reduceToNat]) ?_
        rw [hwu]
        refine CWops.strAt (q := n) (k := .u8) htt (by simp only [go_sem, reduceIte, reduceCtorEq, reduceEqDiff, reduceAdd, reduceLT, reduceLeDiff, reduceToNat]) tt_9 rfl (by simp only [go_sem, reduceIte, reduceCtorEq, reduceEqDiff, reduceAdd, reduceLT, reduceLeDiff, reduceToNat, hMX]; first | done | exact rfl) (by simp only [go_sem, reduceIte, reduceCtorEq, reduceEqDiff, reduceAdd, reduceLT, reduceLeDiff, reduceToNat]) (by exact hn) (fun c => ?_)
        refine CWops.conv (n := (c.toNat : Int)) (k := .u8) (k' := .i64) htt (by simp only [go_sem, reduceIte, reduceCtorEq, reduceEqDiff, reduceAdd, reduceLT, reduceLeDiff, reduceToNat]) tt_5 rfl tt_3 rfl (by simp only [go_sem, reduceIte, reduceCtorEq, reduceEqDiff, reduceAdd, reduceLT, reduceLeDiff, reduceToNat]) ?_
        refine CWops.run htt 2 (by simp only [go_sem, reduceIte, reduceCtorEq, reduceEqDiff, reduceAdd, reduceLT, reduceLeDiff, reduceToNat]; exact rfl) (by simp [go_sem, reduceIte, reduceCtorEq, reduceEqDiff, reduceAdd, reduceLT, reduceLeDiff, reduceToNat]) ?_
        refine CWops.done ?_
        refine CW.ret ?_
        refine retQ.ret (by simp only [f101, go_sem, reduceIte, reduceCtorEq, reduceEqDiff, reduceAdd, reduceLT, reduceLeDiff, reduceToNat]; exact rfl) (by simp only [go_sem, reduceIte, reduceCtorEq, reduceEqDiff, reduceAdd, reduceLT, reduceLeDiff, reduceToNat]; exact rfl) ?_ -- ret1
        exact ⟨_, leP_refl _, _, rfl⟩
theorem bits_Len (up : Bool) (n : Nat) (hn : n < 256) : PCall prog up 82 [.int .u64 n] (fun r => ∃ m : Int, r = .int .i64 m) := by
  refine PCall.intro htt func82 (by kernel_rfl) rfl (Nat.le_of_ble_eq_true rfl) fun hl => ?_

  simp only [tmps0, Nat.reduceAdd]
  refine CW.seq ?_
  refine CW.region (by kernel_rfl) (by kernel_rfl) ?_ -- r0
  refine CWops.run htt 1 (by simp only [go_sem, reduceIte, reduceCtorEq, reduceEqDiff, reduceAdd, reduceLT, reduceLeDiff, reduceToNat]; exact rfl) (by simp [go_sem, reduceIte, reduceCtorEq, reduceEqDiff, reduceAdd, reduceLT, reduceLeDiff, reduceToNat]) ?_
  refine CWops.done ?_
  refine CW.seq ?_
  refine CW.cond (by simp only [go_sem, reduceIte, reduceCtorEq, reduceEqDiff, reduceAdd, reduceLT, reduceLeDiff, reduceToNat]; first | done | exact rfl) (fun cK => ?_) (fun cK => ?_)
  · cases cK 
  · refine CW.skip ?_
    refine CW.seq ?_
    refine CW.region (by kernel_rfl) (by kernel_rfl) ?_ -- r2
    refine CWops.run htt 1 (by simp only [go_sem, reduceIte, reduceCtorEq, reduceEqDiff, reduceAdd, reduceLT, reduceLeDiff, reduceToNat]; exact rfl) (by simp [go_sem, reduceIte, reduceCtorEq, reduceEqDiff, reduceAdd, reduceLT, reduceLeDiff, reduceToNat]) ?_
    refine CWops.callA (bits_Len64 up n hn) (by simp only [go_sem, reduceIte, reduceCtorEq, reduceEqDiff, reduceAdd, reduceLT, reduceLeDiff, reduceToNat]) (by simp only [go_sem, reduceIte, reduceCtorEq, reduceEqDiff, reduceAdd, reduceLT, reduceLeDiff, reduceToNat]; first | done | exact rfl) (by simp only [go_sem, reduceIte, reduceCtorEq, reduceEqDiff, reduceAdd, reduceLT, reduceLeDiff, reduceToNat]) (by simp only [go_sem, reduceIte, reduceCtorEq, reduceEqDiff, reduceAdd, reduceLT, reduceLeDiff, reduceToNat]) (fun rt7 hrt7 => ?_)
    obtain ⟨m7, rfl⟩ := hrt7
    refine CWops.run htt 1 (by simp only [go_sem, reduceIte, reduceCtorEq, reduceEqDiff, reduceAdd, reduceLT, reduceLeDiff, reduceToNat]; exact rfl) (by simp [go_sem, reduceIte, reduceCtorEq, reduceEqDiff, reduceAdd, reduceLT, reduceLeDiff, reduceToNat]) ?_
    refine CWops.done ?_
    refine CW.ret ?_
    refine retQ.ret (by simp only [f82, go_sem, reduceIte, reduceCtorEq, reduceEqDiff, reduceAdd, reduceLT, reduceLeDiff, reduceToNat]; exact rfl) (by simp only [go_sem, reduceIte, reduceCtorEq, reduceEqDiff, reduceAdd, reduceLT, reduceLeDiff, reduceToNat]; exact rfl) ?_ -- ret1
    exact ⟨_, leP_refl _, _, rfl⟩
theorem pdqsort (up : Bool) (l : List Int) (lim : Int) (hl : l.length < 13) : GCallH prog up 81 [.ref 0 [] 0, .int .i64 0, .int .i64 l.length, .int .i64 lim] 1 [(0, ⟨false, [.own 1 (l.map eI)]⟩)] [0] (fun _ σ' => ∃ m, σ'.n = 1 ∧ σ'.s = [(0, ⟨false, [.own 1 (m.map eI)]⟩)] ∧ Sorted l m) := by
  refine GCallH.intro htt 1 func81 (by kernel_rfl) rfl (Nat.le_of_ble_eq_true rfl) (CW.told ?_)
  have hw : IntKind.i64.wrap ((l.length : Int) - 0) = (l.length : Int) := by rw [wrap_id (by omega) (by omega)]; omega
  simp only [tmps0, Nat.reduceAdd]
  refine CW.seq ?_
  refine CW.region (by kernel_rfl) (by kernel_rfl) ?_ -- r0
  refine CWops.run htt 1 (by simp only [go_sem, reduceIte, reduceCtorEq, reduceEqDiff, reduceAdd, reduceLT, reduceLeDiff, reduceToNat]; exact rfl) (by simp [go_sem, reduceIte, reduceCtorEq, reduceEqDiff, reduceAdd, reduceLT, reduceLeDiff, reduceToNat]) ?_
  refine CWops.done ?_
  refine CW.seq ?_
  refine CW.region (by kernel_rfl) (by kernel_rfl) ?_ -- r1
  refine CWops.run htt 1 (by simp only [go_sem, reduceIte, reduceCtorEq, reduceEqDiff, reduceAdd, reduceLT, reduceLeDiff, reduceToNat]; exact rfl) (by simp [go_sem, reduceIte, reduceCtorEq, reduceEqDiff, reduceAdd, reduceLT, reduceLeDiff, reduceToNat]) ?_
  refine CWops.done ?_
  refine CW.block ?_
  refine CW.loop (S := Unit) (fun u => ⟨1, [(0, .ref 0 [] 0), (1, .int .i64 0), (2, .int .i64 l.length)], [(0, ⟨false, [.own 1 (l.map eI)]⟩)]⟩) (fun u => True) (fun u => 0) (()) ?_ trivial (fun _ _ => ?_)
  · refine Sh.wk0 ?_; simp [Wk, go_sem, reduceIte, reduceCtorEq, reduceEqDiff, reduceAdd, reduceLT, reduceLeDiff, reduceToNat]
  refine CW.block ?_
  refine CW.seq ?_
  refine CW.region (by kernel_rfl) (by kernel_rfl) ?_ -- r2
  refine CWops.run htt 4 (by simp only [go_sem, reduceIte, reduceCtorEq, reduceEqDiff, reduceAdd, reduceLT, reduceLeDiff, reduceToNat, hw]; exact rfl) (by simp [go_sem, reduceIte, reduceCtorEq, reduceEqDiff, reduceAdd, reduceLT, reduceLeDiff, reduceToNat, hw]) ?_
  refine CWops.done ?_
  refine CW.seq ?_
  refine CW.seq ?_
  refine CW.region (by kernel_rfl) (by kernel_rfl) ?_ -- r3
  refine CWops.run htt 2 (by simp only [go_sem, reduceIte, reduceCtorEq, reduceEqDiff, reduceAdd, reduceLT, reduceLeDiff, reduceToNat]; exact rfl) (by simp [go_sem, reduceIte, reduceCtorEq, reduceEqDiff, reduceAdd, reduceLT, reduceLeDiff, reduceToNat]) ?_
  refine CWops.done ?_
  refine CW.cond (by simp only [go_sem, reduceIte, reduceCtorEq, reduceEqDiff, reduceAdd, reduceLT, reduceLeDiff, reduceToNat]; first | done | exact rfl) (fun ct23 => ?_) (fun ct23 => ?_)
  · refine CW.seq ?_
    refine CW.region (by kernel_rfl) (by kernel_rfl) ?_ -- r4
    refine CWops.run htt 3 (by simp only [go_sem, reduceIte, reduceCtorEq, reduceEqDiff, reduceAdd, reduceLT, reduceLeDiff, reduceToNat]; exact rfl) (by simp [go_sem, reduceIte, reduceCtorEq, reduceEqDiff, reduceAdd, reduceLT, reduceLeDiff, reduceToNat]) ?_
    refine CWops.callGH [0] rfl (insertionSort up l (by omega)) (by decide) (by simp only [go_sem, reduceIte, reduceCtorEq, reduceEqDiff, reduceAdd, reduceLT, reduceLeDiff, reduceToNat]) (by simp only [go_sem, reduceIte, reduceCtorEq, reduceEqDiff, reduceAdd, reduceLT, reduceLeDiff, reduceToNat]; first | done | exact rfl) (by decide) (by simp [go_sem, reduceIte, reduceCtorEq, reduceEqDiff, reduceAdd, reduceLT, reduceLeDiff, reduceToNat, mName, memB]) (by simp [go_sem, reduceIte, reduceCtorEq, reduceEqDiff, reduceAdd, reduceLT, reduceLeDiff, reduceToNat, mName]) (by simp [go_sem, reduceIte, reduceCtorEq, reduceEqDiff, reduceAdd, reduceLT, reduceLeDiff, reduceToNat]) (by simp [go_sem, reduceIte, reduceCtorEq, reduceEqDiff, reduceAdd, reduceLT, reduceLeDiff, reduceToNat]) (by simp [go_sem, reduceIte, reduceCtorEq, reduceEqDiff, reduceAdd, reduceLT, reduceLeDiff, reduceToNat, mName]) (fun r σ' hσ => ?_)
    obtain ⟨σn, σt, σs⟩ := σ'
    simp only at hσ
    obtain ⟨m, rfl, rfl, hm2⟩ := hσ
    simp only [aftH, renS, List.map_cons, List.map_nil, delAll, memB, mName, List.getD_nil, killH, kref, ren, Nat.beq_eq, go_sem, reduceIte, reduceCtorEq, reduceEqDiff, reduceAdd, reduceLT, reduceLeDiff, reduceToNat]
    refine CWops.done ?_
    refine CW.ret ?_
    refine ⟨⟨1, [(0, .ref 0 [] 0)], [(0, ⟨false, [.own 1 (m.map eI)]⟩)]⟩, ?_, .inr rfl, ⟨by simp [ptrOK, go_sem, reduceIte, reduceCtorEq, reduceEqDiff, reduceAdd, reduceLT, reduceLeDiff, reduceToNat], (by refine ⟨⟨0, by decide, rfl, by simp only [go_sem, reduceIte, reduceCtorEq, reduceEqDiff, reduceAdd, reduceLT, reduceLeDiff, reduceToNat], rfl⟩, trivial⟩)⟩, _, by simp only [f81, go_sem, reduceIte, reduceCtorEq, reduceEqDiff, reduceAdd, reduceLT, reduceLeDiff, reduceToNat]; exact rfl, ?_⟩ -- ret1
    · refine Sh.wk0 ?_
      simp [Wk, go_sem, reduceIte, reduceCtorEq, reduceEqDiff, reduceAdd, reduceLT, reduceLeDiff, reduceToNat]
    · exact ⟨m, rfl, rfl, hm2⟩
  · exfalso; simp at ct23; omega
theorem slices_Sort (up : Bool) (l : List Int) (hl : l.length < 13) : GCallH prog up 61 [.ref 0 [] 0] 1 [(0, ⟨false, [.own 1 (l.map eI)]⟩)] [0] (fun _ σ' => ∃ m, σ'.n = 1 ∧ σ'.s = [(0, ⟨false, [.own 1 (m.map eI)]⟩)] ∧ Sorted l m) := by
  refine GCallH.intro htt 1 func61 (by kernel_rfl) rfl (Nat.le_of_ble_eq_true rfl) (CW.told ?_)
  have hw : IntKind.u64.wrap (l.length : Int) = (l.length : Int) := by
    simp only [IntKind.wrap, IntKind.bits, IntKind.signed]
    simp
    omega
  simp only [tmps0, Nat.reduceAdd]
  refine CW.seq ?_
  refine CW.region (by kernel_rfl) (by kernel_rfl) ?_ -- r0
  refine CWops.run htt 3 (by simp only [go_sem, reduceIte, reduceCtorEq, reduceEqDiff, reduceAdd, reduceLT, reduceLeDiff, reduceToNat]; exact rfl) (by simp [go_sem, reduceIte, reduceCtorEq, reduceEqDiff, reduceAdd, reduceLT, reduceLeDiff, reduceToNat]) ?_
  refine CWops.done ?_
  refine CW.region (by kernel_rfl) (by kernel_rfl) ?_ -- r1
  refine CWops.run htt 3 (by simp only [go_sem, reduceIte, reduceCtorEq, reduceEqDiff, reduceAdd, reduceLT, reduceLeDiff, reduceToNat]; exact rfl) (by simp [go_sem, reduceIte, reduceCtorEq, reduceEqDiff, reduceAdd, reduceLT, reduceLeDiff, reduceToNat]) ?_
  refine CWops.conv (n := (l.length : Int)) (k := .i64) (k' := .u64) htt (by simp only [go_sem, reduceIte, reduceCtorEq, reduceEqDiff, reduceAdd, reduceLT, reduceLeDiff, reduceToNat]) tt_3 rfl tt_115 rfl (by simp only [go_sem, reduceIte, reduceCtorEq, reduceEqDiff, reduceAdd, reduceLT, reduceLeDiff, reduceToNat, List.length_map]; first | done | exact rfl) ?_
  rw [hw]
  refine CWops.callA (bits_Len up l.length (by omega)) (by simp only [go_sem, reduceIte, reduceCtorEq, reduceEqDiff, reduceAdd, reduceLT, reduceLeDiff, reduceToNat]) (by simp only [go_sem, reduceIte, reduceCtorEq, reduceEqDiff, reduceAdd, reduceLT, reduceLeDiff, reduceToNat]; first | done | exact rfl) (by simp only [go_sem, reduceIte, reduceCtorEq, reduceEqDiff, reduceAdd, reduceLT, reduceLeDiff, reduceToNat]) (by simp only [go_sem, reduceIte, reduceCtorEq, reduceEqDiff, reduceAdd, reduceLT, reduceLeDiff, reduceToNat]) (fun rt9 hrt9 => ?_)
  obtain ⟨lim, rfl⟩ := hrt9
  refine CWops.callGH [0] rfl (pdqsort up l lim hl) (by decide) (by simp only [go_sem, reduceIte, reduceCtorEq, reduceEqDiff, reduceAdd, reduceLT, reduceLeDiff, reduceToNat]) (by simp only [go_sem, reduceIte, reduceCtorEq, reduceEqDiff, reduceAdd, reduceLT, reduceLeDiff, reduceToNat]; first | done | exact rfl) (by decide) (by simp [go_sem, reduceIte, reduceCtorEq, reduceEqDiff, reduceAdd, reduceLT, reduceLeDiff, reduceToNat, mName, memB]) (by simp [go_sem, reduceIte, reduceCtorEq, reduceEqDiff, reduceAdd, reduceLT, reduceLeDiff, reduceToNat, mName]) (by simp [go_sem, reduceIte, reduceCtorEq, reduceEqDiff, reduceAdd, reduceLT, reduceLeDiff, reduceToNat]) (by simp [go_sem, reduceIte, reduceCtorEq, reduceEqDiff, reduceAdd, reduceLT, reduceLeDiff, reduceToNat]) (by simp [go_sem, reduceIte, reduceCtorEq, reduceEqDiff, reduceAdd, reduceLT, reduceLeDiff, reduceToNat, mName]) (fun r σ' hσ => ?_)
  obtain ⟨σn, σt, σs⟩ := σ'
  simp only at hσ
  obtain ⟨m, rfl, rfl, hm2⟩ := hσ
  simp only [aftH, renS, List.map_cons, List.map_nil, delAll, memB, mName, List.getD_nil, killH, kref, ren, Nat.beq_eq, go_sem, reduceIte, reduceCtorEq, reduceEqDiff, reduceAdd, reduceLT, reduceLeDiff, reduceToNat]
  refine CWops.done ?_
  refine ⟨⟨1, [(0, .ref 0 [] 0)], [(0, ⟨false, [.own 1 (m.map eI)]⟩)]⟩, ?_, .inl rfl, ⟨by simp [ptrOK, go_sem, reduceIte, reduceCtorEq, reduceEqDiff, reduceAdd, reduceLT, reduceLeDiff, reduceToNat], (by refine ⟨⟨0, by decide, rfl, by simp only [go_sem, reduceIte, reduceCtorEq, reduceEqDiff, reduceAdd, reduceLT, reduceLeDiff, reduceToNat], rfl⟩, trivial⟩)⟩, _, by simp only [f61, go_sem, reduceIte, reduceCtorEq, reduceEqDiff, reduceAdd, reduceLT, reduceLeDiff, reduceToNat]; exact rfl, ?_⟩ -- end
  · refine Sh.wk0 ?_
    simp [Wk, go_sem, reduceIte, reduceCtorEq, reduceEqDiff, reduceAdd, reduceLT, reduceLeDiff, reduceToNat]
  · exact ⟨m, rfl, rfl, hm2⟩
end Go.Ab
namespace Go.Ab
open Go Go.Proofs.Try
open Nat (reduceEqDiff reduceAdd reduceLT reduceLeDiff reduceBEq reduceSub reduceMul)
open Int (reduceToNat)
set_option maxRecDepth 100000
set_option linter.unusedSimpArgs false
set_option linter.unusedVariables false
@[go_sem] theorem tt_93 : tiOf prog 93 = some ⟨.map 3 4, 1, 8, [.nilmap], false⟩ := by kernel_rfl
@[go_sem] theorem tt_94 : tiOf prog 94 = some ⟨.func, 1, 8, [.nilfunc], false⟩ := by kernel_rfl
theorem come_in (up : Bool) (g : Graph) (l : List Int) (id : Int) (hin : id = -1 ∨ id ∈ l) : GCall prog up 60 [.int .i64 id, .lv 0 [] 0, .lv 1 [] 0, .lv 2 [] 0, .lv 3 [] 0] 4 [(0, ⟨true, [.omap (wasMap (l))]⟩), (1, ⟨true, [.own 1 (List.map eI (l))]⟩), (2, ⟨true, eGraph g⟩), (3, ⟨true, [.func (.func 60) [] [.lv 0 [] 0, .lv 1 [] 0, .lv 2 [] 0, .lv 3 [] 0]]⟩)] (fun _ σ' => ∃ t, σ' = ⟨4, t, [(0, ⟨true, [.omap (wasMap (l))]⟩), (1, ⟨true, [.own 1 (List.map eI (l))]⟩), (2, ⟨true, eGraph g⟩), (3, ⟨true, [.func (.func 60) [] [.lv 0 [] 0, .lv 1 [] 0, .lv 2 [] 0, .lv 3 [] 0]]⟩)]⟩) := by
  refine GCall.intro htt 5 func60 (by kernel_rfl) rfl (Nat.le_of_ble_eq_true rfl) (CW.told ?_)

  simp only [tmps0, Nat.reduceAdd]
  refine CW.seq ?_
  refine CW.seq ?_
  refine CW.region (by kernel_rfl) (by kernel_rfl) ?_ -- r0
  refine CWops.run htt 3 (by simp only [go_sem, reduceIte, reduceCtorEq, reduceEqDiff, reduceAdd, reduceLT, reduceLeDiff, reduceToNat, reduceMul, maplk_was, if_pos hin]; exact rfl) (by simp [go_sem, reduceIte, reduceCtorEq, reduceEqDiff, reduceAdd, reduceLT, reduceLeDiff, reduceToNat, reduceMul, maplk_was, if_pos hin]) ?_
  refine CWops.done ?_
  refine CW.cond (by simp only [go_sem, reduceIte, reduceCtorEq, reduceEqDiff, reduceAdd, reduceLT, reduceLeDiff, reduceToNat, reduceMul]; first | done | exact rfl) (fun ct11 => ?_) (fun ct11 => ?_)
  · refine CW.ret ?_
    refine ⟨⟨4, [(0, .int .i64 id), (1, .lv 0 [] 0), (2, .lv 1 [] 0), (3, .lv 2 [] 0), (4, .lv 3 [] 0)], [(0, ⟨true, [.omap (wasMap (l))]⟩), (1, ⟨true, [.own 1 (List.map eI (l))]⟩), (2, ⟨true, eGraph g⟩), (3, ⟨true, [.func (.func 60) [] [.lv 0 [] 0, .lv 1 [] 0, .lv 2 [] 0, .lv 3 [] 0]]⟩)]⟩, ?_, .inr rfl, by (simp [ptrOK, go_sem, reduceIte, reduceCtorEq, reduceEqDiff, reduceAdd, reduceLT, reduceLeDiff, reduceToNat, reduceMul]; exact ⟨⟨1, by simp⟩, ⟨2, by simp⟩, ⟨3, by simp⟩, ⟨4, by simp⟩⟩), _, by simp only [f60, go_sem, reduceIte, reduceCtorEq, reduceEqDiff, reduceAdd, reduceLT, reduceLeDiff, reduceToNat, reduceMul]; exact rfl, ?_⟩ -- ret1
    · refine Sh.wk0 ?_
      simp [Wk, go_sem, reduceIte, reduceCtorEq, reduceEqDiff, reduceAdd, reduceLT, reduceLeDiff, reduceToNat, reduceMul, ex_func, SubL, Sub, eGraph]
    · exact ⟨_, rfl⟩
  · cases ct11
theorem come_out (up : Bool) (g : Graph) (hm : May g) (n : Nat) (ih : ∀ (l : List Int) (id : Int), Good g l → rootB g id = true → g.O.length < n + l.length → GCall prog up 60 [.int .i64 id, .lv 0 [] 0, .lv 1 [] 0, .lv 2 [] 0, .lv 3 [] 0] 4 [(0, ⟨true, [.omap (wasMap (l))]⟩), (1, ⟨true, [.own 1 (List.map eI (l))]⟩), (2, ⟨true, eGraph g⟩), (3, ⟨true, [.func (.func 60) [] [.lv 0 [] 0, .lv 1 [] 0, .lv 2 [] 0, .lv 3 [] 0]]⟩)] (fun _ σ' => ∃ t, σ' = ⟨4, t, [(0, ⟨true, [.omap (wasMap (dfs g n l id))]⟩), (1, ⟨true, [.own 1 (List.map eI (dfs g n l id))]⟩), (2, ⟨true, eGraph g⟩), (3, ⟨true, [.func (.func 60) [] [.lv 0 [] 0, .lv 1 [] 0, .lv 2 [] 0, .lv 3 [] 0]]⟩)]⟩)) (l : List Int) (id : Int) (hg : Good g l) (hr : rootB g id = true) (hn : g.O.length < n + 1 + l.length) (hno : ¬ (id = -1 ∨ id ∈ l)) : GCall prog up 60 [.int .i64 id, .lv 0 [] 0, .lv 1 [] 0, .lv 2 [] 0, .lv 3 [] 0] 4 [(0, ⟨true, [.omap (wasMap (l))]⟩), (1, ⟨true, [.own 1 (List.map eI (l))]⟩), (2, ⟨true, eGraph g⟩), (3, ⟨true, [.func (.func 60) [] [.lv 0 [] 0, .lv 1 [] 0, .lv 2 [] 0, .lv 3 [] 0]]⟩)] (fun _ σ' => ∃ t, σ' = ⟨4, t, [(0, ⟨true, [.omap (wasMap (dfs g (n + 1) l id))]⟩), (1, ⟨true, [.own 1 (List.map eI (dfs g (n + 1) l id))]⟩), (2, ⟨true, eGraph g⟩), (3, ⟨true, [.func (.func 60) [] [.lv 0 [] 0, .lv 1 [] 0, .lv 2 [] 0, .lv 3 [] 0]]⟩)]⟩) := by
  refine GCall.intro htt 5 func60 (by kernel_rfl) rfl (Nat.le_of_ble_eq_true rfl) (CW.told ?_)
  have ho := hm.o
  have hgl := hg.len
  have hg2 : Good g (l ++ [id]) := by
    have := hg.meet hr
    unfold meet at this
    rwa [if_neg hno] at this
  have hty : (typ g.O id).isSome = true := hg2.ids id (by simp)
  obtain ⟨p, ⟨oi, oT, oF⟩, hp, e1, hF1, hA, _⟩ := hm.find hty
  unfold gFind at hF1
  obtain ⟨_, t, hT, hmo⟩ := hm.objT hp
  obtain ⟨q, rfl⟩ := Int.eq_ofNat_of_zero_le (show 0 ≤ oT from hmo.t0)
  have ht : g.S[q]? = some t := by simpa using hmo.at_
  have hlen : oF.length = t.F.length := hmo.len
  have h5 := hm.small.2.1 t (List.mem_of_getElem? ht)
  have hpl := (List.getElem?_eq_some_iff.1 hp).1
  have hql := (List.getElem?_eq_some_iff.1 ht).1
  have hrefs : refsOf g id = refsZ (t.F.zip oF) := by unfold refsOf; rw [hA]; simp only [refsO, hT]
  simp only [tmps0, Nat.reduceAdd]
  refine CW.seq ?_
  refine CW.seq ?_
  refine CW.region (by kernel_rfl) (by kernel_rfl) ?_ -- r0
  refine CWops.run htt 3 (by simp only [go_sem, reduceIte, reduceCtorEq, reduceEqDiff, reduceAdd, reduceLT, reduceLeDiff, reduceToNat, reduceMul, maplk_was, if_neg hno]; exact rfl) (by simp [go_sem, reduceIte, reduceCtorEq, reduceEqDiff, reduceAdd, reduceLT, reduceLeDiff, reduceToNat, reduceMul, maplk_was, if_neg hno]) ?_
  refine CWops.done ?_
  refine CW.cond (by simp only [go_sem, reduceIte, reduceCtorEq, reduceEqDiff, reduceAdd, reduceLT, reduceLeDiff, reduceToNat, reduceMul]; first | done | exact rfl) (fun ct11 => ?_) (fun ct11 => ?_)
  · cases ct11 
  · refine CW.skip ?_
    refine CW.seq ?_
    refine CW.region (by kernel_rfl) (by kernel_rfl) ?_ -- r1
    refine CWops.run htt 3 (by simp only [go_sem, reduceIte, reduceCtorEq, reduceEqDiff, reduceAdd, reduceLT, reduceLeDiff, reduceToNat, reduceMul, was_put hno]; exact rfl) (by simp [was_len, MX]; omega) ?_
    refine CWops.done ?_
    refine CW.seq ?_
    refine CW.region (by kernel_rfl) (by kernel_rfl) ?_ -- r2
    refine CWops.run htt 5 (by simp only [go_sem, reduceIte, reduceCtorEq, reduceEqDiff, reduceAdd, reduceLT, reduceLeDiff, reduceToNat, reduceMul, List.replicate]; exact rfl) (by simp [AV.cell, AV.tree, eI, MX]; omega) ?_
    refine CWops.done ?_
    refine CW.seq ?_
    refine CW.drawn mixed 8 (by decide) (by kernel_rfl) (by kernel_rfl) (by kernel_rfl) ?_ -- r3
    refine Seg.run htt 4 (by simp only [go_sem, reduceIte, reduceCtorEq, reduceEqDiff, reduceAdd, reduceLT, reduceLeDiff, reduceToNat, reduceMul, eGraph, hF1, hp, eObj, hpl]; exact rfl) ?_
    refine Seg.call (graph_Find up g id) (by simp only [go_sem, reduceIte, reduceCtorEq, reduceEqDiff, reduceAdd, reduceLT, reduceLeDiff, reduceToNat, reduceMul, eGraph, hF1, hp, eObj, hpl]) (by simp only [go_sem, reduceIte, reduceCtorEq, reduceEqDiff, reduceAdd, reduceLT, reduceLeDiff, reduceToNat, reduceMul, eGraph, hF1, hp, eObj, hpl]; first | done | exact rfl) (by simp only [go_sem, reduceIte, reduceCtorEq, reduceEqDiff, reduceAdd, reduceLT, reduceLeDiff, reduceToNat, reduceMul, eGraph, hF1, hp, eObj, hpl]) (by simp only [go_sem, reduceIte, reduceCtorEq, reduceEqDiff, reduceAdd, reduceLT, reduceLeDiff, reduceToNat, reduceMul, eGraph, hF1, hp, eObj, hpl]) rfl ?_
    refine Seg.run htt 3 (by simp only [go_sem, reduceIte, reduceCtorEq, reduceEqDiff, reduceAdd, reduceLT, reduceLeDiff, reduceToNat, reduceMul, eGraph, hF1, hp, eObj, hpl]; exact rfl) ?_
    refine Seg.done ?_
    refine CWops.run htt 1 (by simp only [go_sem, reduceIte, reduceCtorEq, reduceEqDiff, reduceAdd, reduceLT, reduceLeDiff, reduceToNat, reduceMul, eGraph, hF1, hp, eObj, hpl]; exact rfl) (by simp [go_sem, reduceIte, reduceCtorEq, reduceEqDiff, reduceAdd, reduceLT, reduceLeDiff, reduceToNat, reduceMul, eGraph, hF1, hp, eObj, hpl]) ?_
    refine CWops.done ?_
    refine CW.seq ?_
    refine CW.region (by kernel_rfl) (by kernel_rfl) ?_ -- r4
    refine CWops.run htt 10 (by simp only [go_sem, reduceIte, reduceCtorEq, reduceEqDiff, reduceAdd, reduceLT, reduceLeDiff, reduceToNat, reduceMul, eGraph, ht, eType, hql, eObj]; exact rfl) (by simp [go_sem, reduceIte, reduceCtorEq, reduceEqDiff, reduceAdd, reduceLT, reduceLeDiff, reduceToNat, reduceMul, eGraph, ht, eType, hql, eObj]) ?_
    refine CWops.done ?_
    refine CW.block ?_
    refine CW.loop (S := Nat) (fun k => ⟨7, [(0, .int .i64 id), (1, .lv 0 [] 0), (2, .lv 1 [] 0), (3, .lv 2 [] 0), (4, .lv 3 [] 0), (6, .lv 6 [] 0), (32, .sl 3 (t.F.map eField)), (33, .int .i64 t.F.length), (34, .int .i64 k)], [(0, ⟨true, [.omap (wasMap ((refsZ ((t.F.zip oF).take k)).foldl (dfs g n) (l ++ [id])))]⟩), (1, ⟨true, [.own 1 (List.map eI ((refsZ ((t.F.zip oF).take k)).foldl (dfs g n) (l ++ [id])))]⟩), (2, ⟨true, eGraph g⟩), (3, ⟨true, [.func (.func 60) [] [.lv 0 [] 0, .lv 1 [] 0, .lv 2 [] 0, .lv 3 [] 0]]⟩), (6, ⟨true, eObj ⟨oi, q, oF⟩⟩)]⟩) (fun k => k ≤ t.F.length ∧ Step g (l ++ [id]) (refsZ ((t.F.zip oF).take k)) ((refsZ ((t.F.zip oF).take k)).foldl (dfs g n) (l ++ [id]))) (fun k => t.F.length - k) (0) ?_ ⟨Nat.zero_le _, by simpa [refsZ] using Step.nil hg2⟩ (fun k ⟨k1, k2⟩ => ?_)
    · refine Sh.wk0 ?_; simp [Wk, go_sem, reduceIte, reduceCtorEq, reduceEqDiff, reduceAdd, reduceLT, reduceLeDiff, reduceToNat, reduceMul, ex_func, SubL, Sub, eGraph, eObj, refsZ, eI]
    refine CW.seq ?_
    refine CW.region (by kernel_rfl) (by kernel_rfl) ?_ -- r5
    refine CWops.run htt 1 (by simp only [go_sem, reduceIte, reduceCtorEq, reduceEqDiff, reduceAdd, reduceLT, reduceLeDiff, reduceToNat, reduceMul]; exact rfl) (by simp [go_sem, reduceIte, reduceCtorEq, reduceEqDiff, reduceAdd, reduceLT, reduceLeDiff, reduceToNat, reduceMul]) ?_
    refine CWops.done ?_
    refine CW.seq ?_
    refine CW.cond (by simp only [go_sem, reduceIte, reduceCtorEq, reduceEqDiff, reduceAdd, reduceLT, reduceLeDiff, reduceToNat, reduceMul]; first | done | exact rfl) (fun ct35 => ?_) (fun ct35 => ?_)
    · have hk : k < t.F.length := by simpa using ct35
      have hko : k < oF.length := by omega
      obtain ⟨v, hv⟩ : ∃ v, oF[k]? = some v := ⟨oF[k], List.getElem?_eq_getElem hko⟩
      obtain ⟨f, hf⟩ : ∃ f, t.F[k]? = some f := ⟨t.F[k], List.getElem?_eq_getElem (by omega)⟩
      have hz : (t.F.zip oF)[k]? = some (f, v) := List.getElem?_zip_eq_some.2 ⟨hf, hv⟩
      refine CW.skip ?_
      refine CW.seq ?_
      refine CW.block ?_
      refine CW.seq ?_
      refine CW.region (by kernel_rfl) (by kernel_rfl) ?_ -- r6
      refine CWops.run htt 6 (by simp only [go_sem, reduceIte, reduceCtorEq, reduceEqDiff, reduceAdd, reduceLT, reduceLeDiff, reduceToNat, reduceMul, hf, hk, eField]; exact rfl) (by simp [go_sem, reduceIte, reduceCtorEq, reduceEqDiff, reduceAdd, reduceLT, reduceLeDiff, reduceToNat, reduceMul, hf, hk, eField]) ?_
      refine CWops.done ?_
      refine CW.seq ?_
      refine CW.region (by kernel_rfl) (by kernel_rfl) ?_ -- r7
      refine CWops.run htt 3 (by simp only [go_sem, reduceIte, reduceCtorEq, reduceEqDiff, reduceAdd, reduceLT, reduceLeDiff, reduceToNat, reduceMul, eField]; exact rfl) (by simp [go_sem, reduceIte, reduceCtorEq, reduceEqDiff, reduceAdd, reduceLT, reduceLeDiff, reduceToNat, reduceMul, eField]) ?_
      refine CWops.done ?_
      refine CW.cond (by simp only [go_sem, reduceIte, reduceCtorEq, reduceEqDiff, reduceAdd, reduceLT, reduceLeDiff, reduceToNat, reduceMul]; first | done | exact rfl) (fun ct41 => ?_) (fun ct41 => ?_)
      · have hk5 : f.Kind = 5 := by simpa using ct41
        refine CW.drawn mixed 7 (by decide) (by kernel_rfl) (by kernel_rfl) (by kernel_rfl) ?_ -- r8
        refine Seg.run htt 7 (by simp only [go_sem, reduceIte, reduceCtorEq, reduceEqDiff, reduceAdd, reduceLT, reduceLeDiff, reduceToNat, reduceMul, eObj, hv, hko, eVal]; exact rfl) ?_
        refine Seg.done ?_
        refine CWops.callG [0, 1, 2, 3] rfl (ih ((refsZ ((t.F.zip oF).take k)).foldl (dfs g n) (l ++ [id])) v.R k2.good (hmo.ref hf hv hk5) (by obtain ⟨s, hs⟩ := k2.pre; rw [hs]; simp; omega)) (by simp only [go_sem, reduceIte, reduceCtorEq, reduceEqDiff, reduceAdd, reduceLT, reduceLeDiff, reduceToNat, reduceMul]) (by simp only [go_sem, reduceIte, reduceCtorEq, reduceEqDiff, reduceAdd, reduceLT, reduceLeDiff, reduceToNat, reduceMul]; first | done | exact rfl) (by decide) (by simp [go_sem, reduceIte, reduceCtorEq, reduceEqDiff, reduceAdd, reduceLT, reduceLeDiff, reduceToNat, reduceMul, mName, memB, ex_func, SubL, Sub, eGraph]) (by simp [go_sem, reduceIte, reduceCtorEq, reduceEqDiff, reduceAdd, reduceLT, reduceLeDiff, reduceToNat, reduceMul, mName, ex_func, SubL, Sub, eGraph]) (by simp [go_sem, reduceIte, reduceCtorEq, reduceEqDiff, reduceAdd, reduceLT, reduceLeDiff, reduceToNat, reduceMul, ex_func, SubL, Sub, eGraph]) (by intro x hx; rcases x with _ | _ | _ | _ | x <;> first | (simp [go_sem, reduceIte, reduceCtorEq, reduceEqDiff, reduceAdd, reduceLT, reduceLeDiff, reduceToNat, reduceMul]; done) | omega | (simp at hx; done) | (simp at hx; omega)) (by simp [go_sem, reduceIte, reduceCtorEq, reduceEqDiff, reduceAdd, reduceLT, reduceLeDiff, reduceToNat, reduceMul, mName, ex_func, SubL, Sub, eGraph]) (fun r σ' hσ => ?_)
        obtain ⟨t', rfl⟩ := hσ
        simp only [aftS, renS, delAll, memB, mName, List.getD_nil, killH, kref, ren, Nat.beq_eq, go_sem, reduceIte, reduceCtorEq, reduceEqDiff, reduceAdd, reduceLT, reduceLeDiff, reduceToNat, reduceMul]
        refine CWops.done ?_
        refine CW.region (by kernel_rfl) (by kernel_rfl) ?_ -- r9
        refine CWops.run htt 2 (by simp only [go_sem, reduceIte, reduceCtorEq, reduceEqDiff, reduceAdd, reduceLT, reduceLeDiff, reduceToNat, reduceMul, wrap_succ (show k < MX by unfold MX; omega)]; exact rfl) (by simp [go_sem, reduceIte, reduceCtorEq, reduceEqDiff, reduceAdd, reduceLT, reduceLeDiff, reduceToNat, reduceMul, wrap_succ (show k < MX by unfold MX; omega)]) ?_
        refine CWops.done ?_
        refine ⟨k + 1, ?_, ?_, ?_⟩
        · refine Sh.wk0 ?_
          first | (simp [Wk, go_sem, reduceIte, reduceCtorEq, reduceEqDiff, reduceAdd, reduceLT, reduceLeDiff, reduceToNat, reduceMul, ex_func, SubL, Sub, eGraph, eObj, refsZ_foldRef hz hk5]; done) | (simp [Wk, go_sem, reduceIte, reduceCtorEq, reduceEqDiff, reduceAdd, reduceLT, reduceLeDiff, reduceToNat, reduceMul, ex_func, SubL, Sub, eGraph, eObj, refsZ_no hz hk5]; done) | skip
        · refine ⟨hk, ?_⟩
          first | (rw [refsZ_foldRef hz hk5, show refsZ ((t.F.zip oF).take (k + 1)) = refsZ ((t.F.zip oF).take k) ++ [v.R] by rw [List.take_add_one, hz]; simp [refsZ, hk5]]; obtain ⟨s, hs⟩ := k2.pre; exact k2.app (dfs_step hm n k2.good (hmo.ref hf hv hk5) (by rw [hs]; simp; omega))) | (rw [refsZ_no hz hk5]; exact k2)
        · simp only; omega
      · have hk5 : f.Kind ≠ 5 := by simpa using ct41
        refine CW.skip ?_
        refine CW.region (by kernel_rfl) (by kernel_rfl) ?_ -- r9
        refine CWops.run htt 2 (by simp only [go_sem, reduceIte, reduceCtorEq, reduceEqDiff, reduceAdd, reduceLT, reduceLeDiff, reduceToNat, reduceMul, wrap_succ (show k < MX by unfold MX; omega)]; exact rfl) (by simp [go_sem, reduceIte, reduceCtorEq, reduceEqDiff, reduceAdd, reduceLT, reduceLeDiff, reduceToNat, reduceMul, wrap_succ (show k < MX by unfold MX; omega)]) ?_
        refine CWops.done ?_
        refine ⟨k + 1, ?_, ?_, ?_⟩
        · refine Sh.wk0 ?_
          first | (simp [Wk, go_sem, reduceIte, reduceCtorEq, reduceEqDiff, reduceAdd, reduceLT, reduceLeDiff, reduceToNat, reduceMul, ex_func, SubL, Sub, eGraph, eObj, refsZ_foldRef hz hk5]; done) | (simp [Wk, go_sem, reduceIte, reduceCtorEq, reduceEqDiff, reduceAdd, reduceLT, reduceLeDiff, reduceToNat, reduceMul, ex_func, SubL, Sub, eGraph, eObj, refsZ_no hz hk5]; done) | skip
        · refine ⟨hk, ?_⟩
          first | (rw [refsZ_foldRef hz hk5, show refsZ ((t.F.zip oF).take (k + 1)) = refsZ ((t.F.zip oF).take k) ++ [v.R] by rw [List.take_add_one, hz]; simp [refsZ, hk5]]; obtain ⟨s, hs⟩ := k2.pre; exact k2.app (dfs_step hm n k2.good (hmo.ref hf hv hk5) (by rw [hs]; simp; omega))) | (rw [refsZ_no hz hk5]; exact k2)
        · simp only; omega
    · have hk : k = t.F.length := by simp at ct35; omega
      have hz : (t.F.zip oF).take k = t.F.zip oF := List.take_of_length_le (by rw [List.length_zip]; omega)
      refine CW.exit ?_
      refine ⟨⟨4, [(0, .int .i64 id), (1, .lv 0 [] 0), (2, .lv 1 [] 0), (3, .lv 2 [] 0), (4, .lv 3 [] 0)], [(0, ⟨true, [.omap (wasMap (dfs g (n + 1) l id))]⟩), (1, ⟨true, [.own 1 (List.map eI (dfs g (n + 1) l id))]⟩), (2, ⟨true, eGraph g⟩), (3, ⟨true, [.func (.func 60) [] [.lv 0 [] 0, .lv 1 [] 0, .lv 2 [] 0, .lv 3 [] 0]]⟩)]⟩, ?_, .inl rfl, by (simp [ptrOK, go_sem, reduceIte, reduceCtorEq, reduceEqDiff, reduceAdd, reduceLT, reduceLeDiff, reduceToNat, reduceMul]; exact ⟨⟨1, by simp⟩, ⟨2, by simp⟩, ⟨3, by simp⟩, ⟨4, by simp⟩⟩), _, by simp only [f60, go_sem, reduceIte, reduceCtorEq, reduceEqDiff, reduceAdd, reduceLT, reduceLeDiff, reduceToNat, reduceMul]; exact rfl, ?_⟩ -- end
      · refine Sh.wk0 ?_
        rw [dfs_out hno, hrefs, hz]
        simp [Wk, go_sem, reduceIte, reduceCtorEq, reduceEqDiff, reduceAdd, reduceLT, reduceLeDiff, reduceToNat, reduceMul, ex_func, SubL, Sub, eGraph]
      · exact ⟨_, rfl⟩
theorem come (up : Bool) (g : Graph) (hm : May g) : ∀ (n : Nat) (l : List Int) (id : Int), Good g l → rootB g id = true → g.O.length < n + l.length → GCall prog up 60 [.int .i64 id, .lv 0 [] 0, .lv 1 [] 0, .lv 2 [] 0, .lv 3 [] 0] 4 [(0, ⟨true, [.omap (wasMap (l))]⟩), (1, ⟨true, [.own 1 (List.map eI (l))]⟩), (2, ⟨true, eGraph g⟩), (3, ⟨true, [.func (.func 60) [] [.lv 0 [] 0, .lv 1 [] 0, .lv 2 [] 0, .lv 3 [] 0]]⟩)] (fun _ σ' => ∃ t, σ' = ⟨4, t, [(0, ⟨true, [.omap (wasMap (dfs g n l id))]⟩), (1, ⟨true, [.own 1 (List.map eI (dfs g n l id))]⟩), (2, ⟨true, eGraph g⟩), (3, ⟨true, [.func (.func 60) [] [.lv 0 [] 0, .lv 1 [] 0, .lv 2 [] 0, .lv 3 [] 0]]⟩)]⟩)
  | 0, l, id, h, _, hn => by have := h.len; omega
  | n + 1, l, id, h, hr, hn => by
    by_cases e : id = -1 ∨ id ∈ l
    · rw [dfs_in e]; exact come_in up g l id e
    · exact come_out up g hm n (come up g hm n) l id h hr hn e
end Go.Ab
namespace Go.Ab
open Go Go.Proofs.Try
open Nat (reduceEqDiff reduceAdd reduceLT reduceLeDiff reduceBEq reduceSub reduceMul)
open Int (reduceToNat)
set_option maxRecDepth 100000
set_option linter.unusedSimpArgs false
set_option linter.unusedVariables false
theorem graph_Reach (up : Bool) (g : Graph) : PCall prog up 29 [.agg (eGraph g)] (· = .sl 1 ((gReach g).map eI)) := by
  refine PCall.intro htt func29 (by kernel_rfl) rfl (Nat.le_of_ble_eq_true rfl) fun hl => ?_

  simp only [tmps0, Nat.reduceAdd]
  refine CW.seq ?_
  refine CW.region (by kernel_rfl) (by kernel_rfl) ?_ -- r0
  refine CWops.run htt 2 (by simp only [go_sem, reduceIte, reduceCtorEq, reduceEqDiff, reduceAdd, reduceLT, reduceLeDiff, reduceToNat, eGraph]; exact rfl) (by simp [go_sem, reduceIte, reduceCtorEq, reduceEqDiff, reduceAdd, reduceLT, reduceLeDiff, reduceToNat, eGraph]) ?_
  refine CWops.done ?_
  refine CW.seq ?_
  refine CW.seq ?_
  refine CW.region (by kernel_rfl) (by kernel_rfl) ?_ -- r1
  refine CWops.run htt 1 (by simp only [go_sem, reduceIte, reduceCtorEq, reduceEqDiff, reduceAdd, reduceLT, reduceLeDiff, reduceToNat, eGraph]; exact rfl) (by simp [go_sem, reduceIte, reduceCtorEq, reduceEqDiff, reduceAdd, reduceLT, reduceLeDiff, reduceToNat, eGraph]) ?_
  refine CWops.call (graph_May up g) (by simp only [go_sem, reduceIte, reduceCtorEq, reduceEqDiff, reduceAdd, reduceLT, reduceLeDiff, reduceToNat, eGraph]) (by simp only [go_sem, reduceIte, reduceCtorEq, reduceEqDiff, reduceAdd, reduceLT, reduceLeDiff, reduceToNat, eGraph]; first | done | exact rfl) (by simp only [go_sem, reduceIte, reduceCtorEq, reduceEqDiff, reduceAdd, reduceLT, reduceLeDiff, reduceToNat, eGraph]) (fun rt9 hrt9 => ?_)
  subst hrt9; refine ⟨rfl, ?_⟩
  refine CWops.run htt 1 (by simp only [go_sem, reduceIte, reduceCtorEq, reduceEqDiff, reduceAdd, reduceLT, reduceLeDiff, reduceToNat, eGraph]; exact rfl) (by simp [go_sem, reduceIte, reduceCtorEq, reduceEqDiff, reduceAdd, reduceLT, reduceLeDiff, reduceToNat, eGraph]) ?_
  refine CWops.done ?_
  refine CW.cond (by simp only [go_sem, reduceIte, reduceCtorEq, reduceEqDiff, reduceAdd, reduceLT, reduceLeDiff, reduceToNat]; first | done | exact rfl) (fun ct10 => ?_) (fun ct10 => ?_)
  · simp only [Bool.not_eq_true'] at ct10
    refine CW.seq ?_
    refine CW.region (by kernel_rfl) (by kernel_rfl) ?_ -- r2
    refine CWops.run htt 1 (by simp only [go_sem, reduceIte, reduceCtorEq, reduceEqDiff, reduceAdd, reduceLT, reduceLeDiff, reduceToNat]; exact rfl) (by simp [go_sem, reduceIte, reduceCtorEq, reduceEqDiff, reduceAdd, reduceLT, reduceLeDiff, reduceToNat]) ?_
    refine CWops.done ?_
    refine CW.ret ?_
    refine retQ.ret (by simp only [f29, go_sem, reduceIte, reduceCtorEq, reduceEqDiff, reduceAdd, reduceLT, reduceLeDiff, reduceToNat]; exact rfl) (by simp only [go_sem, reduceIte, reduceCtorEq, reduceEqDiff, reduceAdd, reduceLT, reduceLeDiff, reduceToNat]; exact rfl) ?_ -- ret1
    refine ⟨_, ?_, rfl⟩
    have : gReach g = [] := by unfold gReach; rw [ct10]; rfl
    simp [leP, this]
  · simp only [Bool.not_eq_false'] at ct10
    have hm := (may_iff g).1 ct10
    have ho := hm.o
    have hr3 := hm.r
    refine CW.skip ?_
    refine CW.seq ?_
    refine CW.region (by kernel_rfl) (by kernel_rfl) ?_ -- r3
    refine CWops.run htt 5 (by simp only [go_sem, reduceIte, reduceCtorEq, reduceEqDiff, reduceAdd, reduceLT, reduceLeDiff, reduceToNat]; exact rfl) (by unfold MX; decide) ?_
    refine CWops.done ?_
    refine CW.seq ?_
    refine CW.region (by kernel_rfl) (by kernel_rfl) ?_ -- r4
    refine CWops.run htt 1 (by simp only [go_sem, reduceIte, reduceCtorEq, reduceEqDiff, reduceAdd, reduceLT, reduceLeDiff, reduceToNat]; exact rfl) (by simp [go_sem, reduceIte, reduceCtorEq, reduceEqDiff, reduceAdd, reduceLT, reduceLeDiff, reduceToNat]) ?_
    refine CWops.done ?_
    refine CW.seq ?_
    refine CW.region (by kernel_rfl) (by kernel_rfl) ?_ -- r5
    refine CWops.run htt 1 (by simp only [go_sem, reduceIte, reduceCtorEq, reduceEqDiff, reduceAdd, reduceLT, reduceLeDiff, reduceToNat]; exact rfl) (by simp [go_sem, reduceIte, reduceCtorEq, reduceEqDiff, reduceAdd, reduceLT, reduceLeDiff, reduceToNat]) ?_
    refine CWops.done ?_
    refine CW.seq ?_
    refine CW.region (by kernel_rfl) (by kernel_rfl) ?_ -- r6
    refine CWops.run htt 2 (by simp only [go_sem, reduceIte, reduceCtorEq, reduceEqDiff, reduceAdd, reduceLT, reduceLeDiff, reduceToNat]; exact rfl) (by simp [go_sem, reduceIte, reduceCtorEq, reduceEqDiff, reduceAdd, reduceLT, reduceLeDiff, reduceToNat]) ?_
    refine CWops.done ?_
    refine CW.seq ?_
    refine CW.seq ?_
    refine CW.region (by kernel_rfl) (by kernel_rfl) ?_ -- r7
    refine CWops.run htt 4 (by simp only [go_sem, reduceIte, reduceCtorEq, reduceEqDiff, reduceAdd, reduceLT, reduceLeDiff, reduceToNat, eGraph]; exact rfl) (by simp [go_sem, reduceIte, reduceCtorEq, reduceEqDiff, reduceAdd, reduceLT, reduceLeDiff, reduceToNat, eGraph]) ?_
    refine CWops.done ?_
    refine CW.block ?_
    refine CW.loop (S := Nat) (fun i => ⟨5, [(1, .lv 0 [] 0), (3, .lv 2 [] 0), (4, .lv 3 [] 0), (5, .lv 4 [] 0), (15, .sl 1 (g.Roots.map eI)), (16, .int .i64 g.Roots.length), (17, .int .i64 i)], [(0, ⟨true, eGraph g⟩), (2, ⟨true, [.omap (wasMap ((g.Roots.take i).foldl (dfs g (g.O.length + 1)) []))]⟩), (3, ⟨true, [.own 1 (List.map eI ((g.Roots.take i).foldl (dfs g (g.O.length + 1)) []))]⟩), (4, ⟨true, [.func (.func 60) [] [.lv 2 [] 0, .lv 3 [] 0, .lv 0 [] 0, .lv 4 [] 0]]⟩)]⟩) (fun i => i ≤ g.Roots.length ∧ Step g [] (g.Roots.take i) ((g.Roots.take i).foldl (dfs g (g.O.length + 1)) [])) (fun i => g.Roots.length - i) (0) ?_ ⟨Nat.zero_le _, by simpa using Step.nil (Good.nil g)⟩ (fun i ⟨h1, hs⟩ => ?_)
    · refine Sh.trans (Sh.nilCell 3 [] 0 1 (by simp [go_sem, reduceIte, reduceCtorEq, reduceEqDiff, reduceAdd, reduceLT, reduceLeDiff, reduceToNat]) rfl) (Sh.wk0 ?_); simp [Wk, go_sem, reduceIte, reduceCtorEq, reduceEqDiff, reduceAdd, reduceLT, reduceLeDiff, reduceToNat, ex_func, SubL, Sub, eGraph, wasMap]
    refine CW.seq ?_
    refine CW.region (by kernel_rfl) (by kernel_rfl) ?_ -- r8
    refine CWops.run htt 1 (by simp only [go_sem, reduceIte, reduceCtorEq, reduceEqDiff, reduceAdd, reduceLT, reduceLeDiff, reduceToNat]; exact rfl) (by simp [go_sem, reduceIte, reduceCtorEq, reduceEqDiff, reduceAdd, reduceLT, reduceLeDiff, reduceToNat]) ?_
    refine CWops.done ?_
    refine CW.seq ?_
    refine CW.cond (by simp only [go_sem, reduceIte, reduceCtorEq, reduceEqDiff, reduceAdd, reduceLT, reduceLeDiff, reduceToNat]; first | done | exact rfl) (fun ct18 => ?_) (fun ct18 => ?_)
    · have hi : i < g.Roots.length := by simpa using ct18
      obtain ⟨x, hx⟩ : ∃ x, g.Roots[i]? = some x := ⟨g.Roots[i], List.getElem?_eq_getElem hi⟩
      refine CW.skip ?_
      refine CW.seq ?_
      refine CW.block ?_
      refine CW.seq ?_
      refine CW.region (by kernel_rfl) (by kernel_rfl) ?_ -- r9
      refine CWops.run htt 3 (by simp only [go_sem, reduceIte, reduceCtorEq, reduceEqDiff, reduceAdd, reduceLT, reduceLeDiff, reduceToNat, hx, eI]; exact rfl) (by simp [go_sem, reduceIte, reduceCtorEq, reduceEqDiff, reduceAdd, reduceLT, reduceLeDiff, reduceToNat, hx, eI]) ?_
      refine CWops.done ?_
      refine CW.region (by kernel_rfl) (by kernel_rfl) ?_ -- r10
      refine CWops.run htt 2 (by simp only [go_sem, reduceIte, reduceCtorEq, reduceEqDiff, reduceAdd, reduceLT, reduceLeDiff, reduceToNat]; exact rfl) (by simp [go_sem, reduceIte, reduceCtorEq, reduceEqDiff, reduceAdd, reduceLT, reduceLeDiff, reduceToNat]) ?_
      refine CWops.callG [2, 3, 0, 4] rfl (come up g hm (g.O.length + 1) ((g.Roots.take i).foldl (dfs g (g.O.length + 1)) []) x hs.good (hm.root x (List.mem_of_getElem? hx)) (by omega)) (by simp only [go_sem, reduceIte, reduceCtorEq, reduceEqDiff, reduceAdd, reduceLT, reduceLeDiff, reduceToNat]) (by simp only [go_sem, reduceIte, reduceCtorEq, reduceEqDiff, reduceAdd, reduceLT, reduceLeDiff, reduceToNat]; first | done | exact rfl) (by decide) (by simp [go_sem, reduceIte, reduceCtorEq, reduceEqDiff, reduceAdd, reduceLT, reduceLeDiff, reduceToNat, mName, memB, ex_func, SubL, Sub, eGraph]) (by simp [go_sem, reduceIte, reduceCtorEq, reduceEqDiff, reduceAdd, reduceLT, reduceLeDiff, reduceToNat, mName, ex_func, SubL, Sub, eGraph]) (by simp [go_sem, reduceIte, reduceCtorEq, reduceEqDiff, reduceAdd, reduceLT, reduceLeDiff, reduceToNat, ex_func, SubL, Sub, eGraph]) (by intro x hx; rcases x with _ | _ | _ | _ | x <;> first | (simp [go_sem, reduceIte, reduceCtorEq, reduceEqDiff, reduceAdd, reduceLT, reduceLeDiff, reduceToNat]; done) | omega | (simp at hx; done) | (simp at hx; omega)) (by simp [go_sem, reduceIte, reduceCtorEq, reduceEqDiff, reduceAdd, reduceLT, reduceLeDiff, reduceToNat, mName, ex_func, SubL, Sub, eGraph]) (fun r σ' hσ => ?_)
      obtain ⟨t', rfl⟩ := hσ
      simp only [aftS, renS, delAll, memB, mName, List.getD_nil, killH, kref, ren, Nat.beq_eq, go_sem, reduceIte, reduceCtorEq, reduceEqDiff, reduceAdd, reduceLT, reduceLeDiff, reduceToNat]
      refine CWops.done ?_
      refine CW.region (by kernel_rfl) (by kernel_rfl) ?_ -- r11
      refine CWops.run htt 2 (by simp only [go_sem, reduceIte, reduceCtorEq, reduceEqDiff, reduceAdd, reduceLT, reduceLeDiff, reduceToNat, wrap_succ (show i < MX by unfold MX; omega)]; exact rfl) (by simp [go_sem, reduceIte, reduceCtorEq, reduceEqDiff, reduceAdd, reduceLT, reduceLeDiff, reduceToNat, wrap_succ (show i < MX by unfold MX; omega)]) ?_
      refine CWops.done ?_
      refine ⟨i + 1, ?_, ?_, ?_⟩
      · refine Sh.wk0 ?_; simp [Wk, go_sem, reduceIte, reduceCtorEq, reduceEqDiff, reduceAdd, reduceLT, reduceLeDiff, reduceToNat, ex_func, SubL, Sub, eGraph, List.take_add_one, hx]
      · refine ⟨hi, ?_⟩
        rw [List.take_add_one, hx, Option.toList_some, List.foldl_append]
        exact hs.app (dfs_step hm _ hs.good (hm.root x (List.mem_of_getElem? hx)) (by omega))
      · simp only; omega
    · have hi : i = g.Roots.length := by simp at ct18; omega
      have hdf : g.Roots.foldl (dfs g (g.O.length + 1)) [] = dfsL g := rfl
      rw [hi, List.take_length, hdf]
      refine CW.exit ?_
      refine CW.seq ?_
      refine CW.sh (Sh.out 3 0 rfl rfl rfl) ?_
      simp only [go_sem, reduceIte, reduceCtorEq, reduceEqDiff, reduceAdd, reduceLT, reduceLeDiff, reduceToNat, mapT, mapS, outF, List.map_cons, List.map_nil, putAt, List.set_cons_zero]
      refine CW.region (by kernel_rfl) (by kernel_rfl) ?_ -- r12
      refine CWops.run htt 1 (by simp only [go_sem, reduceIte, reduceCtorEq, reduceEqDiff, reduceAdd, reduceLT, reduceLeDiff, reduceToNat]; exact rfl) (by simp [go_sem, reduceIte, reduceCtorEq, reduceEqDiff, reduceAdd, reduceLT, reduceLeDiff, reduceToNat]) ?_
      refine CWops.callGH [5] rfl (slices_Sort up (dfsL g) (by have := (dfsL_step hm).good.len; omega)) (by decide) (by simp only [go_sem, reduceIte, reduceCtorEq, reduceEqDiff, reduceAdd, reduceLT, reduceLeDiff, reduceToNat]) (by simp only [go_sem, reduceIte, reduceCtorEq, reduceEqDiff, reduceAdd, reduceLT, reduceLeDiff, reduceToNat]; first | done | exact rfl) (by decide) (by simp [go_sem, reduceIte, reduceCtorEq, reduceEqDiff, reduceAdd, reduceLT, reduceLeDiff, reduceToNat, mName, memB]) (by simp [go_sem, reduceIte, reduceCtorEq, reduceEqDiff, reduceAdd, reduceLT, reduceLeDiff, reduceToNat, mName]) (by simp [go_sem, reduceIte, reduceCtorEq, reduceEqDiff, reduceAdd, reduceLT, reduceLeDiff, reduceToNat]) (by simp [go_sem, reduceIte, reduceCtorEq, reduceEqDiff, reduceAdd, reduceLT, reduceLeDiff, reduceToNat]) (by simp [go_sem, reduceIte, reduceCtorEq, reduceEqDiff, reduceAdd, reduceLT, reduceLeDiff, reduceToNat, mName]) (fun r σ' hσ => ?_)
      obtain ⟨σn, σt, σs⟩ := σ'
      simp only at hσ
      obtain ⟨m, rfl, rfl, hm2⟩ := hσ
      simp only [aftH, renS, List.map_cons, List.map_nil, delAll, memB, mName, List.getD_nil, killH, kref, ren, Nat.beq_eq, go_sem, reduceIte, reduceCtorEq, reduceEqDiff, reduceAdd, reduceLT, reduceLeDiff, reduceToNat]
      refine CWops.done ?_
      refine CW.seq ?_
      refine CW.region (by kernel_rfl) (by kernel_rfl) ?_ -- r13
      refine CWops.run htt 2 (by simp only [go_sem, reduceIte, reduceCtorEq, reduceEqDiff, reduceAdd, reduceLT, reduceLeDiff, reduceToNat]; exact rfl) (by simp [go_sem, reduceIte, reduceCtorEq, reduceEqDiff, reduceAdd, reduceLT, reduceLeDiff, reduceToNat]) ?_
      refine CWops.done ?_
      refine CW.ret ?_
      refine retQ.ret (by simp only [f29, go_sem, reduceIte, reduceCtorEq, reduceEqDiff, reduceAdd, reduceLT, reduceLeDiff, reduceToNat]; exact rfl) (by simp only [go_sem, reduceIte, reduceCtorEq, reduceEqDiff, reduceAdd, reduceLT, reduceLeDiff, reduceToNat]; exact rfl) ?_ -- ret2
      refine ⟨_, ?_, rfl⟩
      have : gReach g = m := (dfsL_sorted hm hm2).symm
      simp [go_sem, reduceIte, reduceCtorEq, reduceEqDiff, reduceAdd, reduceLT, reduceLeDiff, reduceToNat, leP, leL, AV.freeze, frz_I, this]
end Go.Ab
namespace Go.Ab
open Go Go.Proofs.Try
open Nat (reduceEqDiff reduceAdd reduceLT reduceLeDiff reduceBEq reduceSub reduceMul)
open Int (reduceToNat)
set_option maxRecDepth 100000
set_option maxHeartbeats 1600000
set_option linter.unusedSimpArgs false
set_option linter.unusedVariables false
theorem law09_CanonOnce (up : Bool) (g : Graph) : PCall prog up 6 [.agg (eGraph g)] (· = .bool true) := by
  refine PCall.intro htt func6 (by kernel_rfl) rfl (Nat.le_of_ble_eq_true rfl) fun hl => ?_

  simp only [tmps0, Nat.reduceAdd]
  refine CW.seq ?_
  refine CW.region (by kernel_rfl) (by kernel_rfl) ?_ -- r0
  refine CWops.run htt 2 (by simp only [go_sem, reduceIte, reduceCtorEq, reduceEqDiff, reduceAdd, reduceLT, reduceLeDiff, reduceToNat, eGraph]; exact rfl) (by simp [go_sem, reduceIte, reduceCtorEq, reduceEqDiff, reduceAdd, reduceLT, reduceLeDiff, reduceToNat, eGraph]) ?_
  refine CWops.done ?_
  refine CW.seq ?_
  refine CW.region (by kernel_rfl) (by kernel_rfl) ?_ -- r1
  refine CWops.callA (law09_awake up) (by simp only [go_sem, reduceIte, reduceCtorEq, reduceEqDiff, reduceAdd, reduceLT, reduceLeDiff, reduceToNat]) (by simp only [go_sem, reduceIte, reduceCtorEq, reduceEqDiff, reduceAdd, reduceLT, reduceLeDiff, reduceToNat]; first | done | exact rfl) (by simp only [go_sem, reduceIte, reduceCtorEq, reduceEqDiff, reduceAdd, reduceLT, reduceLeDiff, reduceToNat]) (by simp only [go_sem, reduceIte, reduceCtorEq, reduceEqDiff, reduceAdd, reduceLT, reduceLeDiff, reduceToNat]) (fun rt11 hrt11 => ?_)
  subst hrt11
  refine CWops.run htt 1 (by simp only [go_sem, reduceIte, reduceCtorEq, reduceEqDiff, reduceAdd, reduceLT, reduceLeDiff, reduceToNat]; exact rfl) (by simp [go_sem, reduceIte, reduceCtorEq, reduceEqDiff, reduceAdd, reduceLT, reduceLeDiff, reduceToNat]) ?_
  refine CWops.done ?_
  refine CW.seq ?_
  refine CW.region (by kernel_rfl) (by kernel_rfl) ?_ -- r2
  refine CWops.run htt 1 (by simp only [go_sem, reduceIte, reduceCtorEq, reduceEqDiff, reduceAdd, reduceLT, reduceLeDiff, reduceToNat, eGraph]; exact rfl) (by simp [go_sem, reduceIte, reduceCtorEq, reduceEqDiff, reduceAdd, reduceLT, reduceLeDiff, reduceToNat, eGraph]) ?_
  refine CWops.call (law08_Few up g) (by simp only [go_sem, reduceIte, reduceCtorEq, reduceEqDiff, reduceAdd, reduceLT, reduceLeDiff, reduceToNat, eGraph]) (by simp only [go_sem, reduceIte, reduceCtorEq, reduceEqDiff, reduceAdd, reduceLT, reduceLeDiff, reduceToNat, eGraph]; first | done | exact rfl) (by simp only [go_sem, reduceIte, reduceCtorEq, reduceEqDiff, reduceAdd, reduceLT, reduceLeDiff, reduceToNat, eGraph]) (fun rt13 hrt13 => ?_)
  subst hrt13; refine ⟨rfl, ?_⟩
  refine CWops.run htt 1 (by simp only [go_sem, reduceIte, reduceCtorEq, reduceEqDiff, reduceAdd, reduceLT, reduceLeDiff, reduceToNat, eGraph]; exact rfl) (by simp [go_sem, reduceIte, reduceCtorEq, reduceEqDiff, reduceAdd, reduceLT, reduceLeDiff, reduceToNat, eGraph]) ?_
  refine CWops.done ?_
  refine CW.seq ?_
  refine CW.cut ⟨1, [(1, .lv 0 [] 0), (3, .bool true), (24, .bool (!(fewG g && gMay g)))], [(0, ⟨true, eGraph g⟩)]⟩ ?_ ?_
  · refine CW.region (by kernel_rfl) (by kernel_rfl) ?_ -- r3
    refine CWops.run htt 3 (by simp only [go_sem, reduceIte, reduceCtorEq, reduceEqDiff, reduceAdd, reduceLT, reduceLeDiff, reduceToNat, eGraph]; exact rfl) (by simp [go_sem, reduceIte, reduceCtorEq, reduceEqDiff, reduceAdd, reduceLT, reduceLeDiff, reduceToNat, eGraph]) ?_
    all_goals (first | refine CWops.guard 16 (by simp only [go_sem, reduceIte, reduceCtorEq, reduceEqDiff, reduceAdd, reduceLT, reduceLeDiff, reduceToNat, eGraph]; exact rfl) (fun g16 => ?_) (fun g16 => ?_) | skip)
    all_goals (refine CWops.run htt 4 (by simp only [go_sem, reduceIte, reduceCtorEq, reduceEqDiff, reduceAdd, reduceLT, reduceLeDiff, reduceToNat, eGraph]; exact rfl) (by simp [go_sem, reduceIte, reduceCtorEq, reduceEqDiff, reduceAdd, reduceLT, reduceLeDiff, reduceToNat, eGraph]) ?_)
    all_goals (first | refine CWops.guard 20 (by simp only [go_sem, reduceIte, reduceCtorEq, reduceEqDiff, reduceAdd, reduceLT, reduceLeDiff, reduceToNat, eGraph]; exact rfl) (fun g20 => ?_) (fun g20 => ?_) | skip)
    all_goals (refine CWops.run htt 1 (by simp only [go_sem, reduceIte, reduceCtorEq, reduceEqDiff, reduceAdd, reduceLT, reduceLeDiff, reduceToNat, eGraph]; exact rfl) (by simp [go_sem, reduceIte, reduceCtorEq, reduceEqDiff, reduceAdd, reduceLT, reduceLeDiff, reduceToNat, eGraph]) ?_)
    all_goals (first | (refine CWops.skip ?_ ?_; next => (simp only [go_sem, reduceIte, reduceCtorEq, reduceEqDiff, reduceAdd, reduceLT, reduceLeDiff, reduceToNat]; done)) | (refine CWops.call (graph_May up g) (by simp only [go_sem, reduceIte, reduceCtorEq, reduceEqDiff, reduceAdd, reduceLT, reduceLeDiff, reduceToNat, eGraph]) (by simp only [go_sem, reduceIte, reduceCtorEq, reduceEqDiff, reduceAdd, reduceLT, reduceLeDiff, reduceToNat, eGraph]; first | done | exact rfl) (by simp only [go_sem, reduceIte, reduceCtorEq, reduceEqDiff, reduceAdd, reduceLT, reduceLeDiff, reduceToNat, eGraph]) (fun rt22 hrt22 => ?_); subst hrt22; refine ⟨rfl, ?_⟩))
    all_goals (refine CWops.run htt 2 (by simp only [go_sem, reduceIte, reduceCtorEq, reduceEqDiff, reduceAdd, reduceLT, reduceLeDiff, reduceToNat, eGraph]; exact rfl) (by simp [go_sem, reduceIte, reduceCtorEq, reduceEqDiff, reduceAdd, reduceLT, reduceLeDiff, reduceToNat, eGraph]) ?_)
    all_goals (refine CWops.done ?_)
    all_goals (
      first | refine ⟨rfl, Sh.wk0 ?_⟩ | refine Sh.wk0 ?_
      simp_all [Wk, go_sem, reduceIte, reduceCtorEq, reduceEqDiff, reduceAdd, reduceLT, reduceLeDiff, reduceToNat, eGraph, eVal] <;> first | done | rfl | omega | (intro h; omega) | (rw [Bool.eq_iff_iff]; simp; done))
  refine CW.cond (by simp only [go_sem, reduceIte, reduceCtorEq, reduceEqDiff, reduceAdd, reduceLT, reduceLeDiff, reduceToNat]; first | done | exact rfl) (fun ct24 => ?_) (fun ct24 => ?_)
  · refine CW.seq ?_
    refine CW.region (by kernel_rfl) (by kernel_rfl) ?_ -- r4
    refine CWops.run htt 2 (by simp only [go_sem, reduceIte, reduceCtorEq, reduceEqDiff, reduceAdd, reduceLT, reduceLeDiff, reduceToNat]; exact rfl) (by simp [go_sem, reduceIte, reduceCtorEq, reduceEqDiff, reduceAdd, reduceLT, reduceLeDiff, reduceToNat]) ?_
    refine CWops.done ?_
    refine CW.ret ?_
    refine retQ.ret (by simp only [f6, go_sem, reduceIte, reduceCtorEq, reduceEqDiff, reduceAdd, reduceLT, reduceLeDiff, reduceToNat]; exact rfl) (by simp only [go_sem, reduceIte, reduceCtorEq, reduceEqDiff, reduceAdd, reduceLT, reduceLeDiff, reduceToNat]; exact rfl) ?_ -- ret1
    refine ⟨_, ?_, rfl⟩
    first | (simp [leP]; done) | (simp_all [leP]; done)
  · simp only [Bool.not_eq_false', Bool.and_eq_true] at ct24
    obtain ⟨hfew, hm⟩ := ct24
    obtain ⟨o1, o2, o3, o4, o5, o6, o7, o8, o9⟩ := once_facts hm
    refine CW.skip ?_
    refine CW.seq ?_
    refine CW.region (by kernel_rfl) (by kernel_rfl) ?_ -- r5
    refine CWops.run htt 1 (by simp only [go_sem, reduceIte, reduceCtorEq, reduceEqDiff, reduceAdd, reduceLT, reduceLeDiff, reduceToNat, eGraph]; exact rfl) (by simp [go_sem, reduceIte, reduceCtorEq, reduceEqDiff, reduceAdd, reduceLT, reduceLeDiff, reduceToNat, eGraph]) ?_
    refine CWops.callA (canon_Canon up g) (by simp only [go_sem, reduceIte, reduceCtorEq, reduceEqDiff, reduceAdd, reduceLT, reduceLeDiff, reduceToNat, eGraph]) (by simp only [go_sem, reduceIte, reduceCtorEq, reduceEqDiff, reduceAdd, reduceLT, reduceLeDiff, reduceToNat, eGraph]; first | done | exact rfl) (by simp only [go_sem, reduceIte, reduceCtorEq, reduceEqDiff, reduceAdd, reduceLT, reduceLeDiff, reduceToNat, eGraph]) (by simp only [go_sem, reduceIte, reduceCtorEq, reduceEqDiff, reduceAdd, reduceLT, reduceLeDiff, reduceToNat, eGraph]) (fun rt27 hrt27 => ?_)
    subst hrt27
    refine CWops.run htt 2 (by simp only [go_sem, reduceIte, reduceCtorEq, reduceEqDiff, reduceAdd, reduceLT, reduceLeDiff, reduceToNat, eGraph]; exact rfl) (by simp [go_sem, reduceIte, reduceCtorEq, reduceEqDiff, reduceAdd, reduceLT, reduceLeDiff, reduceToNat, eGraph]) ?_
    refine CWops.done ?_
    refine CW.seq ?_
    refine CW.region (by kernel_rfl) (by kernel_rfl) ?_ -- r6
    refine CWops.run htt 1 (by simp only [go_sem, reduceIte, reduceCtorEq, reduceEqDiff, reduceAdd, reduceLT, reduceLeDiff, reduceToNat, eGraph]; exact rfl) (by simp [go_sem, reduceIte, reduceCtorEq, reduceEqDiff, reduceAdd, reduceLT, reduceLeDiff, reduceToNat, eGraph]) ?_
    refine CWops.callA (canon_Order up g) (by simp only [go_sem, reduceIte, reduceCtorEq, reduceEqDiff, reduceAdd, reduceLT, reduceLeDiff, reduceToNat, eGraph]) (by simp only [go_sem, reduceIte, reduceCtorEq, reduceEqDiff, reduceAdd, reduceLT, reduceLeDiff, reduceToNat, eGraph]; first | done | exact rfl) (by simp only [go_sem, reduceIte, reduceCtorEq, reduceEqDiff, reduceAdd, reduceLT, reduceLeDiff, reduceToNat, eGraph]) (by simp only [go_sem, reduceIte, reduceCtorEq, reduceEqDiff, reduceAdd, reduceLT, reduceLeDiff, reduceToNat, eGraph]) (fun rt29 hrt29 => ?_)
    subst hrt29
    refine CWops.run htt 1 (by simp only [go_sem, reduceIte, reduceCtorEq, reduceEqDiff, reduceAdd, reduceLT, reduceLeDiff, reduceToNat, eGraph]; exact rfl) (by simp [go_sem, reduceIte, reduceCtorEq, reduceEqDiff, reduceAdd, reduceLT, reduceLeDiff, reduceToNat, eGraph]) ?_
    refine CWops.done ?_
    refine CW.seq ?_
    refine CW.region (by kernel_rfl) (by kernel_rfl) ?_ -- r7
    refine CWops.run htt 1 (by simp only [go_sem, reduceIte, reduceCtorEq, reduceEqDiff, reduceAdd, reduceLT, reduceLeDiff, reduceToNat, eGraph]; exact rfl) (by simp [go_sem, reduceIte, reduceCtorEq, reduceEqDiff, reduceAdd, reduceLT, reduceLeDiff, reduceToNat, eGraph]) ?_
    refine CWops.callA (graph_Reach up g) (by simp only [go_sem, reduceIte, reduceCtorEq, reduceEqDiff, reduceAdd, reduceLT, reduceLeDiff, reduceToNat, eGraph]) (by simp only [go_sem, reduceIte, reduceCtorEq, reduceEqDiff, reduceAdd, reduceLT, reduceLeDiff, reduceToNat, eGraph]; first | done | exact rfl) (by simp only [go_sem, reduceIte, reduceCtorEq, reduceEqDiff, reduceAdd, reduceLT, reduceLeDiff, reduceToNat, eGraph]) (by simp only [go_sem, reduceIte, reduceCtorEq, reduceEqDiff, reduceAdd, reduceLT, reduceLeDiff, reduceToNat, eGraph]) (fun rt31 hrt31 => ?_)
    subst hrt31
    refine CWops.run htt 1 (by simp only [go_sem, reduceIte, reduceCtorEq, reduceEqDiff, reduceAdd, reduceLT, reduceLeDiff, reduceToNat, eGraph]; exact rfl) (by simp [go_sem, reduceIte, reduceCtorEq, reduceEqDiff, reduceAdd, reduceLT, reduceLeDiff, reduceToNat, eGraph]) ?_
    refine CWops.done ?_
    refine CW.seq ?_
    refine CW.seq ?_
    refine CW.region (by kernel_rfl) (by kernel_rfl) ?_ -- r8
    refine CWops.run htt 1 (by simp only [go_sem, reduceIte, reduceCtorEq, reduceEqDiff, reduceAdd, reduceLT, reduceLeDiff, reduceToNat]; exact rfl) (by simp [go_sem, reduceIte, reduceCtorEq, reduceEqDiff, reduceAdd, reduceLT, reduceLeDiff, reduceToNat]) ?_
    refine CWops.done ?_
    refine CW.block ?_
    refine CW.loop (S := Nat) (fun i => ⟨2, [(1, .lv 0 [] 0), (3, .bool true), (5, .lv 1 [] 0), (6, .sl 1 ((gOrder g).map eI)), (7, .sl 1 ((gReach g).map eI)), (8, .int .i64 i)], [(0, ⟨true, eGraph g⟩), (1, ⟨true, eGraph (gCanon g)⟩)]⟩) (fun i => i ≤ (gOrder g).length) (fun i => (gOrder g).length - i) (0) ?_ (Nat.zero_le _) (fun i h1 => ?_)
    · refine Sh.wk0 ?_; simp [Wk, go_sem, reduceIte, reduceCtorEq, reduceEqDiff, reduceAdd, reduceLT, reduceLeDiff, reduceToNat, eGraph]
    refine CW.seq ?_
    refine CW.seq ?_
    refine CW.region (by kernel_rfl) (by kernel_rfl) ?_ -- r9
    refine CWops.run htt 4 (by simp only [go_sem, reduceIte, reduceCtorEq, reduceEqDiff, reduceAdd, reduceLT, reduceLeDiff, reduceToNat]; exact rfl) (by simp [go_sem, reduceIte, reduceCtorEq, reduceEqDiff, reduceAdd, reduceLT, reduceLeDiff, reduceToNat]) ?_
    refine CWops.done ?_
    refine CW.cond (by simp only [go_sem, reduceIte, reduceCtorEq, reduceEqDiff, reduceAdd, reduceLT, reduceLeDiff, reduceToNat]; first | done | exact rfl) (fun ct35 => ?_) (fun ct35 => ?_)
    · have hi : i < (gOrder g).length := by simpa using ct35
      obtain ⟨x, hx⟩ : ∃ x, (gOrder g)[i]? = some x := ⟨(gOrder g)[i], List.getElem?_eq_getElem hi⟩
      have hin := o7 i x hx
      refine CW.skip ?_
      refine CW.seq ?_
      refine CW.block ?_
      refine CW.seq ?_
      refine CW.region (by kernel_rfl) (by kernel_rfl) ?_ -- r11
      refine CWops.run htt 5 (by simp only [go_sem, reduceIte, reduceCtorEq, reduceEqDiff, reduceAdd, reduceLT, reduceLeDiff, reduceToNat, hx, eI, hi]; exact rfl) (by simp [go_sem, reduceIte, reduceCtorEq, reduceEqDiff, reduceAdd, reduceLT, reduceLeDiff, reduceToNat, hx, eI, hi]) ?_
      refine CWops.call (ref08_Has up (gReach g) x) (by simp only [go_sem, reduceIte, reduceCtorEq, reduceEqDiff, reduceAdd, reduceLT, reduceLeDiff, reduceToNat, hx, eI, hi]) (by simp only [go_sem, reduceIte, reduceCtorEq, reduceEqDiff, reduceAdd, reduceLT, reduceLeDiff, reduceToNat, hx, eI, hi]; first | done | exact rfl) (by simp only [go_sem, reduceIte, reduceCtorEq, reduceEqDiff, reduceAdd, reduceLT, reduceLeDiff, reduceToNat, hx, eI, hi]) (fun rt43 hrt43 => ?_)
      subst hrt43; refine ⟨rfl, ?_⟩
      refine CWops.run htt 1 (by simp only [go_sem, reduceIte, reduceCtorEq, reduceEqDiff, reduceAdd, reduceLT, reduceLeDiff, reduceToNat, hx, eI, hi]; exact rfl) (by simp [go_sem, reduceIte, reduceCtorEq, reduceEqDiff, reduceAdd, reduceLT, reduceLeDiff, reduceToNat, hx, eI, hi]) ?_
      refine CWops.done ?_
      refine CW.seq ?_
      refine CW.region (by kernel_rfl) (by kernel_rfl) ?_ -- r12
      refine CWops.run htt 2 (by simp only [go_sem, reduceIte, reduceCtorEq, reduceEqDiff, reduceAdd, reduceLT, reduceLeDiff, reduceToNat, any_mem, hin, decide_true]; exact rfl) (by simp [go_sem, reduceIte, reduceCtorEq, reduceEqDiff, reduceAdd, reduceLT, reduceLeDiff, reduceToNat, any_mem, hin, decide_true]) ?_
      refine CWops.done ?_
      refine CW.cond (by simp only [go_sem, reduceIte, reduceCtorEq, reduceEqDiff, reduceAdd, reduceLT, reduceLeDiff, reduceToNat]; first | done | exact rfl) (fun ct45 => ?_) (fun ct45 => ?_)
      · exfalso; simp at ct45 
      · refine CW.skip ?_
        refine CW.region (by kernel_rfl) (by kernel_rfl) ?_ -- r10
        refine CWops.run htt 3 (by simp only [go_sem, reduceIte, reduceCtorEq, reduceEqDiff, reduceAdd, reduceLT, reduceLeDiff, reduceToNat, wrap_succ (show i < MX by unfold MX; omega)]; exact rfl) (by simp [go_sem, reduceIte, reduceCtorEq, reduceEqDiff, reduceAdd, reduceLT, reduceLeDiff, reduceToNat, wrap_succ (show i < MX by unfold MX; omega)]) ?_
        refine CWops.done ?_
        refine ⟨i + 1, ?_, ?_, ?_⟩
        · refine Sh.wk0 ?_; simp [Wk, go_sem, reduceIte, reduceCtorEq, reduceEqDiff, reduceAdd, reduceLT, reduceLeDiff, reduceToNat, eGraph]
        · exact hi
        · simp only; omega
    · have hi : i = (gOrder g).length := by simp at ct35; omega
      refine CW.exit ?_
      refine CW.seq ?_
      refine CW.seq ?_
      refine CW.region (by kernel_rfl) (by kernel_rfl) ?_ -- r14
      refine CWops.run htt 1 (by simp only [go_sem, reduceIte, reduceCtorEq, reduceEqDiff, reduceAdd, reduceLT, reduceLeDiff, reduceToNat]; exact rfl) (by simp [go_sem, reduceIte, reduceCtorEq, reduceEqDiff, reduceAdd, reduceLT, reduceLeDiff, reduceToNat]) ?_
      refine CWops.done ?_
      refine CW.block ?_
      refine CW.loop (S := Nat) (fun j => ⟨2, [(1, .lv 0 [] 0), (3, .bool true), (5, .lv 1 [] 0), (6, .sl 1 ((gOrder g).map eI)), (7, .sl 1 ((gReach g).map eI)), (10, .int .i64 j)], [(0, ⟨true, eGraph g⟩), (1, ⟨true, eGraph (gCanon g)⟩)]⟩) (fun j => j ≤ (gCanon g).O.length) (fun j => (gCanon g).O.length - j) (0) ?_ (Nat.zero_le _) (fun j h1 => ?_)
      · refine Sh.wk0 ?_; simp [Wk, go_sem, reduceIte, reduceCtorEq, reduceEqDiff, reduceAdd, reduceLT, reduceLeDiff, reduceToNat, eGraph]
      refine CW.seq ?_
      refine CW.seq ?_
      refine CW.region (by kernel_rfl) (by kernel_rfl) ?_ -- r15
      refine CWops.run htt 5 (by simp only [go_sem, reduceIte, reduceCtorEq, reduceEqDiff, reduceAdd, reduceLT, reduceLeDiff, reduceToNat, eGraph]; exact rfl) (by simp [go_sem, reduceIte, reduceCtorEq, reduceEqDiff, reduceAdd, reduceLT, reduceLeDiff, reduceToNat, eGraph]) ?_
      refine CWops.done ?_
      refine CW.cond (by simp only [go_sem, reduceIte, reduceCtorEq, reduceEqDiff, reduceAdd, reduceLT, reduceLeDiff, reduceToNat]; first | done | exact rfl) (fun ct50 => ?_) (fun ct50 => ?_)
      · have hj : j < (gCanon g).O.length := by simpa using ct50
        obtain ⟨y, hy⟩ : ∃ x, (gCanon g).O[j]? = some x := ⟨(gCanon g).O[j], List.getElem?_eq_getElem hj⟩
        have hid := o8 j y hy
        refine CW.skip ?_
        refine CW.seq ?_
        refine CW.block ?_
        refine CW.seq ?_
        refine CW.region (by kernel_rfl) (by kernel_rfl) ?_ -- r17
        refine CWops.run htt 8 (by simp only [go_sem, reduceIte, reduceCtorEq, reduceEqDiff, reduceAdd, reduceLT, reduceLeDiff, reduceToNat, eGraph, hy, hj, eObj, hid]; exact rfl) (by simp [go_sem, reduceIte, reduceCtorEq, reduceEqDiff, reduceAdd, reduceLT, reduceLeDiff, reduceToNat, eGraph, hy, hj, eObj, hid]) ?_
        refine CWops.done ?_
        refine CW.cond (by simp only [go_sem, reduceIte, reduceCtorEq, reduceEqDiff, reduceAdd, reduceLT, reduceLeDiff, reduceToNat]; first | done | exact rfl) (fun ct60 => ?_) (fun ct60 => ?_)
        · exfalso; simp at ct60 
        · refine CW.skip ?_
          refine CW.region (by kernel_rfl) (by kernel_rfl) ?_ -- r16
          refine CWops.run htt 3 (by simp only [go_sem, reduceIte, reduceCtorEq, reduceEqDiff, reduceAdd, reduceLT, reduceLeDiff, reduceToNat, wrap_succ (show j < MX by unfold MX; omega)]; exact rfl) (by simp [go_sem, reduceIte, reduceCtorEq, reduceEqDiff, reduceAdd, reduceLT, reduceLeDiff, reduceToNat, wrap_succ (show j < MX by unfold MX; omega)]) ?_
          refine CWops.done ?_
          refine ⟨j + 1, ?_, ?_, ?_⟩
          · refine Sh.wk0 ?_; simp [Wk, go_sem, reduceIte, reduceCtorEq, reduceEqDiff, reduceAdd, reduceLT, reduceLeDiff, reduceToNat, eGraph]
          · exact hj
          · simp only; omega
      · have hj : j = (gCanon g).O.length := by simp at ct50; omega
        refine CW.exit ?_
        refine CW.seq ?_
        refine CW.drawn mixed 35 (by decide) (by kernel_rfl) (by kernel_rfl) (by kernel_rfl) ?_ -- r19
        refine Seg.run htt 1 (by simp only [go_sem, reduceIte, reduceCtorEq, reduceEqDiff, reduceAdd, reduceLT, reduceLeDiff, reduceToNat, eGraph, o1, o3, o4, o5, o6, decide_true]; exact rfl) ?_
        refine Seg.call (graph_May up (gCanon g)) (by simp only [go_sem, reduceIte, reduceCtorEq, reduceEqDiff, reduceAdd, reduceLT, reduceLeDiff, reduceToNat, eGraph, o1, o3, o4, o5, o6, decide_true]) (by simp only [go_sem, reduceIte, reduceCtorEq, reduceEqDiff, reduceAdd, reduceLT, reduceLeDiff, reduceToNat, eGraph, o1, o3, o4, o5, o6, decide_true]; first | done | exact rfl) (by simp only [go_sem, reduceIte, reduceCtorEq, reduceEqDiff, reduceAdd, reduceLT, reduceLeDiff, reduceToNat, eGraph, o1, o3, o4, o5, o6, decide_true]) (by simp only [go_sem, reduceIte, reduceCtorEq, reduceEqDiff, reduceAdd, reduceLT, reduceLeDiff, reduceToNat, eGraph, o1, o3, o4, o5, o6, decide_true]) rfl ?_
        refine Seg.run htt 1 (by simp only [go_sem, reduceIte, reduceCtorEq, reduceEqDiff, reduceAdd, reduceLT, reduceLeDiff, reduceToNat, eGraph, o1, o3, o4, o5, o6, decide_true]; exact rfl) ?_
        all_goals (first | refine Seg.guard 63 (by simp only [go_sem, reduceIte, reduceCtorEq, reduceEqDiff, reduceAdd, reduceLT, reduceLeDiff, reduceToNat, eGraph, o1, o3, o4, o5, o6, decide_true]; exact rfl) (fun g63 => ?_) (fun g63 => ?_) | skip)
        all_goals (first | (simp at g63; done) | (cases g63; done) | skip)
        all_goals (refine Seg.run htt 1 (by simp only [go_sem, reduceIte, reduceCtorEq, reduceEqDiff, reduceAdd, reduceLT, reduceLeDiff, reduceToNat, eGraph, o1, o3, o4, o5, o6, decide_true]; exact rfl) ?_)
        all_goals (first | (refine Seg.skip ?_ ?_; next => (simp only [go_sem, reduceIte, reduceCtorEq, reduceEqDiff, reduceAdd, reduceLT, reduceLeDiff, reduceToNat]; done)) | (refine Seg.callA ((by have := canon_Canon up (gCanon g); rw [o2] at this; exact this)) (by simp only [go_sem, reduceIte, reduceCtorEq, reduceEqDiff, reduceAdd, reduceLT, reduceLeDiff, reduceToNat, eGraph, o1, o3, o4, o5, o6, decide_true]) (by simp only [go_sem, reduceIte, reduceCtorEq, reduceEqDiff, reduceAdd, reduceLT, reduceLeDiff, reduceToNat, eGraph, o1, o3, o4, o5, o6, decide_true]; first | done | exact rfl) (by simp only [go_sem, reduceIte, reduceCtorEq, reduceEqDiff, reduceAdd, reduceLT, reduceLeDiff, reduceToNat, eGraph, o1, o3, o4, o5, o6, decide_true]) (by simp only [go_sem, reduceIte, reduceCtorEq, reduceEqDiff, reduceAdd, reduceLT, reduceLeDiff, reduceToNat, eGraph, o1, o3, o4, o5, o6, decide_true]) ?_))
        all_goals (refine Seg.run htt 1 (by simp only [go_sem, reduceIte, reduceCtorEq, reduceEqDiff, reduceAdd, reduceLT, reduceLeDiff, reduceToNat, eGraph, o1, o3, o4, o5, o6, decide_true]; exact rfl) ?_)
        all_goals (first | (refine Seg.skip ?_ ?_; next => (simp only [go_sem, reduceIte, reduceCtorEq, reduceEqDiff, reduceAdd, reduceLT, reduceLeDiff, reduceToNat]; done)) | (refine Seg.call (graph_Same up (gCanon g) (gCanon g)) (by simp only [go_sem, reduceIte, reduceCtorEq, reduceEqDiff, reduceAdd, reduceLT, reduceLeDiff, reduceToNat, eGraph, o1, o3, o4, o5, o6, decide_true]) (by simp only [go_sem, reduceIte, reduceCtorEq, reduceEqDiff, reduceAdd, reduceLT, reduceLeDiff, reduceToNat, eGraph, o1, o3, o4, o5, o6, decide_true]; first | done | exact rfl) (by simp only [go_sem, reduceIte, reduceCtorEq, reduceEqDiff, reduceAdd, reduceLT, reduceLeDiff, reduceToNat, eGraph, o1, o3, o4, o5, o6, decide_true]) (by simp only [go_sem, reduceIte, reduceCtorEq, reduceEqDiff, reduceAdd, reduceLT, reduceLeDiff, reduceToNat, eGraph, o1, o3, o4, o5, o6, decide_true]) rfl ?_))
        all_goals (refine Seg.run htt 2 (by simp only [go_sem, reduceIte, reduceCtorEq, reduceEqDiff, reduceAdd, reduceLT, reduceLeDiff, reduceToNat, eGraph, o1, o3, o4, o5, o6, decide_true]; exact rfl) ?_)
        all_goals (first | refine Seg.guard 69 (by simp only [go_sem, reduceIte, reduceCtorEq, reduceEqDiff, reduceAdd, reduceLT, reduceLeDiff, reduceToNat, eGraph, o1, o3, o4, o5, o6, decide_true]; exact rfl) (fun g69 => ?_) (fun g69 => ?_) | skip)
        all_goals (first | (simp at g69; done) | (cases g69; done) | skip)
        all_goals (refine Seg.run htt 7 (by simp only [go_sem, reduceIte, reduceCtorEq, reduceEqDiff, reduceAdd, reduceLT, reduceLeDiff, reduceToNat, eGraph, o1, o3, o4, o5, o6, decide_true]; exact rfl) ?_)
        all_goals (first | refine Seg.guard 76 (by simp only [go_sem, reduceIte, reduceCtorEq, reduceEqDiff, reduceAdd, reduceLT, reduceLeDiff, reduceToNat, eGraph, o1, o3, o4, o5, o6, decide_true]; exact rfl) (fun g76 => ?_) (fun g76 => ?_) | skip)
        all_goals (first | (simp at g76; done) | (cases g76; done) | skip)
        all_goals (refine Seg.run htt 8 (by simp only [go_sem, reduceIte, reduceCtorEq, reduceEqDiff, reduceAdd, reduceLT, reduceLeDiff, reduceToNat, eGraph, o1, o3, o4, o5, o6, decide_true]; exact rfl) ?_)
        all_goals (first | refine Seg.guard 84 (by simp only [go_sem, reduceIte, reduceCtorEq, reduceEqDiff, reduceAdd, reduceLT, reduceLeDiff, reduceToNat, eGraph, o1, o3, o4, o5, o6, decide_true]; exact rfl) (fun g84 => ?_) (fun g84 => ?_) | skip)
        all_goals (first | (simp at g84; done) | (cases g84; done) | skip)
        all_goals (refine Seg.run htt 2 (by simp only [go_sem, reduceIte, reduceCtorEq, reduceEqDiff, reduceAdd, reduceLT, reduceLeDiff, reduceToNat, eGraph, o1, o3, o4, o5, o6, decide_true]; exact rfl) ?_)
        all_goals (first | (refine Seg.skip ?_ ?_; next => (simp only [go_sem, reduceIte, reduceCtorEq, reduceEqDiff, reduceAdd, reduceLT, reduceLeDiff, reduceToNat]; done)) | (refine Seg.call (canon_Iso up g (gCanon g)) (by simp only [go_sem, reduceIte, reduceCtorEq, reduceEqDiff, reduceAdd, reduceLT, reduceLeDiff, reduceToNat, eGraph, o1, o3, o4, o5, o6, decide_true]) (by simp only [go_sem, reduceIte, reduceCtorEq, reduceEqDiff, reduceAdd, reduceLT, reduceLeDiff, reduceToNat, eGraph, o1, o3, o4, o5, o6, decide_true]; first | done | exact rfl) (by simp only [go_sem, reduceIte, reduceCtorEq, reduceEqDiff, reduceAdd, reduceLT, reduceLeDiff, reduceToNat, eGraph, o1, o3, o4, o5, o6, decide_true]) (by simp only [go_sem, reduceIte, reduceCtorEq, reduceEqDiff, reduceAdd, reduceLT, reduceLeDiff, reduceToNat, eGraph, o1, o3, o4, o5, o6, decide_true]) rfl ?_))
        all_goals (refine Seg.run htt 2 (by simp only [go_sem, reduceIte, reduceCtorEq, reduceEqDiff, reduceAdd, reduceLT, reduceLeDiff, reduceToNat, eGraph, o1, o3, o4, o5, o6, decide_true]; exact rfl) ?_)
        all_goals (first | refine Seg.guard 89 (by simp only [go_sem, reduceIte, reduceCtorEq, reduceEqDiff, reduceAdd, reduceLT, reduceLeDiff, reduceToNat, eGraph, o1, o3, o4, o5, o6, decide_true]; exact rfl) (fun g89 => ?_) (fun g89 => ?_) | skip)
        all_goals (first | (simp at g89; done) | (cases g89; done) | skip)
        all_goals (refine Seg.run htt 1 (by simp only [go_sem, reduceIte, reduceCtorEq, reduceEqDiff, reduceAdd, reduceLT, reduceLeDiff, reduceToNat, eGraph, o1, o3, o4, o5, o6, decide_true]; exact rfl) ?_)
        all_goals (first | (refine Seg.skip ?_ ?_; next => (simp only [go_sem, reduceIte, reduceCtorEq, reduceEqDiff, reduceAdd, reduceLT, reduceLeDiff, reduceToNat]; done)) | (refine Seg.callA (graph_Reach up (gCanon g)) (by simp only [go_sem, reduceIte, reduceCtorEq, reduceEqDiff, reduceAdd, reduceLT, reduceLeDiff, reduceToNat, eGraph, o1, o3, o4, o5, o6, decide_true]) (by simp only [go_sem, reduceIte, reduceCtorEq, reduceEqDiff, reduceAdd, reduceLT, reduceLeDiff, reduceToNat, eGraph, o1, o3, o4, o5, o6, decide_true]; first | done | exact rfl) (by simp only [go_sem, reduceIte, reduceCtorEq, reduceEqDiff, reduceAdd, reduceLT, reduceLeDiff, reduceToNat, eGraph, o1, o3, o4, o5, o6, decide_true]) (by simp only [go_sem, reduceIte, reduceCtorEq, reduceEqDiff, reduceAdd, reduceLT, reduceLeDiff, reduceToNat, eGraph, o1, o3, o4, o5, o6, decide_true]) ?_))
        all_goals (refine Seg.run htt 4 (by simp only [go_sem, reduceIte, reduceCtorEq, reduceEqDiff, reduceAdd, reduceLT, reduceLeDiff, reduceToNat, eGraph, o1, o3, o4, o5, o6, decide_true]; exact rfl) ?_)
        all_goals (refine Seg.done ?_)
        all_goals (refine CWops.run htt 3 (by simp only [go_sem, reduceIte, reduceCtorEq, reduceEqDiff, reduceAdd, reduceLT, reduceLeDiff, reduceToNat, eGraph, o1, o3, o4, o5, o6, decide_true]; exact rfl) (by simp [go_sem, reduceIte, reduceCtorEq, reduceEqDiff, reduceAdd, reduceLT, reduceLeDiff, reduceToNat, eGraph, o1, o3, o4, o5, o6, decide_true]) ?_)
        all_goals (refine CWops.done ?_)
        all_goals (
          refine CW.ret ?_
          refine retQ.ret (by simp only [f6, go_sem, reduceIte, reduceCtorEq, reduceEqDiff, reduceAdd, reduceLT, reduceLeDiff, reduceToNat]; exact rfl) (by simp only [go_sem, reduceIte, reduceCtorEq, reduceEqDiff, reduceAdd, reduceLT, reduceLeDiff, reduceToNat]; exact rfl) ?_ -- ret2
          refine ⟨_, ?_, rfl⟩
          first | (simp [leP]; done) | (simp_all [leP]; done))
end Go.Ab
