/-
  What functions of the program answer: each by its contract. No condition but those of each theorem.
-/
import Derived.WalkKit
import Derived.Below
import Derived.Scope
import Derived.Test.YtieabhancmkmhaaGreatProg
import Derived.Orders
import Derived.Still
import Derived.Maps.RangeRun
import Derived.Test.YtieabhancmkmhaaGreatFa
import Derived.Test.YtieabhancmkmhaaGreatFb
import Derived.Test.YtieabhancmkmhaaGreatFc
import Derived.Test.YtieabhancmkmhaaGreatFd
import Derived.Test.YtieabhancmkmhaaGreatFe
import Derived.Test.YtieabhancmkmhaaGreatFf
import Derived.Test.YtieabhancmkmhaaGreatDa
import Derived.Test.YtieabhancmkmhaaGreatVa
import Derived.Test.YtieabhancmkmhaaGreatVb
set_option linter.unusedVariables false
set_option linter.unusedSimpArgs false
namespace Go.Ab
open Go Go.Proofs.Tryz
set_option maxRecDepth 100000
set_option maxHeartbeats 6400000
set_option linter.unusedSimpArgs false
set_option linter.unusedVariables false
theorem insertionSortO (up : Bool) (l : List GObj) (hl : l.length < 1000) (hI : ∀ x ∈ l, 0 ≤ x.Id ∧ x.Id ≤ 1073741824) : GCallH prog up 102 [.ref 0 [] 0, .int .i64 0, .int .i64 l.length, .func (.func 33) [] []] 1 [(0, ⟨false, [.own 3 (l.map eObj)]⟩)] [0] (fun _ σ' => ∃ m, σ'.n = 1 ∧ σ'.s = [(0, ⟨false, [.own 3 (m.map eObj)]⟩)] ∧ SortedO l m) := by
  refine GCallH.intro htt 1 func102 (by kernel_rfl) rfl (Nat.le_of_ble_eq_true rfl) (CW.told ?_)
  have w1 : IntKind.i64.wrap ((0 : Int) + 1) = ((1 : Nat) : Int) := by decide
  simp only [tmps0, Nat.reduceAdd]
  refine CW.seq ?_
  refine CW.rg ?_
  refine CWops.run htt 3 (by simp only [go_sem, simprocAttr, w1]; exact rfl) (by simp [go_sem, simprocAttr, w1]) ?_
  refine CWops.done ?_
  refine CW.block ?_
  refine CW.loop (S := Nat × List GObj) (fun p => ⟨1, [(0, .ref 0 [] 0), (1, .int .i64 0), (2, .int .i64 l.length), (3, .func (.func 33) [] []), (8, .int .i64 p.1)], [(0, ⟨false, [.own 3 (p.2.map eObj)]⟩)]⟩) (fun p => UpToO p.2 p.1 ∧ p.2.Perm l ∧ 1 ≤ p.1) (fun p => l.length - p.1) ((1, l)) ?_ ⟨fun p q x y h1 h2 => by omega, List.Perm.refl l, Nat.le_refl 1⟩ (fun ⟨i, m⟩ ⟨h1, h2, h3⟩ => ?_)
  · refine Sh.wk0 ?_; simp [Wk, go_sem, simprocAttr, show IntKind.i64.wrap 1 = 1 by decide]
  refine CW.seq ?_
  refine CW.seq ?_
  refine CW.rg ?_
  refine CWops.rn htt 3 ?_
  refine CWops.done ?_
  refine CW.cond (by simp only [go_sem, simprocAttr]; first | done | exact rfl) (fun ct14 => ?_) (fun ct14 => ?_)
  · have hi : i < l.length := by simp at ct14; omega
    refine CW.skip ?_
    refine CW.seq ?_
    refine CW.block ?_
    refine CW.seq ?_
    refine CW.rg ?_
    refine CWops.rn htt 2 ?_
    refine CWops.done ?_
    refine CW.block ?_
    refine CW.loop (S := Nat × List GObj) (fun p => ⟨1, [(0, .ref 0 [] 0), (1, .int .i64 0), (2, .int .i64 l.length), (3, .func (.func 33) [] []), (8, .int .i64 i), (9, .int .i64 p.1)], [(0, ⟨false, [.own 3 (p.2.map eObj)]⟩)]⟩) (fun p => InsO p.2 i p.1 ∧ p.2.Perm l ∧ p.1 ≤ i) (fun p => p.1) ((i, m)) ?_ ⟨InsO.start h1, h2, Nat.le_refl i⟩ (fun ⟨j, mm⟩ ⟨k1, k2, k3⟩ => ?_)
    · refine Sh.wk0 ?_; simp [Wk, go_sem, simprocAttr]
    refine CW.seq ?_
    refine CW.cut ⟨1, [(0, .ref 0 [] 0), (1, .int .i64 0), (2, .int .i64 l.length), (3, .func (.func 33) [] []), (8, .int .i64 i), (9, .int .i64 j), (34, .bool (lessAtO mm j))], [(0, ⟨false, [.own 3 (mm.map eObj)]⟩)]⟩ ?_ ?_
    · have hml : mm.length = l.length := k2.length_eq
      simp only at k3
      obtain ⟨k, a, b, hjab⟩ : ∃ (k : Nat) (a b : GObj), (j = 0 ∧ True ∧ True ∧ True ∧ True ∧ True ∧ True ∧ True) ∨ (j = k + 1 ∧ mm[k]? = some a ∧ mm[k + 1]? = some b ∧ IntKind.i64.wrap (((k + 1 : Nat) : Int) - 1) = (k : Int) ∧ k < mm.length ∧ k + 1 < mm.length ∧ IntKind.i64.wrap (b.Id - a.Id) = b.Id - a.Id ∧ (b.Id - a.Id < 0) = (b.Id < a.Id)) := by
        rcases j with _ | k
        · exact ⟨0, ⟨0, 0, []⟩, ⟨0, 0, []⟩, .inl ⟨rfl, trivial, trivial, trivial, trivial, trivial, trivial, trivial⟩⟩
        · have e1 := hI _ (k2.subset (List.getElem_mem (show k < mm.length by omega)))
          have e2 := hI _ (k2.subset (List.getElem_mem (show k + 1 < mm.length by omega)))
          exact ⟨k, mm[k], mm[k + 1], .inr ⟨rfl, List.getElem?_eq_getElem (by omega), List.getElem?_eq_getElem (by omega), by rw [wrap_id (by omega) (by omega)]; omega, by omega, by omega, by rw [wrap_id (by omega) (by omega)], by apply propext; omega⟩⟩
      rcases hjab with ⟨rfl, ha, hb, hw, hja, hjb, hwr, hdl⟩ | ⟨rfl, ha, hb, hw, hja, hjb, hwr, hdl⟩
      all_goals (refine CW.drawn mixed 14 (by decide) (by kernel_rfl) (by kernel_rfl) (by kernel_rfl) ?_)
      all_goals (refine Seg.run htt 4 (by simp only [go_sem, simprocAttr, ha, hb, hw, hja, hjb, List.length_map, eObj, hwr, hdl]; exact rfl) ?_)
      all_goals (first | refine Seg.guard 21 (by simp only [go_sem, simprocAttr, ha, hb, hw, hja, hjb, List.length_map, eObj, hwr, hdl]; exact rfl) (fun g21 => ?_) (fun g21 => ?_) | skip)
      all_goals (first | (simp at g21; done) | (exfalso; simp at g21 <;> omega) | skip)
      all_goals (refine Seg.run htt 10 (by simp only [go_sem, simprocAttr, ha, hb, hw, hja, hjb, List.length_map, eObj, hwr, hdl]; exact rfl) ?_)
      all_goals (refine Seg.done ?_)
      all_goals (first | (refine CWops.skip ?_ ?_; next => (simp only [go_sem, simprocAttr]; done)) | (refine CWops.callA (merge_Merge_1 up b a) (by simp only [go_sem, simprocAttr, ha, hb, hw, hja, hjb, List.length_map, eObj, hwr, hdl]) (by simp only [go_sem, simprocAttr, ha, hb, hw, hja, hjb, List.length_map, eObj, hwr, hdl]; first | done | exact rfl) (by simp only [go_sem, simprocAttr, ha, hb, hw, hja, hjb, List.length_map, eObj, hwr, hdl]) (by simp only [go_sem, simprocAttr, ha, hb, hw, hja, hjb, List.length_map, eObj, hwr, hdl]) (fun rt32 hrt32 => ?_); subst hrt32))
      all_goals (refine CWops.run htt 2 (by simp only [go_sem, simprocAttr, ha, hb, hw, hja, hjb, List.length_map, eObj, hwr, hdl]; exact rfl) (by simp [go_sem, simprocAttr, ha, hb, hw, hja, hjb, List.length_map, eObj, hwr, hdl]) ?_)
      all_goals (refine CWops.done ?_)
      all_goals (
        first | refine ⟨rfl, Sh.wk0 ?_⟩ | refine Sh.wk0 ?_
        first | (simp [Wk, go_sem, simprocAttr, lessAtO]; done) | (simp [Wk, go_sem, simprocAttr, lessAtO, ha, hb]; done) | skip)
    refine CW.cond (by simp only [go_sem, simprocAttr]; first | done | exact rfl) (fun ct34 => ?_) (fun ct34 => ?_)
    · obtain ⟨j, a, b, rfl, ha, hb, hab⟩ := lessAt_trueO ct34
      have hw : IntKind.i64.wrap (((j + 1 : Nat) : Int) - 1) = (j : Int) := by rw [wrap_id (by omega) (by omega)]; omega
      have hja := (List.getElem?_eq_some_iff.1 ha).1
      have hjb := (List.getElem?_eq_some_iff.1 hb).1
      have hr2 : ((List.map eObj mm).set (j + 1) [AV.int .i64 a.Id, .int .i64 a.T, .sl 3 (a.F.map eVal)])[j]? = some [AV.int .i64 a.Id, .int .i64 a.T, .sl 3 (a.F.map eVal)] := by rw [List.getElem?_set_ne (by omega), List.getElem?_map, ha]; rfl
      refine CW.skip ?_
      refine CW.seq ?_
      refine CW.block ?_
      refine CW.drawnF mixed 15 16 [2, 3, 4] (D := [39, 40, 41]) (by decide) (by decide) (by kernel_rfl) (by kernel_rfl) rfl (by kernel_rfl) (by kernel_rfl) ?_
      refine Seg.run htt 15 (by simp only [go_sem, simprocAttr, ha, hb, hw, hja, hjb, List.length_map, eObj, hr2, List.length_set, List.getElem?_set_self, List.set_set, List.set_cons_succ, List.set_cons_zero]; exact rfl) ?_
      refine Seg.done ?_
      refine Mid.sto htt (Flo.cons htt rfl rfl (by simp only [go_sem, simprocAttr, ha, hb, hw, hja, hjb, List.length_map, eObj, hr2, List.length_set, List.getElem?_set_self, List.set_set, List.set_cons_succ, List.set_cons_zero]; first | done | exact rfl) (Flo.cons htt rfl rfl (by simp only [go_sem, simprocAttr, ha, hb, hw, hja, hjb, List.length_map, eObj, hr2, List.length_set, List.getElem?_set_self, List.set_set, List.set_cons_succ, List.set_cons_zero]; first | done | exact rfl) (Flo.cons htt rfl rfl (by simp only [go_sem, simprocAttr, ha, hb, hw, hja, hjb, List.length_map, eObj, hr2, List.length_set, List.getElem?_set_self, List.set_set, List.set_cons_succ, List.set_cons_zero]; first | done | exact rfl) (Flo.nil)))) (fun u => by simp only [go_sem, simprocAttr, ha, hb, hw, hja, hjb, List.length_map, eObj, hr2, List.length_set, List.getElem?_set_self, List.set_set, List.set_cons_succ, List.set_cons_zero]; exact rfl) ?_
      refine Mid.done (Flo.cons htt rfl rfl (by simp only [go_sem, simprocAttr, ha, hb, hw, hja, hjb, List.length_map, eObj, hr2, List.length_set, List.getElem?_set_self, List.set_set, List.set_cons_succ, List.set_cons_zero]; first | done | exact rfl) (Flo.cons htt rfl rfl (by simp only [go_sem, simprocAttr, ha, hb, hw, hja, hjb, List.length_map, eObj, hr2, List.length_set, List.getElem?_set_self, List.set_set, List.set_cons_succ, List.set_cons_zero]; first | done | exact rfl) (Flo.cons htt rfl rfl (by simp only [go_sem, simprocAttr, ha, hb, hw, hja, hjb, List.length_map, eObj, hr2, List.length_set, List.getElem?_set_self, List.set_set, List.set_cons_succ, List.set_cons_zero]; first | done | exact rfl) (Flo.nil)))) ?_
      refine CWops.run htt 2 (by simp only [go_sem, simprocAttr, ha, hb, hw, hja, hjb, List.length_map, eObj, hr2, List.length_set, List.getElem?_set_self, List.set_set, List.set_cons_succ, List.set_cons_zero]; exact rfl) (by simp [go_sem, simprocAttr, ha, hb, hw, hja, hjb, List.length_map, eObj, hr2, List.length_set, List.getElem?_set_self, List.set_set, List.set_cons_succ, List.set_cons_zero]) ?_
      refine CWops.done ?_
      refine CW.rg ?_
      refine CWops.run htt 3 (by simp only [go_sem, simprocAttr, hw]; exact rfl) (by simp [go_sem, simprocAttr, hw]) ?_
      refine CWops.done ?_
      refine ⟨(j, swpO mm j a b), ?_, ?_, ?_⟩
      · refine Sh.wk0 ?_; simp [Wk, go_sem, simprocAttr, swpO, set_O]; first | done | rfl
      · exact ⟨k1.step k3 ha hb hab, (swp_permO ha hb).trans k2, by simp only at k3 ⊢; omega⟩
      · simp only; omega
    · refine CW.exit ?_
      refine CW.rg ?_
      refine CWops.run htt 3 (by simp only [go_sem, simprocAttr, wrap_succ (show i < MX by unfold MX; omega)]; exact rfl) (by simp [go_sem, simprocAttr, wrap_succ (show i < MX by unfold MX; omega)]) ?_
      refine CWops.done ?_
      refine ⟨(i + 1, mm), ?_, ?_, ?_⟩
      · refine Sh.wk0 ?_; simp [Wk, go_sem, simprocAttr]
      · exact ⟨lessAt_falseO ct34 k1 k3 (by rw [k2.length_eq]; exact hi), k2, by simp only; omega⟩
      · simp only; omega
  · have hi : l.length ≤ i := by simp at ct14; omega
    refine CW.exit ?_
    refine ⟨⟨1, [(0, .ref 0 [] 0)], [(0, ⟨false, [.own 3 (m.map eObj)]⟩)]⟩, ?_, .inl rfl, ⟨by simp [ptrOK, go_sem, simprocAttr], (by refine ⟨⟨0, by decide, rfl, by simp only [go_sem, simprocAttr], rfl⟩, trivial⟩)⟩, _, by simp only [f102, go_sem, simprocAttr]; exact rfl, ?_⟩ -- end
    · refine Sh.wk0 ?_
      simp [Wk, go_sem, simprocAttr]
    · exact ⟨m, rfl, rfl, upTo_pairwiseO (fun p q x y a b => h1 p q x y a (by rw [h2.length_eq] at b; omega)), h2⟩
theorem pdqsortO (up : Bool) (l : List GObj) (lim : Int) (hl : l.length < 13) (hI : ∀ x ∈ l, 0 ≤ x.Id ∧ x.Id ≤ 1073741824) : GCallH prog up 74 [.ref 0 [] 0, .int .i64 0, .int .i64 l.length, .int .i64 lim, .func (.func 33) [] []] 1 [(0, ⟨false, [.own 3 (l.map eObj)]⟩)] [0] (fun _ σ' => ∃ m, σ'.n = 1 ∧ σ'.s = [(0, ⟨false, [.own 3 (m.map eObj)]⟩)] ∧ SortedO l m) := by
  refine GCallH.intro htt 1 func74 (by kernel_rfl) rfl (Nat.le_of_ble_eq_true rfl) (CW.told ?_)
  have hw : IntKind.i64.wrap ((l.length : Int) - 0) = (l.length : Int) := by rw [wrap_id (by omega) (by omega)]; omega
  simp only [tmps0, Nat.reduceAdd]
  refine CW.seq ?_
  refine CW.rg ?_
  refine CWops.rn htt 1 ?_
  refine CWops.done ?_
  refine CW.seq ?_
  refine CW.rg ?_
  refine CWops.rn htt 1 ?_
  refine CWops.done ?_
  refine CW.block ?_
  refine CW.loop (S := Unit) (fun u => ⟨1, [(0, .ref 0 [] 0), (1, .int .i64 0), (2, .int .i64 l.length), (4, .func (.func 33) [] [])], [(0, ⟨false, [.own 3 (l.map eObj)]⟩)]⟩) (fun u => True) (fun u => 0) (()) ?_ trivial (fun _ _ => ?_)
  · refine Sh.wk0 ?_; simp [Wk, go_sem, simprocAttr]
  refine CW.block ?_
  refine CW.seq ?_
  refine CW.rg ?_
  refine CWops.run htt 4 (by simp only [go_sem, simprocAttr, hw]; exact rfl) (by simp [go_sem, simprocAttr, hw]) ?_
  refine CWops.done ?_
  refine CW.seq ?_
  refine CW.seq ?_
  refine CW.rg ?_
  refine CWops.rn htt 2 ?_
  refine CWops.done ?_
  refine CW.cond (by simp only [go_sem, simprocAttr]; first | done | exact rfl) (fun ct25 => ?_) (fun ct25 => ?_)
  · refine CW.seq ?_
    refine CW.rg ?_
    refine CWops.rn htt 4 ?_
    refine CWops.callGH [0] rfl (insertionSortO up l (by omega) hI) (by decide) (by simp only [go_sem, simprocAttr]) (by simp only [go_sem, simprocAttr]; first | done | exact rfl) (by decide) (by simp [go_sem, simprocAttr, mName, memB]) (by simp [go_sem, simprocAttr, mName]) (by simp [go_sem, simprocAttr]) (by simp [go_sem, simprocAttr]) (by simp [go_sem, simprocAttr, mName]) (fun r σ' hσ => ?_)
    obtain ⟨σn, σt, σs⟩ := σ'
    simp only at hσ
    obtain ⟨m, rfl, rfl, hm2⟩ := hσ
    simp only [aftH, renS, List.map_cons, List.map_nil, delAll, memB, mName, List.getD_nil, killH, kref, ren, Nat.beq_eq, go_sem, simprocAttr]
    refine CWops.done ?_
    refine CW.ret ?_
    refine ⟨⟨1, [(0, .ref 0 [] 0)], [(0, ⟨false, [.own 3 (m.map eObj)]⟩)]⟩, ?_, .inr rfl, ⟨by simp [ptrOK, go_sem, simprocAttr], (by refine ⟨⟨0, by decide, rfl, by simp only [go_sem, simprocAttr], rfl⟩, trivial⟩)⟩, _, by simp only [f74, go_sem, simprocAttr]; exact rfl, ?_⟩ -- ret1
    · refine Sh.wk0 ?_
      simp [Wk, go_sem, simprocAttr]
    · exact ⟨m, rfl, rfl, hm2⟩
  · exfalso; simp at ct25; omega
theorem sortFuncO (up : Bool) (l : List GObj) (hl : l.length < 13) (hI : ∀ x ∈ l, 0 ≤ x.Id ∧ x.Id ≤ 1073741824) : GCallH prog up 32 [.ref 0 [] 0, .func (.func 33) [] []] 1 [(0, ⟨false, [.own 3 (l.map eObj)]⟩)] [0] (fun _ σ' => ∃ m, σ'.n = 1 ∧ σ'.s = [(0, ⟨false, [.own 3 (m.map eObj)]⟩)] ∧ SortedO l m) := by
  refine GCallH.intro htt 1 func32 (by kernel_rfl) rfl (Nat.le_of_ble_eq_true rfl) (CW.told ?_)
  have hw : IntKind.u64.wrap (l.length : Int) = (l.length : Int) := by
    simp only [IntKind.wrap, IntKind.bits, IntKind.signed]
    simp
    omega
  simp only [tmps0, Nat.reduceAdd]
  refine CW.seq ?_
  refine CW.rg ?_
  refine CWops.rn htt 3 ?_
  refine CWops.done ?_
  refine CW.rg ?_
  refine CWops.rn htt 3 ?_
  refine CWops.conv (n := (l.length : Int)) (k := .i64) (k' := .u64) htt (by simp only [go_sem, simprocAttr]) tt_3 rfl tt_112 rfl (by simp only [go_sem, simprocAttr, List.length_map]; first | done | exact rfl) ?_
  rw [hw]
  refine CWops.callA (bits_Len up l.length (by omega)) (by simp only [go_sem, simprocAttr]) (by simp only [go_sem, simprocAttr]; first | done | exact rfl) (by simp only [go_sem, simprocAttr]) (by simp only [go_sem, simprocAttr]) (fun rt11 hrt11 => ?_)
  obtain ⟨lim, rfl⟩ := hrt11
  refine CWops.rn htt 1 ?_
  refine CWops.callGH [0] rfl (pdqsortO up l lim hl hI) (by decide) (by simp only [go_sem, simprocAttr]) (by simp only [go_sem, simprocAttr]; first | done | exact rfl) (by decide) (by simp [go_sem, simprocAttr, mName, memB]) (by simp [go_sem, simprocAttr, mName]) (by simp [go_sem, simprocAttr]) (by simp [go_sem, simprocAttr]) (by simp [go_sem, simprocAttr, mName]) (fun r σ' hσ => ?_)
  obtain ⟨σn, σt, σs⟩ := σ'
  simp only at hσ
  obtain ⟨m, rfl, rfl, hm2⟩ := hσ
  simp only [aftH, renS, List.map_cons, List.map_nil, delAll, memB, mName, List.getD_nil, killH, kref, ren, Nat.beq_eq, go_sem, simprocAttr]
  refine CWops.done ?_
  refine ⟨⟨1, [(0, .ref 0 [] 0)], [(0, ⟨false, [.own 3 (m.map eObj)]⟩)]⟩, ?_, .inl rfl, ⟨by simp [ptrOK, go_sem, simprocAttr], (by refine ⟨⟨0, by decide, rfl, by simp only [go_sem, simprocAttr], rfl⟩, trivial⟩)⟩, _, by simp only [f32, go_sem, simprocAttr]; exact rfl, ?_⟩ -- end
  · refine Sh.wk0 ?_
    simp [Wk, go_sem, simprocAttr]
  · exact ⟨m, rfl, rfl, hm2⟩
end Go.Ab
namespace Go.Ab
open Go Go.Proofs.Tryz
set_option maxRecDepth 100000
set_option maxHeartbeats 12800000
set_option linter.unusedSimpArgs false
set_option linter.unusedVariables false
theorem merge_Merge (up : Bool) (o a b : Graph) (hz : gCheck o a b = 0 → MOK o a b) : PCall prog up 11 [.agg (eGraph o), .agg (eGraph a), .agg (eGraph b)] (· = .tup [.agg (eGraph (gMerge o a b).1), .agg (eChange (gMerge o a b).2.1), .int .i64 (gMerge o a b).2.2]) := by
  refine PCall.intro htt func11 (by kernel_rfl) rfl (Nat.le_of_ble_eq_true rfl) fun hl => ?_

  simp only [tmps0, Nat.reduceAdd]
  refine CW.seq ?_
  refine CW.rg ?_
  refine CWops.run htt 6 (by simp only [go_sem, simprocAttr, eGraph]; exact rfl) (by simp [go_sem, simprocAttr, eGraph]) ?_
  refine CWops.done ?_
  refine CW.seq ?_
  refine CW.rg ?_
  refine CWops.run htt 6 (by simp only [go_sem, simprocAttr, eGraph]; exact rfl) (by simp [go_sem, simprocAttr, eGraph]) ?_
  refine CWops.done ?_
  refine CW.seq ?_
  refine CW.seq ?_
  refine CW.rg ?_
  refine CWops.run htt 1 (by simp only [go_sem, simprocAttr, eT]; exact rfl) (by simp [go_sem, simprocAttr, eT]) ?_
  refine CWops.callA (merge_check up o a b) (by simp only [go_sem, simprocAttr, eT]) (by simp only [go_sem, simprocAttr, eT]; first | done | exact rfl) (by simp only [go_sem, simprocAttr, eT]) (by simp only [go_sem, simprocAttr, eT]) (fun rt24 hrt24 => ?_)
  subst hrt24
  refine CWops.run htt 1 (by simp only [go_sem, simprocAttr, eT]; exact rfl) (by simp [go_sem, simprocAttr, eT]) ?_
  refine CWops.done ?_
  refine CW.seq ?_
  refine CW.rg ?_
  refine CWops.rn htt 2 ?_
  refine CWops.done ?_
  refine CW.cond (by simp only [go_sem, simprocAttr]; first | done | exact rfl) (fun ct26 => ?_) (fun ct26 => ?_)
  · have h0 : ¬ gCheck o a b = 0 := by simpa using ct26
    refine CW.seq ?_
    refine CW.rg ?_
    refine CWops.rn htt 6 ?_
    refine CWops.done ?_
    refine CW.ret ?_
    refine retQ.ret (by simp only [f11, go_sem, simprocAttr]; exact rfl) (by simp only [go_sem, simprocAttr]; exact rfl) ?_ -- ret1
    refine ⟨_, ?_, rfl⟩
    simp [leP, leL, gMerge, h0, eGraph, eChange, noChange]
  · have h0 : gCheck o a b = 0 := by simpa using ct26
    have hk := hz h0
    have hcb : (mCh o a b).New.length + (mCh o a b).Gone.length + (mCh o a b).Set.length + (mCh o a b).Roots.length ≤ MX := by
      have e1 := mSet_len hk.sz (mL a b 2)
      have e2 := mRC_len o a b (mN a b)
      have e3 := hk.pok.len
      have e4 : (mOs o a b (mL a b 2)).length = (mL a b 2).length := by simp [mOs]
      have e5 := hk.ar
      have e6 := hk.br
      have e7 : mN a b ≤ 3 := by unfold mN; omega
      simp only [mCh, List.length_nil, MX]
      omega
    have hRl0 : (mRoots o a b (mN a b)).length ≤ 3 := by
      rw [mRoots_len]
      have e5 := hk.ar
      have e6 := hk.br
      unfold mN; omega
    have hs1 : a.S.length * 40 ≤ MX := by have := hk.sc.1; unfold MX; omega
    have hs2 : ∀ x ∈ a.S, x.F.length * 40 ≤ MX := fun x hx => by have := hk.sc.2 x hx; unfold MX; omega
    refine CW.skip ?_
    refine CW.seq ?_
    refine CW.rg ?_
    refine CWops.rn htt 1 ?_
    refine CWops.callG [] rfl (by have h := merge_all up o a b hk.sz hk.ao hk.bo hk.ar hk.br; simp only [eT] at h; exact h) (by simp only [go_sem, simprocAttr]) (by simp only [go_sem, simprocAttr]; first | done | exact rfl) (by decide) (by simp [go_sem, simprocAttr, mName, memB]) (by simp [go_sem, simprocAttr, mName]) (by simp [go_sem, simprocAttr]) (by simp [go_sem, simprocAttr]) (by simp [go_sem, simprocAttr, mName]) (fun r σ' hσ => ?_)
    obtain ⟨σn, σt, σs⟩ := σ'
    simp only at hσ
    obtain ⟨rfl, rfl, rfl⟩ := hσ
    simp only [aftS, renS, delAll, memB, mName, List.getD_nil, killH, kref, ren, Nat.beq_eq, go_sem, simprocAttr]
    obtain ⟨RS, hRS⟩ : ∃ l, l = mRoots o a b (mN a b) := ⟨_, rfl⟩
    simp only [← hRS]
    refine CWops.rn htt 8 ?_
    refine CWops.done ?_
    refine CW.seq ?_
    refine CW.seq ?_
    refine CW.rg ?_
    refine CWops.run htt 1 (by simp only [go_sem, simprocAttr, eChange, mCh]; exact rfl) (by simp [go_sem, simprocAttr, eChange, mCh]) ?_
    refine CWops.call (diff_None up (mCh o a b) hcb) (by simp only [go_sem, simprocAttr, eChange, mCh]) (by simp only [go_sem, simprocAttr, eChange, mCh]; first | done | exact rfl) (by simp only [go_sem, simprocAttr, eChange, mCh]) (fun rt37 hrt37 => ?_)
    subst hrt37; refine ⟨rfl, ?_⟩
    refine CWops.run htt 1 (by simp only [go_sem, simprocAttr, eChange, mCh]; exact rfl) (by simp [go_sem, simprocAttr, eChange, mCh]) ?_
    refine CWops.done ?_
    refine CW.cond (by simp only [go_sem, simprocAttr]; first | done | exact rfl) (fun ct38 => ?_) (fun ct38 => ?_)
    · have h1 : gNone (mCh o a b) = false := by simpa [mCh] using ct38
      refine CW.seq ?_
      refine CW.drawnF mixed 2 3 [1] (D := [40]) (by decide) (by decide) (by kernel_rfl) (by kernel_rfl) rfl (by kernel_rfl) (by kernel_rfl) ?_
      refine Seg.run htt 2 (by simp only [go_sem, simprocAttr]; exact rfl) ?_
      refine Seg.done ?_
      refine Mid.sto htt (Flo.cons htt rfl rfl (by simp only [go_sem, simprocAttr]; first | done | exact rfl) (Flo.nil)) (fun u => by simp only [go_sem, simprocAttr]; exact rfl) ?_
      refine Mid.done (Flo.cons htt rfl rfl (by simp only [go_sem, simprocAttr]; first | done | exact rfl) (Flo.nil)) ?_
      refine CWops.rn htt 2 ?_
      refine CWops.done ?_
      refine CW.ret ?_
      refine retQ.ret (by simp only [f11, go_sem, simprocAttr]; exact rfl) (by simp only [go_sem, simprocAttr]; exact rfl) ?_ -- ret2
      refine ⟨_, ?_, rfl⟩
      have h1' := h1
      simp only [mCh] at h1'
      simp [leP, leL, gMerge, h0, h1', eGraph, eChange, mCh]
    · have h1 : gNone (mCh o a b) = true := by simpa [mCh] using ct38
      have hRl : RS.length ≤ 3 := by rw [hRS]; exact hRl0
      refine CW.skip ?_
      refine CW.seq ?_
      refine CW.rg ?_
      refine CWops.run htt 4 (by simp only [go_sem, simprocAttr, eGraph]; exact rfl) (by simp [go_sem, simprocAttr, eGraph]) ?_
      refine CWops.callGH [6] rfl (by have h := merge_come up a.S (mOs o a b (mL a b 2)) RS hk.pok hRl; rw [← mEs_eq] at h; simp only [eSchema] at h; exact h) (by decide) (by simp only [go_sem, simprocAttr]) (by simp only [go_sem, simprocAttr]; first | done | exact rfl) (by decide) (by simp [go_sem, simprocAttr, mName, memB]) (by simp [go_sem, simprocAttr, mName]) (by simp [go_sem, simprocAttr]) (by simp [go_sem, simprocAttr]) (by simp [go_sem, simprocAttr, mName]) (fun r σ' hσ => ?_)
      obtain ⟨σn, σt, σs⟩ := σ'
      simp only at hσ
      obtain ⟨out, hout, rfl, rfl, rfl⟩ := hσ
      simp only [aftH, renS, List.map_cons, List.map_nil, delAll, memB, mName, List.getD_nil, killH, kref, ren, Nat.beq_eq, go_sem, simprocAttr]
      refine CWops.run htt 1 (by simp only [go_sem, simprocAttr, eGraph]; exact rfl) (by simp [go_sem, simprocAttr, eGraph]) ?_
      refine CWops.done ?_
      refine CW.seq ?_
      have hnd : ((mOs o a b (mL a b 2)).map (·.1)).Nodup := by rw [mOs_keys]; exact mL_nodup a b
      rw [mEs_eq]
      refine CW.mapFilter (y := 6) htt 51542753280 (fun _ : List (Int × GObj) × (Int → Bool) => ⟨11, [(3, .lv 0 [] 0), (4, .lv 1 [] 0), (5, .lv 2 [] 0), (6, .lv 3 [] 0), (7, .lv 4 [] 0), (8, .int .i64 0), (12, .sl 1 (RS.map eI)), (14, .ref 10 [] 0)], [(0, ⟨true, eGraph o⟩), (1, ⟨true, eGraph a⟩), (2, ⟨true, eGraph b⟩), (3, ⟨true, [.nilsl, .nilsl, .nilsl]⟩), (4, ⟨true, [.nilsl, .nilsl, .nilsl, .nilsl]⟩), (10, ⟨false, [.omap (oM out)]⟩)]⟩) (fun x => pEs x.1) (fun x => x.2) (FInv (mOs o a b (mL a b 2)) out) ((mOs o a b (mL a b 2), fun _ => false)) (⟨11, [(3, .lv 0 [] 0), (4, .lv 1 [] 0), (5, .lv 2 [] 0), (6, .lv 3 [] 0), (7, .lv 4 [] 0), (8, .int .i64 0), (12, .sl 1 (RS.map eI)), (14, .ref 10 [] 0)], [(0, ⟨true, eGraph o⟩), (1, ⟨true, eGraph a⟩), (2, ⟨true, eGraph b⟩), (3, ⟨true, [.nilsl, .nilsl, .nilsl]⟩), (4, ⟨true, [.nilsl, .nilsl, .nilsl, .nilsl]⟩), (10, ⟨false, [.omap (oM out)]⟩)]⟩) tt_59 rfl tt_3 rfl (by simp only [go_sem, simprocAttr]) (by simp only [go_sem, simprocAttr]) ?_ (by simp only [go_sem, simprocAttr]) ?_ (by decide) (by decide) (by decide) (by decide) (by decide) (by decide) (by decide) (by decide) (fun i h => by simp [kp] at h) (by kernel_rfl) (by kernel_rfl) ?_ ?_ (fun _ => rfl) (fun x i k v hI hi hd => ?_) ?_
      · simp [Wk, go_sem, simprocAttr, eGraph, ]
      · exact pEs_nd hnd
      · refine Sh.wk0 ?_; simp [Wk, go_sem, simprocAttr, eGraph, ]
      · exact FInv.start _ _
      · obtain ⟨ob, hob, rfl⟩ := pEs_get hi
        refine CWops.rn htt 2 ?_
        refine CWops.done ?_
        obtain ⟨qq, hlo, hq2⟩ : ∃ qq, maplk (oM out) k = qq ∧ ((k ∈ out ∧ qq = some (AV.bool true)) ∨ (¬ k ∈ out ∧ qq = none)) := by
          refine ⟨_, maplk_oM k out, ?_⟩
          by_cases e : k ∈ out
          · exact .inl ⟨e, by rw [if_pos e]⟩
          · exact .inr ⟨e, by rw [if_neg e]⟩
        rcases hq2 with ⟨hin, rfl⟩ | ⟨hin, rfl⟩
        all_goals (refine CW.rg ?_)
        all_goals (refine CWops.run htt 4 (by simp only [go_sem, simprocAttr, hlo]; exact rfl) (by simp [go_sem, simprocAttr, hlo]) ?_)
        all_goals (refine CWops.done ?_)
        all_goals (
          first | exact ⟨rfl, by simp only [go_sem, simprocAttr], false, (x.1, fun q => x.2 q || decide (q = k)), by simp only [go_sem, simprocAttr]; first | done | exact rfl, by (refine Sh.wk0 ?_; simp [Wk, go_sem, simprocAttr, eGraph, ]), hI.keep hin, fun q => rfl, rfl⟩ | exact ⟨rfl, by simp only [go_sem, simprocAttr], true, (pdel x.1 k, fun q => x.2 q || decide (q = k)), by simp only [go_sem, simprocAttr]; first | done | exact rfl, by (refine Sh.wk0 ?_; simp [Wk, go_sem, simprocAttr, eGraph, ]), hI.del hnd hin, fun q => rfl, pEs_pdel k x.1⟩)
      intro x hI hall
      obtain ⟨L, D⟩ := x
      obtain rfl : L = mLive o a b := by
        rw [← mLive_of (out := out) (by rw [← hRS]; exact hout)]
        refine hI.done hnd fun p hp => ?_
        obtain ⟨j, hj⟩ := List.getElem?_of_mem hp
        exact hall j (p.1, AV.agg (eObj p.2)) (by simp [pEs, hj])
      clear hI hall
      refine CW.seq ?_
      refine CW.seq ?_
      refine CW.rg ?_
      refine CWops.run htt 3 (by simp only [go_sem, simprocAttr, pEs_len]; exact rfl) (by simp [go_sem, simprocAttr, pEs_len]) ?_
      refine CWops.done ?_
      refine CW.cond (by simp only [go_sem, simprocAttr]; first | done | exact rfl) (fun ct60 => ?_) (fun ct60 => ?_)
      · have h2 : 8 < (mLive o a b).length := by simp at ct60; omega
        refine CW.seq ?_
        refine CW.rg ?_
        refine CWops.rn htt 5 ?_
        refine CWops.done ?_
        refine CW.ret ?_
        refine retQ.ret (by simp only [f11, go_sem, simprocAttr]; exact rfl) (by simp only [go_sem, simprocAttr]; exact rfl) ?_ -- ret3
        refine ⟨_, ?_, rfl⟩
        simp [leP, leL, gMerge, h0, h1, h2, eGraph, eChange, noChange]
      · have h2 : ¬ 8 < (mLive o a b).length := by simp at ct60; omega
        refine CW.skip ?_
        refine CW.seq ?_
        refine CW.rg ?_
        refine CWops.run htt 2 (by simp only [go_sem, simprocAttr, eGraph, eSchema]; exact rfl) (by simp [go_sem, simprocAttr, eGraph, eSchema]) ?_
        refine CWops.callA (merge_schema up a.S hs1 hs2) (by simp only [go_sem, simprocAttr, eGraph, eSchema]) (by simp only [go_sem, simprocAttr, eGraph, eSchema]; first | done | exact rfl) (by simp only [go_sem, simprocAttr, eGraph, eSchema]) (by simp only [go_sem, simprocAttr, eGraph, eSchema]) (fun rt65 hrt65 => ?_)
        subst hrt65
        refine CWops.run htt 4 (by simp only [go_sem, simprocAttr, eGraph, eSchema]; exact rfl) (by simp [go_sem, simprocAttr, eGraph, eSchema]) ?_
        refine CWops.done ?_
        refine CW.seq ?_
        refine CW.mapRange (y := 11) htt 51544195072 (fun x : (Int → Bool) × List GObj => ⟨14, [(3, .lv 0 [] 0), (4, .lv 1 [] 0), (5, .lv 2 [] 0), (6, .lv 3 [] 0), (7, .lv 4 [] 0), (8, .int .i64 0), (12, .sl 1 (RS.map eI)), (16, .lv 12 [] 0)], [(0, ⟨true, eGraph o⟩), (1, ⟨true, eGraph a⟩), (2, ⟨true, eGraph b⟩), (3, ⟨true, [.nilsl, .nilsl, .nilsl]⟩), (4, ⟨true, [.nilsl, .nilsl, .nilsl, .nilsl]⟩), (12, ⟨true, [.sl 2 (a.S.map eType), .own 3 (x.2.map eObj), .sl 1 (RS.map eI)]⟩)]⟩) (pEs (mLive o a b)) (fun x => x.1) (fun x => x.2.Perm (took (mLive o a b) x.1)) ((fun _ => false, [])) (⟨14, [(3, .lv 0 [] 0), (4, .lv 1 [] 0), (5, .lv 2 [] 0), (6, .lv 3 [] 0), (7, .lv 4 [] 0), (8, .int .i64 0), (12, .sl 1 (RS.map eI)), (16, .lv 12 [] 0)], [(0, ⟨true, eGraph o⟩), (1, ⟨true, eGraph a⟩), (2, ⟨true, eGraph b⟩), (3, ⟨true, [.nilsl, .nilsl, .nilsl]⟩), (4, ⟨true, [.nilsl, .nilsl, .nilsl, .nilsl]⟩), (12, ⟨true, [.sl 2 (a.S.map eType), .nilsl, .sl 1 (RS.map eI)]⟩)]⟩) tt_59 rfl (by simp only [go_sem, simprocAttr]) (by simp only [go_sem, simprocAttr]) ?_ (by simp only [go_sem, simprocAttr]) ?_ (by decide) (by decide) (by decide) (by decide) (by decide) (fun i h => by simp [kp] at h) (by kernel_rfl) (by kernel_rfl) ?_ ?_ (fun _ => rfl) (fun x i k v hI hi hd => ?_) ?_
        · simp [Wk, go_sem, simprocAttr, eGraph, ]
        · exact pEs_nd (mLive_keys o a b)
        · refine Sh.trans (Sh.nilCell 12 [] 1 3 (by simp [go_sem, simprocAttr]) rfl) (Sh.wk0 ?_); simp [Wk, go_sem, simprocAttr, eGraph, ]
        · simp only [took_none]; exact List.Perm.refl _
        · obtain ⟨D, X⟩ := x
          simp only at hI hd
          obtain ⟨ob, hob, rfl⟩ := pEs_get hi
          have hXl : X.length ≤ 8 := by rw [hI.length_eq]; have := took_len (mLive o a b) D; omega
          refine CWops.rn htt 3 ?_
          refine CWops.done ?_
          refine CW.rg ?_
          refine CWops.run htt 7 (by simp only [go_sem, simprocAttr, List.replicate, eObj]; exact rfl) (by simp [AV.cell, AV.tree, eObj, MX] <;> omega) ?_
          refine CWops.done ?_
          refine ⟨.inl rfl, (fun q => D q || decide (q = k), X ++ [ob]), ?_, (hI.append_right [ob]).trans (took_step (mLive_keys o a b) hob hd).symm, fun q => rfl⟩
          refine Sh.wk0 ?_
          simp [Wk, go_sem, simprocAttr, eGraph, eObj]
        intro x hI hall
        obtain ⟨D, X⟩ := x
        simp only at hI hall
        have hX : X.Perm ((mLive o a b).map (·.2)) := by
          rw [took_all (d := D)] at hI
          · exact hI
          · intro p hp
            obtain ⟨j, hj⟩ := List.getElem?_of_mem hp
            exact hall j (p.1, AV.agg (eObj p.2)) (by simp [pEs, hj])
        have hids : ∀ x ∈ X, 0 ≤ x.Id ∧ x.Id ≤ 1073741824 := fun x hx => hk.live (hX.subset hx)
        refine CW.seq ?_
        refine CW.sh (Sh.out 12 1 rfl rfl rfl) ?_
        simp only [go_sem, simprocAttr, outF]
        refine CW.rg ?_
        refine CWops.rn htt 2 ?_
        refine CWops.callGH [15] rfl (sortFuncO up X (by rw [hI.length_eq]; have := took_len (mLive o a b) D; omega) hids) (by decide) (by simp only [go_sem, simprocAttr]) (by simp only [go_sem, simprocAttr]; first | done | exact rfl) (by decide) (by simp [go_sem, simprocAttr, mName, memB]) (by simp [go_sem, simprocAttr, mName]) (by simp [go_sem, simprocAttr]) (by simp [go_sem, simprocAttr]) (by simp [go_sem, simprocAttr, mName]) (fun r σ' hσ => ?_)
        obtain ⟨σn, σt, σs⟩ := σ'
        simp only at hσ
        obtain ⟨m, rfl, rfl, hm2⟩ := hσ
        simp only [aftH, renS, List.map_cons, List.map_nil, delAll, memB, mName, List.getD_nil, killH, kref, ren, Nat.beq_eq, go_sem, simprocAttr]
        refine CWops.done ?_
        refine CW.seq ?_
        refine CW.rg ?_
        refine CWops.rn htt 5 ?_
        refine CWops.done ?_
        refine CW.ret ?_
        refine retQ.ret (by simp only [f11, go_sem, simprocAttr]; exact rfl) (by simp only [go_sem, simprocAttr]; exact rfl) ?_ -- ret4
        refine ⟨_, ?_, rfl⟩
        simp [leP, leL, gMerge, h0, h1, h2, eGraph, eChange, noChange, hRS, hk.sorted hX hm2]
end Go.Ab
namespace Go.Ab
open Go Go.Proofs.Tryz
set_option maxRecDepth 100000
set_option maxHeartbeats 6400000
set_option linter.unusedSimpArgs false
set_option linter.unusedVariables false
theorem mz (o a b : Graph) : gCheck o a b = 0 → MOK o a b := fun h => (M3.of h).mok
theorem merge_MergeG (up : Bool) (o a b : Graph) : PCall prog up 11 [.agg (eGraph o), .agg (eGraph a), .agg (eGraph b)] (· = .tup [.agg (eGraph (gMerge o a b).1), .agg (eChange (gMerge o a b).2.1), .int .i64 (gMerge o a b).2.2]) := merge_Merge up o a b (mz o a b)
theorem merge_ClashG (up : Bool) (o a b : Graph) : PCall prog up 9 [.agg (eGraph o), .agg (eGraph a), .agg (eGraph b)] (· = .tup [.agg (eChange (gClash o a b).1), .int .i64 (gClash o a b).2]) := merge_Clash up o a b (mz o a b)
theorem aw15Merge (up : Bool) : PCall prog up 11 [.agg (eGraph twG), .agg (eGraph twA), .agg (eGraph twB)] (· = .tup [.agg (eGraph twR), .agg (eChange noChange), .int .i64 0]) := by
  have h := merge_MergeG up twG twA twB
  rw [tw_merge] at h; exact h
theorem aw15Clash (up : Bool) : PCall prog up 9 [.agg (eGraph twG), .agg (eGraph twA), .agg (eGraph twD)] (· = .tup [.agg (eChange ⟨[], [], [(0, 0)], []⟩), .int .i64 0]) := by
  have h := merge_ClashG up twG twA twD
  have e : gClash twG twA twD = (⟨[], [], [(0, 0)], []⟩, 0) := by unfold gClash; rw [if_pos tw_clash.1, tw_clash.1, tw_clash.2]
  rw [e] at h; exact h
theorem law15_awake (up : Bool) : PCall prog up 7 [] (· = .bool true) := by
  refine PCall.intro htt func7 (by kernel_rfl) rfl (Nat.le_of_ble_eq_true rfl) fun hl => ?_

  simp only [tmps0, Nat.reduceAdd]
  refine CW.seq ?_
  refine CW.rg ?_
  refine CWops.rn htt 1 ?_
  refine CWops.done ?_
  refine CW.seq ?_
  refine CW.rg ?_
  refine CWops.callA (law08_Two up) (by simp only [go_sem, simprocAttr, eGraph]) (by simp only [go_sem, simprocAttr, eGraph]; first | done | exact rfl) (by simp only [go_sem, simprocAttr, eGraph]) (by simp only [go_sem, simprocAttr, eGraph]) (fun rt13 hrt13 => ?_)
  subst hrt13
  refine CWops.run htt 2 (by simp only [go_sem, simprocAttr, eGraph]; exact rfl) (by simp [go_sem, simprocAttr, eGraph]) ?_
  refine CWops.done ?_
  refine CW.seq ?_
  refine CW.rg ?_
  refine CWops.run htt 2 (by simp only [go_sem, simprocAttr, eGraph, eVal]; exact rfl) (by simp [go_sem, simprocAttr, eGraph, eVal]) ?_
  refine CWops.callA ((by have h := graph_Set up twG 0 0 ⟨9, ⟨#[]⟩, 0⟩ twG_sz; rw [twA_set] at h; exact h)) (by simp only [go_sem, simprocAttr, eGraph, eVal]) (by simp only [go_sem, simprocAttr, eGraph, eVal]; first | done | exact rfl) (by simp only [go_sem, simprocAttr, eGraph, eVal]) (by simp only [go_sem, simprocAttr, eGraph, eVal]) (fun rt17 hrt17 => ?_)
  subst hrt17
  refine CWops.run htt 6 (by simp only [go_sem, simprocAttr, eGraph, eVal]; exact rfl) (by simp [go_sem, simprocAttr, eGraph, eVal]) ?_
  refine CWops.done ?_
  refine CW.seq ?_
  refine CW.rg ?_
  refine CWops.run htt 2 (by simp only [go_sem, simprocAttr, eGraph, eVal]; exact rfl) (by simp [go_sem, simprocAttr, eGraph, eVal]) ?_
  refine CWops.callA ((by have h := graph_Set up twG 0 1 ⟨0, ⟨#[]⟩, 5⟩ twG_sz; rw [twB_set] at h; exact h)) (by simp only [go_sem, simprocAttr, eGraph, eVal]) (by simp only [go_sem, simprocAttr, eGraph, eVal]; first | done | exact rfl) (by simp only [go_sem, simprocAttr, eGraph, eVal]) (by simp only [go_sem, simprocAttr, eGraph, eVal]) (fun rt23 hrt23 => ?_)
  subst hrt23
  refine CWops.run htt 6 (by simp only [go_sem, simprocAttr, eGraph, eVal]; exact rfl) (by simp [go_sem, simprocAttr, eGraph, eVal]) ?_
  refine CWops.done ?_
  refine CW.seq ?_
  refine CW.rg ?_
  refine CWops.run htt 3 (by simp only [go_sem, simprocAttr, eGraph, eChange]; exact rfl) (by simp [go_sem, simprocAttr, eGraph, eChange]) ?_
  refine CWops.callA (aw15Merge up) (by simp only [go_sem, simprocAttr, eGraph, eChange]) (by simp only [go_sem, simprocAttr, eGraph, eChange]; first | done | exact rfl) (by simp only [go_sem, simprocAttr, eGraph, eChange]) (by simp only [go_sem, simprocAttr, eGraph, eChange]) (fun rt30 hrt30 => ?_)
  subst hrt30
  refine CWops.run htt 9 (by simp only [go_sem, simprocAttr, eGraph, eChange]; exact rfl) (by simp [go_sem, simprocAttr, eGraph, eChange]) ?_
  refine CWops.done ?_
  refine CW.seq ?_
  refine CW.rg ?_
  refine CWops.run htt 2 (by simp only [go_sem, simprocAttr, eGraph, eVal]; exact rfl) (by simp [go_sem, simprocAttr, eGraph, eVal]) ?_
  refine CWops.callA ((by have h := graph_Set up twG 0 0 ⟨8, ⟨#[]⟩, 0⟩ twG_sz; rw [twD_set] at h; exact h)) (by simp only [go_sem, simprocAttr, eGraph, eVal]) (by simp only [go_sem, simprocAttr, eGraph, eVal]; first | done | exact rfl) (by simp only [go_sem, simprocAttr, eGraph, eVal]) (by simp only [go_sem, simprocAttr, eGraph, eVal]) (fun rt37 hrt37 => ?_)
  subst hrt37
  refine CWops.run htt 6 (by simp only [go_sem, simprocAttr, eGraph, eVal]; exact rfl) (by simp [go_sem, simprocAttr, eGraph, eVal]) ?_
  refine CWops.done ?_
  refine CW.seq ?_
  refine CW.rg ?_
  refine CWops.run htt 3 (by simp only [go_sem, simprocAttr, eGraph, eChange]; exact rfl) (by simp [go_sem, simprocAttr, eGraph, eChange]) ?_
  refine CWops.callA (aw15Clash up) (by simp only [go_sem, simprocAttr, eGraph, eChange]) (by simp only [go_sem, simprocAttr, eGraph, eChange]; first | done | exact rfl) (by simp only [go_sem, simprocAttr, eGraph, eChange]) (by simp only [go_sem, simprocAttr, eGraph, eChange]) (fun rt44 hrt44 => ?_)
  subst hrt44
  refine CWops.run htt 6 (by simp only [go_sem, simprocAttr, eGraph, eChange]; exact rfl) (by simp [go_sem, simprocAttr, eGraph, eChange]) ?_
  refine CWops.done ?_
  refine CW.seq ?_
  refine CW.rg ?_
  refine CWops.run htt 3 (by simp only [go_sem, simprocAttr, eGraph, eChange, noChange, twR, eObj, eVal, eP, eI, List.map, List.length_cons, List.length_nil, List.getElem?_cons_zero, List.getElem?_cons_succ, Int.toNat_one, Int.toNat_zero]; exact rfl) (by simp [go_sem, simprocAttr, eGraph, eChange, noChange, twR, eObj, eVal, eP, eI, List.map, List.length_cons, List.length_nil, List.getElem?_cons_zero, List.getElem?_cons_succ, Int.toNat_one, Int.toNat_zero]) ?_
  all_goals (first | refine CWops.guard 49 (by simp only [go_sem, simprocAttr, eGraph, eChange, noChange, twR, eObj, eVal, eP, eI, List.map, List.length_cons, List.length_nil, List.getElem?_cons_zero, List.getElem?_cons_succ, Int.toNat_one, Int.toNat_zero]; exact rfl) (fun g49 => ?_) (fun g49 => ?_) | skip)
  all_goals (first | (simp at g49; done) | (cases g49; done) | skip)
  all_goals (refine CWops.run htt 4 (by simp only [go_sem, simprocAttr, eGraph, eChange, noChange, twR, eObj, eVal, eP, eI, List.map, List.length_cons, List.length_nil, List.getElem?_cons_zero, List.getElem?_cons_succ, Int.toNat_one, Int.toNat_zero]; exact rfl) (by simp [go_sem, simprocAttr, eGraph, eChange, noChange, twR, eObj, eVal, eP, eI, List.map, List.length_cons, List.length_nil, List.getElem?_cons_zero, List.getElem?_cons_succ, Int.toNat_one, Int.toNat_zero]) ?_)
  all_goals (first | refine CWops.guard 53 (by simp only [go_sem, simprocAttr, eGraph, eChange, noChange, twR, eObj, eVal, eP, eI, List.map, List.length_cons, List.length_nil, List.getElem?_cons_zero, List.getElem?_cons_succ, Int.toNat_one, Int.toNat_zero]; exact rfl) (fun g53 => ?_) (fun g53 => ?_) | skip)
  all_goals (first | (simp at g53; done) | (cases g53; done) | skip)
  all_goals (refine CWops.run htt 4 (by simp only [go_sem, simprocAttr, eGraph, eChange, noChange, twR, eObj, eVal, eP, eI, List.map, List.length_cons, List.length_nil, List.getElem?_cons_zero, List.getElem?_cons_succ, Int.toNat_one, Int.toNat_zero]; exact rfl) (by simp [go_sem, simprocAttr, eGraph, eChange, noChange, twR, eObj, eVal, eP, eI, List.map, List.length_cons, List.length_nil, List.getElem?_cons_zero, List.getElem?_cons_succ, Int.toNat_one, Int.toNat_zero]) ?_)
  all_goals (first | refine CWops.guard 57 (by simp only [go_sem, simprocAttr, eGraph, eChange, noChange, twR, eObj, eVal, eP, eI, List.map, List.length_cons, List.length_nil, List.getElem?_cons_zero, List.getElem?_cons_succ, Int.toNat_one, Int.toNat_zero]; exact rfl) (fun g57 => ?_) (fun g57 => ?_) | skip)
  all_goals (first | (simp at g57; done) | (cases g57; done) | skip)
  all_goals (refine CWops.run htt 1 (by simp only [go_sem, simprocAttr, eGraph, eChange, noChange, twR, eObj, eVal, eP, eI, List.map, List.length_cons, List.length_nil, List.getElem?_cons_zero, List.getElem?_cons_succ, Int.toNat_one, Int.toNat_zero]; exact rfl) (by simp [go_sem, simprocAttr, eGraph, eChange, noChange, twR, eObj, eVal, eP, eI, List.map, List.length_cons, List.length_nil, List.getElem?_cons_zero, List.getElem?_cons_succ, Int.toNat_one, Int.toNat_zero]) ?_)
  all_goals (first | (refine CWops.skip ?_ ?_; next => (simp only [go_sem, simprocAttr]; done)) | (refine CWops.call (diff_None up noChange (by decide)) (by simp only [go_sem, simprocAttr, eGraph, eChange, noChange, twR, eObj, eVal, eP, eI, List.map, List.length_cons, List.length_nil, List.getElem?_cons_zero, List.getElem?_cons_succ, Int.toNat_one, Int.toNat_zero]) (by simp only [go_sem, simprocAttr, eGraph, eChange, noChange, twR, eObj, eVal, eP, eI, List.map, List.length_cons, List.length_nil, List.getElem?_cons_zero, List.getElem?_cons_succ, Int.toNat_one, Int.toNat_zero]; first | done | exact rfl) (by simp only [go_sem, simprocAttr, eGraph, eChange, noChange, twR, eObj, eVal, eP, eI, List.map, List.length_cons, List.length_nil, List.getElem?_cons_zero, List.getElem?_cons_succ, Int.toNat_one, Int.toNat_zero]) (fun rt59 hrt59 => ?_); subst hrt59; refine ⟨rfl, ?_⟩))
  all_goals (refine CWops.run htt 2 (by simp only [go_sem, simprocAttr, eGraph, eChange, noChange, twR, eObj, eVal, eP, eI, List.map, List.length_cons, List.length_nil, List.getElem?_cons_zero, List.getElem?_cons_succ, Int.toNat_one, Int.toNat_zero]; exact rfl) (by simp [go_sem, simprocAttr, eGraph, eChange, noChange, twR, eObj, eVal, eP, eI, List.map, List.length_cons, List.length_nil, List.getElem?_cons_zero, List.getElem?_cons_succ, Int.toNat_one, Int.toNat_zero]) ?_)
  all_goals (first | refine CWops.guard 61 (by simp only [go_sem, simprocAttr, eGraph, eChange, noChange, twR, eObj, eVal, eP, eI, List.map, List.length_cons, List.length_nil, List.getElem?_cons_zero, List.getElem?_cons_succ, Int.toNat_one, Int.toNat_zero]; exact rfl) (fun g61 => ?_) (fun g61 => ?_) | skip)
  all_goals (first | (simp at g61; done) | (cases g61; done) | skip)
  all_goals (refine CWops.run htt 6 (by simp only [go_sem, simprocAttr, eGraph, eChange, noChange, twR, eObj, eVal, eP, eI, List.map, List.length_cons, List.length_nil, List.getElem?_cons_zero, List.getElem?_cons_succ, Int.toNat_one, Int.toNat_zero]; exact rfl) (by simp [go_sem, simprocAttr, eGraph, eChange, noChange, twR, eObj, eVal, eP, eI, List.map, List.length_cons, List.length_nil, List.getElem?_cons_zero, List.getElem?_cons_succ, Int.toNat_one, Int.toNat_zero]) ?_)
  all_goals (first | refine CWops.guard 67 (by simp only [go_sem, simprocAttr, eGraph, eChange, noChange, twR, eObj, eVal, eP, eI, List.map, List.length_cons, List.length_nil, List.getElem?_cons_zero, List.getElem?_cons_succ, Int.toNat_one, Int.toNat_zero]; exact rfl) (fun g67 => ?_) (fun g67 => ?_) | skip)
  all_goals (first | (simp at g67; done) | (cases g67; done) | skip)
  all_goals (refine CWops.run htt 11 (by simp only [go_sem, simprocAttr, eGraph, eChange, noChange, twR, eObj, eVal, eP, eI, List.map, List.length_cons, List.length_nil, List.getElem?_cons_zero, List.getElem?_cons_succ, Int.toNat_one, Int.toNat_zero]; exact rfl) (by simp [go_sem, simprocAttr, eGraph, eChange, noChange, twR, eObj, eVal, eP, eI, List.map, List.length_cons, List.length_nil, List.getElem?_cons_zero, List.getElem?_cons_succ, Int.toNat_one, Int.toNat_zero]) ?_)
  all_goals (first | refine CWops.guard 78 (by simp only [go_sem, simprocAttr, eGraph, eChange, noChange, twR, eObj, eVal, eP, eI, List.map, List.length_cons, List.length_nil, List.getElem?_cons_zero, List.getElem?_cons_succ, Int.toNat_one, Int.toNat_zero]; exact rfl) (fun g78 => ?_) (fun g78 => ?_) | skip)
  all_goals (first | (simp at g78; done) | (cases g78; done) | skip)
  all_goals (refine CWops.run htt 11 (by simp only [go_sem, simprocAttr, eGraph, eChange, noChange, twR, eObj, eVal, eP, eI, List.map, List.length_cons, List.length_nil, List.getElem?_cons_zero, List.getElem?_cons_succ, Int.toNat_one, Int.toNat_zero]; exact rfl) (by simp [go_sem, simprocAttr, eGraph, eChange, noChange, twR, eObj, eVal, eP, eI, List.map, List.length_cons, List.length_nil, List.getElem?_cons_zero, List.getElem?_cons_succ, Int.toNat_one, Int.toNat_zero]) ?_)
  all_goals (first | refine CWops.guard 89 (by simp only [go_sem, simprocAttr, eGraph, eChange, noChange, twR, eObj, eVal, eP, eI, List.map, List.length_cons, List.length_nil, List.getElem?_cons_zero, List.getElem?_cons_succ, Int.toNat_one, Int.toNat_zero]; exact rfl) (fun g89 => ?_) (fun g89 => ?_) | skip)
  all_goals (first | (simp at g89; done) | (cases g89; done) | skip)
  all_goals (refine CWops.run htt 4 (by simp only [go_sem, simprocAttr, eGraph, eChange, noChange, twR, eObj, eVal, eP, eI, List.map, List.length_cons, List.length_nil, List.getElem?_cons_zero, List.getElem?_cons_succ, Int.toNat_one, Int.toNat_zero]; exact rfl) (by simp [go_sem, simprocAttr, eGraph, eChange, noChange, twR, eObj, eVal, eP, eI, List.map, List.length_cons, List.length_nil, List.getElem?_cons_zero, List.getElem?_cons_succ, Int.toNat_one, Int.toNat_zero]) ?_)
  all_goals (first | refine CWops.guard 93 (by simp only [go_sem, simprocAttr, eGraph, eChange, noChange, twR, eObj, eVal, eP, eI, List.map, List.length_cons, List.length_nil, List.getElem?_cons_zero, List.getElem?_cons_succ, Int.toNat_one, Int.toNat_zero]; exact rfl) (fun g93 => ?_) (fun g93 => ?_) | skip)
  all_goals (first | (simp at g93; done) | (cases g93; done) | skip)
  all_goals (refine CWops.run htt 4 (by simp only [go_sem, simprocAttr, eGraph, eChange, noChange, twR, eObj, eVal, eP, eI, List.map, List.length_cons, List.length_nil, List.getElem?_cons_zero, List.getElem?_cons_succ, Int.toNat_one, Int.toNat_zero]; exact rfl) (by simp [go_sem, simprocAttr, eGraph, eChange, noChange, twR, eObj, eVal, eP, eI, List.map, List.length_cons, List.length_nil, List.getElem?_cons_zero, List.getElem?_cons_succ, Int.toNat_one, Int.toNat_zero]) ?_)
  all_goals (first | refine CWops.guard 97 (by simp only [go_sem, simprocAttr, eGraph, eChange, noChange, twR, eObj, eVal, eP, eI, List.map, List.length_cons, List.length_nil, List.getElem?_cons_zero, List.getElem?_cons_succ, Int.toNat_one, Int.toNat_zero]; exact rfl) (fun g97 => ?_) (fun g97 => ?_) | skip)
  all_goals (first | (simp at g97; done) | (cases g97; done) | skip)
  all_goals (refine CWops.run htt 6 (by simp only [go_sem, simprocAttr, eGraph, eChange, noChange, twR, eObj, eVal, eP, eI, List.map, List.length_cons, List.length_nil, List.getElem?_cons_zero, List.getElem?_cons_succ, Int.toNat_one, Int.toNat_zero]; exact rfl) (by simp [go_sem, simprocAttr, eGraph, eChange, noChange, twR, eObj, eVal, eP, eI, List.map, List.length_cons, List.length_nil, List.getElem?_cons_zero, List.getElem?_cons_succ, Int.toNat_one, Int.toNat_zero]) ?_)
  all_goals (refine CWops.done ?_)
  all_goals (
    refine CW.ret ?_
    refine retQ.ret (by simp only [f7, go_sem, simprocAttr]; exact rfl) (by simp only [go_sem, simprocAttr]; exact rfl) ?_ -- ret1
    refine ⟨_, ?_, rfl⟩
    first | (simp [leP]; done) | (simp [leP, gNone, noChange]; done) | contradiction)
theorem law15_few (up : Bool) (o a b : Graph) : PCall prog up 8 [.agg (eGraph o), .agg (eGraph a), .agg (eGraph b)] (· = .bool ((fewG o && fewG a) && fewG b)) := by
  refine PCall.intro htt func8 (by kernel_rfl) rfl (Nat.le_of_ble_eq_true rfl) fun hl => ?_

  simp only [tmps0, Nat.reduceAdd]
  refine CW.seq ?_
  refine CW.rg ?_
  refine CWops.run htt 4 (by simp only [go_sem, simprocAttr, eGraph]; exact rfl) (by simp [go_sem, simprocAttr, eGraph]) ?_
  refine CWops.done ?_
  refine CW.seq ?_
  refine CW.rg ?_
  refine CWops.run htt 1 (by simp only [go_sem, simprocAttr, eGraph]; exact rfl) (by simp [go_sem, simprocAttr, eGraph]) ?_
  refine CWops.call (law08_Few up o) (by simp only [go_sem, simprocAttr, eGraph]) (by simp only [go_sem, simprocAttr, eGraph]; first | done | exact rfl) (by simp only [go_sem, simprocAttr, eGraph]) (fun rt11 hrt11 => ?_)
  subst hrt11; refine ⟨rfl, ?_⟩
  refine CWops.run htt 1 (by simp only [go_sem, simprocAttr, eGraph]; exact rfl) (by simp [go_sem, simprocAttr, eGraph]) ?_
  refine CWops.done ?_
  refine CW.seq ?_
  refine CW.rg ?_
  refine CWops.run htt 1 (by simp only [go_sem, simprocAttr, eGraph]; exact rfl) (by simp [go_sem, simprocAttr, eGraph]) ?_
  refine CWops.call (law08_Few up a) (by simp only [go_sem, simprocAttr, eGraph]) (by simp only [go_sem, simprocAttr, eGraph]; first | done | exact rfl) (by simp only [go_sem, simprocAttr, eGraph]) (fun rt13 hrt13 => ?_)
  subst hrt13; refine ⟨rfl, ?_⟩
  refine CWops.run htt 1 (by simp only [go_sem, simprocAttr, eGraph]; exact rfl) (by simp [go_sem, simprocAttr, eGraph]) ?_
  refine CWops.done ?_
  refine CW.seq ?_
  refine CW.rg ?_
  refine CWops.run htt 1 (by simp only [go_sem, simprocAttr, eGraph]; exact rfl) (by simp [go_sem, simprocAttr, eGraph]) ?_
  refine CWops.call (law08_Few up b) (by simp only [go_sem, simprocAttr, eGraph]) (by simp only [go_sem, simprocAttr, eGraph]; first | done | exact rfl) (by simp only [go_sem, simprocAttr, eGraph]) (fun rt15 hrt15 => ?_)
  subst hrt15; refine ⟨rfl, ?_⟩
  refine CWops.run htt 1 (by simp only [go_sem, simprocAttr, eGraph]; exact rfl) (by simp [go_sem, simprocAttr, eGraph]) ?_
  refine CWops.done ?_
  refine CW.seq ?_
  refine CW.rg ?_
  refine CWops.rn htt 2 ?_
  all_goals (first | refine CWops.guard 17 (by simp only [go_sem, simprocAttr]; exact rfl) (fun g17 => ?_) (fun g17 => ?_) | skip)
  all_goals (refine CWops.rn htt 3 ?_)
  all_goals (first | refine CWops.guard 20 (by simp only [go_sem, simprocAttr]; exact rfl) (fun g20 => ?_) (fun g20 => ?_) | skip)
  all_goals (refine CWops.rn htt 3 ?_)
  all_goals (refine CWops.done ?_)
  all_goals (
    refine CW.ret ?_
    refine retQ.ret (by simp only [f8, go_sem, simprocAttr]; exact rfl) (by simp only [go_sem, simprocAttr]; exact rfl) ?_ -- ret1
    refine ⟨_, ?_, rfl⟩
    first | (simp [leP]; done) | (simp_all [leP]; done))
end Go.Ab
namespace Go.Ab
open Go Go.Proofs.Tryz
set_option maxRecDepth 100000
set_option maxHeartbeats 12800000
set_option linter.unusedSimpArgs false
set_option linter.unusedVariables false
theorem law15_MergeStands (up : Bool) (o a b : Graph) (i k : Int) : PCall prog up 5 [.agg (eGraph o), .agg (eGraph a), .agg (eGraph b), .int .i64 i, .int .i64 k] (· = .bool true) := by
  refine PCall.intro htt func5 (by kernel_rfl) rfl (Nat.le_of_ble_eq_true rfl) fun hl => ?_

  simp only [tmps0, Nat.reduceAdd]
  refine CW.seq ?_
  refine CW.rg ?_
  refine CWops.run htt 4 (by simp only [go_sem, simprocAttr, eGraph]; exact rfl) (by simp [go_sem, simprocAttr, eGraph]) ?_
  refine CWops.done ?_
  refine CW.seq ?_
  refine CW.rg ?_
  refine CWops.callA (law15_awake up) (by simp only [go_sem, simprocAttr]) (by simp only [go_sem, simprocAttr]; first | done | exact rfl) (by simp only [go_sem, simprocAttr]) (by simp only [go_sem, simprocAttr]) (fun rt21 hrt21 => ?_)
  subst hrt21
  refine CWops.rn htt 1 ?_
  refine CWops.done ?_
  refine CW.seq ?_
  refine CW.rg ?_
  refine CWops.run htt 3 (by simp only [go_sem, simprocAttr, eGraph]; exact rfl) (by simp [go_sem, simprocAttr, eGraph]) ?_
  refine CWops.call (law15_few up o a b) (by simp only [go_sem, simprocAttr, eGraph]) (by simp only [go_sem, simprocAttr, eGraph]; first | done | exact rfl) (by simp only [go_sem, simprocAttr, eGraph]) (fun rt25 hrt25 => ?_)
  subst hrt25; refine ⟨rfl, ?_⟩
  refine CWops.run htt 1 (by simp only [go_sem, simprocAttr, eGraph]; exact rfl) (by simp [go_sem, simprocAttr, eGraph]) ?_
  refine CWops.done ?_
  refine CW.seq ?_
  refine CW.cut ⟨3, [(3, .int .i64 i), (4, .int .i64 k), (5, .lv 0 [] 0), (6, .lv 1 [] 0), (7, .lv 2 [] 0), (11, .bool true), (31, .bool (!((fewG o && fewG a) && fewG b)))], [(0, ⟨true, eGraph o⟩), (1, ⟨true, eGraph a⟩), (2, ⟨true, eGraph b⟩)]⟩ ?_ ?_
  · refine CW.rg ?_
    refine CWops.rn htt 3 ?_
    all_goals (first | refine CWops.guard 28 (by simp only [go_sem, simprocAttr]; exact rfl) (fun g28 => ?_) (fun g28 => ?_) | skip)
    all_goals (first | (simp at g28; done) | (exfalso; simp only [decide_eq_false_iff_not, decide_eq_true_eq, Bool.not_eq_true', Bool.not_eq_false'] at *; omega) | (exfalso; simp_all; done) | skip)
    all_goals (refine CWops.rn htt 3 ?_)
    all_goals (refine CWops.done ?_)
    all_goals (
      first | refine ⟨rfl, Sh.wk0 ?_⟩ | refine Sh.wk0 ?_
      first | (simp [Wk, go_sem, simprocAttr, eGraph, eVal]; done) | (simp_all [Wk, go_sem, simprocAttr, eGraph, eVal] <;> first | done | rfl | omega | (rw [Bool.eq_iff_iff]; simp; done)))
  refine CW.cond (by simp only [go_sem, simprocAttr]; first | done | exact rfl) (fun ct31 => ?_) (fun ct31 => ?_)
  · refine CW.seq ?_
    refine CW.rg ?_
    refine CWops.rn htt 2 ?_
    refine CWops.done ?_
    refine CW.ret ?_
    refine retQ.ret (by simp only [f5, go_sem, simprocAttr]; exact rfl) (by simp only [go_sem, simprocAttr]; exact rfl) ?_ -- ret1
    refine ⟨_, ?_, rfl⟩
    first | (simp [leP]; done) | (simp_all [leP]; done)
  · obtain ⟨⟨G, C, E⟩, hM⟩ : ∃ p, gMerge o a b = p := ⟨_, rfl⟩
    refine CW.skip ?_
    refine CW.seq ?_
    refine CW.rg ?_
    refine CWops.run htt 3 (by simp only [go_sem, simprocAttr, eGraph]; exact rfl) (by simp [go_sem, simprocAttr, eGraph]) ?_
    refine CWops.callA ((by have h := merge_MergeG up o a b; rw [hM] at h; exact h)) (by simp only [go_sem, simprocAttr, eGraph]) (by simp only [go_sem, simprocAttr, eGraph]; first | done | exact rfl) (by simp only [go_sem, simprocAttr, eGraph]) (by simp only [go_sem, simprocAttr, eGraph]) (fun rt37 hrt37 => ?_)
    subst hrt37
    refine CWops.run htt 9 (by simp only [go_sem, simprocAttr, eGraph]; exact rfl) (by simp [go_sem, simprocAttr, eGraph]) ?_
    refine CWops.done ?_
    refine CW.seq ?_
    refine CW.seq ?_
    refine CW.rg ?_
    refine CWops.rn htt 2 ?_
    refine CWops.done ?_
    refine CW.cond (by simp only [go_sem, simprocAttr]; first | done | exact rfl) (fun ct42 => ?_) (fun ct42 => ?_)
    · have hE : E ≠ 0 := by simpa using ct42
      have hGe := merge_empty hM hE
      refine CW.seq ?_
      refine CW.rg ?_
      refine CWops.run htt 5 (by simp only [go_sem, simprocAttr, eGraph, hGe, List.map, List.length_nil]; exact rfl) (by simp [go_sem, simprocAttr, eGraph, hGe, List.map, List.length_nil]) ?_
      refine CWops.done ?_
      refine CW.ret ?_
      refine retQ.ret (by simp only [f5, go_sem, simprocAttr]; exact rfl) (by simp only [go_sem, simprocAttr]; exact rfl) ?_ -- ret2
      refine ⟨_, ?_, rfl⟩
      first | (simp [leP]; done) | (simp_all [leP]; done)
    · have hE : E = 0 := by simpa using ct42
      subst hE
      obtain ⟨hMay, hSw, -⟩ := merge_stands hM
      refine CW.skip ?_
      refine CW.seq ?_
      refine CW.cut ⟨5, [(3, .int .i64 i), (4, .int .i64 k), (5, .lv 0 [] 0), (6, .lv 1 [] 0), (7, .lv 2 [] 0), (13, .lv 3 [] 0), (56, .bool false)], [(0, ⟨true, eGraph o⟩), (1, ⟨true, eGraph a⟩), (2, ⟨true, eGraph b⟩), (3, ⟨true, eGraph G⟩)]⟩ ?_ ?_
      · refine CW.drawn mixed 7 (by decide) (by kernel_rfl) (by kernel_rfl) (by kernel_rfl) ?_
        refine Seg.run htt 1 (by simp only [go_sem, simprocAttr, eGraph]; exact rfl) ?_
        refine Seg.call ((by have h := graph_May up G; rw [hMay] at h; exact h)) (by simp only [go_sem, simprocAttr, eGraph]) (by simp only [go_sem, simprocAttr, eGraph]; first | done | exact rfl) (by simp only [go_sem, simprocAttr, eGraph]) (by simp only [go_sem, simprocAttr, eGraph]) rfl ?_
        refine Seg.run htt 2 (by simp only [go_sem, simprocAttr, eGraph]; exact rfl) ?_
        all_goals (first | refine Seg.guard 50 (by simp only [go_sem, simprocAttr, eGraph]; exact rfl) (fun g50 => ?_) (fun g50 => ?_) | skip)
        all_goals (first | (simp at g50; done) | (exfalso; simp only [decide_eq_false_iff_not, decide_eq_true_eq, Bool.not_eq_true', Bool.not_eq_false'] at *; omega) | (exfalso; simp_all; done) | skip)
        all_goals (refine Seg.run htt 1 (by simp only [go_sem, simprocAttr, eGraph]; exact rfl) ?_)
        all_goals (first | (refine Seg.skip ?_ ?_; next => (simp only [go_sem, simprocAttr]; done)) | (refine Seg.callA ((by have h := graph_Sweep up G; rw [hSw] at h; exact h)) (by simp only [go_sem, simprocAttr, eGraph]) (by simp only [go_sem, simprocAttr, eGraph]; first | done | exact rfl) (by simp only [go_sem, simprocAttr, eGraph]) (by simp only [go_sem, simprocAttr, eGraph]) ?_))
        all_goals (refine Seg.run htt 1 (by simp only [go_sem, simprocAttr, eGraph]; exact rfl) ?_)
        all_goals (refine Seg.done ?_)
        all_goals (first | (refine CWops.skip ?_ ?_; next => (simp only [go_sem, simprocAttr]; done)) | (refine CWops.call (graph_Same up G G) (by simp only [go_sem, simprocAttr, eGraph]) (by simp only [go_sem, simprocAttr, eGraph]; first | done | exact rfl) (by simp only [go_sem, simprocAttr, eGraph]) (fun rt54 hrt54 => ?_); subst hrt54; refine ⟨rfl, ?_⟩))
        all_goals (refine CWops.run htt 2 (by simp only [go_sem, simprocAttr, eGraph]; exact rfl) (by simp [go_sem, simprocAttr, eGraph]) ?_)
        all_goals (refine CWops.done ?_)
        all_goals (
          first | refine ⟨rfl, Sh.wk0 ?_⟩ | refine Sh.wk0 ?_
          first | (simp [Wk, go_sem, simprocAttr, eGraph, eVal]; done) | (simp_all [Wk, go_sem, simprocAttr, eGraph, eVal] <;> first | done | rfl | omega | (rw [Bool.eq_iff_iff]; simp; done)))
      refine CW.cond (by simp only [go_sem, simprocAttr]; first | done | exact rfl) (fun ct56 => ?_) (fun ct56 => ?_)
      · cases ct56 
      · refine CW.skip ?_
        refine CW.seq ?_
        refine CW.cut ⟨5, [(3, .int .i64 i), (4, .int .i64 k), (5, .lv 0 [] 0), (6, .lv 1 [] 0), (7, .lv 2 [] 0), (13, .lv 3 [] 0), (80, .bool (fldAt G i k).isNone)], [(0, ⟨true, eGraph o⟩), (1, ⟨true, eGraph a⟩), (2, ⟨true, eGraph b⟩), (3, ⟨true, eGraph G⟩)]⟩ ?_ ?_
        · obtain ⟨p, q, z, u, hfc⟩ := fldAt_cases G i k
          rcases hfc with ⟨hi, hO, hpl, hk, hF, hql, hfl⟩ | ⟨rfl, hO, hpl, hk, hF, hql, hfl⟩ | ⟨rfl, hO, hpl, rfl, hF, hql, hfl⟩
          all_goals (refine CW.rg ?_)
          all_goals (refine CWops.run htt 3 (by simp only [go_sem, simprocAttr, eGraph, hO, hpl, eObj, hF, hql]; exact rfl) (by simp [go_sem, simprocAttr, eGraph, hO, hpl, eObj, hF, hql]) ?_)
          all_goals (first | refine CWops.guard 59 (by simp only [go_sem, simprocAttr, eGraph, hO, hpl, eObj, hF, hql]; exact rfl) (fun g59 => ?_) (fun g59 => ?_) | skip)
          all_goals (first | (simp at g59; done) | (exfalso; simp only [decide_eq_false_iff_not, decide_eq_true_eq, Bool.not_eq_true', Bool.not_eq_false'] at *; omega) | (exfalso; simp_all; done) | skip)
          all_goals (refine CWops.run htt 7 (by simp only [go_sem, simprocAttr, eGraph, hO, hpl, eObj, hF, hql]; exact rfl) (by simp [go_sem, simprocAttr, eGraph, hO, hpl, eObj, hF, hql]) ?_)
          all_goals (first | refine CWops.guard 66 (by simp only [go_sem, simprocAttr, eGraph, hO, hpl, eObj, hF, hql]; exact rfl) (fun g66 => ?_) (fun g66 => ?_) | skip)
          all_goals (first | (simp at g66; done) | (exfalso; simp only [decide_eq_false_iff_not, decide_eq_true_eq, Bool.not_eq_true', Bool.not_eq_false'] at *; omega) | (exfalso; simp_all; done) | skip)
          all_goals (refine CWops.run htt 4 (by simp only [go_sem, simprocAttr, eGraph, hO, hpl, eObj, hF, hql]; exact rfl) (by simp [go_sem, simprocAttr, eGraph, hO, hpl, eObj, hF, hql]) ?_)
          all_goals (first | refine CWops.guard 70 (by simp only [go_sem, simprocAttr, eGraph, hO, hpl, eObj, hF, hql]; exact rfl) (fun g70 => ?_) (fun g70 => ?_) | skip)
          all_goals (first | (simp at g70; done) | (exfalso; simp only [decide_eq_false_iff_not, decide_eq_true_eq, Bool.not_eq_true', Bool.not_eq_false'] at *; omega) | (exfalso; simp_all; done) | skip)
          all_goals (refine CWops.run htt 10 (by simp only [go_sem, simprocAttr, eGraph, hO, hpl, eObj, hF, hql]; exact rfl) (by simp [go_sem, simprocAttr, eGraph, hO, hpl, eObj, hF, hql]) ?_)
          all_goals (refine CWops.done ?_)
          all_goals (
            first | refine ⟨rfl, Sh.wk0 ?_⟩ | refine Sh.wk0 ?_
            rw [hfl]
            first | (simp [Wk, go_sem, simprocAttr, eGraph]; done) | (simp_all [Wk, go_sem, simprocAttr, eGraph] <;> first | done | omega))
        refine CW.cond (by simp only [go_sem, simprocAttr]; first | done | exact rfl) (fun ct80 => ?_) (fun ct80 => ?_)
        · refine CW.seq ?_
          refine CW.rg ?_
          refine CWops.rn htt 1 ?_
          refine CWops.done ?_
          refine CW.ret ?_
          refine retQ.ret (by simp only [f5, go_sem, simprocAttr]; exact rfl) (by simp only [go_sem, simprocAttr]; exact rfl) ?_ -- ret3
          refine ⟨_, ?_, rfl⟩
          first | (simp [leP]; done) | (simp_all [leP]; done)
        · obtain ⟨p, q, z, u, rfl, rfl, hO, hpl, hF, hql⟩ := fldAt_some ct80
          obtain ⟨pa, pb, po, xa, xb, xo, va, vb, vo, hst⟩ := stands_cases hM hO hF
          refine CW.skip ?_
          refine CW.seq ?_
          refine CW.rg ?_
          refine CWops.run htt 11 (by simp only [go_sem, simprocAttr, eGraph, hO, hpl, eObj, hF, hql, eVal]; exact rfl) (by simp [go_sem, simprocAttr, eGraph, hO, hpl, eObj, hF, hql, eVal]) ?_
          refine CWops.done ?_
          refine CW.seq ?_
          refine CW.drawn mixed 7 (by decide) (by kernel_rfl) (by kernel_rfl) (by kernel_rfl) ?_
          refine Seg.run htt 7 (by simp only [go_sem, simprocAttr, eGraph, hO, hpl, eObj]; exact rfl) ?_
          refine Seg.done ?_
          refine CWops.call (ref08_Find up a z.Id) (by simp only [go_sem, simprocAttr, eGraph, hO, hpl, eObj]) (by simp only [go_sem, simprocAttr, eGraph, hO, hpl, eObj]; first | done | exact rfl) (by simp only [go_sem, simprocAttr, eGraph, hO, hpl, eObj]) (fun rt97 hrt97 => ?_)
          subst hrt97; refine ⟨rfl, ?_⟩
          refine CWops.run htt 1 (by simp only [go_sem, simprocAttr, eGraph, hO, hpl, eObj]; exact rfl) (by simp [go_sem, simprocAttr, eGraph, hO, hpl, eObj]) ?_
          refine CWops.done ?_
          refine CW.seq ?_
          refine CW.drawn mixed 7 (by decide) (by kernel_rfl) (by kernel_rfl) (by kernel_rfl) ?_
          refine Seg.run htt 7 (by simp only [go_sem, simprocAttr, eGraph, hO, hpl, eObj]; exact rfl) ?_
          refine Seg.done ?_
          refine CWops.call (ref08_Find up b z.Id) (by simp only [go_sem, simprocAttr, eGraph, hO, hpl, eObj]) (by simp only [go_sem, simprocAttr, eGraph, hO, hpl, eObj]; first | done | exact rfl) (by simp only [go_sem, simprocAttr, eGraph, hO, hpl, eObj]) (fun rt105 hrt105 => ?_)
          subst hrt105; refine ⟨rfl, ?_⟩
          refine CWops.run htt 1 (by simp only [go_sem, simprocAttr, eGraph, hO, hpl, eObj]; exact rfl) (by simp [go_sem, simprocAttr, eGraph, hO, hpl, eObj]) ?_
          refine CWops.done ?_
          refine CW.seq ?_
          refine CW.drawn mixed 7 (by decide) (by kernel_rfl) (by kernel_rfl) (by kernel_rfl) ?_
          refine Seg.run htt 7 (by simp only [go_sem, simprocAttr, eGraph, hO, hpl, eObj]; exact rfl) ?_
          refine Seg.done ?_
          refine CWops.call (ref08_Find up o z.Id) (by simp only [go_sem, simprocAttr, eGraph, hO, hpl, eObj]) (by simp only [go_sem, simprocAttr, eGraph, hO, hpl, eObj]; first | done | exact rfl) (by simp only [go_sem, simprocAttr, eGraph, hO, hpl, eObj]) (fun rt113 hrt113 => ?_)
          subst hrt113; refine ⟨rfl, ?_⟩
          refine CWops.run htt 1 (by simp only [go_sem, simprocAttr, eGraph, hO, hpl, eObj]; exact rfl) (by simp [go_sem, simprocAttr, eGraph, hO, hpl, eObj]) ?_
          refine CWops.done ?_
          refine CW.seq ?_
          refine CW.cut ⟨7, [(3, .int .i64 (p : Int)), (4, .int .i64 (q : Int)), (5, .lv 0 [] 0), (6, .lv 1 [] 0), (7, .lv 2 [] 0), (16, .lv 5 [] 0), (17, .int .i64 (fnd (fun o => decide (o.Id = z.Id)) a.O)), (18, .int .i64 (fnd (fun o => decide (o.Id = z.Id)) b.O)), (19, .int .i64 (fnd (fun o => decide (o.Id = z.Id)) o.O)), (153, .bool false)], [(0, ⟨true, eGraph o⟩), (1, ⟨true, eGraph a⟩), (2, ⟨true, eGraph b⟩), (5, ⟨true, eVal u⟩)]⟩ ?_ ?_
          · obtain ⟨p0, x0, v0, hst0⟩ : ∃ (p0 : Nat) (x0 : GObj) (v0 : GVal), p0 = 0 ∧ x0 = ⟨0, 0, []⟩ ∧ v0 = ⟨0, ⟨#[]⟩, 0⟩ := ⟨_, _, _, rfl, rfl, rfl⟩
            have hst1 : ((fnd (fun o => decide (o.Id = z.Id)) b.O) = -1 ∧ True ∧ True ∧ True ∧ True ∧ (fnd (fun o => decide (o.Id = z.Id)) a.O) = (pa : Int) ∧ a.O[pa]? = some xa ∧ pa < a.O.length ∧ xa.F[q]? = some u ∧ q < xa.F.length) ∨ ((fnd (fun o => decide (o.Id = z.Id)) b.O) = (pb : Int) ∧ b.O[pb]? = some xb ∧ pb < b.O.length ∧ xb.F[q]? = some u ∧ q < xb.F.length ∧ (fnd (fun o => decide (o.Id = z.Id)) a.O) = -1 ∧ True ∧ True ∧ True ∧ True) ∨ ((fnd (fun o => decide (o.Id = z.Id)) b.O) = (pb : Int) ∧ b.O[pb]? = some xb ∧ pb < b.O.length ∧ xb.F[q]? = some vb ∧ q < xb.F.length ∧ (fnd (fun o => decide (o.Id = z.Id)) a.O) = (pa : Int) ∧ a.O[pa]? = some xa ∧ pa < a.O.length ∧ xa.F[q]? = some va ∧ q < xa.F.length) := by
              rcases hst with ⟨h1, h2⟩ | ⟨h1, h2⟩ | ⟨h1, h2, _⟩
              · exact .inl ⟨h1, trivial, trivial, trivial, trivial, h2.f, h2.o, h2.ol, h2.v, h2.vl⟩
              · exact .inr (.inl ⟨h2.f, h2.o, h2.ol, h2.v, h2.vl, h1, trivial, trivial, trivial, trivial⟩)
              · exact .inr (.inr ⟨h2.f, h2.o, h2.ol, h2.v, h2.vl, h1.f, h1.o, h1.ol, h1.v, h1.vl⟩)
            rcases hst1 with ⟨b1, b2, b3, b4, b5, a1, a2, a3, a4, a5⟩ | ⟨b1, b2, b3, b4, b5, a1, a2, a3, a4, a5⟩ | ⟨b1, b2, b3, b4, b5, a1, a2, a3, a4, a5⟩
            all_goals (refine CW.drawn mixed 37 (by decide) (by kernel_rfl) (by kernel_rfl) (by kernel_rfl) ?_)
            all_goals (refine Seg.run htt 3 (by simp only [go_sem, simprocAttr, eGraph, eObj, eVal, a1, a2, a3, a4, a5, b1, b2, b3, b4, b5]; exact rfl) ?_)
            all_goals (first | refine Seg.guard 116 (by simp only [go_sem, simprocAttr, eGraph, eObj, eVal, a1, a2, a3, a4, a5, b1, b2, b3, b4, b5]; exact rfl) (fun g116 => ?_) (fun g116 => ?_) | skip)
            all_goals (first | (simp at g116; done) | (exfalso; simp only [decide_eq_false_iff_not, decide_eq_true_eq, Bool.not_eq_true', Bool.not_eq_false'] at *; omega) | (exfalso; simp_all; done) | skip)
            all_goals (refine Seg.run htt 4 (by simp only [go_sem, simprocAttr, eGraph, eObj, eVal, a1, a2, a3, a4, a5, b1, b2, b3, b4, b5]; exact rfl) ?_)
            all_goals (first | refine Seg.guard 120 (by simp only [go_sem, simprocAttr, eGraph, eObj, eVal, a1, a2, a3, a4, a5, b1, b2, b3, b4, b5]; exact rfl) (fun g120 => ?_) (fun g120 => ?_) | skip)
            all_goals (first | (simp at g120; done) | (exfalso; simp only [decide_eq_false_iff_not, decide_eq_true_eq, Bool.not_eq_true', Bool.not_eq_false'] at *; omega) | (exfalso; simp_all; done) | skip)
            all_goals (refine Seg.run htt 3 (by simp only [go_sem, simprocAttr, eGraph, eObj, eVal, a1, a2, a3, a4, a5, b1, b2, b3, b4, b5]; exact rfl) ?_)
            all_goals (first | refine Seg.guard 123 (by simp only [go_sem, simprocAttr, eGraph, eObj, eVal, a1, a2, a3, a4, a5, b1, b2, b3, b4, b5]; exact rfl) (fun g123 => ?_) (fun g123 => ?_) | skip)
            all_goals (first | (simp at g123; done) | (exfalso; simp only [decide_eq_false_iff_not, decide_eq_true_eq, Bool.not_eq_true', Bool.not_eq_false'] at *; omega) | (exfalso; simp_all; done) | skip)
            all_goals (refine Seg.run htt 14 (by simp only [go_sem, simprocAttr, eGraph, eObj, eVal, a1, a2, a3, a4, a5, b1, b2, b3, b4, b5]; exact rfl) ?_)
            all_goals (first | refine Seg.guard 137 (by simp only [go_sem, simprocAttr, eGraph, eObj, eVal, a1, a2, a3, a4, a5, b1, b2, b3, b4, b5]; exact rfl) (fun g137 => ?_) (fun g137 => ?_) | skip)
            all_goals (first | (simp at g137; done) | (exfalso; simp only [decide_eq_false_iff_not, decide_eq_true_eq, Bool.not_eq_true', Bool.not_eq_false'] at *; omega) | (exfalso; simp_all; done) | skip)
            all_goals (refine Seg.run htt 3 (by simp only [go_sem, simprocAttr, eGraph, eObj, eVal, a1, a2, a3, a4, a5, b1, b2, b3, b4, b5]; exact rfl) ?_)
            all_goals (first | refine Seg.guard 140 (by simp only [go_sem, simprocAttr, eGraph, eObj, eVal, a1, a2, a3, a4, a5, b1, b2, b3, b4, b5]; exact rfl) (fun g140 => ?_) (fun g140 => ?_) | skip)
            all_goals (first | (simp at g140; done) | (exfalso; simp only [decide_eq_false_iff_not, decide_eq_true_eq, Bool.not_eq_true', Bool.not_eq_false'] at *; omega) | (exfalso; simp_all; done) | skip)
            all_goals (refine Seg.run htt 10 (by simp only [go_sem, simprocAttr, eGraph, eObj, eVal, a1, a2, a3, a4, a5, b1, b2, b3, b4, b5]; exact rfl) ?_)
            all_goals (refine Seg.done ?_)
            all_goals (refine CWops.run htt 3 (by simp only [go_sem, simprocAttr, eGraph, eObj, eVal, a1, a2, a3, a4, a5, b1, b2, b3, b4, b5]; exact rfl) (by simp [go_sem, simprocAttr, eGraph, eObj, eVal, a1, a2, a3, a4, a5, b1, b2, b3, b4, b5]) ?_)
            all_goals (refine CWops.done ?_)
            all_goals (
              first | refine ⟨rfl, Sh.wk0 ?_⟩ | refine Sh.wk0 ?_
              first | (simp [Wk, go_sem, simprocAttr, eGraph, eVal]; done) | (simp_all [Wk, go_sem, simprocAttr, eGraph, eVal] <;> first | done | rfl | omega | (rw [Bool.eq_iff_iff]; simp; done)))
          refine CW.cond (by simp only [go_sem, simprocAttr]; first | done | exact rfl) (fun ct153 => ?_) (fun ct153 => ?_)
          · cases ct153 
          · refine CW.skip ?_
            refine CW.seq ?_
            refine CW.seq ?_
            refine CW.rg ?_
            refine CWops.rn htt 3 ?_
            all_goals (first | refine CWops.guard 156 (by simp only [go_sem, simprocAttr]; exact rfl) (fun g156 => ?_) (fun g156 => ?_) | skip)
            all_goals (first | (simp at g156; done) | (exfalso; simp only [decide_eq_false_iff_not, decide_eq_true_eq, Bool.not_eq_true', Bool.not_eq_false'] at *; omega) | (exfalso; simp_all; done) | skip)
            all_goals (refine CWops.rn htt 3 ?_)
            all_goals (refine CWops.done ?_)
            all_goals (
              refine CW.cond (by simp only [go_sem, simprocAttr]; first | done | exact rfl) (fun ct159 => ?_) (fun ct159 => ?_)
              · refine CW.seq ?_
                refine CW.rg ?_
                refine CWops.rn htt 1 ?_
                refine CWops.done ?_
                refine CW.ret ?_
                refine retQ.ret (by simp only [f5, go_sem, simprocAttr]; exact rfl) (by simp only [go_sem, simprocAttr]; exact rfl) ?_ -- ret4
                refine ⟨_, ?_, rfl⟩
                first | (simp [leP]; done) | (simp_all [leP]; done)
              · obtain ⟨hA, hB, hst⟩ : At a z.Id q pa xa va ∧ At b z.Id q pb xb vb ∧ (((fnd (fun o => decide (o.Id = z.Id)) o.O) = -1 ∧ va = u ∧ vb = u) ∨ (At o z.Id q po xo vo ∧ (va = u ∨ vb = u) ∧ (va = vo ∨ va = u) ∧ (vb = vo ∨ vb = u))) := by
                  rcases hst with ⟨h1, h2⟩ | ⟨h1, h2⟩ | h
                  · exfalso; have h3 := h2.f; clear hM hMay hSw hl; first | (rw [h1] at ct159; simp at ct159; done) | (rw [h1] at g156; simp at g156; done) | (simp at ct159 g156 <;> omega)
                  · exfalso; have h3 := h2.f; clear hM hMay hSw hl; first | (rw [h1] at ct159; simp at ct159; done) | (rw [h1] at g156; simp at g156; done) | (simp at ct159 g156 <;> omega)
                  · exact h
                refine CW.skip ?_
                refine CW.seq ?_
                refine CW.seq ?_
                refine CW.rg ?_
                refine CWops.rn htt 2 ?_
                refine CWops.done ?_
                refine CW.cond (by simp only [go_sem, simprocAttr]; first | done | exact rfl) (fun ct161 => ?_) (fun ct161 => ?_)
                · obtain ⟨hO2, rfl, rfl⟩ : (fnd (fun o => decide (o.Id = z.Id)) o.O) = -1 ∧ va = u ∧ vb = u := by
                    rcases hst with h | ⟨h, _⟩
                    · exact h
                    · exfalso; rw [h.f] at ct161; simp at ct161; omega
                  refine CW.seq ?_
                  obtain ⟨A1, A2, A3, A4, A5⟩ := hA
                  obtain ⟨B1, B2, B3, B4, B5⟩ := hB
                  have a1 := A1
                  have a2 := A2
                  have a3 := A3
                  have a4 := A4
                  have a5 := A5
                  have b1 := B1
                  have b2 := B2
                  have b3 := B3
                  have b4 := B4
                  have b5 := B5
                  refine CW.drawn mixed 22 (by decide) (by kernel_rfl) (by kernel_rfl) (by kernel_rfl) ?_
                  refine Seg.run htt 12 (by simp only [go_sem, simprocAttr, eGraph, eObj, eVal, a1, a2, a3, a4, a5, b1, b2, b3, b4, b5]; exact rfl) ?_
                  all_goals (first | refine Seg.guard 173 (by simp only [go_sem, simprocAttr, eGraph, eObj, eVal, a1, a2, a3, a4, a5, b1, b2, b3, b4, b5]; exact rfl) (fun g173 => ?_) (fun g173 => ?_) | skip)
                  all_goals (first | (simp at g173; done) | (exfalso; simp only [decide_eq_false_iff_not, decide_eq_true_eq, Bool.not_eq_true', Bool.not_eq_false'] at *; omega) | (exfalso; simp_all; done) | skip)
                  all_goals (refine Seg.run htt 10 (by simp only [go_sem, simprocAttr, eGraph, eObj, eVal, a1, a2, a3, a4, a5, b1, b2, b3, b4, b5]; exact rfl) ?_)
                  all_goals (refine Seg.done ?_)
                  all_goals (refine CWops.run htt 3 (by simp only [go_sem, simprocAttr, eGraph, eObj, eVal, a1, a2, a3, a4, a5, b1, b2, b3, b4, b5]; exact rfl) (by simp [go_sem, simprocAttr, eGraph, eObj, eVal, a1, a2, a3, a4, a5, b1, b2, b3, b4, b5]) ?_)
                  all_goals (refine CWops.done ?_)
                  all_goals (
                    refine CW.ret ?_
                    refine retQ.ret (by simp only [f5, go_sem, simprocAttr]; exact rfl) (by simp only [go_sem, simprocAttr]; exact rfl) ?_ -- ret5
                    refine ⟨_, ?_, rfl⟩
                    first | (simp [leP]; done) | (simp_all [leP]; done))
                · obtain ⟨hO3, hv1, hv2, hv3⟩ : At o z.Id q po xo vo ∧ (va = u ∨ vb = u) ∧ (va = vo ∨ va = u) ∧ (vb = vo ∨ vb = u) := by
                    rcases hst with ⟨h, _⟩ | h
                    · exfalso; rw [h] at ct161; simp at ct161
                    · exact h
                  refine CW.skip ?_
                  refine CW.seq ?_
                  obtain ⟨a1, a2, a3, a4, a5⟩ := hA
                  obtain ⟨b1, b2, b3, b4, b5⟩ := hB
                  obtain ⟨o1, o2, o3, o4, o5⟩ := hO3
                  refine CW.rg ?_
                  refine CWops.run htt 11 (by simp only [go_sem, simprocAttr, eGraph, eObj, eVal, o1, o2, o3, o4, o5]; exact rfl) (by simp [go_sem, simprocAttr, eGraph, eObj, eVal, o1, o2, o3, o4, o5]) ?_
                  refine CWops.done ?_
                  refine CW.seq ?_
                  refine CW.drawn mixed 73 (by decide) (by kernel_rfl) (by kernel_rfl) (by kernel_rfl) ?_
                  refine Seg.run htt 12 (by simp only [go_sem, simprocAttr, eGraph, eObj, eVal, a1, a2, a3, a4, a5, b1, b2, b3, b4, b5, val_eqB, List.append_eq, List.cons_append, List.nil_append]; exact rfl) ?_
                  all_goals (first | refine Seg.guard 206 (by simp only [go_sem, simprocAttr, eGraph, eObj, eVal, a1, a2, a3, a4, a5, b1, b2, b3, b4, b5, val_eqB, List.append_eq, List.cons_append, List.nil_append]; exact rfl) (fun g206 => ?_) (fun g206 => ?_) | skip)
                  all_goals (first | (simp at g206; done) | (exfalso; simp only [decide_eq_false_iff_not, decide_eq_true_eq, Bool.not_eq_true', Bool.not_eq_false'] at *; omega) | (exfalso; simp_all; done) | skip)
                  all_goals (refine Seg.run htt 13 (by simp only [go_sem, simprocAttr, eGraph, eObj, eVal, a1, a2, a3, a4, a5, b1, b2, b3, b4, b5, val_eqB, List.append_eq, List.cons_append, List.nil_append]; exact rfl) ?_)
                  all_goals (first | refine Seg.guard 219 (by simp only [go_sem, simprocAttr, eGraph, eObj, eVal, a1, a2, a3, a4, a5, b1, b2, b3, b4, b5, val_eqB, List.append_eq, List.cons_append, List.nil_append]; exact rfl) (fun g219 => ?_) (fun g219 => ?_) | skip)
                  all_goals (first | (simp at g219; done) | (exfalso; simp only [decide_eq_false_iff_not, decide_eq_true_eq, Bool.not_eq_true', Bool.not_eq_false'] at *; omega) | (exfalso; simp_all; done) | skip)
                  all_goals (refine Seg.run htt 12 (by simp only [go_sem, simprocAttr, eGraph, eObj, eVal, a1, a2, a3, a4, a5, b1, b2, b3, b4, b5, val_eqB, List.append_eq, List.cons_append, List.nil_append]; exact rfl) ?_)
                  all_goals (first | refine Seg.guard 231 (by simp only [go_sem, simprocAttr, eGraph, eObj, eVal, a1, a2, a3, a4, a5, b1, b2, b3, b4, b5, val_eqB, List.append_eq, List.cons_append, List.nil_append]; exact rfl) (fun g231 => ?_) (fun g231 => ?_) | skip)
                  all_goals (first | (simp at g231; done) | (exfalso; simp only [decide_eq_false_iff_not, decide_eq_true_eq, Bool.not_eq_true', Bool.not_eq_false'] at *; omega) | (exfalso; simp_all; done) | skip)
                  all_goals (refine Seg.run htt 14 (by simp only [go_sem, simprocAttr, eGraph, eObj, eVal, a1, a2, a3, a4, a5, b1, b2, b3, b4, b5, val_eqB, List.append_eq, List.cons_append, List.nil_append]; exact rfl) ?_)
                  all_goals (first | refine Seg.guard 245 (by simp only [go_sem, simprocAttr, eGraph, eObj, eVal, a1, a2, a3, a4, a5, b1, b2, b3, b4, b5, val_eqB, List.append_eq, List.cons_append, List.nil_append]; exact rfl) (fun g245 => ?_) (fun g245 => ?_) | skip)
                  all_goals (first | (simp at g245; done) | (exfalso; simp only [decide_eq_false_iff_not, decide_eq_true_eq, Bool.not_eq_true', Bool.not_eq_false'] at *; omega) | (exfalso; simp_all; done) | skip)
                  all_goals (refine Seg.run htt 12 (by simp only [go_sem, simprocAttr, eGraph, eObj, eVal, a1, a2, a3, a4, a5, b1, b2, b3, b4, b5, val_eqB, List.append_eq, List.cons_append, List.nil_append]; exact rfl) ?_)
                  all_goals (first | refine Seg.guard 257 (by simp only [go_sem, simprocAttr, eGraph, eObj, eVal, a1, a2, a3, a4, a5, b1, b2, b3, b4, b5, val_eqB, List.append_eq, List.cons_append, List.nil_append]; exact rfl) (fun g257 => ?_) (fun g257 => ?_) | skip)
                  all_goals (first | (simp at g257; done) | (exfalso; simp only [decide_eq_false_iff_not, decide_eq_true_eq, Bool.not_eq_true', Bool.not_eq_false'] at *; omega) | (exfalso; simp_all; done) | skip)
                  all_goals (refine Seg.run htt 10 (by simp only [go_sem, simprocAttr, eGraph, eObj, eVal, a1, a2, a3, a4, a5, b1, b2, b3, b4, b5, val_eqB, List.append_eq, List.cons_append, List.nil_append]; exact rfl) ?_)
                  all_goals (refine Seg.done ?_)
                  all_goals (refine CWops.run htt 4 (by simp only [go_sem, simprocAttr, eGraph, eObj, eVal, a1, a2, a3, a4, a5, b1, b2, b3, b4, b5, val_eqB, List.append_eq, List.cons_append, List.nil_append]; exact rfl) (by simp [go_sem, simprocAttr, eGraph, eObj, eVal, a1, a2, a3, a4, a5, b1, b2, b3, b4, b5, val_eqB, List.append_eq, List.cons_append, List.nil_append]) ?_)
                  all_goals (refine CWops.done ?_)
                  all_goals (
                    refine CW.ret ?_
                    refine retQ.ret (by simp only [f5, go_sem, simprocAttr]; exact rfl) (by simp only [go_sem, simprocAttr]; exact rfl) ?_ -- ret6
                    refine ⟨_, ?_, rfl⟩
                    first | (simp [leP]; done) | (simp_all [leP]; done)))
end Go.Ab
