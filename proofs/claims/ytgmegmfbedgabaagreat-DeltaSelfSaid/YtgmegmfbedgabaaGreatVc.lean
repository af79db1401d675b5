/-
  What functions of the program answer: each by its contract. No condition but those of each theorem.
-/
import Derived.WalkKit
import Derived.Below
import Derived.Scope
import Derived.Orders
import Derived.Test.YtgmegmfbedgabaaGreatProg
import Derived.Still
import Derived.WalkSmall
import Derived.Tactics
import Derived.Tactics2
import Derived.Defers
import Derived.Recover
import Derived.Laws.Pointers
import Derived.Lib.AppendStr
import Derived.ArgAppend
import Derived.Lib.ConvBytes
import Derived.Shelf.Strings.OnBuilder
import Derived.Test.YtgmegmfbedgabaaGreatFa
import Derived.Test.YtgmegmfbedgabaaGreatFb
import Derived.Test.YtgmegmfbedgabaaGreatFc
import Derived.Test.YtgmegmfbedgabaaGreatFd
import Derived.Test.YtgmegmfbedgabaaGreatFe
import Derived.Test.YtgmegmfbedgabaaGreatFf
import Derived.Test.YtgmegmfbedgabaaGreatDa
import Derived.Test.YtgmegmfbedgabaaGreatVa
import Derived.Test.YtgmegmfbedgabaaGreatVb
set_option linter.unusedVariables false
set_option linter.unusedSimpArgs false
namespace Go.Ab
open Go Go.Proofs.Tryz Go.RowKit
set_option maxRecDepth 100000
set_option maxHeartbeats 1600000
def objR : Option GObj → AV
  | some o => .tup [.agg (eObj o), .bool true]
  | none => .tup [.agg [.int .i64 0, .int .i64 0, .nilsl], .bool false]
def frOK (c : Graph) (q : Int) (xF : Int) : Bool := decide (0 ≤ xF) && (match c.O[xF.toNat]? with
  | some o => decide (o.T = q)
  | none => false)
theorem apl_bad {c : Graph} {m : List (Int × Nat)} {id : Nat} {xF xT : Int} {xS : List GCell} (h : (decide (0 ≤ xT) && decide (xT < c.S.length)) = false) : aplObj c m id ⟨xF, xT, xS⟩ = none := by
  unfold aplObj
  have : typeAt c.S xT = none := by
    unfold typeAt
    split
    · rename_i h0
      rw [List.getElem?_eq_none]
      simp [h0] at h
      omega
    · rfl
  simp only [this]
theorem apl_new {c : Graph} {m : List (Int × Nat)} {id q : Nat} {xS : List GCell} {t : GType} (ht : c.S[q]? = some t) : aplObj c m id ⟨-1, q, xS⟩ = if xS.length = t.F.length then (setAll (-1) xS (t.F.map fun _ => ⟨0, ⟨#[]⟩, 0⟩)).map (fun F => ⟨id, q, F⟩) else none := by
  unfold aplObj
  have : typeAt c.S (q : Int) = some t := by unfold typeAt; rw [if_pos (by omega)]; simpa using ht
  simp only [this, if_true]
theorem apl_fr {c : Graph} {m : List (Int × Nat)} {id q : Nat} {xF : Int} {xS : List GCell} {t : GType} (ht : c.S[q]? = some t) (hn : xF ≠ -1) (h : frOK c q xF = false) : aplObj c m id ⟨xF, q, xS⟩ = none := by
  unfold aplObj
  have : typeAt c.S (q : Int) = some t := by unfold typeAt; rw [if_pos (by omega)]; simpa using ht
  simp only [this]
  rw [if_neg hn]
  split
  · rfl
  · rename_i h0
    unfold frOK at h
    cases ho : c.O[xF.toNat]? with
    | none => rfl
    | some o =>
      rw [ho] at h
      simp [show 0 ≤ xF by omega] at h
      simp only
      rw [if_neg h]
theorem apl_old {c : Graph} {m : List (Int × Nat)} {id q n : Nat} {xS : List GCell} {t : GType} {o : GObj} (ht : c.S[q]? = some t) (ho : c.O[n]? = some o) (hT : o.T = (q : Int)) : aplObj c m id ⟨(n : Int), q, xS⟩ = (setAll (-1) xS (List.zipWith (keepF (toOf m)) t.F o.F)).map (fun F => ⟨id, q, F⟩) := by
  unfold aplObj
  have : typeAt c.S (q : Int) = some t := by unfold typeAt; rw [if_pos (by omega)]; simpa using ht
  simp only [this]
  rw [if_neg (by omega), if_neg (by omega), Int.toNat_natCast, ho]
  simp only [hT, if_true]
  rfl
theorem fr_cases (c : Graph) (q : Nat) (xF : Int) : (decide (xF < 0) = true ∧ True ∧ True ∧ True ∧ frOK c q xF = false) ∨ (decide (xF < 0) = false ∧ decide ((c.O.length : Int) ≤ xF) = true ∧ True ∧ True ∧ frOK c q xF = false) ∨
    ∃ (mm : Nat) (oc : GObj), xF = mm ∧ decide ((mm : Int) < 0) = false ∧ decide ((c.O.length : Int) ≤ (mm : Int)) = false ∧ c.O[mm]? = some oc ∧ mm < c.O.length ∧ frOK c q (mm : Int) = decide (oc.T = q) := by
  by_cases h1 : xF < 0
  · exact .inl ⟨decide_eq_true h1, trivial, trivial, trivial, by unfold frOK; rw [show decide (0 ≤ xF) = false from decide_eq_false (by omega)]; rfl⟩
  · by_cases h2 : (c.O.length : Int) ≤ xF
    · refine .inr (.inl ⟨decide_eq_false (by omega), decide_eq_true h2, trivial, trivial, ?_⟩)
      unfold frOK
      rw [List.getElem?_eq_none (by omega)]
      simp
    · obtain ⟨mm, rfl⟩ := Int.eq_ofNat_of_zero_le (show 0 ≤ xF by omega)
      have hmm : mm < c.O.length := by omega
      exact .inr (.inr ⟨mm, c.O[mm], rfl, decide_eq_false (by omega), decide_eq_false (by omega), List.getElem?_eq_getElem hmm, hmm, by unfold frOK; rw [Int.toNat_natCast, List.getElem?_eq_getElem hmm]; simp⟩)
theorem setAll_no {last : Int} {s : GCell} {r : List GCell} {F : List GVal} (h : (decide (s.F ≤ last) || decide ((F.length : Int) ≤ s.F)) = true) : setAll last (s :: r) F = none := by
  simp only [setAll]
  rw [if_pos (by simpa using h)]
theorem setAll_yes {last : Int} {s : GCell} {r : List GCell} {F : List GVal} (h : (decide (s.F ≤ last) || decide ((F.length : Int) ≤ s.F)) = false) : setAll last (s :: r) F = setAll s.F r (F.set s.F.toNat s.V) := by
  simp only [setAll]
  rw [if_neg (by simpa using h)]
theorem drop_at {α : Type} {l : List α} {i : Nat} {x : α} (h : l[i]? = some x) : l.drop i = x :: l.drop (i + 1) := by
  obtain ⟨h1, h2⟩ := List.getElem?_eq_some_iff.1 h
  rw [List.drop_eq_getElem_cons h1, h2]
theorem maker_object (up : Bool) (c : Graph) (hmc : May c) (M : List (Int × AV)) (m : List (Int × Nat)) (hM : TfOK M (toOf m)) (id : Nat) (x : GItem) (hxS : x.Set.length ≤ MX) : GCall prog up 88 [.lv 0 [] 0, .int .i64 id, .agg (eItem x)] 1 [(0, ⟨true, [.sl 2 (c.S.map eType), .sl 3 (c.O.map eObj), .sl 1 (c.Roots.map eI), .omap M]⟩)] (fun r σ' => r = objR (aplObj c m id x) ∧ ∃ t' R, σ' = ⟨2, t', [(0, ⟨true, [.sl 2 (c.S.map eType), .sl 3 (c.O.map eObj), .sl 1 (c.Roots.map eI), .omap M]⟩), (1, R)]⟩) := by
  refine GCall.intro htt 1 func88 (by kernel_rfl) rfl (Nat.le_of_ble_eq_true rfl) (CW.told ?_)
  obtain ⟨xF, xT, xS⟩ := x
  simp only at hxS
  obtain ⟨hs4, hsh⟩ := short_of hmc.s
  simp only [tmps0, Nat.reduceAdd]
  refine CW.seq (.rg (.run htt 3 (by simp only [go_sem, simprocAttr, eItem]; exact rfl) (by simp [go_sem, simprocAttr, eItem]) (.done ?_)))
  refine CW.seq ?_
  refine CW.cut ⟨3, [(0, .lv 0 [] 0), (1, .int .i64 id), (5, .lv 1 [] 0), (6, .lv 2 [] 0), (26, .bool (!(decide (0 ≤ xT) && decide (xT < c.S.length))))], [(0, ⟨true, [.sl 2 (c.S.map eType), .sl 3 (c.O.map eObj), .sl 1 (c.Roots.map eI), .omap M]⟩), (1, ⟨true, [.int .i64 xF, .int .i64 xT, .sl 4 (xS.map eCell)]⟩), (2, ⟨true, [.int .i64 0, .int .i64 0, .nilsl]⟩)]⟩ ?_ ?_
  · refine CW.drawn mixed 13 (by decide) (by kernel_rfl) (by kernel_rfl) (by kernel_rfl) ?_
    refine Seg.run htt 4 (by simp only [go_sem, simprocAttr]; exact rfl) ?_
    all_goals (first | refine Seg.guard 15 (by simp only [go_sem, simprocAttr]; exact rfl) (fun g15 => ?_) (fun g15 => ?_) | skip)
    all_goals (refine Seg.run htt 9 (by simp only [go_sem, simprocAttr]; exact rfl) ?_)
    all_goals (refine Seg.done ?_)
    all_goals (refine CWops.rn htt 2 ?_)
    all_goals (refine CWops.done ?_)
    all_goals (
      refine ⟨rfl, Sh.wk0 ?_⟩
      simp_all [Wk, go_sem, simprocAttr] <;> first | done | (rw [Bool.eq_iff_iff]; simp; done) | (rw [Bool.eq_iff_iff]; simp; omega) | omega | skip)
  refine CW.cd (fun ct26 => ?_) (fun ct26 => ?_)
  · have hN : aplObj c m id ⟨xF, xT, xS⟩ = none := apl_bad (by
      cases h : (decide (0 ≤ xT) && decide (xT < c.S.length)) with
      | false => rfl
      | true => rw [h] at ct26; cases ct26)
    refine CW.seq (.rg (.rn htt 3 (.done ?_)))
    refine CW.ret ?_
    refine ⟨⟨2, [(0, .lv 0 [] 0), (6, .lv 1 [] 0), (7, .bool false)], [(0, ⟨true, [.sl 2 (c.S.map eType), .sl 3 (c.O.map eObj), .sl 1 (c.Roots.map eI), .omap M]⟩), (1, ⟨true, [.int .i64 0, .int .i64 0, .nilsl]⟩)]⟩, ?_, .inr rfl, by simp [ptrOK, go_sem, simprocAttr], _, by simp only [f88, go_sem, simprocAttr]; exact rfl, ?_⟩
    · refine Sh.wk (fun x => if x = 1 then 2 else x) ?_
      simp [Wk, go_sem, simprocAttr, eObj, eCell]
    · exact ⟨by rw [hN]; rfl, _, _, rfl⟩
  · have hT2 : 0 ≤ xT ∧ xT < c.S.length := by simpa using ct26
    obtain ⟨q, rfl⟩ := Int.eq_ofNat_of_zero_le hT2.1
    obtain ⟨t, ht⟩ : ∃ t, c.S[q]? = some t := ⟨c.S[q], List.getElem?_eq_getElem (by omega)⟩
    have hqs := (List.getElem?_eq_some_iff.1 ht).1
    have h5 := (hsh t (List.mem_of_getElem? ht)).l
    refine CW.skip ?_
    refine CW.cut ⟨4, [(0, .lv 0 [] 0), (1, .int .i64 id), (5, .lv 1 [] 0), (6, .lv 2 [] 0), (8, .lv 3 [] 0)], [(0, ⟨true, [.sl 2 (c.S.map eType), .sl 3 (c.O.map eObj), .sl 1 (c.Roots.map eI), .omap M]⟩), (1, ⟨true, [.int .i64 xF, .int .i64 q, .sl 4 (xS.map eCell)]⟩), (2, ⟨true, [.int .i64 0, .int .i64 0, .nilsl]⟩), (3, ⟨true, [.int .i64 id, .int .i64 q, .own 3 (List.replicate t.F.length [.int .i64 0, .str ⟨#[]⟩, .int .i64 0])]⟩)]⟩ ?_ ?_
    · refine CW.ord mixed (by kernel_rfl) ?_
      refine OrdOK.either 15 17 (by decide) (by decide) (by decide) (by kernel_rfl) ?_ ?_
      · refine OrdOK.either 16 17 (by decide) (by decide) (by decide) (by kernel_rfl) ?_ ?_
        · refine OrdOK.of ?_
          refine AnyOK.drawnP0 [0, 1, 2, 3, 4, 5, 6, 7, 8, 9, 10, 11, 12, 13, 14, 15, 16, 17, 18] 15 16 [0, 1, 2] (D := [28, 29, 30]) (by simp only [addE_zero, addE_succ, List.toList_toArray, permL_mk, nthO_zero, nthO_succ, renO_mk, List.map_cons, List.map_nil, go_sem, simprocAttr]; exact rfl) (by kernel_rfl) (by decide) (by decide) (by kernel_rfl) (by kernel_rfl) rfl (by kernel_rfl) ?_
          refine Seg.run htt 15 (by simp only [go_sem, simprocAttr, ht, hqs, eType]; exact rfl) ?_
          refine Seg.done ⟨rfl, ?_⟩
          refine Mid.makeSlice (m := t.F.length) htt (Flo.cons htt rfl rfl (by simp only [go_sem, simprocAttr, ht, hqs, eType] <;> exact rfl) (Flo.cons htt rfl rfl (by simp only [go_sem, simprocAttr, ht, hqs, eType] <;> exact rfl) (Flo.cons htt rfl rfl (by simp only [go_sem, simprocAttr, ht, hqs, eType] <;> exact rfl) (Flo.nil)))) (by decide) tt_54 rfl tt_53 (by decide) rfl (by simp only [go_sem, simprocAttr, ht, List.length_map]) (by simp only [go_sem, simprocAttr, ht, List.length_map]) (by unfold MX; omega) (by simp; unfold MX; omega) ?_
          refine Mid.done (Flo.cons htt rfl rfl (by simp only [go_sem, simprocAttr, ht, hqs, eType] <;> exact rfl) (Flo.cons htt rfl rfl (by simp only [go_sem, simprocAttr, ht, hqs, eType] <;> exact rfl) (Flo.cons htt rfl rfl (by simp only [go_sem, simprocAttr, ht, hqs, eType] <;> exact rfl) (Flo.nil)))) ?_
          refine CWops.run htt 3 (by simp only [go_sem, simprocAttr, ht, hqs, eType]; exact rfl) (by simp [go_sem, simprocAttr, ht, hqs, eType]) (.done ?_)
          refine ⟨rfl, ?_⟩
          first | (refine Sh.wk0 ?_; simp [Wk, go_sem, simprocAttr]; done) | (refine Sh.wk (fun x => if x = 3 then 4 else x) ?_; simp [Wk, go_sem, simprocAttr])
        · refine OrdOK.of ?_
          refine AnyOK.drawnP0 [0, 1, 2, 3, 4, 5, 6, 7, 8, 9, 10, 11, 12, 13, 14, 15, 17, 16, 18] 15 17 [0, 1, 2] (D := [28, 29, 30]) (by simp only [addE_zero, addE_succ, List.toList_toArray, permL_mk, nthO_zero, nthO_succ, renO_mk, List.map_cons, List.map_nil, go_sem, simprocAttr]; exact rfl) (by kernel_rfl) (by decide) (by decide) (by kernel_rfl) (by kernel_rfl) rfl (by kernel_rfl) ?_
          refine Seg.run htt 15 (by simp only [go_sem, simprocAttr, ht, hqs, eType]; exact rfl) ?_
          refine Seg.done ⟨rfl, ?_⟩
          refine Mid.makeSlice (m := t.F.length) htt (Flo.cons htt rfl rfl (by simp only [go_sem, simprocAttr, ht, hqs, eType] <;> exact rfl) (Flo.cons htt rfl rfl (by simp only [go_sem, simprocAttr, ht, hqs, eType] <;> exact rfl) (Flo.cons htt rfl rfl (by simp only [go_sem, simprocAttr, ht, hqs, eType] <;> exact rfl) (Flo.nil)))) (by decide) tt_54 rfl tt_53 (by decide) rfl (by simp only [go_sem, simprocAttr, ht, List.length_map]) (by simp only [go_sem, simprocAttr, ht, List.length_map]) (by unfold MX; omega) (by simp; unfold MX; omega) ?_
          refine Mid.eop htt [28, 29, 30] (Flo.cons htt rfl rfl (by simp only [go_sem, simprocAttr, ht, hqs, eType] <;> exact rfl) (Flo.cons htt rfl rfl (by simp only [go_sem, simprocAttr, ht, hqs, eType] <;> exact rfl) (Flo.cons htt rfl rfl (by simp only [go_sem, simprocAttr, ht, hqs, eType] <;> exact rfl) (Flo.nil)))) (by decide) ?_ (by kernel_rfl) (by kernel_rfl) (fun u => by simp only [go_sem, simprocAttr, ht, hqs, eType]; exact rfl) ?_
          · simp [go_sem, simprocAttr, ht, hqs, eType]
          refine Mid.done (Flo.cons htt rfl rfl (by simp only [go_sem, simprocAttr, ht, hqs, eType] <;> exact rfl) (Flo.cons htt rfl rfl (by simp only [go_sem, simprocAttr, ht, hqs, eType] <;> exact rfl) (Flo.cons htt rfl rfl (by simp only [go_sem, simprocAttr, ht, hqs, eType] <;> exact rfl) (Flo.nil)))) ?_
          refine CWops.run htt 2 (by simp only [go_sem, simprocAttr, ht, hqs, eType]; exact rfl) (by simp [go_sem, simprocAttr, ht, hqs, eType]) (.done ?_)
          refine ⟨rfl, ?_⟩
          first | (refine Sh.wk0 ?_; simp [Wk, go_sem, simprocAttr]; done) | (refine Sh.wk (fun x => if x = 3 then 4 else x) ?_; simp [Wk, go_sem, simprocAttr])
      · refine OrdOK.of ?_
        refine AnyOK.drawnP0 [0, 1, 2, 3, 4, 5, 6, 7, 8, 9, 10, 11, 12, 13, 14, 17, 15, 16, 18] 15 17 [0, 1, 2, 3, 4, 5, 6, 7, 8, 9, 10, 11, 12, 13, 14] (D := [28, 29, 30, 31, 32, 33, 34, 35, 36, 37, 38, 39, 40, 41, 42]) (by simp only [addE_zero, addE_succ, List.toList_toArray, permL_mk, nthO_zero, nthO_succ, renO_mk, List.map_cons, List.map_nil, go_sem, simprocAttr]; exact rfl) (by kernel_rfl) (by decide) (by decide) (by kernel_rfl) (by kernel_rfl) rfl (by kernel_rfl) ?_
        refine Seg.run htt 15 (by simp only [go_sem, simprocAttr, ht, hqs, eType]; exact rfl) ?_
        refine Seg.done ⟨rfl, ?_⟩
        refine Mid.eop htt [28, 29, 30, 31, 32, 33, 34, 35, 36, 37, 38, 39, 40, 41, 42] (Flo.cons htt rfl rfl (by simp only [go_sem, simprocAttr, ht, hqs, eType] <;> exact rfl) (Flo.cons htt rfl rfl (by simp only [go_sem, simprocAttr, ht, hqs, eType] <;> exact rfl) (Flo.cons htt rfl rfl (by simp only [go_sem, simprocAttr, ht, hqs, eType] <;> exact rfl) (Flo.cons htt rfl rfl (by simp only [go_sem, simprocAttr, ht, hqs, eType] <;> exact rfl) (Flo.cons htt rfl rfl (by simp only [go_sem, simprocAttr, ht, hqs, eType] <;> exact rfl) (Flo.cons htt rfl rfl (by simp only [go_sem, simprocAttr, ht, hqs, eType] <;> exact rfl) (Flo.cons htt rfl rfl (by simp only [go_sem, simprocAttr, ht, hqs, eType] <;> exact rfl) (Flo.cons htt rfl rfl (by simp only [go_sem, simprocAttr, ht, hqs, eType] <;> exact rfl) (Flo.cons htt rfl rfl (by simp only [go_sem, simprocAttr, ht, hqs, eType] <;> exact rfl) (Flo.cons htt rfl rfl (by simp only [go_sem, simprocAttr, ht, hqs, eType] <;> exact rfl) (Flo.cons htt rfl rfl (by simp only [go_sem, simprocAttr, ht, hqs, eType] <;> exact rfl) (Flo.cons htt rfl rfl (by simp only [go_sem, simprocAttr, ht, hqs, eType] <;> exact rfl) (Flo.cons htt rfl rfl (by simp only [go_sem, simprocAttr, ht, hqs, eType] <;> exact rfl) (Flo.cons htt rfl rfl (by simp only [go_sem, simprocAttr, ht, hqs, eType] <;> exact rfl) (Flo.cons htt rfl rfl (by simp only [go_sem, simprocAttr, ht, hqs, eType] <;> exact rfl) (Flo.nil)))))))))))))))) (by decide) ?_ (by kernel_rfl) (by kernel_rfl) (fun u => by simp only [go_sem, simprocAttr, ht, hqs, eType]; exact rfl) ?_
        · simp [go_sem, simprocAttr, ht, hqs, eType]
        refine Mid.makeSlice (m := t.F.length) htt (Flo.cons htt rfl rfl (by simp only [go_sem, simprocAttr, ht, hqs, eType] <;> exact rfl) (Flo.cons htt rfl rfl (by simp only [go_sem, simprocAttr, ht, hqs, eType] <;> exact rfl) (Flo.cons htt rfl rfl (by simp only [go_sem, simprocAttr, ht, hqs, eType] <;> exact rfl) (Flo.cons htt rfl rfl (by simp only [go_sem, simprocAttr, ht, hqs, eType] <;> exact rfl) (Flo.cons htt rfl rfl (by simp only [go_sem, simprocAttr, ht, hqs, eType] <;> exact rfl) (Flo.cons htt rfl rfl (by simp only [go_sem, simprocAttr, ht, hqs, eType] <;> exact rfl) (Flo.cons htt rfl rfl (by simp only [go_sem, simprocAttr, ht, hqs, eType] <;> exact rfl) (Flo.cons htt rfl rfl (by simp only [go_sem, simprocAttr, ht, hqs, eType] <;> exact rfl) (Flo.cons htt rfl rfl (by simp only [go_sem, simprocAttr, ht, hqs, eType] <;> exact rfl) (Flo.cons htt rfl rfl (by simp only [go_sem, simprocAttr, ht, hqs, eType] <;> exact rfl) (Flo.cons htt rfl rfl (by simp only [go_sem, simprocAttr, ht, hqs, eType] <;> exact rfl) (Flo.cons htt rfl rfl (by simp only [go_sem, simprocAttr, ht, hqs, eType] <;> exact rfl) (Flo.cons htt rfl rfl (by simp only [go_sem, simprocAttr, ht, hqs, eType] <;> exact rfl) (Flo.cons htt rfl rfl (by simp only [go_sem, simprocAttr, ht, hqs, eType] <;> exact rfl) (Flo.cons htt rfl rfl (by simp only [go_sem, simprocAttr, ht, hqs, eType] <;> exact rfl) (Flo.nil)))))))))))))))) (by decide) tt_54 rfl tt_53 (by decide) rfl (by simp only [go_sem, simprocAttr, ht, List.length_map]) (by simp only [go_sem, simprocAttr, ht, List.length_map]) (by unfold MX; omega) (by simp; unfold MX; omega) ?_
        refine Mid.done (Flo.cons htt rfl rfl (by simp only [go_sem, simprocAttr, ht, hqs, eType] <;> exact rfl) (Flo.cons htt rfl rfl (by simp only [go_sem, simprocAttr, ht, hqs, eType] <;> exact rfl) (Flo.cons htt rfl rfl (by simp only [go_sem, simprocAttr, ht, hqs, eType] <;> exact rfl) (Flo.cons htt rfl rfl (by simp only [go_sem, simprocAttr, ht, hqs, eType] <;> exact rfl) (Flo.cons htt rfl rfl (by simp only [go_sem, simprocAttr, ht, hqs, eType] <;> exact rfl) (Flo.cons htt rfl rfl (by simp only [go_sem, simprocAttr, ht, hqs, eType] <;> exact rfl) (Flo.cons htt rfl rfl (by simp only [go_sem, simprocAttr, ht, hqs, eType] <;> exact rfl) (Flo.cons htt rfl rfl (by simp only [go_sem, simprocAttr, ht, hqs, eType] <;> exact rfl) (Flo.cons htt rfl rfl (by simp only [go_sem, simprocAttr, ht, hqs, eType] <;> exact rfl) (Flo.cons htt rfl rfl (by simp only [go_sem, simprocAttr, ht, hqs, eType] <;> exact rfl) (Flo.cons htt rfl rfl (by simp only [go_sem, simprocAttr, ht, hqs, eType] <;> exact rfl) (Flo.cons htt rfl rfl (by simp only [go_sem, simprocAttr, ht, hqs, eType] <;> exact rfl) (Flo.cons htt rfl rfl (by simp only [go_sem, simprocAttr, ht, hqs, eType] <;> exact rfl) (Flo.cons htt rfl rfl (by simp only [go_sem, simprocAttr, ht, hqs, eType] <;> exact rfl) (Flo.cons htt rfl rfl (by simp only [go_sem, simprocAttr, ht, hqs, eType] <;> exact rfl) (Flo.nil)))))))))))))))) ?_
        refine CWops.run htt 2 (by simp only [go_sem, simprocAttr, ht, hqs, eType]; exact rfl) (by simp [go_sem, simprocAttr, ht, hqs, eType]) (.done ?_)
        refine ⟨rfl, ?_⟩
        first | (refine Sh.wk0 ?_; simp [Wk, go_sem, simprocAttr]; done) | (refine Sh.wk (fun x => if x = 3 then 4 else x) ?_; simp [Wk, go_sem, simprocAttr])
    refine CW.seq (.seq (.rg (.rn htt 3 (.done ?_))))
    refine CW.cd (fun ct47 => ?_) (fun ct47 => ?_)
    · have hne : xF ≠ -1 := by simpa using ct47
      refine CW.seq ?_
      refine CW.cut ⟨4, [(0, .lv 0 [] 0), (1, .int .i64 id), (5, .lv 1 [] 0), (6, .lv 2 [] 0), (8, .lv 3 [] 0), (76, .bool (!frOK c q xF))], [(0, ⟨true, [.sl 2 (c.S.map eType), .sl 3 (c.O.map eObj), .sl 1 (c.Roots.map eI), .omap M]⟩), (1, ⟨true, [.int .i64 xF, .int .i64 q, .sl 4 (xS.map eCell)]⟩), (2, ⟨true, [.int .i64 0, .int .i64 0, .nilsl]⟩), (3, ⟨true, [.int .i64 id, .int .i64 q, .own 3 (List.replicate t.F.length [.int .i64 0, .str ⟨#[]⟩, .int .i64 0])]⟩)]⟩ ?_ ?_
      · rcases fr_cases c q xF with ⟨e51, e60, hO, hmm, hok⟩ | ⟨e51, e60, hO, hmm, hok⟩ | ⟨mm, oc, rfl, e51, e60, hO, hmm, hok⟩
        all_goals (refine CW.drawn mixed 27 (by decide) (by kernel_rfl) (by kernel_rfl) (by kernel_rfl) ?_)
        all_goals (refine Seg.run htt 4 (by simp only [go_sem, simprocAttr, e51, e60, hO, hmm, eObj]; exact rfl) ?_)
        all_goals (first | refine Seg.guard 51 (by simp only [go_sem, simprocAttr, e51, e60, hO, hmm, eObj]; exact rfl) (fun g51 => ?_) (fun g51 => ?_) | skip)
        all_goals (first | (cases g51; done) | skip)
        all_goals (refine Seg.run htt 11 (by simp only [go_sem, simprocAttr, e51, e60, hO, hmm, eObj]; exact rfl) ?_)
        all_goals (first | refine Seg.guard 62 (by simp only [go_sem, simprocAttr, e51, e60, hO, hmm, eObj]; exact rfl) (fun g62 => ?_) (fun g62 => ?_) | skip)
        all_goals (first | (cases g62; done) | skip)
        all_goals (refine Seg.run htt 12 (by simp only [go_sem, simprocAttr, e51, e60, hO, hmm, eObj]; exact rfl) ?_)
        all_goals (refine Seg.done ?_)
        all_goals (refine CWops.run htt 2 (by simp only [go_sem, simprocAttr, e51, e60, hO, hmm, eObj]; exact rfl) (by simp [go_sem, simprocAttr, e51, e60, hO, hmm, eObj]) ?_)
        all_goals (refine CWops.done ?_)
        all_goals (
          refine ⟨rfl, Sh.wk0 ?_⟩
          simp [Wk, go_sem, simprocAttr, hok, eObj])
      refine CW.cd (fun ct76 => ?_) (fun ct76 => ?_)
      · have hN : aplObj c m id ⟨xF, q, xS⟩ = none := apl_fr ht hne (by simpa using ct76)
        refine CW.seq (.rg (.rn htt 3 (.done ?_)))
        refine CW.ret ?_
        refine ⟨⟨2, [(0, .lv 0 [] 0), (6, .lv 1 [] 0), (7, .bool false)], [(0, ⟨true, [.sl 2 (c.S.map eType), .sl 3 (c.O.map eObj), .sl 1 (c.Roots.map eI), .omap M]⟩), (1, ⟨true, [.int .i64 0, .int .i64 0, .nilsl]⟩)]⟩, ?_, .inr rfl, by simp [ptrOK, go_sem, simprocAttr], _, by simp only [f88, go_sem, simprocAttr]; exact rfl, ?_⟩
        · refine Sh.wk (fun x => if x = 1 then 2 else x) ?_
          simp [Wk, go_sem, simprocAttr, eObj, eCell]
        · exact ⟨by rw [hN]; rfl, _, _, rfl⟩
      · have hfr : frOK c q xF = true := by simpa using ct76
        obtain ⟨mm, oc, rfl, hO, hoT⟩ : ∃ (mm : Nat) (oc : GObj), xF = mm ∧ c.O[mm]? = some oc ∧ oc.T = (q : Int) := by
          unfold frOK at hfr
          simp only [Bool.and_eq_true, decide_eq_true_eq] at hfr
          obtain ⟨mm, rfl⟩ := Int.eq_ofNat_of_zero_le hfr.1
          have h2 := hfr.2
          rw [Int.toNat_natCast] at h2
          cases ho : c.O[mm]? with
          | none => rw [ho] at h2; cases h2
          | some oc => rw [ho] at h2; exact ⟨mm, oc, rfl, ho, by simpa using h2⟩
        have hlen : oc.F.length = t.F.length := by
          obtain ⟨_, t2, ht2, hmo⟩ := hmc.objT hO
          have := hmo.at_
          rw [hoT, Int.toNat_natCast, ht] at this
          cases this
          exact hmo.len
        obtain ⟨F0, hF0⟩ : ∃ F0, F0 = List.zipWith (keepF (toOf m)) t.F oc.F := ⟨_, rfl⟩
        have hF0l : F0.length = t.F.length := by rw [hF0, List.length_zipWith, hlen, Nat.min_self]
        have hap : aplObj c m id ⟨(mm : Int), q, xS⟩ = (setAll (-1) xS F0).map (fun F => ⟨id, q, F⟩) := by rw [hF0]; exact apl_old ht hO hoT
        obtain ⟨xF, hxF⟩ : ∃ xF : Int, (mm : Int) = xF := ⟨_, rfl⟩
        refine CW.skip ?_
        refine CW.rg (.rn htt 3 ?_)
        refine CWops.callG [0] rfl (maker_kept up c M (toOf m) hM mm oc t q hO hoT ht hlen h5) (by simp only [go_sem, simprocAttr]) (by simp only [go_sem, simprocAttr] <;> exact rfl) (by decide) (by simp [go_sem, simprocAttr, mName, memB]) (by simp [go_sem, simprocAttr, mName]) (by simp [go_sem, simprocAttr]) (by simp [go_sem, simprocAttr]) (by simp [go_sem, simprocAttr, mName]) (fun r σ' hσ => ?_)
        obtain ⟨rfl, t', rfl⟩ := hσ
        simp only [aftS, renS, delAll, memB, mName, List.getD_nil, killH, kref, ren, Nat.beq_eq, go_sem, simprocAttr]
        refine CWops.rn htt 2 (.done ?_)
        refine CW.seq (.rg (.rn htt 1 (.done ?_)))
        refine CW.seq (.seq (.rg (.rn htt 4 (.done ?_))))
        refine CW.block ?_
        refine CW.loop (S := Nat × Int × List GVal) (fun p => ⟨4, [(0, .lv 0 [] 0), (1, .int .i64 id), (5, .lv 1 [] 0), (6, .lv 2 [] 0), (8, .lv 3 [] 0), (9, .int .i64 p.2.1), (92, .sl 4 (xS.map eCell)), (93, .int .i64 xS.length), (94, .int .i64 p.1)], [(0, ⟨true, [.sl 2 (c.S.map eType), .sl 3 (c.O.map eObj), .sl 1 (c.Roots.map eI), .omap M]⟩), (1, ⟨true, [.int .i64 xF, .int .i64 q, .sl 4 (xS.map eCell)]⟩), (2, ⟨true, [.int .i64 0, .int .i64 0, .nilsl]⟩), (3, ⟨true, [.int .i64 id, .int .i64 q, .own 3 (p.2.2.map eVal)]⟩)]⟩) (fun p => p.1 ≤ xS.length ∧ setAll (-1) xS F0 = setAll p.2.1 (xS.drop p.1) p.2.2 ∧ p.2.2.length = t.F.length ∧ -1 ≤ p.2.1) (fun p => xS.length - p.1) ((0, -1, F0)) ?_ ⟨Nat.zero_le _, by simp, hF0l, by simp⟩ (fun ⟨i, la, F⟩ ⟨p1, p2, p3, p4⟩ => ?_)
        · refine Sh.wk0 ?_; first | (simp [Wk, go_sem, simprocAttr, hF0, eVal, ← hxF]; done) | (simp [Wk, go_sem, simprocAttr, hF0e, ← hxF])
        refine CW.seq (.rg (.rn htt 1 (.done ?_)))
        refine CW.seq ?_
        refine CW.cd (fun ct95 => ?_) (fun ct95 => ?_)
        · simp only at p1 p2 p3 p4
          have hi : i < xS.length := by simpa using ct95
          obtain ⟨s, hx⟩ : ∃ s, xS[i]? = some s := ⟨xS[i], List.getElem?_eq_getElem hi⟩
          rw [drop_at hx] at p2
          refine CW.skip ?_
          refine CW.seq ?_
          refine CW.block ?_
          refine CW.seq (.rg (.run htt 4 (by simp only [go_sem, simprocAttr, hx, eCell, eVal]; exact rfl) (by simp [go_sem, simprocAttr, hx, eCell, eVal]) (.done ?_)))
          refine CW.seq ?_
          refine CW.cut ⟨5, [(0, .lv 0 [] 0), (1, .int .i64 id), (5, .lv 1 [] 0), (6, .lv 2 [] 0), (8, .lv 3 [] 0), (9, .int .i64 la), (92, .sl 4 (xS.map eCell)), (93, .int .i64 xS.length), (94, .int .i64 i), (11, .lv 4 [] 0), (109, .bool (decide (s.F ≤ la) || decide ((F.length : Int) ≤ s.F)))], [(0, ⟨true, [.sl 2 (c.S.map eType), .sl 3 (c.O.map eObj), .sl 1 (c.Roots.map eI), .omap M]⟩), (1, ⟨true, [.int .i64 xF, .int .i64 q, .sl 4 (xS.map eCell)]⟩), (2, ⟨true, [.int .i64 0, .int .i64 0, .nilsl]⟩), (3, ⟨true, [.int .i64 id, .int .i64 q, .own 3 (F.map eVal)]⟩), (4, ⟨true, eCell s⟩)]⟩ ?_ ?_
          · refine CW.rg (.run htt 5 (by simp only [go_sem, simprocAttr, eVal]; exact rfl) (by simp [go_sem, simprocAttr, eVal]) ?_)
            all_goals (first | refine CWops.guard 102 (by simp only [go_sem, simprocAttr, eVal]; exact rfl) (fun g102 => ?_) (fun g102 => ?_) | skip)
            all_goals (refine CWops.run htt 7 (by simp only [go_sem, simprocAttr, eVal]; exact rfl) (by simp [go_sem, simprocAttr, eVal]) ?_)
            all_goals (refine CWops.done ?_)
            all_goals (
              refine ⟨rfl, Sh.wk0 ?_⟩
              simp_all [Wk, go_sem, simprocAttr, eCell, eVal] <;> first | done | omega | (intros; omega) | skip)
          refine CW.cd (fun ct109 => ?_) (fun ct109 => ?_)
          · have hN := hap
            rw [p2, setAll_no ct109] at hN
            simp only [Option.map_none] at hN
            refine CW.seq (.rg (.rn htt 3 (.done ?_)))
            refine CW.ret ?_
            refine ⟨⟨2, [(0, .lv 0 [] 0), (6, .lv 1 [] 0), (7, .bool false)], [(0, ⟨true, [.sl 2 (c.S.map eType), .sl 3 (c.O.map eObj), .sl 1 (c.Roots.map eI), .omap M]⟩), (1, ⟨true, [.int .i64 0, .int .i64 0, .nilsl]⟩)]⟩, ?_, .inr rfl, by simp [ptrOK, go_sem, simprocAttr], _, by simp only [f88, go_sem, simprocAttr]; exact rfl, ?_⟩
            · refine Sh.wk (fun x => if x = 1 then 2 else x) ?_
              simp [Wk, go_sem, simprocAttr, eObj, eCell]
            · exact ⟨by rw [hN]; rfl, _, _, rfl⟩
          · rw [setAll_yes ct109] at p2
            have hb2 : ¬ s.F ≤ la ∧ ¬ (F.length : Int) ≤ s.F := by simpa using ct109
            obtain ⟨sF, sV⟩ := s
            simp only at p2 hb2
            obtain ⟨k, rfl⟩ := Int.eq_ofNat_of_zero_le (show 0 ≤ sF by omega)
            rw [Int.toNat_natCast] at p2
            have hkF : k < F.length := by omega
            obtain ⟨fv, hgF⟩ : ∃ fv, F[k]? = some fv := ⟨F[k], List.getElem?_eq_getElem hkF⟩
            have hsk : ∀ X : List AV, ((F.map eVal).set k X)[k]? = some X := fun X => List.getElem?_set_self (by simpa using hkF)
            refine CW.skip ?_
            refine CW.drawnF mixed 9 10 [6, 7] (D := [117, 118]) (by decide) (by decide) (by kernel_rfl) (by kernel_rfl) rfl (by kernel_rfl) (by kernel_rfl) ?_
            refine Seg.run htt 9 (by simp only [go_sem, simprocAttr, eCell, hkF, hgF, eVal, List.length_map, hsk, List.set_set]; exact rfl) ?_
            refine Seg.done ?_
            refine Mid.sto htt (Flo.cons htt rfl rfl (by simp only [go_sem, simprocAttr, eCell, hkF, hgF, eVal, List.length_map, hsk, List.set_set] <;> exact rfl) (Flo.cons htt rfl rfl (by simp only [go_sem, simprocAttr, eCell, hkF, hgF, eVal, List.length_map, hsk, List.set_set] <;> exact rfl) (Flo.nil))) (fun u => by simp only [go_sem, simprocAttr, eCell, hkF, hgF, eVal, List.length_map, hsk, List.set_set]; exact rfl) ?_
            refine Mid.done (Flo.cons htt rfl rfl (by simp only [go_sem, simprocAttr, eCell, hkF, hgF, eVal, List.length_map, hsk, List.set_set] <;> exact rfl) (Flo.cons htt rfl rfl (by simp only [go_sem, simprocAttr, eCell, hkF, hgF, eVal, List.length_map, hsk, List.set_set] <;> exact rfl) (Flo.nil))) ?_
            refine CWops.run htt 1 (by simp only [go_sem, simprocAttr, eCell, hkF, hgF, eVal, List.length_map, hsk, List.set_set]; exact rfl) (by simp [go_sem, simprocAttr, eCell, hkF, hgF, eVal, List.length_map, hsk, List.set_set]) (.done ?_)
            refine CW.rg (.run htt 2 (by simp only [go_sem, simprocAttr, wrap_succ (Nat.lt_of_lt_of_le hi hxS)]; exact rfl) (by simp [go_sem, simprocAttr, wrap_succ (Nat.lt_of_lt_of_le hi hxS)]) (.done ?_))
            refine ⟨(i + 1, (k : Int), F.set k sV), ?_, ?_, ?_⟩
            · refine Sh.wk0 ?_; simp [Wk, go_sem, simprocAttr, List.map_set, eVal, hsk]
            · exact ⟨hi, p2, by simp [p3], by simp only; omega⟩
            · simp only; omega
        · simp only at p1 p2 p3 p4
          have hi : i = xS.length := by simp at ct95; omega
          have hY := hap
          rw [p2, hi, List.drop_length] at hY
          simp only [setAll, Option.map_some] at hY
          refine CW.exit ?_
          refine CW.seq ?_
          refine CW.sh (Sh.frz 3 2 (by simp only [go_sem, simprocAttr] <;> exact rfl) rfl) ?_
          simp only [go_sem, simprocAttr]
          refine CW.rg (.rn htt 3 (.done ?_))
          refine CW.ret ?_
          refine ⟨⟨2, [(0, .lv 0 [] 0), (6, .lv 1 [] 0), (7, .bool true)], [(0, ⟨true, [.sl 2 (c.S.map eType), .sl 3 (c.O.map eObj), .sl 1 (c.Roots.map eI), .omap M]⟩), (1, ⟨true, [.int .i64 id, .int .i64 q, .sl 3 (F.map eVal)]⟩)]⟩, ?_, .inr rfl, by simp [ptrOK, go_sem, simprocAttr], _, by simp only [f88, go_sem, simprocAttr]; exact rfl, ?_⟩
          · refine Sh.wk (fun x => if x = 1 then 2 else x) ?_
            simp [Wk, go_sem, simprocAttr, frz_Val]
          · exact ⟨by rw [hY]; rfl, _, _, rfl⟩
    · have hne : xF = -1 := by simpa using ct47
      subst hne
      refine CW.seq (.rg (.rn htt 7 (.done ?_)))
      refine CW.cd (fun ct89 => ?_) (fun ct89 => ?_)
      · have hN : aplObj c m id ⟨-1, q, xS⟩ = none := by rw [apl_new ht, if_neg (fun h => by simp at ct89; omega)]
        refine CW.seq (.rg (.rn htt 3 (.done ?_)))
        refine CW.ret ?_
        refine ⟨⟨2, [(0, .lv 0 [] 0), (6, .lv 1 [] 0), (7, .bool false)], [(0, ⟨true, [.sl 2 (c.S.map eType), .sl 3 (c.O.map eObj), .sl 1 (c.Roots.map eI), .omap M]⟩), (1, ⟨true, [.int .i64 0, .int .i64 0, .nilsl]⟩)]⟩, ?_, .inr rfl, by simp [ptrOK, go_sem, simprocAttr], _, by simp only [f88, go_sem, simprocAttr]; exact rfl, ?_⟩
        · refine Sh.wk (fun x => if x = 1 then 2 else x) ?_
          simp [Wk, go_sem, simprocAttr, eObj, eCell]
        · exact ⟨by rw [hN]; rfl, _, _, rfl⟩
      · have hxl : xS.length = t.F.length := by simp at ct89; omega
        obtain ⟨F0, hF0⟩ : ∃ F0 : List GVal, F0 = t.F.map fun _ => ⟨0, ⟨#[]⟩, 0⟩ := ⟨_, rfl⟩
        have hF0l : F0.length = t.F.length := by rw [hF0, List.length_map]
        have hF0e : F0.map eVal = List.replicate t.F.length [.int .i64 0, .str ⟨#[]⟩, .int .i64 0] := by
          rw [hF0, List.map_map]
          apply List.ext_getElem (by simp)
          intros; simp [eVal]
        have hap : aplObj c m id ⟨-1, q, xS⟩ = (setAll (-1) xS F0).map (fun F => ⟨id, q, F⟩) := by rw [hF0, apl_new ht, if_pos hxl]
        obtain ⟨xF, hxF⟩ : ∃ xF : Int, (-1 : Int) = xF := ⟨_, rfl⟩
        refine CW.skip ?_
        refine CW.seq (.rg (.rn htt 1 (.done ?_)))
        refine CW.seq (.seq (.rg (.rn htt 4 (.done ?_))))
        refine CW.block ?_
        refine CW.loop (S := Nat × Int × List GVal) (fun p => ⟨4, [(0, .lv 0 [] 0), (1, .int .i64 id), (5, .lv 1 [] 0), (6, .lv 2 [] 0), (8, .lv 3 [] 0), (9, .int .i64 p.2.1), (92, .sl 4 (xS.map eCell)), (93, .int .i64 xS.length), (94, .int .i64 p.1)], [(0, ⟨true, [.sl 2 (c.S.map eType), .sl 3 (c.O.map eObj), .sl 1 (c.Roots.map eI), .omap M]⟩), (1, ⟨true, [.int .i64 xF, .int .i64 q, .sl 4 (xS.map eCell)]⟩), (2, ⟨true, [.int .i64 0, .int .i64 0, .nilsl]⟩), (3, ⟨true, [.int .i64 id, .int .i64 q, .own 3 (p.2.2.map eVal)]⟩)]⟩) (fun p => p.1 ≤ xS.length ∧ setAll (-1) xS F0 = setAll p.2.1 (xS.drop p.1) p.2.2 ∧ p.2.2.length = t.F.length ∧ -1 ≤ p.2.1) (fun p => xS.length - p.1) ((0, -1, F0)) ?_ ⟨Nat.zero_le _, by simp, hF0l, by simp⟩ (fun ⟨i, la, F⟩ ⟨p1, p2, p3, p4⟩ => ?_)
        · refine Sh.wk0 ?_; first | (simp [Wk, go_sem, simprocAttr, hF0, eVal, ← hxF]; done) | (simp [Wk, go_sem, simprocAttr, hF0e, ← hxF])
        refine CW.seq (.rg (.rn htt 1 (.done ?_)))
        refine CW.seq ?_
        refine CW.cd (fun ct95 => ?_) (fun ct95 => ?_)
        · simp only at p1 p2 p3 p4
          have hi : i < xS.length := by simpa using ct95
          obtain ⟨s, hx⟩ : ∃ s, xS[i]? = some s := ⟨xS[i], List.getElem?_eq_getElem hi⟩
          rw [drop_at hx] at p2
          refine CW.skip ?_
          refine CW.seq ?_
          refine CW.block ?_
          refine CW.seq (.rg (.run htt 4 (by simp only [go_sem, simprocAttr, hx, eCell, eVal]; exact rfl) (by simp [go_sem, simprocAttr, hx, eCell, eVal]) (.done ?_)))
          refine CW.seq ?_
          refine CW.cut ⟨5, [(0, .lv 0 [] 0), (1, .int .i64 id), (5, .lv 1 [] 0), (6, .lv 2 [] 0), (8, .lv 3 [] 0), (9, .int .i64 la), (92, .sl 4 (xS.map eCell)), (93, .int .i64 xS.length), (94, .int .i64 i), (11, .lv 4 [] 0), (109, .bool (decide (s.F ≤ la) || decide ((F.length : Int) ≤ s.F)))], [(0, ⟨true, [.sl 2 (c.S.map eType), .sl 3 (c.O.map eObj), .sl 1 (c.Roots.map eI), .omap M]⟩), (1, ⟨true, [.int .i64 xF, .int .i64 q, .sl 4 (xS.map eCell)]⟩), (2, ⟨true, [.int .i64 0, .int .i64 0, .nilsl]⟩), (3, ⟨true, [.int .i64 id, .int .i64 q, .own 3 (F.map eVal)]⟩), (4, ⟨true, eCell s⟩)]⟩ ?_ ?_
          · refine CW.rg (.run htt 5 (by simp only [go_sem, simprocAttr, eVal]; exact rfl) (by simp [go_sem, simprocAttr, eVal]) ?_)
            all_goals (first | refine CWops.guard 102 (by simp only [go_sem, simprocAttr, eVal]; exact rfl) (fun g102 => ?_) (fun g102 => ?_) | skip)
            all_goals (refine CWops.run htt 7 (by simp only [go_sem, simprocAttr, eVal]; exact rfl) (by simp [go_sem, simprocAttr, eVal]) ?_)
            all_goals (refine CWops.done ?_)
            all_goals (
              refine ⟨rfl, Sh.wk0 ?_⟩
              simp_all [Wk, go_sem, simprocAttr, eCell, eVal] <;> first | done | omega | (intros; omega) | skip)
          refine CW.cd (fun ct109 => ?_) (fun ct109 => ?_)
          · have hN := hap
            rw [p2, setAll_no ct109] at hN
            simp only [Option.map_none] at hN
            refine CW.seq (.rg (.rn htt 3 (.done ?_)))
            refine CW.ret ?_
            refine ⟨⟨2, [(0, .lv 0 [] 0), (6, .lv 1 [] 0), (7, .bool false)], [(0, ⟨true, [.sl 2 (c.S.map eType), .sl 3 (c.O.map eObj), .sl 1 (c.Roots.map eI), .omap M]⟩), (1, ⟨true, [.int .i64 0, .int .i64 0, .nilsl]⟩)]⟩, ?_, .inr rfl, by simp [ptrOK, go_sem, simprocAttr], _, by simp only [f88, go_sem, simprocAttr]; exact rfl, ?_⟩
            · refine Sh.wk (fun x => if x = 1 then 2 else x) ?_
              simp [Wk, go_sem, simprocAttr, eObj, eCell]
            · exact ⟨by rw [hN]; rfl, _, _, rfl⟩
          · rw [setAll_yes ct109] at p2
            have hb2 : ¬ s.F ≤ la ∧ ¬ (F.length : Int) ≤ s.F := by simpa using ct109
            obtain ⟨sF, sV⟩ := s
            simp only at p2 hb2
            obtain ⟨k, rfl⟩ := Int.eq_ofNat_of_zero_le (show 0 ≤ sF by omega)
            rw [Int.toNat_natCast] at p2
            have hkF : k < F.length := by omega
            obtain ⟨fv, hgF⟩ : ∃ fv, F[k]? = some fv := ⟨F[k], List.getElem?_eq_getElem hkF⟩
            have hsk : ∀ X : List AV, ((F.map eVal).set k X)[k]? = some X := fun X => List.getElem?_set_self (by simpa using hkF)
            refine CW.skip ?_
            refine CW.drawnF mixed 9 10 [6, 7] (D := [117, 118]) (by decide) (by decide) (by kernel_rfl) (by kernel_rfl) rfl (by kernel_rfl) (by kernel_rfl) ?_
            refine Seg.run htt 9 (by simp only [go_sem, simprocAttr, eCell, hkF, hgF, eVal, List.length_map, hsk, List.set_set]; exact rfl) ?_
            refine Seg.done ?_
            refine Mid.sto htt (Flo.cons htt rfl rfl (by simp only [go_sem, simprocAttr, eCell, hkF, hgF, eVal, List.length_map, hsk, List.set_set] <;> exact rfl) (Flo.cons htt rfl rfl (by simp only [go_sem, simprocAttr, eCell, hkF, hgF, eVal, List.length_map, hsk, List.set_set] <;> exact rfl) (Flo.nil))) (fun u => by simp only [go_sem, simprocAttr, eCell, hkF, hgF, eVal, List.length_map, hsk, List.set_set]; exact rfl) ?_
            refine Mid.done (Flo.cons htt rfl rfl (by simp only [go_sem, simprocAttr, eCell, hkF, hgF, eVal, List.length_map, hsk, List.set_set] <;> exact rfl) (Flo.cons htt rfl rfl (by simp only [go_sem, simprocAttr, eCell, hkF, hgF, eVal, List.length_map, hsk, List.set_set] <;> exact rfl) (Flo.nil))) ?_
            refine CWops.run htt 1 (by simp only [go_sem, simprocAttr, eCell, hkF, hgF, eVal, List.length_map, hsk, List.set_set]; exact rfl) (by simp [go_sem, simprocAttr, eCell, hkF, hgF, eVal, List.length_map, hsk, List.set_set]) (.done ?_)
            refine CW.rg (.run htt 2 (by simp only [go_sem, simprocAttr, wrap_succ (Nat.lt_of_lt_of_le hi hxS)]; exact rfl) (by simp [go_sem, simprocAttr, wrap_succ (Nat.lt_of_lt_of_le hi hxS)]) (.done ?_))
            refine ⟨(i + 1, (k : Int), F.set k sV), ?_, ?_, ?_⟩
            · refine Sh.wk0 ?_; simp [Wk, go_sem, simprocAttr, List.map_set, eVal, hsk]
            · exact ⟨hi, p2, by simp [p3], by simp only; omega⟩
            · simp only; omega
        · simp only at p1 p2 p3 p4
          have hi : i = xS.length := by simp at ct95; omega
          have hY := hap
          rw [p2, hi, List.drop_length] at hY
          simp only [setAll, Option.map_some] at hY
          refine CW.exit ?_
          refine CW.seq ?_
          refine CW.sh (Sh.frz 3 2 (by simp only [go_sem, simprocAttr] <;> exact rfl) rfl) ?_
          simp only [go_sem, simprocAttr]
          refine CW.rg (.rn htt 3 (.done ?_))
          refine CW.ret ?_
          refine ⟨⟨2, [(0, .lv 0 [] 0), (6, .lv 1 [] 0), (7, .bool true)], [(0, ⟨true, [.sl 2 (c.S.map eType), .sl 3 (c.O.map eObj), .sl 1 (c.Roots.map eI), .omap M]⟩), (1, ⟨true, [.int .i64 id, .int .i64 q, .sl 3 (F.map eVal)]⟩)]⟩, ?_, .inr rfl, by simp [ptrOK, go_sem, simprocAttr], _, by simp only [f88, go_sem, simprocAttr]; exact rfl, ?_⟩
          · refine Sh.wk (fun x => if x = 1 then 2 else x) ?_
            simp [Wk, go_sem, simprocAttr, frz_Val]
          · exact ⟨by rw [hY]; rfl, _, _, rfl⟩
def fM (L : List GItem) (i : Nat) : List (Int × AV) := (L.take i).zipIdx.foldl (fun M p => if p.1.From = -1 then M else mapput M p.1.From (.int .i64 (p.2 : Int))) []
theorem fM_succ {L : List GItem} {i : Nat} {x : GItem} (h : L[i]? = some x) : fM L (i + 1) = if x.From = -1 then fM L i else mapput (fM L i) x.From (.int .i64 (i : Int)) := by
  have hlt := (List.getElem?_eq_some_iff.1 h).1
  unfold fM
  rw [List.take_add_one, h, Option.toList_some, List.zipIdx_append, List.foldl_append, List.length_take, Nat.min_eq_left (by omega)]
  simp
theorem fM_len (L : List GItem) : ∀ i, i ≤ L.length → (fM L i).length ≤ i
  | 0, _ => by simp [fM]
  | i + 1, hi => by
    obtain ⟨x, hx⟩ : ∃ x, L[i]? = some x := ⟨L[i], List.getElem?_eq_getElem (by omega)⟩
    have ih := fM_len L i (by omega)
    rw [fM_succ hx]
    split
    · omega
    · have := mapput_len (fM L i) x.From (.int .i64 (i : Int)); omega
theorem fM_lk (L : List GItem) : ∀ i, i ≤ L.length → ∀ r, (maplk (fM L i) r = none ∧ ∀ (j : Nat) (x : GItem), j < i → L[j]? = some x → x.From = r → x.From = -1) ∨ ∃ (j : Nat) (x : GItem), j < i ∧ L[j]? = some x ∧ x.From = r ∧ x.From ≠ -1 ∧ maplk (fM L i) r = some (.int .i64 (j : Int))
  | 0, _, r => .inl ⟨by simp [fM, maplk], fun j x hj => by omega⟩
  | i + 1, hi, r => by
    obtain ⟨y, hy⟩ : ∃ x, L[i]? = some x := ⟨L[i], List.getElem?_eq_getElem (by omega)⟩
    have ih := fM_lk L i (by omega) r
    rw [fM_succ hy]
    have step : ∀ (j : Nat) (x : GItem), j < i + 1 → L[j]? = some x → j < i ∨ x = y := fun j x hj hx => by
      by_cases e : j = i
      · subst e; rw [hy] at hx; cases hx; exact .inr rfl
      · exact .inl (by omega)
    by_cases e : y.From = -1
    · rw [if_pos e]
      rcases ih with ⟨h1, h2⟩ | ⟨j, x, h1, h2, h3⟩
      · exact .inl ⟨h1, fun j x hj hx hr => by rcases step j x hj hx with h | rfl; exact h2 j x h hx hr; exact e⟩
      · exact .inr ⟨j, x, by omega, h2, h3⟩
    · rw [if_neg e, maplk_mapput]
      by_cases e2 : r = y.From
      · rw [if_pos e2]; exact .inr ⟨i, y, by omega, hy, e2.symm, e, rfl⟩
      · rw [if_neg e2]
        rcases ih with ⟨h1, h2⟩ | ⟨j, x, h1, h2, h3⟩
        · exact .inl ⟨h1, fun j x hj hx hr => by rcases step j x hj hx with h | rfl; exact h2 j x h hx hr; exact absurd hr.symm e2⟩
        · exact .inr ⟨j, x, by omega, h2, h3⟩
theorem toMap_mem : ∀ (k : Nat) (L : List GItem) (m : List (Int × Nat)), toMap k L = some m → ∀ y ∈ L, y.From ≠ -1 → m.any (fun p => decide (p.1 = y.From)) = true
  | k, [], m, _, y, hy, _ => by cases hy
  | k, x :: r, m, h, y, hy, hn => by
    simp only [toMap] at h
    cases hr : toMap (k + 1) r with
    | none => rw [hr] at h; cases h
    | some m' =>
      rw [hr] at h
      simp only at h
      have ih := toMap_mem (k + 1) r m' hr
      split at h
      · rename_i e
        cases h
        rcases List.mem_cons.1 hy with rfl | hy
        · exact absurd e hn
        · exact ih y hy hn
      · split at h
        · cases h
        · cases h
          rcases List.mem_cons.1 hy with rfl | hy
          · simp
          · simp only [List.any_cons, Bool.or_eq_true]; exact .inr (ih y hy hn)
theorem toMap_dup : ∀ (k : Nat) (L : List GItem) (i j : Nat) (x y : GItem), j < i → L[j]? = some x → L[i]? = some y → x.From = y.From → y.From ≠ -1 → toMap k L = none
  | k, [], i, j, x, y, _, hx, _, _, _ => by simp at hx
  | k, z :: r, 0, j, x, y, hj, _, _, _, _ => by omega
  | k, z :: r, i + 1, 0, x, y, _, hx, hy, he, hn => by
    simp at hx hy
    subst hx
    simp only [toMap]
    cases hr : toMap (k + 1) r with
    | none => rfl
    | some m =>
      simp only
      rw [if_neg (by rw [he]; exact hn), if_pos (by rw [he]; exact toMap_mem (k + 1) r m hr y (List.mem_of_getElem? hy) hn)]
  | k, z :: r, i + 1, j + 1, x, y, hj, hx, hy, he, hn => by
    have := toMap_dup (k + 1) r i j x y (by omega) (by simpa using hx) (by simpa using hy) he hn
    simp only [toMap, this]
def DisL (L : List GItem) (n : Nat) : Prop := ∀ (i j : Nat) (x y : GItem), i < n → j < n → L[i]? = some x → L[j]? = some y → x.From = y.From → x.From ≠ -1 → i = j
theorem tf_ok {L : List GItem} (hd : DisL L L.length) : ∃ m, toMap 0 L = some m ∧ TfOK (fM L L.length) (toOf m) := by
  have hd' : ∀ (i j : Nat) (x y : GItem), L[i]? = some x → L[j]? = some y → x.From = y.From → x.From ≠ -1 → i = j := fun i j x y hx hy => hd i j x y (List.getElem?_eq_some_iff.1 hx).1 (List.getElem?_eq_some_iff.1 hy).1 hx hy
  obtain ⟨m, h1, h2, h3⟩ := toMap_some 0 L hd'
  refine ⟨m, h1, fun r => ?_⟩
  rcases fM_lk L L.length (Nat.le_refl _) r with ⟨a1, a2⟩ | ⟨j, x, _, b2, b3, b4, b5⟩
  · refine .inr ⟨a1, ?_⟩
    unfold toOf
    cases hf : m.find? fun p => decide (p.1 = r) with
    | none => rfl
    | some p =>
      exfalso
      have hp := List.find?_some hf
      simp only [decide_eq_true_eq] at hp
      obtain ⟨j, x, c1, c2, c3, _⟩ := h2 p (List.mem_of_find?_eq_some hf)
      exact c3 (a2 j x (List.getElem?_eq_some_iff.1 c1).1 c1 (c2.trans hp))
  · exact .inl ⟨j, b5, by rw [← b3]; exact toOf_at hd' h2 h3 b2 b4⟩
theorem aplAll_none {c : Graph} {m : List (Int × Nat)} : ∀ (k : Nat) (L : List GItem) (i : Nat) (x : GItem), L[i]? = some x → aplObj c m (k + i) x = none → aplAll c m k L = none
  | k, [], i, x, h, _ => by simp at h
  | k, y :: r, 0, x, h, hn => by
    simp at h; subst h
    simp only [aplAll, show aplObj c m k y = none from hn]
  | k, y :: r, i + 1, x, h, hn => by
    have := aplAll_none (c := c) (m := m) (k + 1) r i x (by simpa using h) (by rw [show k + 1 + i = k + (i + 1) by omega]; exact hn)
    simp only [aplAll, this]
    cases aplObj c m k y <;> rfl
def dAll (c : Graph) (L : List GItem) : Option (List GObj) := match toMap 0 L with
  | none => none
  | some m => aplAll c m 0 L
def allR : Option (List GObj) → AV
  | some l => .tup [.sl 3 (l.map eObj), .bool true]
  | none => .tup [.nilsl, .bool false]
def objC : Option GObj → List AV
  | some o => eObj o
  | none => [.int .i64 0, .int .i64 0, .nilsl]
theorem object_some (up : Bool) (c : Graph) (hmc : May c) (M : List (Int × AV)) (m : List (Int × Nat)) (hM : TfOK M (toOf m)) (id : Nat) (x : GItem) (hxS : x.Set.length ≤ MX) {o : GObj} (h : aplObj c m id x = some o) : GCall prog up 88 [.lv 0 [] 0, .int .i64 id, .agg (eItem x)] 1 [(0, ⟨true, [.sl 2 (c.S.map eType), .sl 3 (c.O.map eObj), .sl 1 (c.Roots.map eI), .omap M]⟩)] (fun r σ' => r = .tup [.agg (eObj o), .bool true] ∧ ∃ t' R, σ' = ⟨2, t', [(0, ⟨true, [.sl 2 (c.S.map eType), .sl 3 (c.O.map eObj), .sl 1 (c.Roots.map eI), .omap M]⟩), (1, R)]⟩) := by
  have q := maker_object up c hmc M m hM id x hxS
  rw [h] at q; exact q
theorem object_none (up : Bool) (c : Graph) (hmc : May c) (M : List (Int × AV)) (m : List (Int × Nat)) (hM : TfOK M (toOf m)) (id : Nat) (x : GItem) (hxS : x.Set.length ≤ MX) (h : aplObj c m id x = none) : GCall prog up 88 [.lv 0 [] 0, .int .i64 id, .agg (eItem x)] 1 [(0, ⟨true, [.sl 2 (c.S.map eType), .sl 3 (c.O.map eObj), .sl 1 (c.Roots.map eI), .omap M]⟩)] (fun r σ' => r = .tup [.agg [.int .i64 0, .int .i64 0, .nilsl], .bool false] ∧ ∃ t' R, σ' = ⟨2, t', [(0, ⟨true, [.sl 2 (c.S.map eType), .sl 3 (c.O.map eObj), .sl 1 (c.Roots.map eI), .omap M]⟩), (1, R)]⟩) := by
  have q := maker_object up c hmc M m hM id x hxS
  rw [h] at q; exact q
theorem maker_all (up : Bool) (c : Graph) (hmc : May c) (L : List GItem) (hL : L.length ≤ 1000) (hS : ∀ x ∈ L, x.Set.length ≤ MX) : GCall prog up 44 [.lv 0 [] 0, .sl 3 (L.map eItem)] 1 [(0, ⟨true, [.sl 2 (c.S.map eType), .sl 3 (c.O.map eObj), .sl 1 (c.Roots.map eI), .omap ([])]⟩)] (fun r σ' => r = allR (dAll c L) ∧ ∃ t' M', σ' = ⟨1, t', [(0, ⟨true, [.sl 2 (c.S.map eType), .sl 3 (c.O.map eObj), .sl 1 (c.Roots.map eI), .omap (M')]⟩)]⟩) := by
  refine GCall.intro htt 1 func44 (by kernel_rfl) rfl (Nat.le_of_ble_eq_true rfl) (CW.told ?_)

  simp only [tmps0, Nat.reduceAdd]
  refine CW.seq (.rg (.rn htt 2 (.done ?_)))
  refine CW.seq (.seq (.rg (.rn htt 3 (.done ?_))))
  refine CW.block ?_
  refine CW.loop (S := Nat) (fun i => ⟨1, [(0, .lv 0 [] 0), (1, .sl 3 (L.map eItem)), (15, .sl 3 (L.map eItem)), (16, .int .i64 L.length), (17, .int .i64 i)], [(0, ⟨true, [.sl 2 (c.S.map eType), .sl 3 (c.O.map eObj), .sl 1 (c.Roots.map eI), .omap (fM L i)]⟩)]⟩) (fun i => i ≤ L.length ∧ DisL L i) (fun i => L.length - i) (0) ?_ ⟨Nat.zero_le _, fun a b u v ha => by omega⟩ (fun i ⟨h1, hd⟩ => ?_)
  · refine Sh.wk0 ?_; simp [Wk, go_sem, simprocAttr, fM]
  refine CW.seq (.rg (.rn htt 1 (.done ?_)))
  refine CW.seq ?_
  refine CW.cd (fun ct18 => ?_) (fun ct18 => ?_)
  · have hi : i < L.length := by simpa using ct18
    obtain ⟨x, hx⟩ : ∃ x, L[i]? = some x := ⟨L[i], List.getElem?_eq_getElem hi⟩
    have hfl := fM_len L i (by omega)
    refine CW.skip ?_
    refine CW.seq ?_
    refine CW.block ?_
    refine CW.seq (.rg (.run htt 6 (by simp only [go_sem, simprocAttr, hx, eItem]; exact rfl) (by simp [go_sem, simprocAttr, hx, eItem]) (.done ?_)))
    refine CW.seq (.seq (.rg (.run htt 3 (by simp only [go_sem, simprocAttr, eItem]; exact rfl) (by simp [go_sem, simprocAttr, eItem]) (.done ?_))))
    refine CW.cd (fun ct24 => ?_) (fun ct24 => ?_)
    · have hF : x.From = -1 := by simpa using ct24
      have hfs : fM L (i + 1) = fM L i := by rw [fM_succ hx, if_pos hF]
      have hd2 : DisL L (i + 1) := fun a b u v ha hb hu hv he hn => by
        by_cases e1 : a = i
        · subst e1; rw [hx] at hu; cases hu; exact absurd hF hn
        · by_cases e2 : b = i
          · subst e2; rw [hx] at hv; cases hv; rw [hF] at he; exact absurd he hn
          · exact hd a b u v (by omega) (by omega) hu hv he hn
      refine CW.exit ?_
      refine CW.rg (.run htt 2 (by simp only [go_sem, simprocAttr, wrap_succ (show i < MX by unfold MX; omega)]; exact rfl) (by simp [go_sem, simprocAttr, wrap_succ (show i < MX by unfold MX; omega)]) (.done ?_))
      refine ⟨i + 1, ?_, ?_, ?_⟩
      · refine Sh.wk0 ?_; simp [Wk, go_sem, simprocAttr, hfs]
      · exact ⟨hi, hd2⟩
      · simp only; omega
    · have hF : x.From ≠ -1 := by simpa using ct24
      have hfs : fM L (i + 1) = mapput (fM L i) x.From (.int .i64 (i : Int)) := by rw [fM_succ hx, if_neg hF]
      refine CW.skip ?_
      refine CW.seq ?_
      refine CW.cut ⟨2, [(0, .lv 0 [] 0), (1, .sl 3 (L.map eItem)), (15, .sl 3 (L.map eItem)), (16, .int .i64 L.length), (17, .int .i64 i), (6, .int .i64 i), (7, .lv 1 [] 0), (9, .bool (maplk (fM L i) x.From).isSome)], [(0, ⟨true, [.sl 2 (c.S.map eType), .sl 3 (c.O.map eObj), .sl 1 (c.Roots.map eI), .omap (fM L i)]⟩), (1, ⟨true, eItem x⟩)]⟩ ?_ ?_
      · cases hlk : maplk (fM L i) x.From
        all_goals (refine CW.drawn mixed 11 (by decide) (by kernel_rfl) (by kernel_rfl) (by kernel_rfl) ?_)
        all_goals (refine Seg.run htt 11 (by simp only [go_sem, simprocAttr, hlk, eItem]; exact rfl) ?_)
        all_goals (refine Seg.done ?_)
        all_goals (refine CWops.run htt 1 (by simp only [go_sem, simprocAttr, hlk, eItem]; exact rfl) (by simp [go_sem, simprocAttr, hlk, eItem]) ?_)
        all_goals (refine CWops.done ?_)
        all_goals (
          refine ⟨rfl, Sh.wk0 ?_⟩
          simp [Wk, go_sem, simprocAttr, hlk, eItem])
      refine CW.seq (.rg (.rn htt 1 (.done ?_)))
      refine CW.cd (fun ct35 => ?_) (fun ct35 => ?_)
      · have hN : dAll c L = none := by
          rcases fM_lk L i (by omega) x.From with ⟨h2, _⟩ | ⟨j, y, h2, h3, h4, h5, _⟩
          · rw [h2] at ct35; cases ct35
          · unfold dAll; rw [toMap_dup 0 L i j y x h2 h3 hx h4 hF]
        refine CW.seq (.rg (.rn htt 2 (.done ?_)))
        refine CW.ret ?_
        refine ⟨⟨1, [(0, .lv 0 [] 0), (4, .nilsl), (5, .bool false)], [(0, ⟨true, [.sl 2 (c.S.map eType), .sl 3 (c.O.map eObj), .sl 1 (c.Roots.map eI), .omap (fM L i)]⟩)]⟩, ?_, .inr rfl, by simp [ptrOK, go_sem, simprocAttr], _, by simp only [f44, go_sem, simprocAttr]; exact rfl, ?_⟩
        · refine Sh.wk0 ?_
          simp [Wk, go_sem, simprocAttr]
        · exact ⟨by rw [hN]; rfl, _, _, rfl⟩
      · have hd2 : DisL L (i + 1) := fun a b u v ha hb hu hv he hn => by
          rcases fM_lk L i (by omega) x.From with ⟨_, h2⟩ | ⟨j, y, _, _, _, _, h3⟩
          · by_cases e1 : a = i
            · by_cases e2 : b = i
              · omega
              · subst e1; rw [hx] at hu; cases hu
                exact absurd (he.trans (h2 b v (by omega) hv he.symm)) hn
            · by_cases e2 : b = i
              · subst e2; rw [hx] at hv; cases hv
                exact absurd (h2 a u (by omega) hu he) hn
              · exact hd a b u v (by omega) (by omega) hu hv he hn
          · rw [h3] at ct35; cases ct35
        refine CW.skip ?_
        refine CW.drawn mixed 7 (by decide) (by kernel_rfl) (by kernel_rfl) (by kernel_rfl) ?_
        refine Seg.run htt 7 (by simp only [go_sem, simprocAttr, eItem]; exact rfl) ?_
        refine Seg.done ?_
        refine CWops.run htt 1 (by simp only [go_sem, simprocAttr, eItem]; exact rfl) (by first | (simp; unfold MX; omega) | (unfold MX; omega)) ?_
        refine CWops.done ?_
        refine CW.rg (.run htt 2 (by simp only [go_sem, simprocAttr, wrap_succ (show i < MX by unfold MX; omega)]; exact rfl) (by simp [go_sem, simprocAttr, wrap_succ (show i < MX by unfold MX; omega)]) (.done ?_))
        refine ⟨i + 1, ?_, ?_, ?_⟩
        · refine Sh.wk0 ?_; simp [Wk, go_sem, simprocAttr, hfs]
        · exact ⟨hi, hd2⟩
        · simp only; omega
  · have hi : i = L.length := by simp at ct18; omega
    subst hi
    obtain ⟨m, hm, hTf⟩ := tf_ok hd
    refine CW.exit ?_
    refine CW.seq (.rg (.rn htt 1 (.done ?_)))
    refine CW.seq (.seq (.rg (.rn htt 3 (.done ?_))))
    refine CW.block ?_
    refine CW.loop (S := Nat × List GObj) (fun p => ⟨2, [(0, .lv 0 [] 0), (1, .sl 3 (L.map eItem)), (10, .ref 1 [] 0), (44, .sl 3 (L.map eItem)), (45, .int .i64 L.length), (46, .int .i64 p.1)], [(0, ⟨true, [.sl 2 (c.S.map eType), .sl 3 (c.O.map eObj), .sl 1 (c.Roots.map eI), .omap (fM L L.length)]⟩), (1, ⟨false, [.own 3 (p.2.map eObj)]⟩)]⟩) (fun p => p.1 ≤ L.length ∧ p.2.length = p.1 ∧ ∀ (j : Nat) (y : GItem) (o : GObj), L[j]? = some y → p.2[j]? = some o → aplObj c m j y = some o) (fun p => L.length - p.1) ((0, [])) ?_ ⟨Nat.zero_le _, rfl, fun j y o _ h => by simp at h⟩ (fun ⟨i, acc⟩ ⟨p1, p2, p3⟩ => ?_)
    · refine Sh.trans (Sh.nilRoot 10 3 (by simp only [go_sem, simprocAttr]) rfl) (Sh.wk0 ?_); simp [Wk, go_sem, simprocAttr]
    refine CW.seq (.rg (.rn htt 1 (.done ?_)))
    refine CW.seq ?_
    refine CW.cd (fun ct47 => ?_) (fun ct47 => ?_)
    · simp only at p1 p2 p3
      have hi : i < L.length := by simpa using ct47
      obtain ⟨x, hx⟩ : ∃ x, L[i]? = some x := ⟨L[i], List.getElem?_eq_getElem hi⟩
      have hxS := hS x (List.mem_of_getElem? hx)
      refine CW.skip ?_
      refine CW.seq ?_
      refine CW.block ?_
      refine CW.seq (.rg (.run htt 6 (by simp only [go_sem, simprocAttr, hx, eItem]; exact rfl) (by simp [go_sem, simprocAttr, hx, eItem]) (.done ?_)))
      refine CW.cut ⟨3, [(0, .lv 0 [] 0), (1, .sl 3 (L.map eItem)), (10, .ref 1 [] 0), (44, .sl 3 (L.map eItem)), (45, .int .i64 L.length), (46, .int .i64 i), (13, .lv 2 [] 0), (14, .bool (aplObj c m i x).isSome)], [(0, ⟨true, [.sl 2 (c.S.map eType), .sl 3 (c.O.map eObj), .sl 1 (c.Roots.map eI), .omap (fM L L.length)]⟩), (1, ⟨false, [.own 3 (acc.map eObj)]⟩), (2, ⟨true, objC (aplObj c m i x)⟩)]⟩ ?_ ?_
      · rcases hap : aplObj c m i x with _ | o
        all_goals (refine CW.rg ?_)
        all_goals (refine CWops.run htt 3 (by simp only [go_sem, simprocAttr, eItem, eObj]; exact rfl) (by simp [go_sem, simprocAttr, eItem, eObj]) ?_)
        all_goals (first | (refine CWops.skip ?_ ?_; next => (simp only [go_sem, simprocAttr]; done)) | (first | (refine CWops.callG [0] rfl (object_none up c hmc (fM L L.length) m hTf i x hxS hap) (by simp only [go_sem, simprocAttr]) (by simp only [go_sem, simprocAttr] <;> exact rfl) (by decide) (by simp [go_sem, simprocAttr, mName, memB, eItem]) (by simp [go_sem, simprocAttr, mName, eItem]) (by simp [go_sem, simprocAttr]) (by simp [go_sem, simprocAttr]) (by simp [go_sem, simprocAttr, mName, eItem]) (fun r σ' hσ => ?_); obtain ⟨rfl, t', R, rfl⟩ := hσ; simp only [aftS, renS, delAll, memB, mName, List.getD_nil, killH, kref, ren, Nat.beq_eq, go_sem, simprocAttr]) | (refine CWops.callG [0] rfl (object_some up c hmc (fM L L.length) m hTf i x hxS hap) (by simp only [go_sem, simprocAttr]) (by simp only [go_sem, simprocAttr] <;> exact rfl) (by decide) (by simp [go_sem, simprocAttr, mName, memB, eItem]) (by simp [go_sem, simprocAttr, mName, eItem]) (by simp [go_sem, simprocAttr]) (by simp [go_sem, simprocAttr]) (by simp [go_sem, simprocAttr, mName, eItem]) (fun r σ' hσ => ?_); obtain ⟨rfl, t', R, rfl⟩ := hσ; simp only [aftS, renS, delAll, memB, mName, List.getD_nil, killH, kref, ren, Nat.beq_eq, go_sem, simprocAttr])))
        all_goals (refine CWops.run htt 6 (by simp only [go_sem, simprocAttr, eItem, eObj]; exact rfl) (by simp [go_sem, simprocAttr, eItem, eObj]) ?_)
        all_goals (refine CWops.done ?_)
        all_goals (
          refine Sh.wk (fun x => if x = 2 then 5 else x) ?_
          simp [Wk, go_sem, simprocAttr, hap, objC, eObj])
      refine CW.seq (.seq (.rg (.rn htt 2 (.done ?_))))
      refine CW.cd (fun ct59 => ?_) (fun ct59 => ?_)
      · have hN : dAll c L = none := by
          unfold dAll; rw [hm]
          refine aplAll_none 0 L i x hx ?_
          rw [Nat.zero_add]
          cases h : aplObj c m i x with
          | none => rfl
          | some o => rw [h] at ct59; cases ct59
        refine CW.seq (.rg (.rn htt 2 (.done ?_)))
        refine CW.ret ?_
        refine ⟨⟨1, [(0, .lv 0 [] 0), (4, .nilsl), (5, .bool false)], [(0, ⟨true, [.sl 2 (c.S.map eType), .sl 3 (c.O.map eObj), .sl 1 (c.Roots.map eI), .omap (fM L L.length)]⟩)]⟩, ?_, .inr rfl, by simp [ptrOK, go_sem, simprocAttr], _, by simp only [f44, go_sem, simprocAttr]; exact rfl, ?_⟩
        · refine Sh.wk0 ?_
          simp [Wk, go_sem, simprocAttr]
        · exact ⟨by rw [hN]; rfl, _, _, rfl⟩
      · obtain ⟨o, hap2⟩ : ∃ o, aplObj c m i x = some o := by
          cases h : aplObj c m i x with
          | none => rw [h] at ct59; cases ct59
          | some o => exact ⟨o, rfl⟩
        refine CW.skip ?_
        refine CW.rg ?_
        refine CWops.run htt 5 (by simp only [go_sem, simprocAttr, objC, hap2, eObj]; exact rfl) (by first | (simp [go_sem, simprocAttr, objC, hap2, eObj]; done) | (simp [go_sem, simprocAttr, objC, hap2, eObj]; unfold MX; omega)) ?_
        refine CWops.done ?_
        refine CW.rg (.run htt 2 (by simp only [go_sem, simprocAttr, wrap_succ (show i < MX by unfold MX; omega)]; exact rfl) (by simp [go_sem, simprocAttr, wrap_succ (show i < MX by unfold MX; omega)]) (.done ?_))
        refine ⟨(i + 1, acc ++ [o]), ?_, ?_, ?_⟩
        · refine Sh.wk (fun x => if x = 1 then 4 else x) ?_; simp [Wk, go_sem, simprocAttr, eObj]
        · refine ⟨hi, by simp [p2], fun j y o' hy ho => ?_⟩
          simp only at ho
          by_cases hj : j < acc.length
          · rw [List.getElem?_append_left hj] at ho; exact p3 j y o' hy ho
          · rw [List.getElem?_append_right (by omega)] at ho
            have hj2 : j = i := by
              have := (List.getElem?_eq_some_iff.1 ho).1
              simp at this; omega
            subst hj2
            rw [hx] at hy; cases hy
            rw [show j - acc.length = 0 by omega] at ho
            simp at ho; subst ho; exact hap2
        · simp only; omega
    · simp only at p1 p2 p3
      have hi : i = L.length := by simp at ct47; omega
      have hY : dAll c L = some acc := by
        unfold dAll; rw [hm]
        exact aplAll_of 0 L acc (by omega) fun j y o hy ho => by rw [Nat.zero_add]; exact p3 j y o hy ho
      refine CW.exit ?_
      refine CW.seq ?_
      refine CW.sh (Sh.frzT 10 1 rfl rfl rfl) ?_
      simp only [go_sem, simprocAttr]
      refine CW.rg (.rn htt 3 (.done ?_))
      refine CW.ret ?_
      refine ⟨⟨1, [(0, .lv 0 [] 0), (4, .sl 3 (acc.map eObj)), (5, .bool true)], [(0, ⟨true, [.sl 2 (c.S.map eType), .sl 3 (c.O.map eObj), .sl 1 (c.Roots.map eI), .omap (fM L L.length)]⟩)]⟩, ?_, .inr rfl, by simp [ptrOK, go_sem, simprocAttr], _, by simp only [f44, go_sem, simprocAttr]; exact rfl, ?_⟩
      · refine Sh.wk0 ?_
        simp [Wk, go_sem, simprocAttr, frz_Obj]
      · exact ⟨by rw [hY]; rfl, _, _, rfl⟩
def objsV : Option (List GObj) → AV
  | some l => .sl 3 (l.map eObj)
  | none => .nilsl
theorem gSum_may {g : Graph} (h : (gSum g).2 = 0) : gMay g = true := by
  unfold gSum at h
  by_cases hp : (gParts g).2 = 0
  · exact (gParts_may hp).1
  · rw [if_neg hp] at h; exact absurd h hp
theorem gApply_eq {g : Graph} {d : GDelta} (h1 : (gSum g).2 = 0) (h2 : (gSum g).1 = d.Base) : gApply g d = match dAll (gCanon g) d.L with
    | none => (noGraph, 2)
    | some l => if gMay ⟨g.S, l, d.Roots⟩ = true ∧ gCanon ⟨g.S, l, d.Roots⟩ = ⟨g.S, l, d.Roots⟩ then (⟨g.S, l, d.Roots⟩, 0) else (noGraph, 2) := by
  unfold gApply dAll
  rw [if_neg (by rw [h1]; simp), if_neg (by rw [h2]; simp)]
  cases toMap 0 d.L with
  | none => rfl
  | some m => rfl
def aplOK (g : Graph) (d : GDelta) : Bool := match dAll (gCanon g) d.L with
  | none => false
  | some l => gMay ⟨g.S, l, d.Roots⟩ && decide (gCanon ⟨g.S, l, d.Roots⟩ = ⟨g.S, l, d.Roots⟩)
theorem eGraph_no : eGraph noGraph = [.sl 2 [], .sl 3 [], .sl 1 []] := rfl
theorem all_some (up : Bool) (c : Graph) (hmc : May c) (L : List GItem) (hL : L.length ≤ 1000) (hS : ∀ x ∈ L, x.Set.length ≤ MX) {l : List GObj} (h : dAll c L = some l) : GCall prog up 44 [.lv 0 [] 0, .sl 3 (L.map eItem)] 1 [(0, ⟨true, [.sl 2 (c.S.map eType), .sl 3 (c.O.map eObj), .sl 1 (c.Roots.map eI), .omap ([])]⟩)] (fun r σ' => r = .tup [.sl 3 (l.map eObj), .bool true] ∧ ∃ t' M', σ' = ⟨1, t', [(0, ⟨true, [.sl 2 (c.S.map eType), .sl 3 (c.O.map eObj), .sl 1 (c.Roots.map eI), .omap (M')]⟩)]⟩) := by
  have q := maker_all up c hmc L hL hS
  rw [h] at q; exact q
theorem all_none (up : Bool) (c : Graph) (hmc : May c) (L : List GItem) (hL : L.length ≤ 1000) (hS : ∀ x ∈ L, x.Set.length ≤ MX) (h : dAll c L = none) : GCall prog up 44 [.lv 0 [] 0, .sl 3 (L.map eItem)] 1 [(0, ⟨true, [.sl 2 (c.S.map eType), .sl 3 (c.O.map eObj), .sl 1 (c.Roots.map eI), .omap ([])]⟩)] (fun r σ' => r = .tup [.nilsl, .bool false] ∧ ∃ t' M', σ' = ⟨1, t', [(0, ⟨true, [.sl 2 (c.S.map eType), .sl 3 (c.O.map eObj), .sl 1 (c.Roots.map eI), .omap (M')]⟩)]⟩) := by
  have q := maker_all up c hmc L hL hS
  rw [h] at q; exact q
theorem clone_Int (up : Bool) (xs : List Int) (hx : xs.length * 8 ≤ MX) : PCall prog up 45 [.sl 1 (xs.map eI)] (· = .sl 1 (xs.map eI)) := by
  refine PCall.intro htt func45 (by kernel_rfl) rfl (Nat.le_of_ble_eq_true rfl) fun hl => ?_
  have hx1 : xs.length ≤ MX := by omega
  simp only [tmps0, Nat.reduceAdd]
  refine CW.seq (.rg (.rn htt 1 (.done ?_)))
  refine CW.seq (.seq (.rg (.rn htt 1 ?_)))
  refine CWops.nilcmp (n := 1) (l := xs.map eI) htt (by simp only [go_sem, simprocAttr]) (by simp only [go_sem, simprocAttr]) (by simp only [go_sem, simprocAttr]) tt_26 rfl (fun b hb => ⟨_, rfl, ?_⟩)
  refine CWops.done ?_
  refine CW.cd (fun ct4 => ?_) (fun ct4 => ?_)
  · refine CW.seq (.rg (.rn htt 1 (.done ?_)))
    refine CW.ret ?_
    refine retQ.rt (by simp only [f45, go_sem, simprocAttr]; exact rfl) ?_
    refine ⟨_, ?_, rfl⟩
    have h0 := hb ct4; simp [leP, h0]
  · refine CW.skip ?_
    refine CW.seq (.rg ?_)
    refine CWops.run htt 4 (by simp only [go_sem, simprocAttr]; exact rfl) (by refine ⟨?_, ?_, ?_⟩ <;> first | (simp [eI, AV.cell]; done) | (simp; omega)) ?_
    refine CWops.done ?_
    refine CW.ret ?_
    refine retQ.rt (by simp only [f45, go_sem, simprocAttr]; exact rfl) ?_
    refine ⟨_, ?_, rfl⟩
    simp [leP, frz_I, frz_Val, frz_Obj, frz_Field, frz_Type]
theorem delta_Apply (up : Bool) (g : Graph) (d : GDelta) (hL : d.L.length ≤ 1000) (hR : d.Roots.length ≤ 1000) : PCall prog up 14 [.agg (eGraph g), .agg (eDelta d)] (· = .tup [.agg (eGraph (gApply g d).1), .int .i64 (gApply g d).2]) := by
  refine PCall.intro htt func14 (by kernel_rfl) rfl (Nat.le_of_ble_eq_true rfl) fun hl => ?_
  have hLn := (hl (.agg (eDelta d)) (by simp)).agg
  have hS : ∀ x ∈ d.L, x.Set.length ≤ MX := fun x hx => by
    have h1 := ((hLn (.sl 3 (d.L.map eItem)) (by simp [eDelta])).sl.2 (eItem x) (List.mem_map_of_mem hx)).2 (.sl 4 (x.Set.map eCell)) (by simp [eItem])
    simpa using h1.sl.1
  simp only [tmps0, Nat.reduceAdd]
  refine CW.seq (.rg (.run htt 4 (by simp only [go_sem, simprocAttr, eGraph, eDelta]; exact rfl) (by simp [go_sem, simprocAttr, eGraph, eDelta]) (.done ?_)))
  refine CW.seq (.rg (.run htt 1 (by simp only [go_sem, simprocAttr, eGraph]; exact rfl) (by simp [go_sem, simprocAttr, eGraph]) ?_))
  refine CWops.callA (code_Sum up g) (by simp only [go_sem, simprocAttr, eGraph]) (by simp only [go_sem, simprocAttr, eGraph] <;> exact rfl) (by simp only [go_sem, simprocAttr, eGraph]) (by simp only [go_sem, simprocAttr, eGraph]) (fun rt14 hrt14 => ?_)
  subst hrt14
  refine CWops.run htt 5 (by simp only [go_sem, simprocAttr, eGraph]; exact rfl) (by simp [go_sem, simprocAttr, eGraph]) (.done ?_)
  refine CW.seq ?_
  refine CW.block ?_
  refine CW.seq (.rg (.rn htt 3 (.done ?_)))
  refine CW.cd (fun ct17 => ?_) (fun ct17 => ?_)
  · have h1 : (gSum g).2 ≠ 0 := by simpa using ct17
    refine CW.seq (.rg (.rn htt 4 (.done ?_)))
    refine CW.ret ?_
    refine retQ.rt (by simp only [f14, go_sem, simprocAttr]; exact rfl) ?_
    refine ⟨_, ?_, rfl⟩
    have e : gApply g d = (noGraph, (gSum g).2) := by unfold gApply; rw [if_pos h1]
    rw [e, eGraph_no]
    simp [leP, leL]
  · have h1 : (gSum g).2 = 0 := by simpa using ct17
    have hgm := gSum_may h1
    have hmc : May (gCanon g) := (may_iff _).1 (once_facts hgm).1
    have hcS : (gCanon g).S = g.S := by rw [gCanon_of hgm]; rfl
    refine CW.seq (.rg (.rn htt 5 (.done ?_)))
    refine CW.cd (fun ct22 => ?_) (fun ct22 => ?_)
    · have h2 : (gSum g).1 ≠ d.Base := by simp at ct22; omega
      refine CW.seq (.rg (.rn htt 3 (.done ?_)))
      refine CW.ret ?_
      refine retQ.rt (by simp only [f14, go_sem, simprocAttr]; exact rfl) ?_
      refine ⟨_, ?_, rfl⟩
      have e : gApply g d = (noGraph, 7) := by unfold gApply; rw [if_neg (by rw [h1]; simp), if_pos h2]
      rw [e, eGraph_no]
      simp [leP, leL]
    · have h2 : (gSum g).1 = d.Base := by simp at ct22; omega
      have hap := gApply_eq h1 h2
      refine CW.skip ?_
      refine CW.seq (.rg (.run htt 1 (by simp only [go_sem, simprocAttr, eGraph]; exact rfl) (by simp [go_sem, simprocAttr, eGraph]) ?_))
      refine CWops.callA (canon_Canon up g) (by simp only [go_sem, simprocAttr, eGraph]) (by simp only [go_sem, simprocAttr, eGraph] <;> exact rfl) (by simp only [go_sem, simprocAttr, eGraph]) (by simp only [go_sem, simprocAttr, eGraph]) (fun rt29 hrt29 => ?_)
      subst hrt29
      refine CWops.run htt 4 (by simp only [go_sem, simprocAttr, eGraph]; exact rfl) (by simp [go_sem, simprocAttr, eGraph]) (.done ?_)
      refine CW.cut ⟨4, [(2, .lv 0 [] 0), (3, .lv 1 [] 0), (4, .lv 2 [] 0), (8, .lv 3 [] 0), (9, objsV (dAll (gCanon g) d.L)), (10, .bool (dAll (gCanon g) d.L).isSome)], [(0, ⟨true, eGraph g⟩), (1, ⟨true, [.int .u32 (d.Base : Int), .sl 1 (d.Roots.map eI), .sl 3 (d.L.map eItem)]⟩), (2, ⟨true, [.nilsl, .nilsl, .nilsl]⟩), (3, ⟨true, [.sl 2 ((gCanon g).S.map eType), .undef, .undef, .undef]⟩)]⟩ ?_ ?_
      · rcases hda : dAll (gCanon g) d.L with _ | l
        all_goals (refine CW.rg ?_)
        all_goals (refine CWops.run htt 3 (by simp only [go_sem, simprocAttr, allR]; exact rfl) (by simp [go_sem, simprocAttr, allR]) ?_)
        all_goals (first | (refine CWops.skip ?_ ?_; next => (simp only [go_sem, simprocAttr]; done)) | (first | (refine CWops.callG [4] rfl (all_none up (gCanon g) hmc d.L hL hS hda) (by simp only [go_sem, simprocAttr]) (by simp only [go_sem, simprocAttr] <;> exact rfl) (by decide) (by simp [go_sem, simprocAttr, mName, memB]) (by simp [go_sem, simprocAttr, mName]) (by simp [go_sem, simprocAttr]) (by simp [go_sem, simprocAttr]) (by simp [go_sem, simprocAttr, mName]) (fun r σ' hσ => ?_); obtain ⟨rfl, t', M', rfl⟩ := hσ; simp only [aftS, renS, delAll, memB, mName, List.getD_nil, killH, kref, ren, Nat.beq_eq, go_sem, simprocAttr]) | (refine CWops.callG [4] rfl (all_some up (gCanon g) hmc d.L hL hS hda) (by simp only [go_sem, simprocAttr]) (by simp only [go_sem, simprocAttr] <;> exact rfl) (by decide) (by simp [go_sem, simprocAttr, mName, memB]) (by simp [go_sem, simprocAttr, mName]) (by simp [go_sem, simprocAttr]) (by simp [go_sem, simprocAttr]) (by simp [go_sem, simprocAttr, mName]) (fun r σ' hσ => ?_); obtain ⟨rfl, t', M', rfl⟩ := hσ; simp only [aftS, renS, delAll, memB, mName, List.getD_nil, killH, kref, ren, Nat.beq_eq, go_sem, simprocAttr])))
        all_goals (refine CWops.run htt 5 (by simp only [go_sem, simprocAttr, allR]; exact rfl) (by simp [go_sem, simprocAttr, allR]) ?_)
        all_goals (refine CWops.done ?_)
        all_goals (
          refine Sh.wk (fun x => if x = 3 then 4 else x) ?_
          simp [Wk, go_sem, simprocAttr, objsV, eGraph])
      refine CW.cut ⟨4, [(2, .lv 0 [] 0), (3, .lv 1 [] 0), (4, .lv 2 [] 0), (10, .bool (dAll (gCanon g) d.L).isSome), (11, .lv 3 [] 0)], [(0, ⟨true, eGraph g⟩), (1, ⟨true, [.int .u32 (d.Base : Int), .sl 1 (d.Roots.map eI), .sl 3 (d.L.map eItem)]⟩), (2, ⟨true, [.nilsl, .nilsl, .nilsl]⟩), (3, ⟨true, [.sl 2 (g.S.map eType), objsV (dAll (gCanon g) d.L), .sl 1 (d.Roots.map eI)]⟩)]⟩ ?_ ?_
      · rcases hda : dAll (gCanon g) d.L with _ | l
        all_goals (refine CW.drawn mixed 11 (by decide) (by kernel_rfl) (by kernel_rfl) (by kernel_rfl) ?_)
        all_goals (refine Seg.run htt 8 (by simp only [go_sem, simprocAttr, objsV, hcS]; exact rfl) ?_)
        all_goals (first | (refine Seg.skip ?_ ?_; next => (simp only [go_sem, simprocAttr]; done)) | (refine Seg.callA (clone_Int up d.Roots (by unfold MX; omega)) (by simp only [go_sem, simprocAttr, objsV, hcS]) (by simp only [go_sem, simprocAttr, objsV, hcS] <;> exact rfl) (by simp only [go_sem, simprocAttr, objsV, hcS]) (by simp only [go_sem, simprocAttr, objsV, hcS]) ?_))
        all_goals (refine Seg.run htt 2 (by simp only [go_sem, simprocAttr, objsV, hcS]; exact rfl) ?_)
        all_goals (refine Seg.done ?_)
        all_goals (refine CWops.run htt 1 (by simp only [go_sem, simprocAttr, objsV, hcS]; exact rfl) (by simp [go_sem, simprocAttr, objsV, hcS]) ?_)
        all_goals (refine CWops.done ?_)
        all_goals (
          refine ⟨rfl, Sh.wk (fun x => if x = 3 then 4 else x) ?_⟩
          simp [Wk, go_sem, simprocAttr, objsV, eGraph])
      refine CW.seq ?_
      refine CW.cut ⟨4, [(2, .lv 0 [] 0), (3, .lv 1 [] 0), (4, .lv 2 [] 0), (11, .lv 3 [] 0), (63, .bool (!aplOK g d))], [(0, ⟨true, eGraph g⟩), (1, ⟨true, [.int .u32 (d.Base : Int), .sl 1 (d.Roots.map eI), .sl 3 (d.L.map eItem)]⟩), (2, ⟨true, [.nilsl, .nilsl, .nilsl]⟩), (3, ⟨true, [.sl 2 (g.S.map eType), objsV (dAll (gCanon g) d.L), .sl 1 (d.Roots.map eI)]⟩)]⟩ ?_ ?_
      · rcases hda : dAll (gCanon g) d.L with _ | l
        all_goals (refine CW.drawn mixed 11 (by decide) (by kernel_rfl) (by kernel_rfl) (by kernel_rfl) ?_)
        all_goals (refine Seg.run htt 3 (by simp only [go_sem, simprocAttr, objsV, eGraph]; exact rfl) ?_)
        all_goals (first | refine Seg.guard 52 (by simp only [go_sem, simprocAttr, objsV, eGraph]; exact rfl) (fun g52 => ?_) (fun g52 => ?_) | skip)
        all_goals (first | (cases g52; done) | skip)
        all_goals (refine Seg.run htt 1 (by simp only [go_sem, simprocAttr, objsV, eGraph]; exact rfl) ?_)
        all_goals (first | (refine Seg.skip ?_ ?_; next => (simp only [go_sem, simprocAttr]; done)) | (refine Seg.call (graph_May up ⟨g.S, l, d.Roots⟩) (by simp only [go_sem, simprocAttr, objsV, eGraph]) (by simp only [go_sem, simprocAttr, objsV, eGraph] <;> exact rfl) (by simp only [go_sem, simprocAttr, objsV, eGraph]) (by simp only [go_sem, simprocAttr, objsV, eGraph]) rfl ?_))
        all_goals (refine Seg.run htt 3 (by simp only [go_sem, simprocAttr, objsV, eGraph]; exact rfl) ?_)
        all_goals (first | refine Seg.guard 57 (by simp only [go_sem, simprocAttr, objsV, eGraph]; exact rfl) (fun g57 => ?_) (fun g57 => ?_) | skip)
        all_goals (first | (cases g57; done) | skip)
        all_goals (refine Seg.run htt 1 (by simp only [go_sem, simprocAttr, objsV, eGraph]; exact rfl) ?_)
        all_goals (first | (refine Seg.skip ?_ ?_; next => (simp only [go_sem, simprocAttr]; done)) | (refine Seg.callA (canon_Canon up ⟨g.S, l, d.Roots⟩) (by simp only [go_sem, simprocAttr, objsV, eGraph]) (by simp only [go_sem, simprocAttr, objsV, eGraph] <;> exact rfl) (by simp only [go_sem, simprocAttr, objsV, eGraph]) (by simp only [go_sem, simprocAttr, objsV, eGraph]) ?_))
        all_goals (refine Seg.run htt 1 (by simp only [go_sem, simprocAttr, objsV, eGraph]; exact rfl) ?_)
        all_goals (refine Seg.done ?_)
        all_goals (first | (refine CWops.skip ?_ ?_; next => (simp only [go_sem, simprocAttr]; done)) | (refine CWops.call (graph_Same up (gCanon ⟨g.S, l, d.Roots⟩) ⟨g.S, l, d.Roots⟩) (by simp only [go_sem, simprocAttr, objsV, eGraph]) (by simp only [go_sem, simprocAttr, objsV, eGraph] <;> exact rfl) (by simp only [go_sem, simprocAttr, objsV, eGraph]) (fun rt61 hrt61 => ?_); subst hrt61; refine ⟨rfl, ?_⟩))
        all_goals (refine CWops.run htt 2 (by simp only [go_sem, simprocAttr, objsV, eGraph]; exact rfl) (by simp [go_sem, simprocAttr, objsV, eGraph]) ?_)
        all_goals (refine CWops.done ?_)
        all_goals (
          refine ⟨rfl, Sh.wk0 ?_⟩
          simp [Wk, go_sem, simprocAttr, objsV, eGraph, aplOK, hda] <;> simp_all)
      refine CW.cd (fun ct63 => ?_) (fun ct63 => ?_)
      · have hno : aplOK g d = false := by simpa using ct63
        have e : gApply g d = (noGraph, 2) := by
          rw [hap]
          unfold aplOK at hno
          cases hda : dAll (gCanon g) d.L with
          | none => rfl
          | some l =>
            rw [hda] at hno
            simp only at hno ⊢
            rw [if_neg (fun h => by rw [h.1, h.2] at hno; simp at hno)]
        refine CW.seq (.rg (.rn htt 3 (.done ?_)))
        refine CW.ret ?_
        refine retQ.rt (by simp only [f14, go_sem, simprocAttr]; exact rfl) ?_
        refine ⟨_, ?_, rfl⟩
        rw [e, eGraph_no]
        simp [leP, leL]
      · have hyes : aplOK g d = true := by simpa using ct63
        obtain ⟨l, hda, hok⟩ : ∃ l, dAll (gCanon g) d.L = some l ∧ (gMay ⟨g.S, l, d.Roots⟩ = true ∧ gCanon ⟨g.S, l, d.Roots⟩ = ⟨g.S, l, d.Roots⟩) := by
          unfold aplOK at hyes
          cases hda : dAll (gCanon g) d.L with
          | none => rw [hda] at hyes; cases hyes
          | some l => rw [hda] at hyes; exact ⟨l, rfl, by simpa using hyes⟩
        have e : gApply g d = (⟨g.S, l, d.Roots⟩, 0) := by rw [hap, hda]; simp only; rw [if_pos hok]
        rw [hda]
        simp only [objsV]
        refine CW.skip ?_
        refine CW.seq (.rg (.rn htt 3 (.done ?_)))
        refine CW.ret ?_
        refine retQ.rt (by simp only [f14, go_sem, simprocAttr]; exact rfl) ?_
        refine ⟨_, ?_, rfl⟩
        rw [e]
        simp [leP, leL, eGraph]
        first | done | exact leP_refl _ | exact leP_refl.leL_refl _
end Go.Ab
namespace Go.Ab
open Go Go.Proofs.Tryz
set_option maxRecDepth 100000
theorem clone_ObjG (up : Bool) (xs : List GObj) (hx : xs.length * 40 ≤ MX) : GCall prog up 93 [.sl 3 (xs.map eObj)] 0 [] (fun r σ' => r = .ref 0 [] 0 ∧ σ'.n = 1 ∧ σ'.s = [(0, ⟨false, [.own 3 (xs.map eObj)]⟩)]) := by
  refine GCall.intro htt 0 func93 (by kernel_rfl) rfl (Nat.le_of_ble_eq_true rfl) (CW.told ?_)
  have hx1 : xs.length ≤ MX := by omega
  simp only [tmps0, Nat.reduceAdd]
  refine CW.seq (.rg (.rn htt 1 (.done ?_)))
  refine CW.seq (.seq (.rg (.rn htt 1 ?_)))
  refine CWops.nilcmp (n := 3) (l := xs.map eObj) htt (by simp only [go_sem, simprocAttr]) (by simp only [go_sem, simprocAttr]) (by simp only [go_sem, simprocAttr]) tt_25 rfl (fun b hb => ⟨_, rfl, ?_⟩)
  refine CWops.done ?_
  refine CW.cd (fun ct4 => ?_) (fun ct4 => ?_)
  · refine CW.seq (.rg (.rn htt 1 (.done ?_)))
    refine CW.ret ?_
    refine ⟨⟨1, [(2, .ref 0 [] 0)], [(0, ⟨false, [.own 3 (xs.map eObj)]⟩)]⟩, ?_, .inr rfl, by simp [ptrOK, go_sem, simprocAttr], _, by simp only [f93, go_sem, simprocAttr]; exact rfl, ?_⟩
    · have h0 := hb ct4
      refine Sh.trans (Sh.nilRoot 2 3 (by simp only [go_sem, simprocAttr]) rfl) (Sh.wk0 ?_)
      simp [Wk, go_sem, simprocAttr, h0]
    · exact ⟨rfl, rfl, rfl⟩
  · refine CW.skip ?_
    refine CW.seq (.rg ?_)
    refine CWops.run htt 4 (by simp only [go_sem, simprocAttr]; exact rfl) (by refine ⟨?_, ?_, ?_⟩ <;> first | (simp [eObj, AV.cell]; done) | (simp; omega)) ?_
    refine CWops.done ?_
    refine CW.ret ?_
    refine ⟨⟨1, [(2, .ref 0 [] 0)], [(0, ⟨false, [.own 3 (xs.map eObj)]⟩)]⟩, ?_, .inr rfl, by simp [ptrOK, go_sem, simprocAttr], _, by simp only [f93, go_sem, simprocAttr]; exact rfl, ?_⟩
    · refine Sh.wk (fun x => x + 1) ?_
      simp [Wk, go_sem, simprocAttr]
    · exact ⟨rfl, rfl, rfl⟩
theorem clone_IntG (up : Bool) (xs : List Int) (hx : xs.length * 8 ≤ MX) : GCall prog up 45 [.sl 1 (xs.map eI)] 0 [] (fun r σ' => r = .ref 0 [] 0 ∧ σ'.n = 1 ∧ σ'.s = [(0, ⟨false, [.own 1 (xs.map eI)]⟩)]) := by
  refine GCall.intro htt 0 func45 (by kernel_rfl) rfl (Nat.le_of_ble_eq_true rfl) (CW.told ?_)
  have hx1 : xs.length ≤ MX := by omega
  simp only [tmps0, Nat.reduceAdd]
  refine CW.seq (.rg (.rn htt 1 (.done ?_)))
  refine CW.seq (.seq (.rg (.rn htt 1 ?_)))
  refine CWops.nilcmp (n := 1) (l := xs.map eI) htt (by simp only [go_sem, simprocAttr]) (by simp only [go_sem, simprocAttr]) (by simp only [go_sem, simprocAttr]) tt_26 rfl (fun b hb => ⟨_, rfl, ?_⟩)
  refine CWops.done ?_
  refine CW.cd (fun ct4 => ?_) (fun ct4 => ?_)
  · refine CW.seq (.rg (.rn htt 1 (.done ?_)))
    refine CW.ret ?_
    refine ⟨⟨1, [(2, .ref 0 [] 0)], [(0, ⟨false, [.own 1 (xs.map eI)]⟩)]⟩, ?_, .inr rfl, by simp [ptrOK, go_sem, simprocAttr], _, by simp only [f45, go_sem, simprocAttr]; exact rfl, ?_⟩
    · have h0 := hb ct4
      refine Sh.trans (Sh.nilRoot 2 1 (by simp only [go_sem, simprocAttr]) rfl) (Sh.wk0 ?_)
      simp [Wk, go_sem, simprocAttr, h0]
    · exact ⟨rfl, rfl, rfl⟩
  · refine CW.skip ?_
    refine CW.seq (.rg ?_)
    refine CWops.run htt 4 (by simp only [go_sem, simprocAttr]; exact rfl) (by refine ⟨?_, ?_, ?_⟩ <;> first | (simp [eI, AV.cell]; done) | (simp; omega)) ?_
    refine CWops.done ?_
    refine CW.ret ?_
    refine ⟨⟨1, [(2, .ref 0 [] 0)], [(0, ⟨false, [.own 1 (xs.map eI)]⟩)]⟩, ?_, .inr rfl, by simp [ptrOK, go_sem, simprocAttr], _, by simp only [f45, go_sem, simprocAttr]; exact rfl, ?_⟩
    · refine Sh.wk (fun x => x + 1) ?_
      simp [Wk, go_sem, simprocAttr]
    · exact ⟨rfl, rfl, rfl⟩
theorem graph_own (up : Bool) (g : Graph) (hz : GSz g) : GCall prog up 55 [.agg (eGraph g)] 0 [] (fun r σ' => r = .agg [.ref 0 [] 0, .ref 0 [] 1, .ref 0 [] 2] ∧ σ'.n = 2 ∧ σ'.s = [(0, ⟨true, OWN g⟩), (1, ⟨true, [.ref 0 [] 0, .ref 0 [] 1, .ref 0 [] 2]⟩)]) := by
  refine GCall.intro htt 0 func55 (by kernel_rfl) rfl (Nat.le_of_ble_eq_true rfl) (CW.told ?_)
  have hb1 : g.S.length ≤ MX := by have := hz.s; omega
  have hb2 : g.O.length ≤ MX := by have := hz.o; omega
  simp only [tmps0, Nat.reduceAdd]
  refine CW.seq (.rg (.run htt 2 (by simp only [go_sem, simprocAttr, eGraph]; exact rfl) (by simp [go_sem, simprocAttr, eGraph]) (.done ?_)))
  refine CW.seq (.rg (.run htt 3 (by simp only [go_sem, simprocAttr, eGraph]; exact rfl) (by simp [go_sem, simprocAttr, eGraph]) ?_))
  refine CWops.callG [] rfl (clone_TypeG up g.S hz.s) (by simp only [go_sem, simprocAttr]) (by simp only [go_sem, simprocAttr] <;> exact rfl) (by decide) (by simp [go_sem, simprocAttr, mName, memB]) (by simp [go_sem, simprocAttr, mName]) (by simp [go_sem, simprocAttr]) (by simp [go_sem, simprocAttr]) (by simp [go_sem, simprocAttr, mName]) (fun r σ' hσ => ?_)
  obtain ⟨σn, σt, σs⟩ := σ'
  simp only at hσ
  obtain ⟨rfl, rfl, rfl⟩ := hσ
  simp only [aftS, renS, delAll, memB, mName, List.getD_nil, killH, kref, ren, Nat.beq_eq, go_sem, simprocAttr]
  refine CWops.run htt 3 (by simp only [go_sem, simprocAttr, eGraph]; exact rfl) (by simp [go_sem, simprocAttr, eGraph]) (.done ?_)
  refine CW.seq (.seq (.rg (.rn htt 5 (.done ?_))))
  refine CW.block ?_
  refine CW.loop (S := Nat) (fun i => ⟨2, [(1, .lv 0 [] 0), (2, .lv 1 [] 0), (15, .ref 0 [] 0), (16, .int .i64 g.S.length), (17, .int .i64 i)], [(0, ⟨true, [.own 2 (g.S.map eType), .sl 3 (g.O.map eObj), .sl 1 (g.Roots.map eI)]⟩), (1, ⟨true, [.nilsl, .nilsl, .nilsl]⟩)]⟩) (fun i => i ≤ g.S.length) (fun i => g.S.length - i) (0) ?_ (Nat.zero_le _) (fun i h3 => ?_)
  · refine Sh.wk0 ?_; simp [Wk, go_sem, simprocAttr, eGraph]
  refine CW.seq (.rg (.rn htt 1 (.done ?_)))
  refine CW.seq ?_
  refine CW.cd (fun ct18 => ?_) (fun ct18 => ?_)
  · have hi : i < g.S.length := by simpa using ct18
    obtain ⟨x, hx⟩ : ∃ x, g.S[i]? = some x := ⟨g.S[i], List.getElem?_eq_getElem hi⟩
    refine CW.skip ?_
    refine CW.seq ?_
    refine CW.block ?_
    refine CW.seq (.rg (.run htt 6 (by simp only [go_sem, simprocAttr, hi, hx, eType]; exact rfl) (by simp [go_sem, simprocAttr, hi, hx, eType]) (.done ?_)))
    refine CW.drawn mixed 7 (by decide) (by kernel_rfl) (by kernel_rfl) (by kernel_rfl) ?_
    refine Seg.run htt 6 (by simp only [go_sem, simprocAttr, hi, hx, eType]; exact rfl) ?_
    refine Seg.callA (clone_Field up x.F (hz.sf x (List.mem_of_getElem? hx))) (by simp only [go_sem, simprocAttr, hi, hx, eType]) (by simp only [go_sem, simprocAttr, hi, hx, eType] <;> exact rfl) (by simp only [go_sem, simprocAttr, hi, hx, eType]) (by simp only [go_sem, simprocAttr, hi, hx, eType]) ?_
    refine Seg.done ?_
    refine CWops.run htt 3 (by simp only [go_sem, simprocAttr, hi, hx, eType]; exact rfl) (by simp [go_sem, simprocAttr, hi, hx, eType]) (.done ?_)
    refine CW.rg (.run htt 2 (by simp only [go_sem, simprocAttr, wrap_succ (Nat.lt_of_lt_of_le hi hb1)]; exact rfl) (by simp [go_sem, simprocAttr, wrap_succ (Nat.lt_of_lt_of_le hi hb1)]) (.done ?_))
    refine ⟨i + 1, ?_, ?_, ?_⟩
    · refine Sh.wk0 ?_
      have hss : (g.S.map eType).set i [.str x.Name, .sl 3 (x.F.map eField)] = g.S.map eType := set_same (by rw [List.getElem?_map, hx]; rfl)
      simp [Wk, go_sem, simprocAttr, hss]
    · exact hi
    · simp only; omega
  · have hi : i = g.S.length := by simp at ct18; omega
    refine CW.exit ?_
    refine CW.seq (.rg (.rn htt 2 ?_))
    refine CWops.callG [] rfl (clone_ObjG up g.O hz.o) (by simp only [go_sem, simprocAttr]) (by simp only [go_sem, simprocAttr] <;> exact rfl) (by decide) (by simp [go_sem, simprocAttr, mName, memB]) (by simp [go_sem, simprocAttr, mName]) (by simp [go_sem, simprocAttr]) (by simp [go_sem, simprocAttr]) (by simp [go_sem, simprocAttr, mName]) (fun r σ' hσ => ?_)
    obtain ⟨σn, σt, σs⟩ := σ'
    simp only at hσ
    obtain ⟨rfl, rfl, rfl⟩ := hσ
    simp only [aftS, renS, delAll, memB, mName, List.getD_nil, killH, kref, ren, Nat.beq_eq, go_sem, simprocAttr]
    refine CWops.rn htt 2 (.done ?_)
    refine CW.seq (.seq (.rg (.rn htt 4 (.done ?_))))
    refine CW.block ?_
    refine CW.loop (S := Nat) (fun i => ⟨2, [(1, .lv 0 [] 0), (2, .lv 1 [] 0), (37, .ref 0 [] 1), (38, .int .i64 g.O.length), (39, .int .i64 i)], [(0, ⟨true, [.own 2 (g.S.map eType), .own 3 (mixO g.O i), .sl 1 (g.Roots.map eI)]⟩), (1, ⟨true, [.nilsl, .nilsl, .nilsl]⟩)]⟩) (fun i => i ≤ g.O.length) (fun i => g.O.length - i) (0) ?_ (Nat.zero_le _) (fun i h4 => ?_)
    · refine Sh.wk0 ?_; simp [Wk, go_sem, simprocAttr, mixO_zero]
    refine CW.seq (.rg (.rn htt 1 (.done ?_)))
    refine CW.seq ?_
    refine CW.cd (fun ct40 => ?_) (fun ct40 => ?_)
    · have hi : i < g.O.length := by simpa using ct40
      obtain ⟨x, hx⟩ : ∃ x, g.O[i]? = some x := ⟨g.O[i], List.getElem?_eq_getElem hi⟩
      refine CW.skip ?_
      refine CW.seq ?_
      refine CW.block ?_
      refine CW.seq (.rg (.run htt 6 (by simp only [go_sem, simprocAttr, hi, mixO_get hx, mixO_len, eObj]; exact rfl) (by simp [go_sem, simprocAttr, hi, mixO_get hx, mixO_len, eObj]) (.done ?_)))
      refine CW.drawn mixed 6 (by decide) (by kernel_rfl) (by kernel_rfl) (by kernel_rfl) ?_
      refine Seg.run htt 5 (by simp only [go_sem, simprocAttr, hi, mixO_get hx, mixO_len, eObj]; exact rfl) ?_
      refine Seg.callN (clone_ValG up x.F (hz.of_ x (List.mem_of_getElem? hx))) (by simp only [go_sem, simprocAttr]) (by simp only [go_sem, simprocAttr] <;> exact rfl) (by simp [go_sem, simprocAttr]) ?_
      refine Seg.done ?_
      refine CWops.run htt 3 (by simp only [go_sem, simprocAttr, hi, mixO_get hx, mixO_len, eObj]; exact rfl) (by simp [go_sem, simprocAttr, hi, mixO_get hx, mixO_len, eObj]) (.done ?_)
      refine CW.rg (.run htt 2 (by simp only [go_sem, simprocAttr, wrap_succ (Nat.lt_of_lt_of_le hi hb2)]; exact rfl) (by simp [go_sem, simprocAttr, wrap_succ (Nat.lt_of_lt_of_le hi hb2)]) (.done ?_))
      refine ⟨i + 1, ?_, ?_, ?_⟩
      · refine Sh.wk0 ?_
        dsimp only
        rw [← mixO_set hx]
        simp [Wk, go_sem, simprocAttr, eObjO]
      · exact hi
      · simp only; omega
    · have hi : i = g.O.length := by simp at ct40; omega
      refine CW.exit ?_
      refine CW.seq (.rg (.rn htt 2 ?_))
      refine CWops.callG [] rfl (clone_IntG up g.Roots hz.r) (by simp only [go_sem, simprocAttr]) (by simp only [go_sem, simprocAttr] <;> exact rfl) (by decide) (by simp [go_sem, simprocAttr, mName, memB]) (by simp [go_sem, simprocAttr, mName]) (by simp [go_sem, simprocAttr]) (by simp [go_sem, simprocAttr]) (by simp [go_sem, simprocAttr, mName]) (fun r σ' hσ => ?_)
      obtain ⟨σn, σt, σs⟩ := σ'
      simp only at hσ
      obtain ⟨rfl, rfl, rfl⟩ := hσ
      simp only [aftS, renS, delAll, memB, mName, List.getD_nil, killH, kref, ren, Nat.beq_eq, go_sem, simprocAttr]
      refine CWops.rn htt 2 (.done ?_)
      refine CW.seq (.rg (.rn htt 2 (.done ?_)))
      refine CW.ret ?_
      refine ⟨⟨2, [(2, .lv 1 [] 0)], [(0, ⟨true, OWN g⟩), (1, ⟨true, [.ref 0 [] 0, .ref 0 [] 1, .ref 0 [] 2]⟩)]⟩, ?_, .inr rfl, by simp [ptrOK, go_sem, simprocAttr], _, by simp only [f55, go_sem, simprocAttr]; exact rfl, ?_⟩
      · refine Sh.wk0 ?_
        rw [hi, mixO_all]
        simp [Wk, go_sem, simprocAttr, OWN]
      · exact ⟨rfl, rfl, rfl⟩
theorem graph_Set_none (up : Bool) (g : Graph) (id k : Int) (v : GVal) (hz : GSz g) (f1 : fnd (fun o => decide (o.Id = id)) g.O = -1) (f3 : g.O.findIdx? (fun o => decide (o.Id = id)) = none) : PCall prog up 20 [.agg (eGraph g), .int .i64 id, .int .i64 k, .agg (eVal v)] (· = .tup [.agg (eGraph (gSet g id k v).1), .int .i64 (gSet g id k v).2]) := by
  refine PCall.intro htt func20 (by kernel_rfl) rfl (Nat.le_of_ble_eq_true rfl) fun hl => ?_

  simp only [tmps0, Nat.reduceAdd]
  refine CW.seq (.rg (.run htt 4 (by simp only [go_sem, simprocAttr, eGraph, eVal]; exact rfl) (by simp [go_sem, simprocAttr, eGraph, eVal]) (.done ?_)))
  refine CW.cut ⟨6, [(0, .agg (eGraph g)), (1, .int .i64 id), (2, .int .i64 k), (4, .lv 0 [] 0), (7, .lv 1 [] 0), (8, .lv 2 [] 0), (9, .int .i64 0), (10, .lv 5 [] 0)], [(0, ⟨true, eGraph g⟩), (1, ⟨true, eVal v⟩), (2, ⟨true, [.nilsl, .nilsl, .nilsl]⟩), (3, ⟨true, OWN g⟩), (5, ⟨true, [.ref 3 [] 0, .ref 3 [] 1, .ref 3 [] 2]⟩)]⟩ ?_ ?_
  · refine CW.rg (.run htt 1 (by simp only [go_sem, simprocAttr, eGraph, OWN]; exact rfl) (by simp [go_sem, simprocAttr, eGraph, OWN]) ?_)
    refine CWops.callG [] rfl (graph_own up g hz) (by simp only [go_sem, simprocAttr]) (by simp only [go_sem, simprocAttr] <;> exact rfl) (by decide) (by simp [go_sem, simprocAttr, mName, memB]) (by simp [go_sem, simprocAttr, mName]) (by simp [go_sem, simprocAttr]) (by simp [go_sem, simprocAttr]) (by simp [go_sem, simprocAttr, mName, eGraph]) (fun r σ' hσ => ?_)
    obtain ⟨σn, σt, σs⟩ := σ'
    simp only at hσ
    obtain ⟨rfl, rfl, rfl⟩ := hσ
    simp only [aftS, renS, delAll, memB, mName, List.getD_nil, killH, kref, ren, Nat.beq_eq, go_sem, simprocAttr]
    refine CWops.run htt 2 (by simp only [go_sem, simprocAttr, eGraph, OWN]; exact rfl) (by simp [go_sem, simprocAttr, eGraph, OWN]) (.done ?_)
    first | refine ⟨rfl, Sh.wk0 ?_⟩ | refine Sh.wk0 ?_
    simp [Wk, go_sem, simprocAttr, eGraph, eVal, OWN]
  refine CW.seq (.seq (.rg (.run htt 1 (by simp only [go_sem, simprocAttr, eGraph]; exact rfl) (by simp [go_sem, simprocAttr, eGraph]) ?_)))
  refine CWops.call (graph_May up g) (by simp only [go_sem, simprocAttr, eGraph]) (by simp only [go_sem, simprocAttr, eGraph] <;> exact rfl) (by simp only [go_sem, simprocAttr, eGraph]) (fun rt15 hrt15 => ?_)
  subst hrt15; refine ⟨rfl, ?_⟩
  refine CWops.run htt 1 (by simp only [go_sem, simprocAttr, eGraph]; exact rfl) (by simp [go_sem, simprocAttr, eGraph]) (.done ?_)
  refine CW.cd (fun ct16 => ?_) (fun ct16 => ?_)
  · simp only [Bool.not_eq_true'] at ct16
    refine CW.seq ?_
    try simp only [OWN]
    refine CW.sh (Sh.trans (Sh.frzC 3 0 5 0 (by decide) rfl rfl rfl) (Sh.trans (Sh.frzC 3 1 5 1 (by decide) rfl rfl rfl) (Sh.frzC 3 2 5 2 (by decide) rfl rfl rfl))) ?_
    simp only [go_sem, simprocAttr]
    refine CW.rg (.rn htt 3 (.done ?_))
    refine CW.ret ?_
    refine retQ.rt (by simp only [f20, go_sem, simprocAttr]; exact rfl) ?_
    refine ⟨_, ?_, rfl⟩
    simp [leP, leL, gSet, ct16, eGraph]
  · simp only [Bool.not_eq_false'] at ct16
    have hm := (may_iff g).1 ct16
    refine CW.skip ?_
    refine CW.seq (.rg (.run htt 2 (by simp only [go_sem, simprocAttr, eGraph]; exact rfl) (by simp [go_sem, simprocAttr, eGraph]) ?_))
    refine CWops.call ((by have := graph_Find up g id; rw [f1] at this; exact this)) (by simp only [go_sem, simprocAttr, eGraph]) (by simp only [go_sem, simprocAttr, eGraph] <;> exact rfl) (by simp only [go_sem, simprocAttr, eGraph]) (fun rt20 hrt20 => ?_)
    subst hrt20; refine ⟨rfl, ?_⟩
    refine CWops.run htt 1 (by simp only [go_sem, simprocAttr, eGraph]; exact rfl) (by simp [go_sem, simprocAttr, eGraph]) (.done ?_)
    refine CW.seq ?_
    refine CW.block ?_
    refine CW.seq (.seq (.rg (.rn htt 3 (.done ?_))))
    refine CW.cd (fun ct21 => ?_) (fun ct21 => ?_)
    · refine CW.skip ?_
      refine CW.cd (fun ct21 => ?_) (fun ct21 => ?_)
      · refine CW.seq ?_
        try simp only [OWN]
        refine CW.sh (Sh.trans (Sh.frzC 3 0 5 0 (by decide) rfl rfl rfl) (Sh.trans (Sh.frzC 3 1 5 1 (by decide) rfl rfl rfl) (Sh.frzC 3 2 5 2 (by decide) rfl rfl rfl))) ?_
        simp only [go_sem, simprocAttr]
        refine CW.rg (.rn htt 3 (.done ?_))
        refine CW.ret ?_
        refine retQ.rt (by simp only [f20, go_sem, simprocAttr]; exact rfl) ?_
        refine ⟨_, ?_, rfl⟩
        simp [leP, leL, gSet, ct16, f3, eGraph]
      · simp at ct21 
    · simp at ct21
theorem graph_Set_some (up : Bool) (g : Graph) (id k : Int) (v : GVal) (hz : GSz g) (i : Nat) (x : GObj) (f1 : fnd (fun o => decide (o.Id = id)) g.O = i) (f2 : g.O[i]? = some x) (f3 : g.O.findIdx? (fun o => decide (o.Id = id)) = some i) : PCall prog up 20 [.agg (eGraph g), .int .i64 id, .int .i64 k, .agg (eVal v)] (· = .tup [.agg (eGraph (gSet g id k v).1), .int .i64 (gSet g id k v).2]) := by
  refine PCall.intro htt func20 (by kernel_rfl) rfl (Nat.le_of_ble_eq_true rfl) fun hl => ?_
  obtain ⟨oi, oT, oF⟩ := x
  simp only [tmps0, Nat.reduceAdd]
  refine CW.seq (.rg (.run htt 4 (by simp only [go_sem, simprocAttr, eGraph, eVal]; exact rfl) (by simp [go_sem, simprocAttr, eGraph, eVal]) (.done ?_)))
  refine CW.cut ⟨6, [(0, .agg (eGraph g)), (1, .int .i64 id), (2, .int .i64 k), (4, .lv 0 [] 0), (7, .lv 1 [] 0), (8, .lv 2 [] 0), (9, .int .i64 0), (10, .lv 5 [] 0)], [(0, ⟨true, eGraph g⟩), (1, ⟨true, eVal v⟩), (2, ⟨true, [.nilsl, .nilsl, .nilsl]⟩), (3, ⟨true, OWN g⟩), (5, ⟨true, [.ref 3 [] 0, .ref 3 [] 1, .ref 3 [] 2]⟩)]⟩ ?_ ?_
  · refine CW.rg (.run htt 1 (by simp only [go_sem, simprocAttr, eGraph, OWN]; exact rfl) (by simp [go_sem, simprocAttr, eGraph, OWN]) ?_)
    refine CWops.callG [] rfl (graph_own up g hz) (by simp only [go_sem, simprocAttr]) (by simp only [go_sem, simprocAttr] <;> exact rfl) (by decide) (by simp [go_sem, simprocAttr, mName, memB]) (by simp [go_sem, simprocAttr, mName]) (by simp [go_sem, simprocAttr]) (by simp [go_sem, simprocAttr]) (by simp [go_sem, simprocAttr, mName, eGraph]) (fun r σ' hσ => ?_)
    obtain ⟨σn, σt, σs⟩ := σ'
    simp only at hσ
    obtain ⟨rfl, rfl, rfl⟩ := hσ
    simp only [aftS, renS, delAll, memB, mName, List.getD_nil, killH, kref, ren, Nat.beq_eq, go_sem, simprocAttr]
    refine CWops.run htt 2 (by simp only [go_sem, simprocAttr, eGraph, OWN]; exact rfl) (by simp [go_sem, simprocAttr, eGraph, OWN]) (.done ?_)
    first | refine ⟨rfl, Sh.wk0 ?_⟩ | refine Sh.wk0 ?_
    simp [Wk, go_sem, simprocAttr, eGraph, eVal, OWN]
  refine CW.seq (.seq (.rg (.run htt 1 (by simp only [go_sem, simprocAttr, eGraph]; exact rfl) (by simp [go_sem, simprocAttr, eGraph]) ?_)))
  refine CWops.call (graph_May up g) (by simp only [go_sem, simprocAttr, eGraph]) (by simp only [go_sem, simprocAttr, eGraph] <;> exact rfl) (by simp only [go_sem, simprocAttr, eGraph]) (fun rt15 hrt15 => ?_)
  subst hrt15; refine ⟨rfl, ?_⟩
  refine CWops.run htt 1 (by simp only [go_sem, simprocAttr, eGraph]; exact rfl) (by simp [go_sem, simprocAttr, eGraph]) (.done ?_)
  refine CW.cd (fun ct16 => ?_) (fun ct16 => ?_)
  · simp only [Bool.not_eq_true'] at ct16
    refine CW.seq ?_
    try simp only [OWN]
    refine CW.sh (Sh.trans (Sh.frzC 3 0 5 0 (by decide) rfl rfl rfl) (Sh.trans (Sh.frzC 3 1 5 1 (by decide) rfl rfl rfl) (Sh.frzC 3 2 5 2 (by decide) rfl rfl rfl))) ?_
    simp only [go_sem, simprocAttr]
    refine CW.rg (.rn htt 3 (.done ?_))
    refine CW.ret ?_
    refine retQ.rt (by simp only [f20, go_sem, simprocAttr]; exact rfl) ?_
    refine ⟨_, ?_, rfl⟩
    simp [leP, leL, gSet, ct16, eGraph]
  · simp only [Bool.not_eq_false'] at ct16
    have hm := (may_iff g).1 ct16
    refine CW.skip ?_
    refine CW.seq (.rg (.run htt 2 (by simp only [go_sem, simprocAttr, eGraph]; exact rfl) (by simp [go_sem, simprocAttr, eGraph]) ?_))
    refine CWops.call ((by have := graph_Find up g id; rw [f1] at this; exact this)) (by simp only [go_sem, simprocAttr, eGraph]) (by simp only [go_sem, simprocAttr, eGraph] <;> exact rfl) (by simp only [go_sem, simprocAttr, eGraph]) (fun rt20 hrt20 => ?_)
    subst hrt20; refine ⟨rfl, ?_⟩
    refine CWops.run htt 1 (by simp only [go_sem, simprocAttr, eGraph]; exact rfl) (by simp [go_sem, simprocAttr, eGraph]) (.done ?_)
    refine CW.seq ?_
    refine CW.block ?_
    refine CW.seq (.seq (.rg (.rn htt 3 (.done ?_))))
    refine CW.cd (fun ct21 => ?_) (fun ct21 => ?_)
    · exfalso; revert ct21; simp <;> omega 
    · refine CW.seq (.rg (.rn htt 3 (.done ?_)))
      refine CW.cd (fun ct21 => ?_) (fun ct21 => ?_)
      · have hk : k < 0 := by simpa using ct21
        refine CW.skip ?_
        refine CW.cd (fun ct21 => ?_) (fun ct21 => ?_)
        · refine CW.seq ?_
          try simp only [OWN]
          refine CW.sh (Sh.trans (Sh.frzC 3 0 5 0 (by decide) rfl rfl rfl) (Sh.trans (Sh.frzC 3 1 5 1 (by decide) rfl rfl rfl) (Sh.frzC 3 2 5 2 (by decide) rfl rfl rfl))) ?_
          simp only [go_sem, simprocAttr]
          refine CW.rg (.rn htt 3 (.done ?_))
          refine CW.ret ?_
          refine retQ.rt (by simp only [f20, go_sem, simprocAttr]; exact rfl) ?_
          refine ⟨_, ?_, rfl⟩
          simp [leP, leL, gSet, ct16, f3, f2, hk, eGraph]
        · exfalso; revert ct21; simp <;> omega 
      · have hk : 0 ≤ k := by simpa using ct21
        obtain ⟨k, rfl⟩ := Int.eq_ofNat_of_zero_le hk
        refine CW.rg (.run htt 10 (by simp only [go_sem, simprocAttr, eGraph, f2, eObj, (List.getElem?_eq_some_iff.1 f2).1]; exact rfl) (by simp [go_sem, simprocAttr, eGraph, f2, eObj, (List.getElem?_eq_some_iff.1 f2).1]) (.done ?_))
        refine CW.cd (fun ct21 => ?_) (fun ct21 => ?_)
        · have hkl : oF.length ≤ k := by simpa using ct21
          refine CW.seq ?_
          try simp only [OWN]
          refine CW.sh (Sh.trans (Sh.frzC 3 0 5 0 (by decide) rfl rfl rfl) (Sh.trans (Sh.frzC 3 1 5 1 (by decide) rfl rfl rfl) (Sh.frzC 3 2 5 2 (by decide) rfl rfl rfl))) ?_
          simp only [go_sem, simprocAttr]
          refine CW.rg (.rn htt 3 (.done ?_))
          refine CW.ret ?_
          refine retQ.rt (by simp only [f20, go_sem, simprocAttr]; exact rfl) ?_
          refine ⟨_, ?_, rfl⟩
          simp [leP, leL, gSet, ct16, f3, f2, hkl, show ¬ ((k : Int) < 0) by omega, eGraph]
        · have hkl : k < oF.length := by simp at ct21; omega
          obtain ⟨w, hw⟩ : ∃ w, oF[k]? = some w := ⟨oF[k], List.getElem?_eq_getElem hkl⟩
          obtain ⟨_, t, hT, hmo⟩ := hm.objT f2
          obtain ⟨q, rfl⟩ := Int.eq_ofNat_of_zero_le (show 0 ≤ oT from hmo.t0)
          have ht : g.S[q]? = some t := by simpa using hmo.at_
          have hlen : oF.length = t.F.length := hmo.len
          have htF : k < t.F.length := by omega
          obtain ⟨f, hf⟩ : ∃ f, t.F[k]? = some f := ⟨t.F[k], List.getElem?_eq_getElem htF⟩
          have hil : i < g.O.length := (List.getElem?_eq_some_iff.1 f2).1
          have hql : q < g.S.length := (List.getElem?_eq_some_iff.1 ht).1
          refine CW.seq ?_
          refine CW.drawn mixed 19 (by decide) (by kernel_rfl) (by kernel_rfl) (by kernel_rfl) ?_
          refine Seg.run htt 2 (by simp only [go_sem, simprocAttr, eGraph, f2, eObj, ht, eType, hf, eField, hil, hql, htF, eVal]; exact rfl) ?_
          refine Seg.callA (graph_types up g) (by simp only [go_sem, simprocAttr, eGraph, f2, eObj, ht, eType, hf, eField, hil, hql, htF, eVal]) (by simp only [go_sem, simprocAttr, eGraph, f2, eObj, ht, eType, hf, eField, hil, hql, htF, eVal] <;> exact rfl) (by simp only [go_sem, simprocAttr, eGraph, f2, eObj, ht, eType, hf, eField, hil, hql, htF, eVal]) (by simp only [go_sem, simprocAttr, eGraph, f2, eObj, ht, eType, hf, eField, hil, hql, htF, eVal]) ?_
          refine Seg.run htt 16 (by simp only [go_sem, simprocAttr, eGraph, f2, eObj, ht, eType, hf, eField, hil, hql, htF, eVal]; exact rfl) ?_
          refine Seg.done ?_
          refine CWops.call (graph_leads up g f v) (by simp only [go_sem, simprocAttr, eGraph, f2, eObj, ht, eType, hf, eField, hil, hql, htF, eVal]) (by simp only [go_sem, simprocAttr, eGraph, f2, eObj, ht, eType, hf, eField, hil, hql, htF, eVal] <;> exact rfl) (by simp only [go_sem, simprocAttr, eGraph, f2, eObj, ht, eType, hf, eField, hil, hql, htF, eVal]) (fun rt56 hrt56 => ?_)
          subst hrt56; refine ⟨rfl, ?_⟩
          refine CWops.run htt 2 (by simp only [go_sem, simprocAttr, eGraph, f2, eObj, ht, eType, hf, eField, hil, hql, htF, eVal]; exact rfl) (by simp [go_sem, simprocAttr, eGraph, f2, eObj, ht, eType, hf, eField, hil, hql, htF, eVal]) (.done ?_)
          refine CW.cd (fun ct36 => ?_) (fun ct36 => ?_)
          · simp only [Bool.not_eq_true'] at ct36
            refine CW.seq ?_
            try simp only [OWN]
            refine CW.sh (Sh.trans (Sh.frzC 3 0 5 0 (by decide) rfl rfl rfl) (Sh.trans (Sh.frzC 3 1 5 1 (by decide) rfl rfl rfl) (Sh.frzC 3 2 5 2 (by decide) rfl rfl rfl))) ?_
            simp only [go_sem, simprocAttr]
            refine CW.rg (.rn htt 3 (.done ?_))
            refine CW.ret ?_
            refine retQ.rt (by simp only [f20, go_sem, simprocAttr]; exact rfl) ?_
            refine ⟨_, ?_, rfl⟩
            simp [leP, leL, gSet, ct16, f3, f2, hkl, Nat.not_le.2 hkl, show ¬ ((k : Int) < 0) by omega, eGraph, tyF, hT, leadsAt, hf, ct36]
          · simp only [Bool.not_eq_false'] at ct36
            refine CW.skip ?_
            refine CW.seq ?_
            refine CW.drawn mixed 8 (by decide) (by kernel_rfl) (by kernel_rfl) (by kernel_rfl) ?_
            refine Seg.run htt 8 (by simp only [go_sem, simprocAttr, OWN, f2, hil, hkl, eObjO, eVal, hw, List.getElem?_set_self, List.length_map, List.length_set, List.set_set]; exact rfl) ?_
            refine Seg.done ?_
            refine CWops.run htt 2 (by simp only [go_sem, simprocAttr, OWN, f2, hil, hkl, eObjO, eVal, hw, List.getElem?_set_self, List.length_map, List.length_set, List.set_set]; exact rfl) (by simp [go_sem, simprocAttr, OWN, f2, hil, hkl, eObjO, eVal, hw, List.getElem?_set_self, List.length_map, List.length_set, List.set_set]) (.done ?_)
            have e : (List.map eObjO g.O).set i [.int .i64 oi, .int .i64 (q : Int), .own 3 ((List.map eVal oF).set k [.int .i64 v.N, .str v.S, .int .i64 v.R])] = (g.O.set i ⟨oi, q, oF.set k v⟩).map eObjO := by rw [List.map_set]; simp [eObjO, List.map_set, eVal]
            simp only [e]
            refine CW.seq ?_
            try simp only [OWN]
            refine CW.sh (Sh.frzC 3 0 5 0 (by decide) rfl rfl rfl) ?_
            simp only [go_sem, simprocAttr]
            refine CW.sh (Sh.frzC 3 1 5 1 (by decide) rfl rfl rfl) ?_
            simp only [go_sem, simprocAttr]
            refine CW.sh (Sh.frzC 3 2 5 2 (by decide) rfl rfl rfl) ?_
            simp only [go_sem, simprocAttr]
            refine CW.rg (.rn htt 3 (.done ?_))
            refine CW.ret ?_
            refine retQ.rt (by simp only [f20, go_sem, simprocAttr]; exact rfl) ?_
            refine ⟨_, ?_, rfl⟩
            simp [leP, leL, gSet, ct16, f3, f2, hkl, Nat.not_le.2 hkl, show ¬ ((k : Int) < 0) by omega, eGraph, tyF, hT, leadsAt, hf, ct36, sSet]
theorem graph_Set (up : Bool) (g : Graph) (id k : Int) (v : GVal) (hz : GSz g) : PCall prog up 20 [.agg (eGraph g), .int .i64 id, .int .i64 k, .agg (eVal v)] (· = .tup [.agg (eGraph (gSet g id k v).1), .int .i64 (gSet g id k v).2]) := by
  rcases find_cases (fun o => decide (o.Id = id)) g.O with ⟨f1, f2, f3⟩ | ⟨i, x, f1, f2, _, f3, _⟩
  · exact graph_Set_none up g id k v hz f1 f3
  · exact graph_Set_some up g id k v hz i x f1 f2 f3
theorem law08_Two (up : Bool) : PCall prog up 19 [] (· = .agg (eGraph twG)) := by
  refine PCall.intro htt func19 (by kernel_rfl) rfl (Nat.le_of_ble_eq_true rfl) fun hl => ?_

  simp only [tmps0, Nat.reduceAdd]
  refine CW.seq (.rg (.rn htt 1 (.done ?_)))
  refine CW.seq (.rg ?_)
  refine CWops.callA (law06_One up) (by simp only [go_sem, simprocAttr, oneS, eSchema, eType, eField]) (by simp only [go_sem, simprocAttr, oneS, eSchema, eType, eField] <;> exact rfl) (by simp only [go_sem, simprocAttr, oneS, eSchema, eType, eField]) (by simp only [go_sem, simprocAttr, oneS, eSchema, eType, eField]) (fun rt1 hrt1 => ?_)
  subst hrt1
  refine CWops.run htt 2 (by simp only [go_sem, simprocAttr, oneS, eSchema, eType, eField]; exact rfl) (by simp [go_sem, simprocAttr, oneS, eSchema, eType, eField]) (.run htt 1 (by simp only [go_sem, simprocAttr, List.replicate]; exact rfl) (by simp [go_sem, simprocAttr]) ?_)
  refine CWops.sh (Sh.frzT 4 1 (by simp only [go_sem, simprocAttr]) (by simp only [go_sem, simprocAttr] <;> exact rfl) rfl) ?_
  simp only [go_sem, simprocAttr, AV.freeze]
  refine CWops.run htt 3 (by simp only [go_sem, simprocAttr, oneS, eSchema, eType, eField]; exact rfl) (by simp [go_sem, simprocAttr, oneS, eSchema, eType, eField]) (.run htt 1 (by simp only [go_sem, simprocAttr, List.replicate]; exact rfl) (by simp [go_sem, simprocAttr]) ?_)
  refine CWops.sh (Sh.frzT 8 2 (by simp only [go_sem, simprocAttr]) (by simp only [go_sem, simprocAttr] <;> exact rfl) rfl) ?_
  simp only [go_sem, simprocAttr, AV.freeze]
  refine CWops.run htt 1 (by simp only [go_sem, simprocAttr, oneS, eSchema, eType, eField]; exact rfl) (by simp [go_sem, simprocAttr, oneS, eSchema, eType, eField]) (.run htt 1 (by simp only [go_sem, simprocAttr, List.replicate]; exact rfl) (by simp [go_sem, simprocAttr]) ?_)
  refine CWops.sh (Sh.frzT 10 3 (by simp only [go_sem, simprocAttr]) (by simp only [go_sem, simprocAttr] <;> exact rfl) rfl) ?_
  simp only [go_sem, simprocAttr, AV.freeze]
  refine CWops.run htt 1 (by simp only [go_sem, simprocAttr, List.replicate]; exact rfl) (by simp [go_sem, simprocAttr]) ?_
  refine CWops.sh (Sh.frzT 11 4 (by simp only [go_sem, simprocAttr]) (by simp only [go_sem, simprocAttr] <;> exact rfl) rfl) ?_
  simp only [go_sem, simprocAttr, AV.freeze]
  refine CWops.run htt 2 (by simp only [go_sem, simprocAttr, oneS, eSchema, eType, eField]; exact rfl) (by simp [go_sem, simprocAttr, oneS, eSchema, eType, eField]) (.done ?_)
  refine CW.ret ?_
  refine retQ.rt (by simp only [f19, go_sem, simprocAttr]; exact rfl) ?_
  refine ⟨_, ?_, rfl⟩
  simp [leP, leL, eGraph, twG, eObj, eVal, oneS, eType, eField, eI]
end Go.Ab
namespace Go.Ab
open Go Go.Proofs.Tryz Go.RowKit
set_option maxRecDepth 100000
set_option maxHeartbeats 1600000
@[go_sem] theorem tt_96 : tiOf prog 96 = some ⟨.func, 1, 8, [.nilfunc], false⟩ := by kernel_rfl
theorem equal_Cell (up : Bool) (a b : List GCell) : PCall prog up 51 [.sl 4 (a.map eCell), .sl 4 (b.map eCell)] (· = .bool (decide (a = b))) := by
  refine PCall.intro htt func51 (by kernel_rfl) rfl (Nat.le_of_ble_eq_true rfl) fun hl => ?_
  have ha := (hl (.sl 4 (a.map eCell)) (by simp)).sl.1
  have hb := (hl (.sl 4 (b.map eCell)) (by simp)).sl.1
  simp only [List.length_map] at ha hb
  simp only [tmps0, Nat.reduceAdd]
  refine CW.seq (.rg (.rn htt 1 (.done ?_)))
  refine CW.seq (.seq (.rg (.rn htt 5 (.done ?_))))
  refine CW.cd (fun ct10 => ?_) (fun ct10 => ?_)
  · have hne : a.length ≠ b.length := by simp at ct10; omega
    refine CW.seq (.rg (.rn htt 1 (.done ?_)))
    refine CW.ret ?_
    refine retQ.rt (by simp only [f51, go_sem, simprocAttr]; exact rfl) ?_
    refine ⟨_, ?_, rfl⟩
    simp only [leP, AV.bool.injEq]; symm; apply decide_eq_false; intro h; exact hne (by rw [h])
  · have heq : a.length = b.length := by simp at ct10; omega
    refine CW.skip ?_
    refine CW.seq (.seq (.rg (.rn htt 3 (.done ?_))))
    refine CW.block ?_
    refine CW.loop (S := Nat) (fun i => ⟨0, [(0, .sl 4 (a.map eCell)), (1, .sl 4 (b.map eCell)), (12, .int .i64 a.length), (13, .int .i64 i)], []⟩) (fun i => i ≤ a.length ∧ a.take i = b.take i) (fun i => a.length - i) (0) ?_ ⟨Nat.zero_le _, rfl⟩ (fun i ⟨h1, h2⟩ => ?_)
    · refine Sh.wk0 ?_; simp [Wk, go_sem, simprocAttr]
    refine CW.seq (.rg (.rn htt 1 (.done ?_)))
    refine CW.seq ?_
    refine CW.cd (fun ct14 => ?_) (fun ct14 => ?_)
    · have hi : i < a.length := by simpa using ct14
      obtain ⟨x, e1⟩ : ∃ x, a[i]? = some x := ⟨a[i], List.getElem?_eq_getElem hi⟩
      obtain ⟨y, e2⟩ : ∃ y, b[i]? = some y := ⟨b[i], List.getElem?_eq_getElem (by omega)⟩
      refine CW.skip ?_
      refine CW.seq ?_
      refine CW.block ?_
      refine CW.seq (.rg (.rn htt 2 (.done ?_)))
      refine CW.seq ?_
      refine CW.drawn mixed 8 (by decide) (by kernel_rfl) (by kernel_rfl) (by kernel_rfl) ?_
      refine Seg.run htt 8 (by simp only [go_sem, simprocAttr, e1, e2, eCell, eVal]; exact rfl) ?_
      refine Seg.done ?_
      refine CWops.run htt 1 (by simp only [go_sem, simprocAttr, e1, e2, eCell, eVal]; exact rfl) (by simp [go_sem, simprocAttr, e1, e2, eCell, eVal]) (.done ?_)
      refine CW.cd (fun ct24 => ?_) (fun ct24 => ?_)
      · have hp : x ≠ y := by
          intro e; subst e; simp at ct24
        refine CW.seq (.rg (.rn htt 1 (.done ?_)))
        refine CW.ret ?_
        refine retQ.rt (by simp only [f51, go_sem, simprocAttr]; exact rfl) ?_
        refine ⟨_, ?_, rfl⟩
        simp only [leP, AV.bool.injEq]; symm; apply decide_eq_false; intro h; subst h; rw [e1] at e2; cases e2; exact hp rfl
      · have hp : x = y := by
          obtain ⟨xF, xN, xS, xR⟩ := x
          obtain ⟨yF, yN, yS, yR⟩ := y
          simpa [and_assoc] using ct24
        subst hp
        refine CW.skip ?_
        refine CW.rg (.run htt 2 (by simp only [go_sem, simprocAttr, wrap_succ (Nat.lt_of_lt_of_le hi ha)]; exact rfl) (by simp [go_sem, simprocAttr, wrap_succ (Nat.lt_of_lt_of_le hi ha)]) (.done ?_))
        refine ⟨i + 1, ?_, ?_, ?_⟩
        · refine Sh.wk0 ?_; simp [Wk, go_sem, simprocAttr]
        · exact ⟨hi, take_same h2 e1 e2⟩
        · simp only; omega
    · have hi : i = a.length := by simp at ct14; omega
      refine CW.exit ?_
      refine CW.seq (.rg (.rn htt 1 (.done ?_)))
      refine CW.ret ?_
      refine retQ.rt (by simp only [f51, go_sem, simprocAttr]; exact rfl) ?_
      refine ⟨_, ?_, rfl⟩
      simp only [leP, AV.bool.injEq]; symm; apply decide_eq_true; exact all_same h2 hi heq
theorem equalFunc_Item (up : Bool) (a b : List GItem) (p : GItem → GItem → Bool) (fn : FuncId) (caps : List AV) (hc : pureL caps = true) (hp : ∀ x ∈ a, ∀ y ∈ b, PCall prog up fn (.agg (eItem x) :: .agg (eItem y) :: caps) (· = .bool (p x y))) : PCall prog up 53 [.sl 3 (a.map eItem), .sl 3 (b.map eItem), .func (.func fn) [] caps] (· = .bool (allp p a b)) := by
  refine PCall.intro htt func53 (by kernel_rfl) rfl (Nat.le_of_ble_eq_true rfl) fun hl => ?_
  have ha := (hl (.sl 3 (a.map eItem)) (by simp)).sl.1
  have hb := (hl (.sl 3 (b.map eItem)) (by simp)).sl.1
  simp only [List.length_map] at ha hb
  simp only [tmps0, Nat.reduceAdd]
  refine CW.seq (.rg (.rn htt 1 (.done ?_)))
  refine CW.seq (.seq (.rg (.rn htt 5 (.done ?_))))
  refine CW.cd (fun ct14 => ?_) (fun ct14 => ?_)
  · have hne : a.length ≠ b.length := by simp at ct14; omega
    refine CW.seq (.rg (.rn htt 1 (.done ?_)))
    refine CW.ret ?_
    refine retQ.rt (by simp only [f53, go_sem, simprocAttr]; exact rfl) ?_
    refine ⟨_, ?_, rfl⟩
    simp only [leP, AV.bool.injEq]; exact (allp_len hne).symm
  · have heq : a.length = b.length := by simp at ct14; omega
    refine CW.skip ?_
    refine CW.seq (.seq (.rg (.rn htt 3 (.done ?_))))
    refine CW.block ?_
    refine CW.loop (S := Nat) (fun i => ⟨0, [(0, .sl 3 (a.map eItem)), (1, .sl 3 (b.map eItem)), (2, .func (.func fn) [] caps), (15, .sl 3 (a.map eItem)), (16, .int .i64 a.length), (17, .int .i64 i)], []⟩) (fun i => i ≤ a.length ∧ allp p (a.take i) (b.take i) = true) (fun i => a.length - i) (0) ?_ ⟨Nat.zero_le _, rfl⟩ (fun i ⟨h1, h2⟩ => ?_)
    · refine Sh.wk0 ?_; simp [Wk, go_sem, simprocAttr]; exact ⟨[], caps, ⟨rfl, rfl⟩, by simp [SubL], SubL_pure _ _ hc⟩
    refine CW.seq (.rg (.rn htt 1 (.done ?_)))
    refine CW.seq ?_
    refine CW.cd (fun ct18 => ?_) (fun ct18 => ?_)
    · have hi : i < a.length := by simpa using ct18
      obtain ⟨x, e1⟩ : ∃ x, a[i]? = some x := ⟨a[i], List.getElem?_eq_getElem hi⟩
      obtain ⟨y, e2⟩ : ∃ y, b[i]? = some y := ⟨b[i], List.getElem?_eq_getElem (by omega)⟩
      refine CW.skip ?_
      refine CW.seq ?_
      refine CW.block ?_
      refine CW.seq (.rg (.run htt 6 (by simp only [go_sem, simprocAttr, e1, eItem]; exact rfl) (by simp [go_sem, simprocAttr, e1, eItem]) (.done ?_)))
      refine CW.seq (.rg (.run htt 6 (by simp only [go_sem, simprocAttr, e2, eItem]; exact rfl) (by simp [go_sem, simprocAttr, e2, eItem]) (.done ?_)))
      refine CW.seq (.rg (.run htt 3 (by simp only [go_sem, simprocAttr, hc, eItem]; exact rfl) (by simp [go_sem, simprocAttr, hc, eItem]) ?_))
      refine CWops.callA (hp x (List.mem_of_getElem? e1) y (List.mem_of_getElem? e2)) (by simp only [go_sem, simprocAttr, hc, eItem]) (by simp only [go_sem, simprocAttr, hc, eItem] <;> exact rfl) (by simp only [go_sem, simprocAttr, hc, eItem]) (by simp only [go_sem, simprocAttr, hc, eItem]) (fun rt29 hrt29 => ?_)
      subst hrt29
      refine CWops.run htt 1 (by simp only [go_sem, simprocAttr, hc, eItem]; exact rfl) (by simp [go_sem, simprocAttr, hc, eItem]) (.done ?_)
      refine CW.cd (fun ct30 => ?_) (fun ct30 => ?_)
      · have hp : p x y = false := by simpa using ct30
        refine CW.seq (.rg (.rn htt 1 (.done ?_)))
        refine CW.ret ?_
        refine retQ.rt (by simp only [f53, go_sem, simprocAttr]; exact rfl) ?_
        refine ⟨_, ?_, rfl⟩
        simp only [leP, AV.bool.injEq]; exact (allp_no e1 e2 hp).symm
      · have hp : p x y = true := by simpa using ct30
        refine CW.skip ?_
        refine CW.rg (.run htt 2 (by simp only [go_sem, simprocAttr, wrap_succ (Nat.lt_of_lt_of_le hi ha)]; exact rfl) (by simp [go_sem, simprocAttr, wrap_succ (Nat.lt_of_lt_of_le hi ha)]) (.done ?_))
        refine ⟨i + 1, ?_, ?_, ?_⟩
        · refine Sh.wk0 ?_; simp [Wk, go_sem, simprocAttr]; exact ⟨[], caps, ⟨rfl, rfl⟩, by simp [SubL], SubL_pure _ _ hc⟩
        · exact ⟨hi, allp_take h2 e1 e2 hp⟩
        · simp only; omega
    · have hi : i = a.length := by simp at ct18; omega
      refine CW.exit ?_
      refine CW.seq (.rg (.rn htt 1 (.done ?_)))
      refine CW.ret ?_
      refine retQ.rt (by simp only [f53, go_sem, simprocAttr]; exact rfl) ?_
      refine ⟨_, ?_, rfl⟩
      simp only [leP, AV.bool.injEq]; rw [hi, List.take_length, heq, List.take_length] at h2; exact h2.symm
theorem delta_Same_1 (up : Bool) (x y : GItem) : PCall prog up 50 [.agg (eItem x), .agg (eItem y)] (· = .bool (decide (x = y))) := by
  refine PCall.intro htt func50 (by kernel_rfl) rfl (Nat.le_of_ble_eq_true rfl) fun hl => ?_

  simp only [tmps0, Nat.reduceAdd]
  refine CW.seq (.rg (.run htt 3 (by simp only [go_sem, simprocAttr, eItem]; exact rfl) (by simp [go_sem, simprocAttr, eItem]) (.done ?_)))
  refine CW.seq (.rg (.run htt 6 (by simp only [go_sem, simprocAttr, eItem]; exact rfl) (by simp [go_sem, simprocAttr, eItem]) ?_))
  all_goals (first | refine CWops.guard 10 (by simp only [go_sem, simprocAttr, eItem]; exact rfl) (fun g10 => ?_) (fun g10 => ?_) | skip)
  all_goals (refine CWops.run htt 7 (by simp only [go_sem, simprocAttr, eItem]; exact rfl) (by simp [go_sem, simprocAttr, eItem]) ?_)
  all_goals (first | refine CWops.guard 17 (by simp only [go_sem, simprocAttr, eItem]; exact rfl) (fun g17 => ?_) (fun g17 => ?_) | skip)
  all_goals (refine CWops.run htt 4 (by simp only [go_sem, simprocAttr, eItem]; exact rfl) (by simp [go_sem, simprocAttr, eItem]) ?_)
  all_goals (first | (refine CWops.skip ?_ ?_; next => (simp only [go_sem, simprocAttr]; done)) | (refine CWops.call (equal_Cell up x.Set y.Set) (by simp only [go_sem, simprocAttr, eItem]) (by simp only [go_sem, simprocAttr, eItem] <;> exact rfl) (by simp only [go_sem, simprocAttr, eItem]) (fun rt22 hrt22 => ?_); subst hrt22; refine ⟨rfl, ?_⟩))
  all_goals (refine CWops.run htt 2 (by simp only [go_sem, simprocAttr, eItem]; exact rfl) (by simp [go_sem, simprocAttr, eItem]) ?_)
  all_goals (refine CWops.done ?_)
  all_goals (
    refine CW.ret ?_
    refine retQ.rt (by simp only [f50, go_sem, simprocAttr]; exact rfl) ?_
    refine ⟨_, ?_, rfl⟩
    simp_all [leP, GItem.ext_iff'])
theorem delta_Same (up : Bool) (a b : GDelta) : PCall prog up 18 [.agg (eDelta a), .agg (eDelta b)] (· = .bool (decide (a = b))) := by
  refine PCall.intro htt func18 (by kernel_rfl) rfl (Nat.le_of_ble_eq_true rfl) fun hl => ?_

  simp only [tmps0, Nat.reduceAdd]
  refine CW.seq (.rg (.run htt 3 (by simp only [go_sem, simprocAttr, eDelta]; exact rfl) (by simp [go_sem, simprocAttr, eDelta]) (.done ?_)))
  refine CW.seq (.rg (.rn htt 1 (.done ?_)))
  refine CW.seq (.rg (.run htt 6 (by simp only [go_sem, simprocAttr, eDelta]; exact rfl) (by simp [go_sem, simprocAttr, eDelta]) ?_))
  all_goals (first | refine CWops.guard 11 (by simp only [go_sem, simprocAttr, eDelta]; exact rfl) (fun g11 => ?_) (fun g11 => ?_) | skip)
  all_goals (refine CWops.run htt 4 (by simp only [go_sem, simprocAttr, eDelta]; exact rfl) (by simp [go_sem, simprocAttr, eDelta]) ?_)
  all_goals (first | (refine CWops.skip ?_ ?_; next => (simp only [go_sem, simprocAttr]; done)) | (refine CWops.call (equal_int up a.Roots b.Roots) (by simp only [go_sem, simprocAttr, eDelta]) (by simp only [go_sem, simprocAttr, eDelta] <;> exact rfl) (by simp only [go_sem, simprocAttr, eDelta]) (fun rt16 hrt16 => ?_); subst hrt16; refine ⟨rfl, ?_⟩))
  all_goals (refine CWops.run htt 2 (by simp only [go_sem, simprocAttr, eDelta]; exact rfl) (by simp [go_sem, simprocAttr, eDelta]) ?_)
  all_goals (first | refine CWops.guard 18 (by simp only [go_sem, simprocAttr, eDelta]; exact rfl) (fun g18 => ?_) (fun g18 => ?_) | skip)
  all_goals (refine CWops.run htt 5 (by simp only [go_sem, simprocAttr, eDelta]; exact rfl) (by simp [go_sem, simprocAttr, eDelta]) ?_)
  all_goals (first | (refine CWops.skip ?_ ?_; next => (simp only [go_sem, simprocAttr]; done)) | (refine CWops.call (equalFunc_Item up a.L b.L (fun x y => decide (x = y)) 50 [] rfl (fun x _ y _ => delta_Same_1 up x y)) (by simp only [go_sem, simprocAttr, eDelta]) (by simp only [go_sem, simprocAttr, eDelta] <;> exact rfl) (by simp only [go_sem, simprocAttr, eDelta]) (fun rt24 hrt24 => ?_); subst hrt24; refine ⟨rfl, ?_⟩))
  all_goals (refine CWops.run htt 2 (by simp only [go_sem, simprocAttr, eDelta]; exact rfl) (by simp [go_sem, simprocAttr, eDelta]) ?_)
  all_goals (refine CWops.done ?_)
  all_goals (
    refine CW.ret ?_
    refine retQ.rt (by simp only [f18, go_sem, simprocAttr]; exact rfl) ?_
    refine ⟨_, ?_, rfl⟩
    simp_all [leP, allp_eq, GDelta.ext_iff'] <;> omega)
def twH : Graph := ⟨oneS, [⟨0, 0, [⟨9, ⟨#[]⟩, 0⟩, ⟨0, ⟨#[]⟩, -1⟩]⟩, ⟨5, 0, [⟨8, ⟨#[]⟩, 0⟩, ⟨0, ⟨#[]⟩, 0⟩]⟩], [0]⟩
theorem twH_set : gSet twG 0 0 ⟨9, ⟨#[]⟩, 0⟩ = (twH, 0) := by decide
theorem one_of {α β : Type} {l : List α} {f : α → β} {b : β} (h : l.map f = [b]) : ∃ x, l = [x] ∧ f x = b := by
  match l, h with
  | [x], h => exact ⟨x, rfl, by simpa using h⟩
theorem twDl : ∃ B R F T, gMake twG twG = (⟨B, R, [⟨F, T, []⟩]⟩, 0) := by
  have h1 : (gMake twG twG).2 = 0 := by decide
  have h2 : (gMake twG twG).1.L.map (fun x => x.Set.length) = [0] := by decide
  obtain ⟨⟨F, T, S⟩, h3, h4⟩ := one_of h2
  have h5 : S = [] := List.eq_nil_of_length_eq_zero h4
  subst h5
  generalize gMake twG twG = p at h1 h3
  obtain ⟨⟨B, R, L⟩, e⟩ := p
  simp only at h1 h3
  exact ⟨B, R, F, T, by rw [h1, h3]⟩
theorem twC : ∃ B R F T c, gMake twG twH = (⟨B, R, [⟨F, T, [c]⟩]⟩, 0) ∧ R.length ≤ 1000 := by
  have h1 : (gMake twG twH).2 = 0 := by decide
  have h2 : (gMake twG twH).1.L.map (fun x => x.Set.length) = [1] := by decide
  have h6 : (gMake twG twH).1.Roots.length ≤ 1000 := by decide
  obtain ⟨⟨F, T, S⟩, h3, h4⟩ := one_of h2
  obtain ⟨c, hc⟩ : ∃ c, S = [c] := by
    match S, h4 with
    | [c], _ => exact ⟨c, rfl⟩
  subst hc
  generalize gMake twG twH = p at h1 h3 h6
  obtain ⟨⟨B, R, L⟩, e⟩ := p
  simp only at h1 h3 h6
  exact ⟨B, R, F, T, c, by rw [h1, h3], h6⟩
theorem twK : ∃ S i T s r v R, gApply twG (gMake twG twH).1 = (⟨S, [⟨i, T, [⟨9, s, r⟩, v]⟩], R⟩, 0) := by
  have h1 : (gApply twG (gMake twG twH).1).2 = 0 := by decide
  have h2 : (gApply twG (gMake twG twH).1).1.O.map (fun o => o.F.map (fun v => v.N)) = [[9, 0]] := by decide
  obtain ⟨⟨i, T, F⟩, h3, h4⟩ := one_of h2
  obtain ⟨n, s, r, v, rfl⟩ : ∃ n s r v, F = [⟨n, s, r⟩, v] := by
    match F, h4 with
    | [⟨n, s, r⟩, v], _ => exact ⟨n, s, r, v, rfl⟩
  have h5 : n = 9 := by simp at h4; exact h4.1
  subst h5
  generalize gApply twG (gMake twG twH).1 = p at h1 h3
  obtain ⟨⟨S, O, R⟩, e⟩ := p
  simp only at h1 h3
  exact ⟨S, i, T, s, r, v, R, by rw [h1, h3]⟩
theorem law11_awake (up : Bool) : PCall prog up 5 [] (· = .bool true) := by
  refine PCall.intro htt func5 (by kernel_rfl) rfl (Nat.le_of_ble_eq_true rfl) fun hl => ?_
  obtain ⟨B1, R1, F1, T1, hD⟩ := twDl
  obtain ⟨B2, R2, F2, T2, c2, hC, hR2⟩ := twC
  obtain ⟨S3, i3, T3, s3, r3, v3, R3, hK⟩ := twK
  rw [hC] at hK
  simp only at hK
  simp only [tmps0, Nat.reduceAdd]
  refine CW.seq (.rg (.rn htt 1 (.done ?_)))
  refine CW.seq (.rg ?_)
  refine CWops.callA (law08_Two up) (by simp only [go_sem, simprocAttr, eGraph]) (by simp only [go_sem, simprocAttr, eGraph] <;> exact rfl) (by simp only [go_sem, simprocAttr, eGraph]) (by simp only [go_sem, simprocAttr, eGraph]) (fun rt10 hrt10 => ?_)
  subst hrt10
  refine CWops.run htt 2 (by simp only [go_sem, simprocAttr, eGraph]; exact rfl) (by simp [go_sem, simprocAttr, eGraph]) (.done ?_)
  refine CW.seq (.rg (.run htt 2 (by simp only [go_sem, simprocAttr, eGraph, eDelta]; exact rfl) (by simp [go_sem, simprocAttr, eGraph, eDelta]) ?_))
  refine CWops.callA ((by have q := delta_Make up twG twG; rw [hD] at q; exact q)) (by simp only [go_sem, simprocAttr, eGraph, eDelta]) (by simp only [go_sem, simprocAttr, eGraph, eDelta] <;> exact rfl) (by simp only [go_sem, simprocAttr, eGraph, eDelta]) (by simp only [go_sem, simprocAttr, eGraph, eDelta]) (fun rt14 hrt14 => ?_)
  subst hrt14
  refine CWops.run htt 6 (by simp only [go_sem, simprocAttr, eGraph, eDelta]; exact rfl) (by simp [go_sem, simprocAttr, eGraph, eDelta]) (.done ?_)
  refine CW.seq (.rg (.run htt 2 (by simp only [go_sem, simprocAttr, eGraph, eVal]; exact rfl) (by simp [go_sem, simprocAttr, eGraph, eVal]) ?_))
  refine CWops.callA ((by have q := graph_Set up twG 0 0 ⟨9, ⟨#[]⟩, 0⟩ twG_sz; rw [twH_set] at q; exact q)) (by simp only [go_sem, simprocAttr, eGraph, eVal]) (by simp only [go_sem, simprocAttr, eGraph, eVal] <;> exact rfl) (by simp only [go_sem, simprocAttr, eGraph, eVal]) (by simp only [go_sem, simprocAttr, eGraph, eVal]) (fun rt20 hrt20 => ?_)
  subst hrt20
  refine CWops.run htt 6 (by simp only [go_sem, simprocAttr, eGraph, eVal]; exact rfl) (by simp [go_sem, simprocAttr, eGraph, eVal]) (.done ?_)
  refine CW.seq (.rg (.run htt 2 (by simp only [go_sem, simprocAttr, eGraph, eDelta]; exact rfl) (by simp [go_sem, simprocAttr, eGraph, eDelta]) ?_))
  refine CWops.callA ((by have q := delta_Make up twG twH; rw [hC] at q; exact q)) (by simp only [go_sem, simprocAttr, eGraph, eDelta]) (by simp only [go_sem, simprocAttr, eGraph, eDelta] <;> exact rfl) (by simp only [go_sem, simprocAttr, eGraph, eDelta]) (by simp only [go_sem, simprocAttr, eGraph, eDelta]) (fun rt26 hrt26 => ?_)
  subst hrt26
  refine CWops.run htt 6 (by simp only [go_sem, simprocAttr, eGraph, eDelta]; exact rfl) (by simp [go_sem, simprocAttr, eGraph, eDelta]) (.done ?_)
  refine CW.seq (.rg (.run htt 2 (by simp only [go_sem, simprocAttr, eGraph, eDelta]; exact rfl) (by simp [go_sem, simprocAttr, eGraph, eDelta]) ?_))
  refine CWops.callA ((by have q := delta_Apply up twG ⟨B2, R2, [⟨F2, T2, [c2]⟩]⟩ (by simp) hR2; rw [hK] at q; exact q)) (by simp only [go_sem, simprocAttr, eGraph, eDelta]) (by simp only [go_sem, simprocAttr, eGraph, eDelta] <;> exact rfl) (by simp only [go_sem, simprocAttr, eGraph, eDelta]) (by simp only [go_sem, simprocAttr, eGraph, eDelta]) (fun rt32 hrt32 => ?_)
  subst hrt32
  refine CWops.run htt 6 (by simp only [go_sem, simprocAttr, eGraph, eDelta]; exact rfl) (by simp [go_sem, simprocAttr, eGraph, eDelta]) (.done ?_)
  refine CW.seq (.rg (.run htt 3 (by simp only [go_sem, simprocAttr, eDelta, eItem, eGraph, eObj, eVal, eCell, List.map_cons, List.map_nil, List.length_cons, List.length_nil, List.getElem?_cons_zero]; exact rfl) (by simp [go_sem, simprocAttr, eDelta, eItem, eGraph, eObj, eVal, eCell, List.map_cons, List.map_nil, List.length_cons, List.length_nil, List.getElem?_cons_zero]) ?_))
  all_goals (first | refine CWops.guard 37 (by simp only [go_sem, simprocAttr, eDelta, eItem, eGraph, eObj, eVal, eCell, List.map_cons, List.map_nil, List.length_cons, List.length_nil, List.getElem?_cons_zero]; exact rfl) (fun g37 => ?_) (fun g37 => ?_) | skip)
  all_goals (first | (simp at g37; done) | (cases g37; done) | skip)
  all_goals (refine CWops.run htt 6 (by simp only [go_sem, simprocAttr, eDelta, eItem, eGraph, eObj, eVal, eCell, List.map_cons, List.map_nil, List.length_cons, List.length_nil, List.getElem?_cons_zero]; exact rfl) (by simp [go_sem, simprocAttr, eDelta, eItem, eGraph, eObj, eVal, eCell, List.map_cons, List.map_nil, List.length_cons, List.length_nil, List.getElem?_cons_zero]) ?_)
  all_goals (first | refine CWops.guard 43 (by simp only [go_sem, simprocAttr, eDelta, eItem, eGraph, eObj, eVal, eCell, List.map_cons, List.map_nil, List.length_cons, List.length_nil, List.getElem?_cons_zero]; exact rfl) (fun g43 => ?_) (fun g43 => ?_) | skip)
  all_goals (first | (simp at g43; done) | (cases g43; done) | skip)
  all_goals (refine CWops.run htt 9 (by simp only [go_sem, simprocAttr, eDelta, eItem, eGraph, eObj, eVal, eCell, List.map_cons, List.map_nil, List.length_cons, List.length_nil, List.getElem?_cons_zero]; exact rfl) (by simp [go_sem, simprocAttr, eDelta, eItem, eGraph, eObj, eVal, eCell, List.map_cons, List.map_nil, List.length_cons, List.length_nil, List.getElem?_cons_zero]) ?_)
  all_goals (first | refine CWops.guard 52 (by simp only [go_sem, simprocAttr, eDelta, eItem, eGraph, eObj, eVal, eCell, List.map_cons, List.map_nil, List.length_cons, List.length_nil, List.getElem?_cons_zero]; exact rfl) (fun g52 => ?_) (fun g52 => ?_) | skip)
  all_goals (first | (simp at g52; done) | (cases g52; done) | skip)
  all_goals (refine CWops.run htt 4 (by simp only [go_sem, simprocAttr, eDelta, eItem, eGraph, eObj, eVal, eCell, List.map_cons, List.map_nil, List.length_cons, List.length_nil, List.getElem?_cons_zero]; exact rfl) (by simp [go_sem, simprocAttr, eDelta, eItem, eGraph, eObj, eVal, eCell, List.map_cons, List.map_nil, List.length_cons, List.length_nil, List.getElem?_cons_zero]) ?_)
  all_goals (first | refine CWops.guard 56 (by simp only [go_sem, simprocAttr, eDelta, eItem, eGraph, eObj, eVal, eCell, List.map_cons, List.map_nil, List.length_cons, List.length_nil, List.getElem?_cons_zero]; exact rfl) (fun g56 => ?_) (fun g56 => ?_) | skip)
  all_goals (first | (simp at g56; done) | (cases g56; done) | skip)
  all_goals (refine CWops.run htt 4 (by simp only [go_sem, simprocAttr, eDelta, eItem, eGraph, eObj, eVal, eCell, List.map_cons, List.map_nil, List.length_cons, List.length_nil, List.getElem?_cons_zero]; exact rfl) (by simp [go_sem, simprocAttr, eDelta, eItem, eGraph, eObj, eVal, eCell, List.map_cons, List.map_nil, List.length_cons, List.length_nil, List.getElem?_cons_zero]) ?_)
  all_goals (first | refine CWops.guard 60 (by simp only [go_sem, simprocAttr, eDelta, eItem, eGraph, eObj, eVal, eCell, List.map_cons, List.map_nil, List.length_cons, List.length_nil, List.getElem?_cons_zero]; exact rfl) (fun g60 => ?_) (fun g60 => ?_) | skip)
  all_goals (first | (simp at g60; done) | (cases g60; done) | skip)
  all_goals (refine CWops.run htt 9 (by simp only [go_sem, simprocAttr, eDelta, eItem, eGraph, eObj, eVal, eCell, List.map_cons, List.map_nil, List.length_cons, List.length_nil, List.getElem?_cons_zero]; exact rfl) (by simp [go_sem, simprocAttr, eDelta, eItem, eGraph, eObj, eVal, eCell, List.map_cons, List.map_nil, List.length_cons, List.length_nil, List.getElem?_cons_zero]) ?_)
  all_goals (first | refine CWops.guard 69 (by simp only [go_sem, simprocAttr, eDelta, eItem, eGraph, eObj, eVal, eCell, List.map_cons, List.map_nil, List.length_cons, List.length_nil, List.getElem?_cons_zero]; exact rfl) (fun g69 => ?_) (fun g69 => ?_) | skip)
  all_goals (first | (simp at g69; done) | (cases g69; done) | skip)
  all_goals (refine CWops.run htt 4 (by simp only [go_sem, simprocAttr, eDelta, eItem, eGraph, eObj, eVal, eCell, List.map_cons, List.map_nil, List.length_cons, List.length_nil, List.getElem?_cons_zero]; exact rfl) (by simp [go_sem, simprocAttr, eDelta, eItem, eGraph, eObj, eVal, eCell, List.map_cons, List.map_nil, List.length_cons, List.length_nil, List.getElem?_cons_zero]) ?_)
  all_goals (first | refine CWops.guard 73 (by simp only [go_sem, simprocAttr, eDelta, eItem, eGraph, eObj, eVal, eCell, List.map_cons, List.map_nil, List.length_cons, List.length_nil, List.getElem?_cons_zero]; exact rfl) (fun g73 => ?_) (fun g73 => ?_) | skip)
  all_goals (first | (simp at g73; done) | (cases g73; done) | skip)
  all_goals (refine CWops.run htt 6 (by simp only [go_sem, simprocAttr, eDelta, eItem, eGraph, eObj, eVal, eCell, List.map_cons, List.map_nil, List.length_cons, List.length_nil, List.getElem?_cons_zero]; exact rfl) (by simp [go_sem, simprocAttr, eDelta, eItem, eGraph, eObj, eVal, eCell, List.map_cons, List.map_nil, List.length_cons, List.length_nil, List.getElem?_cons_zero]) ?_)
  all_goals (first | refine CWops.guard 79 (by simp only [go_sem, simprocAttr, eDelta, eItem, eGraph, eObj, eVal, eCell, List.map_cons, List.map_nil, List.length_cons, List.length_nil, List.getElem?_cons_zero]; exact rfl) (fun g79 => ?_) (fun g79 => ?_) | skip)
  all_goals (first | (simp at g79; done) | (cases g79; done) | skip)
  all_goals (refine CWops.run htt 11 (by simp only [go_sem, simprocAttr, eDelta, eItem, eGraph, eObj, eVal, eCell, List.map_cons, List.map_nil, List.length_cons, List.length_nil, List.getElem?_cons_zero]; exact rfl) (by simp [go_sem, simprocAttr, eDelta, eItem, eGraph, eObj, eVal, eCell, List.map_cons, List.map_nil, List.length_cons, List.length_nil, List.getElem?_cons_zero]) ?_)
  all_goals (first | refine CWops.guard 90 (by simp only [go_sem, simprocAttr, eDelta, eItem, eGraph, eObj, eVal, eCell, List.map_cons, List.map_nil, List.length_cons, List.length_nil, List.getElem?_cons_zero]; exact rfl) (fun g90 => ?_) (fun g90 => ?_) | skip)
  all_goals (first | (simp at g90; done) | (cases g90; done) | skip)
  all_goals (refine CWops.run htt 2 (by simp only [go_sem, simprocAttr, eDelta, eItem, eGraph, eObj, eVal, eCell, List.map_cons, List.map_nil, List.length_cons, List.length_nil, List.getElem?_cons_zero]; exact rfl) (by simp [go_sem, simprocAttr, eDelta, eItem, eGraph, eObj, eVal, eCell, List.map_cons, List.map_nil, List.length_cons, List.length_nil, List.getElem?_cons_zero]) ?_)
  all_goals (first | (refine CWops.skip ?_ ?_; next => (simp only [go_sem, simprocAttr]; done)) | (refine CWops.call (delta_Same up ⟨B2, R2, [⟨F2, T2, [c2]⟩]⟩ ⟨B2, R2, [⟨F2, T2, [c2]⟩]⟩) (by simp only [go_sem, simprocAttr, eDelta, eItem, eGraph, eObj, eVal, eCell, List.map_cons, List.map_nil, List.length_cons, List.length_nil, List.getElem?_cons_zero]) (by simp only [go_sem, simprocAttr, eDelta, eItem, eGraph, eObj, eVal, eCell, List.map_cons, List.map_nil, List.length_cons, List.length_nil, List.getElem?_cons_zero] <;> exact rfl) (by simp only [go_sem, simprocAttr, eDelta, eItem, eGraph, eObj, eVal, eCell, List.map_cons, List.map_nil, List.length_cons, List.length_nil, List.getElem?_cons_zero]) (fun rt93 hrt93 => ?_); subst hrt93; refine ⟨rfl, ?_⟩))
  all_goals (refine CWops.run htt 2 (by simp only [go_sem, simprocAttr, eDelta, eItem, eGraph, eObj, eVal, eCell, List.map_cons, List.map_nil, List.length_cons, List.length_nil, List.getElem?_cons_zero]; exact rfl) (by simp [go_sem, simprocAttr, eDelta, eItem, eGraph, eObj, eVal, eCell, List.map_cons, List.map_nil, List.length_cons, List.length_nil, List.getElem?_cons_zero]) ?_)
  all_goals (refine CWops.done ?_)
  all_goals (
    refine CW.ret ?_
    refine retQ.rt (by simp only [f5, go_sem, simprocAttr]; exact rfl) ?_
    refine ⟨_, ?_, rfl⟩
    first | (simp [leP]; done) | (simp_all [leP]; done))
end Go.Ab
namespace Go.Ab
open Go Go.Proofs.Tryz
open Nat (reduceEqDiff reduceAdd reduceLT reduceLeDiff reduceBEq reduceSub reduceMul)
open Int (reduceToNat)
set_option maxRecDepth 100000
theorem cmp_isNaN (up : Bool) (x : Int) : PCall prog up 153 [.int .i64 x] (· = .bool false) := by
  refine PCall.intro htt func153 (by kernel_rfl) rfl (Nat.le_of_ble_eq_true rfl) fun hl => ?_

  simp only [tmps0, Nat.reduceAdd]
  refine CW.seq ?_
  refine CW.rg ?_ -- r0
  refine CWops.run htt 1 (by simp only [go_sem, reduceIte, reduceCtorEq, reduceEqDiff, reduceAdd, reduceLT, reduceLeDiff, reduceToNat, reduceMul, reduceSub, Nat.reduceBEq, Int.reduceLE]; exact rfl) (by simp [go_sem, reduceIte, reduceCtorEq, reduceEqDiff, reduceAdd, reduceLT, reduceLeDiff, reduceToNat, reduceMul, reduceSub, Nat.reduceBEq, Int.reduceLE]) (.done ?_)
  refine CW.seq ?_
  refine CW.rg ?_ -- r1
  refine CWops.run htt 4 (by simp only [go_sem, reduceIte, reduceCtorEq, reduceEqDiff, reduceAdd, reduceLT, reduceLeDiff, reduceToNat, reduceMul, reduceSub, Nat.reduceBEq, Int.reduceLE]; exact rfl) (by simp [go_sem, reduceIte, reduceCtorEq, reduceEqDiff, reduceAdd, reduceLT, reduceLeDiff, reduceToNat, reduceMul, reduceSub, Nat.reduceBEq, Int.reduceLE]) (.done ?_)
  refine CW.ret ?_
  refine retQ.ret (by simp only [f153, go_sem, reduceIte, reduceCtorEq, reduceEqDiff, reduceAdd, reduceLT, reduceLeDiff, reduceToNat, reduceMul, reduceSub, Nat.reduceBEq, Int.reduceLE]; exact rfl) (by simp only [go_sem, reduceIte, reduceCtorEq, reduceEqDiff, reduceAdd, reduceLT, reduceLeDiff, reduceToNat, reduceMul, reduceSub, Nat.reduceBEq, Int.reduceLE]; exact rfl) ?_ -- ret1
  refine ⟨_, ?_, rfl⟩
  simp [leP]
theorem cmp_Less (up : Bool) (x y : Int) : PCall prog up 116 [.int .i64 x, .int .i64 y] (· = .bool (decide (x < y))) := by
  refine PCall.intro htt func116 (by kernel_rfl) rfl (Nat.le_of_ble_eq_true rfl) fun hl => ?_

  simp only [tmps0, Nat.reduceAdd]
  refine CW.seq ?_
  refine CW.rg ?_ -- r0
  refine CWops.run htt 1 (by simp only [go_sem, reduceIte, reduceCtorEq, reduceEqDiff, reduceAdd, reduceLT, reduceLeDiff, reduceToNat, reduceMul, reduceSub, Nat.reduceBEq, Int.reduceLE]; exact rfl) (by simp [go_sem, reduceIte, reduceCtorEq, reduceEqDiff, reduceAdd, reduceLT, reduceLeDiff, reduceToNat, reduceMul, reduceSub, Nat.reduceBEq, Int.reduceLE]) (.done ?_)
  refine CW.seq ?_
  refine CW.rg ?_ -- r1
  refine CWops.run htt 1 (by simp only [go_sem, reduceIte, reduceCtorEq, reduceEqDiff, reduceAdd, reduceLT, reduceLeDiff, reduceToNat, reduceMul, reduceSub, Nat.reduceBEq, Int.reduceLE]; exact rfl) (by simp [go_sem, reduceIte, reduceCtorEq, reduceEqDiff, reduceAdd, reduceLT, reduceLeDiff, reduceToNat, reduceMul, reduceSub, Nat.reduceBEq, Int.reduceLE]) ?_
  refine CWops.callA (cmp_isNaN up x) (by simp only [go_sem, reduceIte, reduceCtorEq, reduceEqDiff, reduceAdd, reduceLT, reduceLeDiff, reduceToNat, reduceMul, reduceSub, Nat.reduceBEq, Int.reduceLE]) (by simp only [go_sem, reduceIte, reduceCtorEq, reduceEqDiff, reduceAdd, reduceLT, reduceLeDiff, reduceToNat, reduceMul, reduceSub, Nat.reduceBEq, Int.reduceLE]; first | done | exact rfl) (by simp only [go_sem, reduceIte, reduceCtorEq, reduceEqDiff, reduceAdd, reduceLT, reduceLeDiff, reduceToNat, reduceMul, reduceSub, Nat.reduceBEq, Int.reduceLE]) (by simp only [go_sem, reduceIte, reduceCtorEq, reduceEqDiff, reduceAdd, reduceLT, reduceLeDiff, reduceToNat, reduceMul, reduceSub, Nat.reduceBEq, Int.reduceLE]) (fun rt6 hrt6 => ?_)
  subst hrt6
  refine CWops.run htt 1 (by simp only [go_sem, reduceIte, reduceCtorEq, reduceEqDiff, reduceAdd, reduceLT, reduceLeDiff, reduceToNat, reduceMul, reduceSub, Nat.reduceBEq, Int.reduceLE]; exact rfl) (by simp [go_sem, reduceIte, reduceCtorEq, reduceEqDiff, reduceAdd, reduceLT, reduceLeDiff, reduceToNat, reduceMul, reduceSub, Nat.reduceBEq, Int.reduceLE]) ?_
  all_goals (first | refine CWops.guard 7 (by simp only [go_sem, reduceIte, reduceCtorEq, reduceEqDiff, reduceAdd, reduceLT, reduceLeDiff, reduceToNat, reduceMul, reduceSub, Nat.reduceBEq, Int.reduceLE]; exact rfl) (fun g7 => ?_) (fun g7 => ?_) | skip)
  all_goals (try (cases g7; done))
  all_goals (refine CWops.run htt 1 (by simp only [go_sem, reduceIte, reduceCtorEq, reduceEqDiff, reduceAdd, reduceLT, reduceLeDiff, reduceToNat, reduceMul, reduceSub, Nat.reduceBEq, Int.reduceLE]; exact rfl) (by simp [go_sem, reduceIte, reduceCtorEq, reduceEqDiff, reduceAdd, reduceLT, reduceLeDiff, reduceToNat, reduceMul, reduceSub, Nat.reduceBEq, Int.reduceLE]) ?_)
  all_goals (first | (refine CWops.skip ?_ ?_; next => (simp only [go_sem, reduceIte, reduceCtorEq, reduceEqDiff, reduceAdd, reduceLT, reduceLeDiff, reduceToNat, reduceMul, reduceSub, Nat.reduceBEq, Int.reduceLE]; done)) | (refine CWops.callA (cmp_isNaN up y) (by simp only [go_sem, reduceIte, reduceCtorEq, reduceEqDiff, reduceAdd, reduceLT, reduceLeDiff, reduceToNat, reduceMul, reduceSub, Nat.reduceBEq, Int.reduceLE]) (by simp only [go_sem, reduceIte, reduceCtorEq, reduceEqDiff, reduceAdd, reduceLT, reduceLeDiff, reduceToNat, reduceMul, reduceSub, Nat.reduceBEq, Int.reduceLE]; first | done | exact rfl) (by simp only [go_sem, reduceIte, reduceCtorEq, reduceEqDiff, reduceAdd, reduceLT, reduceLeDiff, reduceToNat, reduceMul, reduceSub, Nat.reduceBEq, Int.reduceLE]) (by simp only [go_sem, reduceIte, reduceCtorEq, reduceEqDiff, reduceAdd, reduceLT, reduceLeDiff, reduceToNat, reduceMul, reduceSub, Nat.reduceBEq, Int.reduceLE]) (fun rt9 hrt9 => ?_); subst hrt9))
  all_goals (refine CWops.run htt 3 (by simp only [go_sem, reduceIte, reduceCtorEq, reduceEqDiff, reduceAdd, reduceLT, reduceLeDiff, reduceToNat, reduceMul, reduceSub, Nat.reduceBEq, Int.reduceLE]; exact rfl) (by simp [go_sem, reduceIte, reduceCtorEq, reduceEqDiff, reduceAdd, reduceLT, reduceLeDiff, reduceToNat, reduceMul, reduceSub, Nat.reduceBEq, Int.reduceLE]) ?_)
  all_goals (first | refine CWops.guard 12 (by simp only [go_sem, reduceIte, reduceCtorEq, reduceEqDiff, reduceAdd, reduceLT, reduceLeDiff, reduceToNat, reduceMul, reduceSub, Nat.reduceBEq, Int.reduceLE]; exact rfl) (fun g12 => ?_) (fun g12 => ?_) | skip)
  all_goals (try (cases g12; done))
  all_goals (refine CWops.run htt 5 (by simp only [go_sem, reduceIte, reduceCtorEq, reduceEqDiff, reduceAdd, reduceLT, reduceLeDiff, reduceToNat, reduceMul, reduceSub, Nat.reduceBEq, Int.reduceLE]; exact rfl) (by simp [go_sem, reduceIte, reduceCtorEq, reduceEqDiff, reduceAdd, reduceLT, reduceLeDiff, reduceToNat, reduceMul, reduceSub, Nat.reduceBEq, Int.reduceLE]) ?_)
  all_goals (refine CWops.done ?_)
  all_goals (
    refine CW.ret ?_
    refine retQ.ret (by simp only [f116, go_sem, reduceIte, reduceCtorEq, reduceEqDiff, reduceAdd, reduceLT, reduceLeDiff, reduceToNat, reduceMul, reduceSub, Nat.reduceBEq, Int.reduceLE]; exact rfl) (by simp only [go_sem, reduceIte, reduceCtorEq, reduceEqDiff, reduceAdd, reduceLT, reduceLeDiff, reduceToNat, reduceMul, reduceSub, Nat.reduceBEq, Int.reduceLE]; exact rfl) ?_ -- ret1
    refine ⟨_, ?_, rfl⟩
    simp [leP])
theorem insertionSort (up : Bool) (l : List Int) (hl : l.length < 1000) : GCallH prog up 110 [.ref 0 [] 0, .int .i64 0, .int .i64 l.length] 1 [(0, ⟨false, [.own 1 (l.map eI)]⟩)] [0] (fun _ σ' => ∃ m, σ'.n = 1 ∧ σ'.s = [(0, ⟨false, [.own 1 (m.map eI)]⟩)] ∧ Sorted l m) := by
  refine GCallH.intro htt 1 func110 (by kernel_rfl) rfl (Nat.le_of_ble_eq_true rfl) (CW.told ?_)
  have w1 : IntKind.i64.wrap ((0 : Int) + 1) = ((1 : Nat) : Int) := by decide
  simp only [tmps0, Nat.reduceAdd]
  refine CW.seq ?_
  refine CW.rg ?_ -- r0
  refine CWops.run htt 3 (by simp only [go_sem, reduceIte, reduceCtorEq, reduceEqDiff, reduceAdd, reduceLT, reduceLeDiff, reduceToNat, reduceMul, reduceSub, Nat.reduceBEq, Int.reduceLE, w1]; exact rfl) (by simp [go_sem, reduceIte, reduceCtorEq, reduceEqDiff, reduceAdd, reduceLT, reduceLeDiff, reduceToNat, reduceMul, reduceSub, Nat.reduceBEq, Int.reduceLE, w1]) (.done ?_)
  refine CW.block ?_
  refine CW.loop (S := Nat × List Int) (fun p => ⟨1, [(0, .ref 0 [] 0), (1, .int .i64 0), (2, .int .i64 l.length), (6, .int .i64 p.1)], [(0, ⟨false, [.own 1 (p.2.map eI)]⟩)]⟩) (fun p => UpTo p.2 p.1 ∧ p.2.Perm l ∧ 1 ≤ p.1) (fun p => l.length - p.1) ((1, l)) ?_ ⟨fun p q x y h1 h2 => by omega, List.Perm.refl l, Nat.le_refl 1⟩ (fun ⟨i, m⟩ ⟨h1, h2, h3⟩ => ?_)
  · refine Sh.wk0 ?_; simp [Wk, go_sem, reduceIte, reduceCtorEq, reduceEqDiff, reduceAdd, reduceLT, reduceLeDiff, reduceToNat, reduceMul, reduceSub, Nat.reduceBEq, Int.reduceLE]
  refine CW.seq (.seq ?_)
  refine CW.rg ?_ -- r1
  refine CWops.run htt 3 (by simp only [go_sem, reduceIte, reduceCtorEq, reduceEqDiff, reduceAdd, reduceLT, reduceLeDiff, reduceToNat, reduceMul, reduceSub, Nat.reduceBEq, Int.reduceLE]; exact rfl) (by simp [go_sem, reduceIte, reduceCtorEq, reduceEqDiff, reduceAdd, reduceLT, reduceLeDiff, reduceToNat, reduceMul, reduceSub, Nat.reduceBEq, Int.reduceLE]) (.done ?_)
  refine CW.cond (by simp only [go_sem, reduceIte, reduceCtorEq, reduceEqDiff, reduceAdd, reduceLT, reduceLeDiff, reduceToNat, reduceMul, reduceSub, Nat.reduceBEq, Int.reduceLE]; first | done | exact rfl) (fun ct12 => ?_) (fun ct12 => ?_)
  · have hi : i < l.length := by simpa using ct12
    refine CW.skip ?_
    refine CW.seq ?_
    refine CW.block ?_
    refine CW.seq ?_
    refine CW.rg ?_ -- r3
    refine CWops.run htt 2 (by simp only [go_sem, reduceIte, reduceCtorEq, reduceEqDiff, reduceAdd, reduceLT, reduceLeDiff, reduceToNat, reduceMul, reduceSub, Nat.reduceBEq, Int.reduceLE]; exact rfl) (by simp [go_sem, reduceIte, reduceCtorEq, reduceEqDiff, reduceAdd, reduceLT, reduceLeDiff, reduceToNat, reduceMul, reduceSub, Nat.reduceBEq, Int.reduceLE]) (.done ?_)
    refine CW.block ?_
    refine CW.loop (S := Nat × List Int) (fun p => ⟨1, [(0, .ref 0 [] 0), (1, .int .i64 0), (2, .int .i64 l.length), (6, .int .i64 i), (7, .int .i64 p.1)], [(0, ⟨false, [.own 1 (p.2.map eI)]⟩)]⟩) (fun p => Ins p.2 i p.1 ∧ p.2.Perm l ∧ p.1 ≤ i) (fun p => p.1) ((i, m)) ?_ ⟨Ins.start h1, h2, Nat.le_refl i⟩ (fun ⟨j, mm⟩ ⟨k1, k2, k3⟩ => ?_)
    · refine Sh.wk0 ?_; simp [Wk, go_sem, reduceIte, reduceCtorEq, reduceEqDiff, reduceAdd, reduceLT, reduceLeDiff, reduceToNat, reduceMul, reduceSub, Nat.reduceBEq, Int.reduceLE]
    refine CW.seq ?_
    refine CW.cut ⟨1, [(0, .ref 0 [] 0), (1, .int .i64 0), (2, .int .i64 l.length), (6, .int .i64 i), (7, .int .i64 j), (30, .bool (lessAt mm j))], [(0, ⟨false, [.own 1 (mm.map eI)]⟩)]⟩ ?_ ?_
    · have hml : mm.length = l.length := k2.length_eq
      simp only at k3
      obtain ⟨k, a, b, hjab⟩ : ∃ k a b, (j = 0 ∧ True ∧ True ∧ True ∧ True ∧ True) ∨ (j = k + 1 ∧ mm[k]? = some a ∧ mm[k + 1]? = some b ∧ IntKind.i64.wrap (((k + 1 : Nat) : Int) - 1) = (k : Int) ∧ k < mm.length ∧ k + 1 < mm.length) := by
        rcases j with _ | k
        · exact ⟨0, 0, 0, .inl ⟨rfl, trivial, trivial, trivial, trivial, trivial⟩⟩
        · exact ⟨k, mm[k], mm[k + 1], .inr ⟨rfl, List.getElem?_eq_getElem (by omega), List.getElem?_eq_getElem (by omega), by rw [wrap_id (by omega) (by omega)]; omega, by omega, by omega⟩⟩
      rcases hjab with ⟨rfl, ha, hb, hw, hja, hjb⟩ | ⟨rfl, ha, hb, hw, hja, hjb⟩
      all_goals (refine CW.drawn mixed 13 (by decide) (by kernel_rfl) (by kernel_rfl) (by kernel_rfl) ?_) -- r4
      all_goals (refine Seg.run htt 4 (by simp only [go_sem, reduceIte, reduceCtorEq, reduceEqDiff, reduceAdd, reduceLT, reduceLeDiff, reduceToNat, reduceMul, reduceSub, Nat.reduceBEq, Int.reduceLE, ha, hb, hw, hja, hjb, List.length_map, eI]; exact rfl) ?_)
      all_goals (first | refine Seg.guard 19 (by simp only [go_sem, reduceIte, reduceCtorEq, reduceEqDiff, reduceAdd, reduceLT, reduceLeDiff, reduceToNat, reduceMul, reduceSub, Nat.reduceBEq, Int.reduceLE, ha, hb, hw, hja, hjb, List.length_map, eI]; exact rfl) (fun g19 => ?_) (fun g19 => ?_) | skip)
      all_goals (first | (simp at g19; done) | (exfalso; simp at g19 <;> omega) | skip)
      all_goals (refine Seg.run htt 9 (by simp only [go_sem, reduceIte, reduceCtorEq, reduceEqDiff, reduceAdd, reduceLT, reduceLeDiff, reduceToNat, reduceMul, reduceSub, Nat.reduceBEq, Int.reduceLE, ha, hb, hw, hja, hjb, List.length_map, eI]; exact rfl) ?_)
      all_goals (refine Seg.done ?_)
      all_goals (first | (refine CWops.skip ?_ ?_; next => (simp only [go_sem, reduceIte, reduceCtorEq, reduceEqDiff, reduceAdd, reduceLT, reduceLeDiff, reduceToNat, reduceMul, reduceSub, Nat.reduceBEq, Int.reduceLE]; done)) | (refine CWops.callA (cmp_Less up b a) (by simp only [go_sem, reduceIte, reduceCtorEq, reduceEqDiff, reduceAdd, reduceLT, reduceLeDiff, reduceToNat, reduceMul, reduceSub, Nat.reduceBEq, Int.reduceLE, ha, hb, hw, hja, hjb, List.length_map, eI]) (by simp only [go_sem, reduceIte, reduceCtorEq, reduceEqDiff, reduceAdd, reduceLT, reduceLeDiff, reduceToNat, reduceMul, reduceSub, Nat.reduceBEq, Int.reduceLE, ha, hb, hw, hja, hjb, List.length_map, eI]; first | done | exact rfl) (by simp only [go_sem, reduceIte, reduceCtorEq, reduceEqDiff, reduceAdd, reduceLT, reduceLeDiff, reduceToNat, reduceMul, reduceSub, Nat.reduceBEq, Int.reduceLE, ha, hb, hw, hja, hjb, List.length_map, eI]) (by simp only [go_sem, reduceIte, reduceCtorEq, reduceEqDiff, reduceAdd, reduceLT, reduceLeDiff, reduceToNat, reduceMul, reduceSub, Nat.reduceBEq, Int.reduceLE, ha, hb, hw, hja, hjb, List.length_map, eI]) (fun rt29 hrt29 => ?_); subst hrt29))
      all_goals (refine CWops.run htt 1 (by simp only [go_sem, reduceIte, reduceCtorEq, reduceEqDiff, reduceAdd, reduceLT, reduceLeDiff, reduceToNat, reduceMul, reduceSub, Nat.reduceBEq, Int.reduceLE, ha, hb, hw, hja, hjb, List.length_map, eI]; exact rfl) (by simp [go_sem, reduceIte, reduceCtorEq, reduceEqDiff, reduceAdd, reduceLT, reduceLeDiff, reduceToNat, reduceMul, reduceSub, Nat.reduceBEq, Int.reduceLE, ha, hb, hw, hja, hjb, List.length_map, eI]) ?_)
      all_goals (refine CWops.done ?_)
      all_goals (
        first | refine ⟨rfl, Sh.wk0 ?_⟩ | refine Sh.wk0 ?_
        first | (simp [Wk, go_sem, reduceIte, reduceCtorEq, reduceEqDiff, reduceAdd, reduceLT, reduceLeDiff, reduceToNat, reduceMul, reduceSub, Nat.reduceBEq, Int.reduceLE, lessAt]; done) | (simp [Wk, go_sem, reduceIte, reduceCtorEq, reduceEqDiff, reduceAdd, reduceLT, reduceLeDiff, reduceToNat, reduceMul, reduceSub, Nat.reduceBEq, Int.reduceLE, lessAt, ha, hb]; done) | skip)
    refine CW.cond (by simp only [go_sem, reduceIte, reduceCtorEq, reduceEqDiff, reduceAdd, reduceLT, reduceLeDiff, reduceToNat, reduceMul, reduceSub, Nat.reduceBEq, Int.reduceLE]; first | done | exact rfl) (fun ct30 => ?_) (fun ct30 => ?_)
    · obtain ⟨j, a, b, rfl, ha, hb, hab⟩ := lessAt_true ct30
      have hw : IntKind.i64.wrap (((j + 1 : Nat) : Int) - 1) = (j : Int) := by rw [wrap_id (by omega) (by omega)]; omega
      have hja := (List.getElem?_eq_some_iff.1 ha).1
      have hjb := (List.getElem?_eq_some_iff.1 hb).1
      have hr2 : ((List.map eI mm).set (j + 1) [AV.int .i64 a])[j]? = some [AV.int .i64 a] := by rw [List.getElem?_set_ne (by omega), List.getElem?_map, ha]; rfl
      refine CW.skip ?_
      refine CW.seq ?_
      refine CW.block ?_
      refine CW.drawnF mixed 15 16 [2, 3, 4] (D := [35, 36, 37]) (by decide) (by decide) (by kernel_rfl) (by kernel_rfl) rfl (by kernel_rfl) (by kernel_rfl) ?_ -- r6
      refine Seg.run htt 15 (by simp only [go_sem, reduceIte, reduceCtorEq, reduceEqDiff, reduceAdd, reduceLT, reduceLeDiff, reduceToNat, reduceMul, reduceSub, Nat.reduceBEq, Int.reduceLE, ha, hb, hw, hja, hjb, List.length_map, eI, hr2, List.length_set]; exact rfl) ?_
      refine Seg.done ?_
      refine Mid.sto htt (Flo.cons htt rfl rfl (by simp only [go_sem, reduceIte, reduceCtorEq, reduceEqDiff, reduceAdd, reduceLT, reduceLeDiff, reduceToNat, reduceMul, reduceSub, Nat.reduceBEq, Int.reduceLE, ha, hb, hw, hja, hjb, List.length_map, eI, hr2, List.length_set]; first | done | exact rfl) (Flo.cons htt rfl rfl (by simp only [go_sem, reduceIte, reduceCtorEq, reduceEqDiff, reduceAdd, reduceLT, reduceLeDiff, reduceToNat, reduceMul, reduceSub, Nat.reduceBEq, Int.reduceLE, ha, hb, hw, hja, hjb, List.length_map, eI, hr2, List.length_set]; first | done | exact rfl) (Flo.cons htt rfl rfl (by simp only [go_sem, reduceIte, reduceCtorEq, reduceEqDiff, reduceAdd, reduceLT, reduceLeDiff, reduceToNat, reduceMul, reduceSub, Nat.reduceBEq, Int.reduceLE, ha, hb, hw, hja, hjb, List.length_map, eI, hr2, List.length_set]; first | done | exact rfl) (Flo.nil)))) (fun u => by simp only [go_sem, reduceIte, reduceCtorEq, reduceEqDiff, reduceAdd, reduceLT, reduceLeDiff, reduceToNat, reduceMul, reduceSub, Nat.reduceBEq, Int.reduceLE, ha, hb, hw, hja, hjb, List.length_map, eI, hr2, List.length_set]; exact rfl) ?_
      refine Mid.done (Flo.cons htt rfl rfl (by simp only [go_sem, reduceIte, reduceCtorEq, reduceEqDiff, reduceAdd, reduceLT, reduceLeDiff, reduceToNat, reduceMul, reduceSub, Nat.reduceBEq, Int.reduceLE, ha, hb, hw, hja, hjb, List.length_map, eI, hr2, List.length_set]; first | done | exact rfl) (Flo.cons htt rfl rfl (by simp only [go_sem, reduceIte, reduceCtorEq, reduceEqDiff, reduceAdd, reduceLT, reduceLeDiff, reduceToNat, reduceMul, reduceSub, Nat.reduceBEq, Int.reduceLE, ha, hb, hw, hja, hjb, List.length_map, eI, hr2, List.length_set]; first | done | exact rfl) (Flo.cons htt rfl rfl (by simp only [go_sem, reduceIte, reduceCtorEq, reduceEqDiff, reduceAdd, reduceLT, reduceLeDiff, reduceToNat, reduceMul, reduceSub, Nat.reduceBEq, Int.reduceLE, ha, hb, hw, hja, hjb, List.length_map, eI, hr2, List.length_set]; first | done | exact rfl) (Flo.nil)))) ?_
      refine CWops.run htt 2 (by simp only [go_sem, reduceIte, reduceCtorEq, reduceEqDiff, reduceAdd, reduceLT, reduceLeDiff, reduceToNat, reduceMul, reduceSub, Nat.reduceBEq, Int.reduceLE, ha, hb, hw, hja, hjb, List.length_map, eI, hr2, List.length_set]; exact rfl) (by simp [go_sem, reduceIte, reduceCtorEq, reduceEqDiff, reduceAdd, reduceLT, reduceLeDiff, reduceToNat, reduceMul, reduceSub, Nat.reduceBEq, Int.reduceLE, ha, hb, hw, hja, hjb, List.length_map, eI, hr2, List.length_set]) (.done ?_)
      refine CW.rg ?_ -- r5
      refine CWops.run htt 3 (by simp only [go_sem, reduceIte, reduceCtorEq, reduceEqDiff, reduceAdd, reduceLT, reduceLeDiff, reduceToNat, reduceMul, reduceSub, Nat.reduceBEq, Int.reduceLE, hw]; exact rfl) (by simp [go_sem, reduceIte, reduceCtorEq, reduceEqDiff, reduceAdd, reduceLT, reduceLeDiff, reduceToNat, reduceMul, reduceSub, Nat.reduceBEq, Int.reduceLE, hw]) (.done ?_)
      refine ⟨(j, swp mm j a b), ?_, ?_, ?_⟩
      · refine Sh.wk0 ?_; simp [Wk, go_sem, reduceIte, reduceCtorEq, reduceEqDiff, reduceAdd, reduceLT, reduceLeDiff, reduceToNat, reduceMul, reduceSub, Nat.reduceBEq, Int.reduceLE, swp, set_I]; first | done | rfl
      · exact ⟨k1.step k3 ha hb hab, (swp_perm ha hb).trans k2, by simp only at k3 ⊢; omega⟩
      · simp only; omega
    · refine CW.exit ?_
      refine CW.rg ?_ -- r2
      refine CWops.run htt 3 (by simp only [go_sem, reduceIte, reduceCtorEq, reduceEqDiff, reduceAdd, reduceLT, reduceLeDiff, reduceToNat, reduceMul, reduceSub, Nat.reduceBEq, Int.reduceLE, wrap_succ (show i < MX by unfold MX; omega)]; exact rfl) (by simp [go_sem, reduceIte, reduceCtorEq, reduceEqDiff, reduceAdd, reduceLT, reduceLeDiff, reduceToNat, reduceMul, reduceSub, Nat.reduceBEq, Int.reduceLE, wrap_succ (show i < MX by unfold MX; omega)]) (.done ?_)
      refine ⟨(i + 1, mm), ?_, ?_, ?_⟩
      · refine Sh.wk0 ?_; simp [Wk, go_sem, reduceIte, reduceCtorEq, reduceEqDiff, reduceAdd, reduceLT, reduceLeDiff, reduceToNat, reduceMul, reduceSub, Nat.reduceBEq, Int.reduceLE]
      · exact ⟨lessAt_false ct30 k1 k3 (by rw [k2.length_eq]; exact hi), k2, by simp only; omega⟩
      · simp only; omega
  · have hi : l.length ≤ i := by simpa using ct12
    refine CW.exit ?_
    refine ⟨⟨1, [(0, .ref 0 [] 0)], [(0, ⟨false, [.own 1 (m.map eI)]⟩)]⟩, ?_, .inl rfl, ⟨by simp [ptrOK, go_sem, reduceIte, reduceCtorEq, reduceEqDiff, reduceAdd, reduceLT, reduceLeDiff, reduceToNat, reduceMul, reduceSub, Nat.reduceBEq, Int.reduceLE], (by refine ⟨⟨0, by decide, rfl, by simp only [go_sem, reduceIte, reduceCtorEq, reduceEqDiff, reduceAdd, reduceLT, reduceLeDiff, reduceToNat, reduceMul, reduceSub, Nat.reduceBEq, Int.reduceLE], rfl⟩, trivial⟩)⟩, _, by simp only [f110, go_sem, reduceIte, reduceCtorEq, reduceEqDiff, reduceAdd, reduceLT, reduceLeDiff, reduceToNat, reduceMul, reduceSub, Nat.reduceBEq, Int.reduceLE]; exact rfl, ?_⟩ -- end
    · refine Sh.wk0 ?_
      simp [Wk, go_sem, reduceIte, reduceCtorEq, reduceEqDiff, reduceAdd, reduceLT, reduceLeDiff, reduceToNat, reduceMul, reduceSub, Nat.reduceBEq, Int.reduceLE]
    · exact ⟨m, rfl, rfl, upTo_pairwise (fun p q x y a b => h1 p q x y a (by rw [h2.length_eq] at b; omega)), h2⟩
end Go.Ab
namespace Go.Ab
open Go Go.Proofs.Tryz
set_option maxRecDepth 100000
theorem bits_Len64 (up : Bool) (n : Nat) (hn : n < 256) : PCall prog up 120 [.int .u64 n] (fun r => ∃ m : Int, r = .int .i64 m) := by
  refine PCall.intro htt func120 (by kernel_rfl) rfl (Nat.le_of_ble_eq_true rfl) fun hl => ?_
  have hwu : IntKind.u8.wrap (n : Int) = (n : Int) := by
    simp only [IntKind.wrap, IntKind.bits, IntKind.signed]
    simp
    omega
  have hMX : (256 ≤ MX) = True := eq_true (by decide)
  simp only [tmps0, Nat.reduceAdd]
  refine CW.seq (.rg (.rn htt 1 (.done ?_)))
  refine CW.seq (.seq (.rg (.rn htt 2 (.done ?_))))
  refine CW.cd (fun ct4 => ?_) (fun ct4 => ?_)
  · exfalso; simp at ct4; omega 
  · refine CW.skip ?_
    refine CW.seq (.seq (.rg (.rn htt 2 (.done ?_))))
    refine CW.cd (fun ct8 => ?_) (fun ct8 => ?_)
    · exfalso; simp at ct8; omega 
    · refine CW.skip ?_
      refine CW.seq (.seq (.rg (.rn htt 2 (.done ?_))))
      refine CW.cd (fun ct14 => ?_) (fun ct14 => ?_)
      · exfalso; simp at ct14; omega 
      · refine CW.skip ?_
        refine CW.seq (.rg (.rn htt 2 ?_))
        refine CWops.conv (n := (n : Int)) (k := .u64) (k' := .u8) htt (by simp only [go_sem, simprocAttr]) tt_112 rfl tt_5 rfl (by simp only [go_sem, simprocAttr]) ?_
        rw [hwu]
        refine CWops.strAt (q := n) (k := .u8) htt (by simp only [go_sem, simprocAttr]) tt_9 rfl (by simp only [go_sem, simprocAttr, hMX] <;> exact rfl) (by simp only [go_sem, simprocAttr]) (by exact hn) (fun c => ?_)
        refine CWops.conv (n := (c.toNat : Int)) (k := .u8) (k' := .i64) htt (by simp only [go_sem, simprocAttr]) tt_5 rfl tt_3 rfl (by simp only [go_sem, simprocAttr]) ?_
        refine CWops.rn htt 2 (.done ?_)
        refine CW.ret ?_
        refine retQ.rt (by simp only [f120, go_sem, simprocAttr]; exact rfl) ?_
        exact ⟨_, leP_refl _, _, rfl⟩
theorem bits_Len (up : Bool) (n : Nat) (hn : n < 256) : PCall prog up 73 [.int .u64 n] (fun r => ∃ m : Int, r = .int .i64 m) := by
  refine PCall.intro htt func73 (by kernel_rfl) rfl (Nat.le_of_ble_eq_true rfl) fun hl => ?_

  simp only [tmps0, Nat.reduceAdd]
  refine CW.seq (.rg (.rn htt 1 (.done ?_)))
  refine CW.seq ?_
  refine CW.cd (fun cK => ?_) (fun cK => ?_)
  · cases cK 
  · refine CW.skip ?_
    refine CW.seq (.rg (.rn htt 1 ?_))
    refine CWops.callA (bits_Len64 up n hn) (by simp only [go_sem, simprocAttr]) (by simp only [go_sem, simprocAttr] <;> exact rfl) (by simp only [go_sem, simprocAttr]) (by simp only [go_sem, simprocAttr]) (fun rt7 hrt7 => ?_)
    obtain ⟨m7, rfl⟩ := hrt7
    refine CWops.rn htt 1 (.done ?_)
    refine CW.ret ?_
    refine retQ.rt (by simp only [f73, go_sem, simprocAttr]; exact rfl) ?_
    exact ⟨_, leP_refl _, _, rfl⟩
theorem pdqsort (up : Bool) (l : List Int) (lim : Int) (hl : l.length < 13) : GCallH prog up 72 [.ref 0 [] 0, .int .i64 0, .int .i64 l.length, .int .i64 lim] 1 [(0, ⟨false, [.own 1 (l.map eI)]⟩)] [0] (fun _ σ' => ∃ m, σ'.n = 1 ∧ σ'.s = [(0, ⟨false, [.own 1 (m.map eI)]⟩)] ∧ Sorted l m) := by
  refine GCallH.intro htt 1 func72 (by kernel_rfl) rfl (Nat.le_of_ble_eq_true rfl) (CW.told ?_)
  have hw : IntKind.i64.wrap ((l.length : Int) - 0) = (l.length : Int) := by rw [wrap_id (by omega) (by omega)]; omega
  simp only [tmps0, Nat.reduceAdd]
  refine CW.seq (.rg (.rn htt 1 (.done ?_)))
  refine CW.seq (.rg (.rn htt 1 (.done ?_)))
  refine CW.block ?_
  refine CW.loop (S := Unit) (fun u => ⟨1, [(0, .ref 0 [] 0), (1, .int .i64 0), (2, .int .i64 l.length)], [(0, ⟨false, [.own 1 (l.map eI)]⟩)]⟩) (fun u => True) (fun u => 0) (()) ?_ trivial (fun _ _ => ?_)
  · refine Sh.wk0 ?_; simp [Wk, go_sem, simprocAttr]
  refine CW.block ?_
  refine CW.seq (.rg (.run htt 4 (by simp only [go_sem, simprocAttr, hw]; exact rfl) (by simp [go_sem, simprocAttr, hw]) (.done ?_)))
  refine CW.seq (.seq (.rg (.rn htt 2 (.done ?_))))
  refine CW.cd (fun ct23 => ?_) (fun ct23 => ?_)
  · refine CW.seq (.rg (.rn htt 3 ?_))
    refine CWops.callGH [0] rfl (insertionSort up l (by omega)) (by decide) (by simp only [go_sem, simprocAttr]) (by simp only [go_sem, simprocAttr] <;> exact rfl) (by decide) (by simp [go_sem, simprocAttr, mName, memB]) (by simp [go_sem, simprocAttr, mName]) (by simp [go_sem, simprocAttr]) (by simp [go_sem, simprocAttr]) (by simp [go_sem, simprocAttr, mName]) (fun r σ' hσ => ?_)
    obtain ⟨σn, σt, σs⟩ := σ'
    simp only at hσ
    obtain ⟨m, rfl, rfl, hm2⟩ := hσ
    simp only [aftH, renS, List.map_cons, List.map_nil, delAll, memB, mName, List.getD_nil, killH, kref, ren, Nat.beq_eq, go_sem, simprocAttr]
    refine CWops.done ?_
    refine CW.ret ?_
    refine ⟨⟨1, [(0, .ref 0 [] 0)], [(0, ⟨false, [.own 1 (m.map eI)]⟩)]⟩, ?_, .inr rfl, ⟨by simp [ptrOK, go_sem, simprocAttr], (by refine ⟨⟨0, by decide, rfl, by simp only [go_sem, simprocAttr], rfl⟩, trivial⟩)⟩, _, by simp only [f72, go_sem, simprocAttr]; exact rfl, ?_⟩
    · refine Sh.wk0 ?_
      simp [Wk, go_sem, simprocAttr]
    · exact ⟨m, rfl, rfl, hm2⟩
  · exfalso; simp at ct23; omega
theorem slices_Sort (up : Bool) (l : List Int) (hl : l.length < 13) : GCallH prog up 32 [.ref 0 [] 0] 1 [(0, ⟨false, [.own 1 (l.map eI)]⟩)] [0] (fun _ σ' => ∃ m, σ'.n = 1 ∧ σ'.s = [(0, ⟨false, [.own 1 (m.map eI)]⟩)] ∧ Sorted l m) := by
  refine GCallH.intro htt 1 func32 (by kernel_rfl) rfl (Nat.le_of_ble_eq_true rfl) (CW.told ?_)
  have hw : IntKind.u64.wrap (l.length : Int) = (l.length : Int) := by
    simp only [IntKind.wrap, IntKind.bits, IntKind.signed]
    simp
    omega
  simp only [tmps0, Nat.reduceAdd]
  refine CW.seq (.rg (.rn htt 3 (.done ?_)))
  refine CW.rg (.rn htt 3 ?_)
  refine CWops.conv (n := (l.length : Int)) (k := .i64) (k' := .u64) htt (by simp only [go_sem, simprocAttr]) tt_3 rfl tt_117 rfl (by simp only [go_sem, simprocAttr, List.length_map] <;> exact rfl) ?_
  rw [hw]
  refine CWops.callA (bits_Len up l.length (by omega)) (by simp only [go_sem, simprocAttr]) (by simp only [go_sem, simprocAttr] <;> exact rfl) (by simp only [go_sem, simprocAttr]) (by simp only [go_sem, simprocAttr]) (fun rt9 hrt9 => ?_)
  obtain ⟨lim, rfl⟩ := hrt9
  refine CWops.callGH [0] rfl (pdqsort up l lim hl) (by decide) (by simp only [go_sem, simprocAttr]) (by simp only [go_sem, simprocAttr] <;> exact rfl) (by decide) (by simp [go_sem, simprocAttr, mName, memB]) (by simp [go_sem, simprocAttr, mName]) (by simp [go_sem, simprocAttr]) (by simp [go_sem, simprocAttr]) (by simp [go_sem, simprocAttr, mName]) (fun r σ' hσ => ?_)
  obtain ⟨σn, σt, σs⟩ := σ'
  simp only at hσ
  obtain ⟨m, rfl, rfl, hm2⟩ := hσ
  simp only [aftH, renS, List.map_cons, List.map_nil, delAll, memB, mName, List.getD_nil, killH, kref, ren, Nat.beq_eq, go_sem, simprocAttr]
  refine CWops.done ?_
  refine ⟨⟨1, [(0, .ref 0 [] 0)], [(0, ⟨false, [.own 1 (m.map eI)]⟩)]⟩, ?_, .inl rfl, ⟨by simp [ptrOK, go_sem, simprocAttr], (by refine ⟨⟨0, by decide, rfl, by simp only [go_sem, simprocAttr], rfl⟩, trivial⟩)⟩, _, by simp only [f32, go_sem, simprocAttr]; exact rfl, ?_⟩ -- end
  · refine Sh.wk0 ?_
    simp [Wk, go_sem, simprocAttr]
  · exact ⟨m, rfl, rfl, hm2⟩
@[go_sem] theorem tt_69 : tiOf prog 69 = some ⟨.map 3 4, 1, 8, [.nilmap], false⟩ := by kernel_rfl
@[go_sem] theorem tt_70 : tiOf prog 70 = some ⟨.func, 1, 8, [.nilfunc], false⟩ := by kernel_rfl
theorem come_in (up : Bool) (g : Graph) (l : List Int) (id : Int) (hin : id = -1 ∨ id ∈ l) : GCall prog up 31 [.int .i64 id, .lv 0 [] 0, .lv 1 [] 0, .lv 2 [] 0, .lv 3 [] 0] 4 [(0, ⟨true, [.omap (wasMap (l))]⟩), (1, ⟨true, [.own 1 (List.map eI (l))]⟩), (2, ⟨true, eGraph g⟩), (3, ⟨true, [.func (.func 31) [] [.lv 0 [] 0, .lv 1 [] 0, .lv 2 [] 0, .lv 3 [] 0]]⟩)] (fun _ σ' => ∃ t, σ' = ⟨4, t, [(0, ⟨true, [.omap (wasMap (l))]⟩), (1, ⟨true, [.own 1 (List.map eI (l))]⟩), (2, ⟨true, eGraph g⟩), (3, ⟨true, [.func (.func 31) [] [.lv 0 [] 0, .lv 1 [] 0, .lv 2 [] 0, .lv 3 [] 0]]⟩)]⟩) := by
  refine GCall.intro htt 5 func31 (by kernel_rfl) rfl (Nat.le_of_ble_eq_true rfl) (CW.told ?_)

  simp only [tmps0, Nat.reduceAdd]
  refine CW.seq (.seq (.rg (.run htt 3 (by simp only [go_sem, simprocAttr, maplk_was, if_pos hin]; exact rfl) (by simp [go_sem, simprocAttr, maplk_was, if_pos hin]) (.done ?_))))
  refine CW.cd (fun ct11 => ?_) (fun ct11 => ?_)
  · refine CW.ret ?_
    refine ⟨⟨4, [(0, .int .i64 id), (1, .lv 0 [] 0), (2, .lv 1 [] 0), (3, .lv 2 [] 0), (4, .lv 3 [] 0)], [(0, ⟨true, [.omap (wasMap (l))]⟩), (1, ⟨true, [.own 1 (List.map eI (l))]⟩), (2, ⟨true, eGraph g⟩), (3, ⟨true, [.func (.func 31) [] [.lv 0 [] 0, .lv 1 [] 0, .lv 2 [] 0, .lv 3 [] 0]]⟩)]⟩, ?_, .inr rfl, by (simp [ptrOK, go_sem, simprocAttr]; exact ⟨⟨1, by simp⟩, ⟨2, by simp⟩, ⟨3, by simp⟩, ⟨4, by simp⟩⟩), _, by simp only [f31, go_sem, simprocAttr]; exact rfl, ?_⟩
    · refine Sh.wk0 ?_
      simp [Wk, go_sem, simprocAttr, ex_func, SubL, Sub, eGraph]
    · exact ⟨_, rfl⟩
  · cases ct11
theorem come_out (up : Bool) (g : Graph) (hm : May g) (n : Nat) (ih : ∀ (l : List Int) (id : Int), Good g l → rootB g id = true → g.O.length < n + l.length → GCall prog up 31 [.int .i64 id, .lv 0 [] 0, .lv 1 [] 0, .lv 2 [] 0, .lv 3 [] 0] 4 [(0, ⟨true, [.omap (wasMap (l))]⟩), (1, ⟨true, [.own 1 (List.map eI (l))]⟩), (2, ⟨true, eGraph g⟩), (3, ⟨true, [.func (.func 31) [] [.lv 0 [] 0, .lv 1 [] 0, .lv 2 [] 0, .lv 3 [] 0]]⟩)] (fun _ σ' => ∃ t, σ' = ⟨4, t, [(0, ⟨true, [.omap (wasMap (dfs g n l id))]⟩), (1, ⟨true, [.own 1 (List.map eI (dfs g n l id))]⟩), (2, ⟨true, eGraph g⟩), (3, ⟨true, [.func (.func 31) [] [.lv 0 [] 0, .lv 1 [] 0, .lv 2 [] 0, .lv 3 [] 0]]⟩)]⟩)) (l : List Int) (id : Int) (hg : Good g l) (hr : rootB g id = true) (hn : g.O.length < n + 1 + l.length) (hno : ¬ (id = -1 ∨ id ∈ l)) : GCall prog up 31 [.int .i64 id, .lv 0 [] 0, .lv 1 [] 0, .lv 2 [] 0, .lv 3 [] 0] 4 [(0, ⟨true, [.omap (wasMap (l))]⟩), (1, ⟨true, [.own 1 (List.map eI (l))]⟩), (2, ⟨true, eGraph g⟩), (3, ⟨true, [.func (.func 31) [] [.lv 0 [] 0, .lv 1 [] 0, .lv 2 [] 0, .lv 3 [] 0]]⟩)] (fun _ σ' => ∃ t, σ' = ⟨4, t, [(0, ⟨true, [.omap (wasMap (dfs g (n + 1) l id))]⟩), (1, ⟨true, [.own 1 (List.map eI (dfs g (n + 1) l id))]⟩), (2, ⟨true, eGraph g⟩), (3, ⟨true, [.func (.func 31) [] [.lv 0 [] 0, .lv 1 [] 0, .lv 2 [] 0, .lv 3 [] 0]]⟩)]⟩) := by
  refine GCall.intro htt 5 func31 (by kernel_rfl) rfl (Nat.le_of_ble_eq_true rfl) (CW.told ?_)
  have ho := hm.o
  have hgl := hg.len
  have hg2 : Good g (l ++ [id]) := by
    have := hg.meet hr
    unfold meet at this
    rwa [if_neg hno] at this
  have hty : (typ g.O id).isSome = true := hg2.ids id (by simp)
  obtain ⟨p, ⟨oi, oT, oF⟩, hp, e1, hF1, hA, _⟩ := hm.find hty
  unfold gFind at hF1
  obtain ⟨_, t, hT, hmo⟩ := hm.objT hp
  obtain ⟨q, rfl⟩ := Int.eq_ofNat_of_zero_le (show 0 ≤ oT from hmo.t0)
  have ht : g.S[q]? = some t := by simpa using hmo.at_
  have hlen : oF.length = t.F.length := hmo.len
  have h5 := hm.small.2.1 t (List.mem_of_getElem? ht)
  have hpl := (List.getElem?_eq_some_iff.1 hp).1
  have hql := (List.getElem?_eq_some_iff.1 ht).1
  have hrefs : refsOf g id = refsZ (t.F.zip oF) := by unfold refsOf; rw [hA]; simp only [refsO, hT]
  simp only [tmps0, Nat.reduceAdd]
  refine CW.seq (.seq (.rg (.run htt 3 (by simp only [go_sem, simprocAttr, maplk_was, if_neg hno]; exact rfl) (by simp [go_sem, simprocAttr, maplk_was, if_neg hno]) (.done ?_))))
  refine CW.cd (fun ct11 => ?_) (fun ct11 => ?_)
  · cases ct11 
  · refine CW.skip ?_
    refine CW.seq (.rg ?_)
    refine CWops.run htt 3 (by simp only [go_sem, simprocAttr, was_put hno]; exact rfl) (by simp [was_len, MX]; omega) ?_
    refine CWops.done ?_
    refine CW.seq (.rg ?_)
    refine CWops.run htt 5 (by simp only [go_sem, simprocAttr, List.replicate]; exact rfl) (by simp [AV.cell, AV.tree, eI, MX]; omega) ?_
    refine CWops.done ?_
    refine CW.seq ?_
    refine CW.drawn mixed 8 (by decide) (by kernel_rfl) (by kernel_rfl) (by kernel_rfl) ?_
    refine Seg.run htt 4 (by simp only [go_sem, simprocAttr, eGraph, hF1, hp, eObj, hpl]; exact rfl) ?_
    refine Seg.call (graph_Find up g id) (by simp only [go_sem, simprocAttr, eGraph, hF1, hp, eObj, hpl]) (by simp only [go_sem, simprocAttr, eGraph, hF1, hp, eObj, hpl] <;> exact rfl) (by simp only [go_sem, simprocAttr, eGraph, hF1, hp, eObj, hpl]) (by simp only [go_sem, simprocAttr, eGraph, hF1, hp, eObj, hpl]) rfl ?_
    refine Seg.run htt 3 (by simp only [go_sem, simprocAttr, eGraph, hF1, hp, eObj, hpl]; exact rfl) ?_
    refine Seg.done ?_
    refine CWops.run htt 1 (by simp only [go_sem, simprocAttr, eGraph, hF1, hp, eObj, hpl]; exact rfl) (by simp [go_sem, simprocAttr, eGraph, hF1, hp, eObj, hpl]) (.done ?_)
    refine CW.seq (.rg (.run htt 10 (by simp only [go_sem, simprocAttr, eGraph, ht, eType, hql, eObj]; exact rfl) (by simp [go_sem, simprocAttr, eGraph, ht, eType, hql, eObj]) (.done ?_)))
    refine CW.block ?_
    refine CW.loop (S := Nat) (fun k => ⟨7, [(0, .int .i64 id), (1, .lv 0 [] 0), (2, .lv 1 [] 0), (3, .lv 2 [] 0), (4, .lv 3 [] 0), (6, .lv 6 [] 0), (32, .sl 3 (t.F.map eField)), (33, .int .i64 t.F.length), (34, .int .i64 k)], [(0, ⟨true, [.omap (wasMap ((refsZ ((t.F.zip oF).take k)).foldl (dfs g n) (l ++ [id])))]⟩), (1, ⟨true, [.own 1 (List.map eI ((refsZ ((t.F.zip oF).take k)).foldl (dfs g n) (l ++ [id])))]⟩), (2, ⟨true, eGraph g⟩), (3, ⟨true, [.func (.func 31) [] [.lv 0 [] 0, .lv 1 [] 0, .lv 2 [] 0, .lv 3 [] 0]]⟩), (6, ⟨true, eObj ⟨oi, q, oF⟩⟩)]⟩) (fun k => k ≤ t.F.length ∧ Step g (l ++ [id]) (refsZ ((t.F.zip oF).take k)) ((refsZ ((t.F.zip oF).take k)).foldl (dfs g n) (l ++ [id]))) (fun k => t.F.length - k) (0) ?_ ⟨Nat.zero_le _, by simpa [refsZ] using Step.nil hg2⟩ (fun k ⟨k1, k2⟩ => ?_)
    · refine Sh.wk0 ?_; simp [Wk, go_sem, simprocAttr, ex_func, SubL, Sub, eGraph, eObj, refsZ, eI]
    refine CW.seq (.rg (.rn htt 1 (.done ?_)))
    refine CW.seq ?_
    refine CW.cd (fun ct35 => ?_) (fun ct35 => ?_)
    · have hk : k < t.F.length := by simpa using ct35
      have hko : k < oF.length := by omega
      obtain ⟨v, hv⟩ : ∃ v, oF[k]? = some v := ⟨oF[k], List.getElem?_eq_getElem hko⟩
      obtain ⟨f, hf⟩ : ∃ f, t.F[k]? = some f := ⟨t.F[k], List.getElem?_eq_getElem (by omega)⟩
      have hz : (t.F.zip oF)[k]? = some (f, v) := List.getElem?_zip_eq_some.2 ⟨hf, hv⟩
      refine CW.skip ?_
      refine CW.seq ?_
      refine CW.block ?_
      refine CW.seq (.rg (.run htt 6 (by simp only [go_sem, simprocAttr, hf, hk, eField]; exact rfl) (by simp [go_sem, simprocAttr, hf, hk, eField]) (.done ?_)))
      refine CW.seq (.rg (.run htt 3 (by simp only [go_sem, simprocAttr, eField]; exact rfl) (by simp [go_sem, simprocAttr, eField]) (.done ?_)))
      refine CW.cd (fun ct41 => ?_) (fun ct41 => ?_)
      · have hk5 : f.Kind = 5 := by simpa using ct41
        refine CW.drawn mixed 7 (by decide) (by kernel_rfl) (by kernel_rfl) (by kernel_rfl) ?_
        refine Seg.run htt 7 (by simp only [go_sem, simprocAttr, eObj, hv, hko, eVal]; exact rfl) ?_
        refine Seg.done ?_
        refine CWops.callG [0, 1, 2, 3] rfl (ih ((refsZ ((t.F.zip oF).take k)).foldl (dfs g n) (l ++ [id])) v.R k2.good (hmo.ref hf hv hk5) (by obtain ⟨s, hs⟩ := k2.pre; rw [hs]; simp; omega)) (by simp only [go_sem, simprocAttr]) (by simp only [go_sem, simprocAttr] <;> exact rfl) (by decide) (by simp [go_sem, simprocAttr, mName, memB, ex_func, SubL, Sub, eGraph]) (by simp [go_sem, simprocAttr, mName, ex_func, SubL, Sub, eGraph]) (by simp [go_sem, simprocAttr, ex_func, SubL, Sub, eGraph]) (by intro x hx; rcases x with _ | _ | _ | _ | x <;> first | (simp [go_sem, simprocAttr]; done) | omega | (simp at hx; done) | (simp at hx; omega)) (by simp [go_sem, simprocAttr, mName, ex_func, SubL, Sub, eGraph]) (fun r σ' hσ => ?_)
        obtain ⟨t', rfl⟩ := hσ
        simp only [aftS, renS, delAll, memB, mName, List.getD_nil, killH, kref, ren, Nat.beq_eq, go_sem, simprocAttr]
        refine CWops.done ?_
        refine CW.rg (.run htt 2 (by simp only [go_sem, simprocAttr, wrap_succ (show k < MX by unfold MX; omega)]; exact rfl) (by simp [go_sem, simprocAttr, wrap_succ (show k < MX by unfold MX; omega)]) (.done ?_))
        refine ⟨k + 1, ?_, ?_, ?_⟩
        · refine Sh.wk0 ?_
          first | (simp [Wk, go_sem, simprocAttr, ex_func, SubL, Sub, eGraph, eObj, refsZ_foldRef hz hk5]; done) | (simp [Wk, go_sem, simprocAttr, ex_func, SubL, Sub, eGraph, eObj, refsZ_no hz hk5]; done) | skip
        · refine ⟨hk, ?_⟩
          first | (rw [refsZ_foldRef hz hk5, show refsZ ((t.F.zip oF).take (k + 1)) = refsZ ((t.F.zip oF).take k) ++ [v.R] by rw [List.take_add_one, hz]; simp [refsZ, hk5]]; obtain ⟨s, hs⟩ := k2.pre; exact k2.app (dfs_step hm n k2.good (hmo.ref hf hv hk5) (by rw [hs]; simp; omega))) | (rw [refsZ_no hz hk5]; exact k2)
        · simp only; omega
      · have hk5 : f.Kind ≠ 5 := by simpa using ct41
        refine CW.skip ?_
        refine CW.rg (.run htt 2 (by simp only [go_sem, simprocAttr, wrap_succ (show k < MX by unfold MX; omega)]; exact rfl) (by simp [go_sem, simprocAttr, wrap_succ (show k < MX by unfold MX; omega)]) (.done ?_))
        refine ⟨k + 1, ?_, ?_, ?_⟩
        · refine Sh.wk0 ?_
          first | (simp [Wk, go_sem, simprocAttr, ex_func, SubL, Sub, eGraph, eObj, refsZ_foldRef hz hk5]; done) | (simp [Wk, go_sem, simprocAttr, ex_func, SubL, Sub, eGraph, eObj, refsZ_no hz hk5]; done) | skip
        · refine ⟨hk, ?_⟩
          first | (rw [refsZ_foldRef hz hk5, show refsZ ((t.F.zip oF).take (k + 1)) = refsZ ((t.F.zip oF).take k) ++ [v.R] by rw [List.take_add_one, hz]; simp [refsZ, hk5]]; obtain ⟨s, hs⟩ := k2.pre; exact k2.app (dfs_step hm n k2.good (hmo.ref hf hv hk5) (by rw [hs]; simp; omega))) | (rw [refsZ_no hz hk5]; exact k2)
        · simp only; omega
    · have hk : k = t.F.length := by simp at ct35; omega
      have hz : (t.F.zip oF).take k = t.F.zip oF := List.take_of_length_le (by rw [List.length_zip]; omega)
      refine CW.exit ?_
      refine ⟨⟨4, [(0, .int .i64 id), (1, .lv 0 [] 0), (2, .lv 1 [] 0), (3, .lv 2 [] 0), (4, .lv 3 [] 0)], [(0, ⟨true, [.omap (wasMap (dfs g (n + 1) l id))]⟩), (1, ⟨true, [.own 1 (List.map eI (dfs g (n + 1) l id))]⟩), (2, ⟨true, eGraph g⟩), (3, ⟨true, [.func (.func 31) [] [.lv 0 [] 0, .lv 1 [] 0, .lv 2 [] 0, .lv 3 [] 0]]⟩)]⟩, ?_, .inl rfl, by (simp [ptrOK, go_sem, simprocAttr]; exact ⟨⟨1, by simp⟩, ⟨2, by simp⟩, ⟨3, by simp⟩, ⟨4, by simp⟩⟩), _, by simp only [f31, go_sem, simprocAttr]; exact rfl, ?_⟩ -- end
      · refine Sh.wk0 ?_
        rw [dfs_out hno, hrefs, hz]
        simp [Wk, go_sem, simprocAttr, ex_func, SubL, Sub, eGraph]
      · exact ⟨_, rfl⟩
theorem come (up : Bool) (g : Graph) (hm : May g) : ∀ (n : Nat) (l : List Int) (id : Int), Good g l → rootB g id = true → g.O.length < n + l.length → GCall prog up 31 [.int .i64 id, .lv 0 [] 0, .lv 1 [] 0, .lv 2 [] 0, .lv 3 [] 0] 4 [(0, ⟨true, [.omap (wasMap (l))]⟩), (1, ⟨true, [.own 1 (List.map eI (l))]⟩), (2, ⟨true, eGraph g⟩), (3, ⟨true, [.func (.func 31) [] [.lv 0 [] 0, .lv 1 [] 0, .lv 2 [] 0, .lv 3 [] 0]]⟩)] (fun _ σ' => ∃ t, σ' = ⟨4, t, [(0, ⟨true, [.omap (wasMap (dfs g n l id))]⟩), (1, ⟨true, [.own 1 (List.map eI (dfs g n l id))]⟩), (2, ⟨true, eGraph g⟩), (3, ⟨true, [.func (.func 31) [] [.lv 0 [] 0, .lv 1 [] 0, .lv 2 [] 0, .lv 3 [] 0]]⟩)]⟩)
  | 0, l, id, h, _, hn => by have := h.len; omega
  | n + 1, l, id, h, hr, hn => by
    by_cases e : id = -1 ∨ id ∈ l
    · rw [dfs_in e]; exact come_in up g l id e
    · exact come_out up g hm n (come up g hm n) l id h hr hn e
theorem graph_Reach (up : Bool) (g : Graph) : PCall prog up 8 [.agg (eGraph g)] (· = .sl 1 ((gReach g).map eI)) := by
  refine PCall.intro htt func8 (by kernel_rfl) rfl (Nat.le_of_ble_eq_true rfl) fun hl => ?_

  simp only [tmps0, Nat.reduceAdd]
  refine CW.seq (.rg (.run htt 2 (by simp only [go_sem, simprocAttr, eGraph]; exact rfl) (by simp [go_sem, simprocAttr, eGraph]) (.done ?_)))
  refine CW.seq (.seq (.rg (.run htt 1 (by simp only [go_sem, simprocAttr, eGraph]; exact rfl) (by simp [go_sem, simprocAttr, eGraph]) ?_)))
  refine CWops.call (graph_May up g) (by simp only [go_sem, simprocAttr, eGraph]) (by simp only [go_sem, simprocAttr, eGraph] <;> exact rfl) (by simp only [go_sem, simprocAttr, eGraph]) (fun rt9 hrt9 => ?_)
  subst hrt9; refine ⟨rfl, ?_⟩
  refine CWops.run htt 1 (by simp only [go_sem, simprocAttr, eGraph]; exact rfl) (by simp [go_sem, simprocAttr, eGraph]) (.done ?_)
  refine CW.cd (fun ct10 => ?_) (fun ct10 => ?_)
  · simp only [Bool.not_eq_true'] at ct10
    refine CW.seq (.rg (.rn htt 1 (.done ?_)))
    refine CW.ret ?_
    refine retQ.rt (by simp only [f8, go_sem, simprocAttr]; exact rfl) ?_
    refine ⟨_, ?_, rfl⟩
    have : gReach g = [] := by unfold gReach; rw [ct10]; rfl
    simp [leP, this]
  · simp only [Bool.not_eq_false'] at ct10
    have hm := (may_iff g).1 ct10
    have ho := hm.o
    have hr3 := hm.r
    refine CW.skip ?_
    refine CW.seq (.rg ?_)
    refine CWops.run htt 5 (by simp only [go_sem, simprocAttr]; exact rfl) (by unfold MX; decide) ?_
    refine CWops.done ?_
    refine CW.seq (.rg (.rn htt 1 (.done ?_)))
    refine CW.seq (.rg (.rn htt 1 (.done ?_)))
    refine CW.seq (.rg (.rn htt 2 (.done ?_)))
    refine CW.seq (.seq (.rg (.run htt 4 (by simp only [go_sem, simprocAttr, eGraph]; exact rfl) (by simp [go_sem, simprocAttr, eGraph]) (.done ?_))))
    refine CW.block ?_
    refine CW.loop (S := Nat) (fun i => ⟨5, [(1, .lv 0 [] 0), (3, .lv 2 [] 0), (4, .lv 3 [] 0), (5, .lv 4 [] 0), (15, .sl 1 (g.Roots.map eI)), (16, .int .i64 g.Roots.length), (17, .int .i64 i)], [(0, ⟨true, eGraph g⟩), (2, ⟨true, [.omap (wasMap ((g.Roots.take i).foldl (dfs g (g.O.length + 1)) []))]⟩), (3, ⟨true, [.own 1 (List.map eI ((g.Roots.take i).foldl (dfs g (g.O.length + 1)) []))]⟩), (4, ⟨true, [.func (.func 31) [] [.lv 2 [] 0, .lv 3 [] 0, .lv 0 [] 0, .lv 4 [] 0]]⟩)]⟩) (fun i => i ≤ g.Roots.length ∧ Step g [] (g.Roots.take i) ((g.Roots.take i).foldl (dfs g (g.O.length + 1)) [])) (fun i => g.Roots.length - i) (0) ?_ ⟨Nat.zero_le _, by simpa using Step.nil (Good.nil g)⟩ (fun i ⟨h1, hs⟩ => ?_)
    · refine Sh.trans (Sh.nilCell 3 [] 0 1 (by simp [go_sem, simprocAttr]) rfl) (Sh.wk0 ?_); simp [Wk, go_sem, simprocAttr, ex_func, SubL, Sub, eGraph, wasMap]
    refine CW.seq (.rg (.rn htt 1 (.done ?_)))
    refine CW.seq ?_
    refine CW.cd (fun ct18 => ?_) (fun ct18 => ?_)
    · have hi : i < g.Roots.length := by simpa using ct18
      obtain ⟨x, hx⟩ : ∃ x, g.Roots[i]? = some x := ⟨g.Roots[i], List.getElem?_eq_getElem hi⟩
      refine CW.skip ?_
      refine CW.seq ?_
      refine CW.block ?_
      refine CW.seq (.rg (.run htt 3 (by simp only [go_sem, simprocAttr, hx, eI]; exact rfl) (by simp [go_sem, simprocAttr, hx, eI]) (.done ?_)))
      refine CW.rg (.rn htt 2 ?_)
      refine CWops.callG [2, 3, 0, 4] rfl (come up g hm (g.O.length + 1) ((g.Roots.take i).foldl (dfs g (g.O.length + 1)) []) x hs.good (hm.root x (List.mem_of_getElem? hx)) (by omega)) (by simp only [go_sem, simprocAttr]) (by simp only [go_sem, simprocAttr] <;> exact rfl) (by decide) (by simp [go_sem, simprocAttr, mName, memB, ex_func, SubL, Sub, eGraph]) (by simp [go_sem, simprocAttr, mName, ex_func, SubL, Sub, eGraph]) (by simp [go_sem, simprocAttr, ex_func, SubL, Sub, eGraph]) (by intro x hx; rcases x with _ | _ | _ | _ | x <;> first | (simp [go_sem, simprocAttr]; done) | omega | (simp at hx; done) | (simp at hx; omega)) (by simp [go_sem, simprocAttr, mName, ex_func, SubL, Sub, eGraph]) (fun r σ' hσ => ?_)
      obtain ⟨t', rfl⟩ := hσ
      simp only [aftS, renS, delAll, memB, mName, List.getD_nil, killH, kref, ren, Nat.beq_eq, go_sem, simprocAttr]
      refine CWops.done ?_
      refine CW.rg (.run htt 2 (by simp only [go_sem, simprocAttr, wrap_succ (show i < MX by unfold MX; omega)]; exact rfl) (by simp [go_sem, simprocAttr, wrap_succ (show i < MX by unfold MX; omega)]) (.done ?_))
      refine ⟨i + 1, ?_, ?_, ?_⟩
      · refine Sh.wk0 ?_; simp [Wk, go_sem, simprocAttr, ex_func, SubL, Sub, eGraph, List.take_add_one, hx]
      · refine ⟨hi, ?_⟩
        rw [List.take_add_one, hx, Option.toList_some, List.foldl_append]
        exact hs.app (dfs_step hm _ hs.good (hm.root x (List.mem_of_getElem? hx)) (by omega))
      · simp only; omega
    · have hi : i = g.Roots.length := by simp at ct18; omega
      have hdf : g.Roots.foldl (dfs g (g.O.length + 1)) [] = dfsL g := rfl
      rw [hi, List.take_length, hdf]
      refine CW.exit ?_
      refine CW.seq ?_
      refine CW.sh (Sh.out 3 0 rfl rfl rfl) ?_
      simp only [go_sem, simprocAttr, mapT, mapS, outF, List.map_cons, List.map_nil, putAt, List.set_cons_zero]
      refine CW.rg (.rn htt 1 ?_)
      refine CWops.callGH [5] rfl (slices_Sort up (dfsL g) (by have := (dfsL_step hm).good.len; omega)) (by decide) (by simp only [go_sem, simprocAttr]) (by simp only [go_sem, simprocAttr] <;> exact rfl) (by decide) (by simp [go_sem, simprocAttr, mName, memB]) (by simp [go_sem, simprocAttr, mName]) (by simp [go_sem, simprocAttr]) (by simp [go_sem, simprocAttr]) (by simp [go_sem, simprocAttr, mName]) (fun r σ' hσ => ?_)
      obtain ⟨σn, σt, σs⟩ := σ'
      simp only at hσ
      obtain ⟨m, rfl, rfl, hm2⟩ := hσ
      simp only [aftH, renS, List.map_cons, List.map_nil, delAll, memB, mName, List.getD_nil, killH, kref, ren, Nat.beq_eq, go_sem, simprocAttr]
      refine CWops.done ?_
      refine CW.seq (.rg (.rn htt 2 (.done ?_)))
      refine CW.ret ?_
      refine retQ.rt (by simp only [f8, go_sem, simprocAttr]; exact rfl) ?_
      refine ⟨_, ?_, rfl⟩
      have : gReach g = m := (dfsL_sorted hm hm2).symm
      simp [go_sem, simprocAttr, leP, leL, AV.freeze, frz_I, this]
end Go.Ab
namespace Go.Ab
open Go Go.Proofs.Tryz Go.RowKit
set_option maxRecDepth 100000
set_option maxHeartbeats 6400000
theorem make_bounds' (a b : Graph) : (gMake a b).1.L.length ≤ 1000 := by
  by_cases h : (gMake a b).2 = 0
  · obtain ⟨_, hb, _, _, e⟩ := make_ok h
    have hc := canon_may ((may_iff b).1 hb)
    have h1 := hc.o
    rw [e]
    simp only
    rw [items_len hb, ← canon_Olen hb]
    omega
  · rw [make_err h]; exact Nat.zero_le _
theorem law11_DeltaSelf (up : Bool) (a b : Graph) : PCall prog up 3 [.agg (eGraph a), .agg (eGraph b)] (· = .bool true) := by
  refine PCall.intro htt func3 (by kernel_rfl) rfl (Nat.le_of_ble_eq_true rfl) fun hl => ?_

  simp only [tmps0, Nat.reduceAdd]
  refine CW.seq (.rg (.run htt 3 (by simp only [go_sem, simprocAttr, eGraph]; exact rfl) (by simp [go_sem, simprocAttr, eGraph]) (.done ?_)))
  refine CW.seq (.rg ?_)
  refine CWops.callA (law11_awake up) (by simp only [go_sem, simprocAttr]) (by simp only [go_sem, simprocAttr] <;> exact rfl) (by simp only [go_sem, simprocAttr]) (by simp only [go_sem, simprocAttr]) (fun rt16 hrt16 => ?_)
  subst hrt16
  refine CWops.rn htt 1 (.done ?_)
  refine CW.seq (.rg (.run htt 1 (by simp only [go_sem, simprocAttr, eGraph]; exact rfl) (by simp [go_sem, simprocAttr, eGraph]) ?_))
  refine CWops.callA (law08_Few up a) (by simp only [go_sem, simprocAttr, eGraph]) (by simp only [go_sem, simprocAttr, eGraph] <;> exact rfl) (by simp only [go_sem, simprocAttr, eGraph]) (by simp only [go_sem, simprocAttr, eGraph]) (fun rt18 hrt18 => ?_)
  subst hrt18
  refine CWops.run htt 1 (by simp only [go_sem, simprocAttr, eGraph]; exact rfl) (by simp [go_sem, simprocAttr, eGraph]) (.done ?_)
  refine CW.seq (.rg (.run htt 1 (by simp only [go_sem, simprocAttr, eGraph]; exact rfl) (by simp [go_sem, simprocAttr, eGraph]) ?_))
  refine CWops.callA (law08_Few up b) (by simp only [go_sem, simprocAttr, eGraph]) (by simp only [go_sem, simprocAttr, eGraph] <;> exact rfl) (by simp only [go_sem, simprocAttr, eGraph]) (by simp only [go_sem, simprocAttr, eGraph]) (fun rt20 hrt20 => ?_)
  subst hrt20
  refine CWops.run htt 1 (by simp only [go_sem, simprocAttr, eGraph]; exact rfl) (by simp [go_sem, simprocAttr, eGraph]) (.done ?_)
  refine CW.seq ?_
  refine CW.cut ⟨2, [(2, .lv 0 [] 0), (3, .lv 1 [] 0), (5, .bool true), (30, .bool (!(fewG a && fewG b)))], [(0, ⟨true, eGraph a⟩), (1, ⟨true, eGraph b⟩)]⟩ ?_ ?_
  · refine CW.rg (.rn htt 3 ?_)
    all_goals (first | refine CWops.guard 23 (by simp only [go_sem, simprocAttr]; exact rfl) (fun g23 => ?_) (fun g23 => ?_) | skip)
    all_goals (first | (simp at g23; done) | (cases g23; done) | (exfalso; simp_all; done) | skip)
    all_goals (refine CWops.rn htt 4 ?_)
    all_goals (first | refine CWops.guard 27 (by simp only [go_sem, simprocAttr]; exact rfl) (fun g27 => ?_) (fun g27 => ?_) | skip)
    all_goals (first | (simp at g27; done) | (cases g27; done) | (exfalso; simp_all; done) | skip)
    all_goals (refine CWops.rn htt 3 ?_)
    all_goals (refine CWops.done ?_)
    all_goals (
      first | refine ⟨rfl, Sh.wk0 ?_⟩ | refine Sh.wk0 ?_
      first | (simp [Wk, go_sem, simprocAttr, eGraph, eDelta]; done) | (simp_all [Wk, go_sem, simprocAttr, eGraph, eDelta] <;> first | done | rfl | omega | (rw [Bool.eq_iff_iff]; simp; done) | (rw [Bool.eq_iff_iff]; simp; omega)))
  refine CW.cd (fun ct30 => ?_) (fun ct30 => ?_)
  · refine CW.seq (.rg (.rn htt 2 (.done ?_)))
    refine CW.ret ?_
    refine retQ.rt (by simp only [f3, go_sem, simprocAttr]; exact rfl) ?_
    refine ⟨_, ?_, rfl⟩
    first | (simp [leP]; done) | (simp_all [leP]; done) | (cases S <;> simp_all [leP]; done)
  · obtain ⟨⟨d, e⟩, hD⟩ : ∃ p, gMake a a = p := ⟨_, rfl⟩
    obtain ⟨⟨q, f⟩, hQ⟩ : ∃ p, gMake a b = p := ⟨_, rfl⟩
    refine CW.skip ?_
    refine CW.seq (.rg (.run htt 2 (by simp only [go_sem, simprocAttr, eGraph, eDelta]; exact rfl) (by simp [go_sem, simprocAttr, eGraph, eDelta]) ?_))
    refine CWops.callA ((by have h := delta_Make up a a; rw [hD] at h; exact h)) (by simp only [go_sem, simprocAttr, eGraph, eDelta]) (by simp only [go_sem, simprocAttr, eGraph, eDelta] <;> exact rfl) (by simp only [go_sem, simprocAttr, eGraph, eDelta]) (by simp only [go_sem, simprocAttr, eGraph, eDelta]) (fun rt35 hrt35 => ?_)
    subst hrt35
    refine CWops.run htt 6 (by simp only [go_sem, simprocAttr, eGraph, eDelta]; exact rfl) (by simp [go_sem, simprocAttr, eGraph, eDelta]) (.done ?_)
    refine CW.cut ⟨3, [(2, .lv 0 [] 0), (3, .lv 1 [] 0)], [(0, ⟨true, eGraph a⟩), (1, ⟨true, eGraph b⟩)]⟩ ?_ ?_
    · refine CW.seq (.rg (.rn htt 2 (.done ?_)))
      refine CW.cd (fun ct39 => ?_) (fun ct39 => ?_)
      · have he : e = 0 := by simpa using ct39
        subst he
        have hself := @make_self a (by rw [hD])
        rw [hD] at hself
        have hdl := make_bounds' a a
        rw [hD] at hdl
        simp only at hdl hself
        refine CW.seq (.rg (.rn htt 1 (.done ?_)))
        refine CW.block ?_
        refine CW.loop (S := Nat) (fun j => ⟨3, [(2, .lv 0 [] 0), (3, .lv 1 [] 0), (8, .lv 2 [] 0), (10, .int .i64 j)], [(0, ⟨true, eGraph a⟩), (1, ⟨true, eGraph b⟩), (2, ⟨true, eDelta d⟩)]⟩) (fun j => j ≤ d.L.length) (fun j => d.L.length - j) (0) ?_ (Nat.zero_le _) (fun j h1 => ?_)
        · refine Sh.wk0 ?_; simp [Wk, go_sem, simprocAttr, eDelta, eGraph]
        refine CW.seq (.seq (.rg (.run htt 5 (by simp only [go_sem, simprocAttr, eDelta]; exact rfl) (by simp [go_sem, simprocAttr, eDelta]) (.done ?_))))
        refine CW.cd (fun ct44 => ?_) (fun ct44 => ?_)
        · have hjl : j < d.L.length := by simpa using ct44
          obtain ⟨it, hit⟩ : ∃ it, d.L[j]? = some it := ⟨d.L[j], List.getElem?_eq_getElem hjl⟩
          obtain ⟨h3, h4⟩ := hself hit
          obtain ⟨itF, itT, itS⟩ := it
          simp only at h3 h4
          subst h3
          subst h4
          refine CW.skip ?_
          refine CW.seq ?_
          refine CW.block ?_
          refine CW.cut ⟨3, [(2, .lv 0 [] 0), (3, .lv 1 [] 0), (8, .lv 2 [] 0), (10, .int .i64 j), (64, .bool false)], [(0, ⟨true, eGraph a⟩), (1, ⟨true, eGraph b⟩), (2, ⟨true, eDelta d⟩)]⟩ ?_ ?_
          · refine CW.rg (.run htt 9 (by simp only [go_sem, simprocAttr, eDelta, hit, hjl, eItem, List.map_nil, List.length_nil]; exact rfl) (by simp [go_sem, simprocAttr, eDelta, hit, hjl, eItem, List.map_nil, List.length_nil]) ?_)
            all_goals (first | refine CWops.guard 55 (by simp only [go_sem, simprocAttr, eDelta, hit, hjl, eItem, List.map_nil, List.length_nil]; exact rfl) (fun g55 => ?_) (fun g55 => ?_) | skip)
            all_goals (first | (simp at g55; done) | (cases g55; done) | (exfalso; simp_all; done) | skip)
            all_goals (refine CWops.run htt 9 (by simp only [go_sem, simprocAttr, eDelta, hit, hjl, eItem, List.map_nil, List.length_nil]; exact rfl) (by simp [go_sem, simprocAttr, eDelta, hit, hjl, eItem, List.map_nil, List.length_nil]) ?_)
            all_goals (refine CWops.done ?_)
            all_goals (
              first | refine ⟨rfl, Sh.wk0 ?_⟩ | refine Sh.wk0 ?_
              first | (simp [Wk, go_sem, simprocAttr, eGraph, eDelta]; done) | (simp_all [Wk, go_sem, simprocAttr, eGraph, eDelta] <;> first | done | rfl | omega | (rw [Bool.eq_iff_iff]; simp; done) | (rw [Bool.eq_iff_iff]; simp; omega)))
          refine CW.cd (fun ct64 => ?_) (fun ct64 => ?_)
          · cases ct64 
          · refine CW.skip ?_
            refine CW.rg (.run htt 3 (by simp only [go_sem, simprocAttr, wrap_succ (show j < MX by unfold MX; omega)]; exact rfl) (by simp [go_sem, simprocAttr, wrap_succ (show j < MX by unfold MX; omega)]) (.done ?_))
            refine ⟨j + 1, ?_, ?_, ?_⟩
            · refine Sh.wk0 ?_; simp [Wk, go_sem, simprocAttr, eDelta, eGraph]
            · exact hjl
            · simp only; omega
        · refine CW.exit ?_
          first | refine ⟨rfl, Sh.wk0 ?_⟩ | refine Sh.wk0 ?_
          first | (simp [Wk, go_sem, simprocAttr, eGraph, eDelta]; done) | (simp_all [Wk, go_sem, simprocAttr, eGraph, eDelta] <;> first | done | rfl | omega | (rw [Bool.eq_iff_iff]; simp; done) | (rw [Bool.eq_iff_iff]; simp; omega))
      · refine CW.skip ?_
        first | refine ⟨rfl, Sh.wk0 ?_⟩ | refine Sh.wk0 ?_
        first | (simp [Wk, go_sem, simprocAttr, eGraph, eDelta]; done) | (simp_all [Wk, go_sem, simprocAttr, eGraph, eDelta] <;> first | done | rfl | omega | (rw [Bool.eq_iff_iff]; simp; done) | (rw [Bool.eq_iff_iff]; simp; omega))
    refine CW.seq (.rg (.run htt 2 (by simp only [go_sem, simprocAttr, eGraph, eDelta]; exact rfl) (by simp [go_sem, simprocAttr, eGraph, eDelta]) ?_))
    refine CWops.callA ((by have h := delta_Make up a b; rw [hQ] at h; exact h)) (by simp only [go_sem, simprocAttr, eGraph, eDelta]) (by simp only [go_sem, simprocAttr, eGraph, eDelta] <;> exact rfl) (by simp only [go_sem, simprocAttr, eGraph, eDelta]) (by simp only [go_sem, simprocAttr, eGraph, eDelta]) (fun rt68 hrt68 => ?_)
    subst hrt68
    refine CWops.run htt 6 (by simp only [go_sem, simprocAttr, eGraph, eDelta]; exact rfl) (by simp [go_sem, simprocAttr, eGraph, eDelta]) (.done ?_)
    refine CW.seq (.seq (.rg (.rn htt 2 (.done ?_))))
    refine CW.cd (fun ct72 => ?_) (fun ct72 => ?_)
    · refine CW.seq (.rg (.rn htt 1 (.done ?_)))
      refine CW.ret ?_
      refine retQ.rt (by simp only [f3, go_sem, simprocAttr]; exact rfl) ?_
      refine ⟨_, ?_, rfl⟩
      first | (simp [leP]; done) | (simp_all [leP]; done) | (cases S <;> simp_all [leP]; done)
    · have hf : f = 0 := by simpa using ct72
      subst hf
      have hql := make_bounds' a b
      obtain ⟨hma, _⟩ := make_ok (a := a) (b := b) (by rw [hQ])
      have hrl := (once_facts hma).2.2.1
      have hst := @make_still a b (by rw [hQ])
      rw [hQ] at hql hst
      rw [hrl] at hst
      simp only at hql hst
      refine CW.skip ?_
      refine CW.seq ?_
      refine CW.drawn mixed 6 (by decide) (by kernel_rfl) (by kernel_rfl) (by kernel_rfl) ?_
      refine Seg.run htt 4 (by simp only [go_sem, simprocAttr, eGraph, eDelta, List.length_map]; exact rfl) ?_
      refine Seg.callA (graph_Reach up a) (by simp only [go_sem, simprocAttr, eGraph, eDelta, List.length_map]) (by simp only [go_sem, simprocAttr, eGraph, eDelta, List.length_map] <;> exact rfl) (by simp only [go_sem, simprocAttr, eGraph, eDelta, List.length_map]) (by simp only [go_sem, simprocAttr, eGraph, eDelta, List.length_map]) ?_
      refine Seg.run htt 1 (by simp only [go_sem, simprocAttr, eGraph, eDelta, List.length_map]; exact rfl) ?_
      refine Seg.done ?_
      refine CWops.run htt 2 (by simp only [go_sem, simprocAttr, eGraph, eDelta, List.length_map]; exact rfl) (by simp [go_sem, simprocAttr, eGraph, eDelta, List.length_map]) (.done ?_)
      refine CW.seq (.seq (.rg (.rn htt 1 (.done ?_))))
      refine CW.block ?_
      refine CW.loop (S := Nat × Bool) (fun p => ⟨4, [(2, .lv 0 [] 0), (3, .lv 1 [] 0), (11, .lv 3 [] 0), (13, .bool p.2), (14, .int .i64 p.1)], [(0, ⟨true, eGraph a⟩), (1, ⟨true, eGraph b⟩), (3, ⟨true, eDelta q⟩)]⟩) (fun p => p.1 ≤ q.L.length ∧ (p.2 = true ↔ (q.L.length = (gReach a).length ∧ ∀ (i : Nat) (it : GItem), i < p.1 → q.L[i]? = some it → it.Set = [] ∧ it.From = (i : Int)))) (fun p => q.L.length - p.1) ((0, decide (q.L.length = (gReach a).length))) ?_ ⟨Nat.zero_le _, by simp⟩ (fun ⟨j, S⟩ ⟨h1, h2⟩ => ?_)
      · refine Sh.wk0 ?_; simp [Wk, go_sem, simprocAttr, eDelta, eGraph] <;> first | done | omega | (rw [Bool.eq_iff_iff]; simp; omega)
      refine CW.seq (.seq (.rg (.run htt 5 (by simp only [go_sem, simprocAttr, eDelta]; exact rfl) (by simp [go_sem, simprocAttr, eDelta]) (.done ?_))))
      refine CW.cd (fun ct84 => ?_) (fun ct84 => ?_)
      · have hjl : j < q.L.length := by simpa using ct84
        obtain ⟨it, hit⟩ : ∃ it, q.L[j]? = some it := ⟨q.L[j], List.getElem?_eq_getElem hjl⟩
        refine CW.skip ?_
        refine CW.seq ?_
        refine CW.block ?_
        refine CW.rg (.run htt 2 (by simp only [go_sem, simprocAttr, eDelta, hit, hjl, eItem, List.length_map]; exact rfl) (by simp [go_sem, simprocAttr, eDelta, hit, hjl, eItem, List.length_map]) ?_)
        all_goals (first | refine CWops.guard 88 (by simp only [go_sem, simprocAttr, eDelta, hit, hjl, eItem, List.length_map]; exact rfl) (fun g88 => ?_) (fun g88 => ?_) | skip)
        all_goals (first | (simp at g88; done) | (cases g88; done) | (exfalso; simp_all; done) | skip)
        all_goals (refine CWops.run htt 10 (by simp only [go_sem, simprocAttr, eDelta, hit, hjl, eItem, List.length_map]; exact rfl) (by simp [go_sem, simprocAttr, eDelta, hit, hjl, eItem, List.length_map]) ?_)
        all_goals (first | refine CWops.guard 98 (by simp only [go_sem, simprocAttr, eDelta, hit, hjl, eItem, List.length_map]; exact rfl) (fun g98 => ?_) (fun g98 => ?_) | skip)
        all_goals (first | (simp at g98; done) | (cases g98; done) | (exfalso; simp_all; done) | skip)
        all_goals (refine CWops.run htt 10 (by simp only [go_sem, simprocAttr, eDelta, hit, hjl, eItem, List.length_map]; exact rfl) (by simp [go_sem, simprocAttr, eDelta, hit, hjl, eItem, List.length_map]) ?_)
        all_goals (refine CWops.done ?_)
        all_goals (
          refine CW.rg (.run htt 3 (by simp only [go_sem, simprocAttr, wrap_succ (show j < MX by unfold MX; omega)]; exact rfl) (by simp [go_sem, simprocAttr, wrap_succ (show j < MX by unfold MX; omega)]) (.done ?_))
          refine ⟨(j + 1, S && (decide (it.Set = []) && decide (it.From = (j : Int)))), ?_, ?_, ?_⟩
          · refine Sh.wk0 ?_; first | (simp [Wk, go_sem, simprocAttr, eGraph, eDelta]; done) | (simp_all [Wk, go_sem, simprocAttr, eGraph, eDelta] <;> first | done | rfl | omega | (rw [Bool.eq_iff_iff]; simp; done) | (rw [Bool.eq_iff_iff]; simp; omega))
          · refine ⟨hjl, ?_⟩
            simp only [Bool.and_eq_true, decide_eq_true_eq] at h2 ⊢
            rw [h2]
            constructor
            · rintro ⟨⟨k1, k2⟩, k3, k4⟩
              refine ⟨k1, fun i y hi hy => ?_⟩
              by_cases hij : i = j
              · subst hij; rw [hit] at hy; cases hy; exact ⟨k3, k4⟩
              · exact k2 i y (by omega) hy
            · rintro ⟨k1, k2⟩
              exact ⟨⟨k1, fun i y hi hy => k2 i y (by omega) hy⟩, k2 j it (by omega) hit⟩
          · simp only; omega)
      · have hj : j = q.L.length := by simp at ct84; omega
        have hfin : S = true → q.Roots = (gCanon a).Roots → gIso a b = true := fun h r => by
          obtain ⟨h3, h4⟩ := h2.1 h
          exact hst h3 (fun i it hi => h4 i it (by rw [hj]; exact (List.getElem?_eq_some_iff.1 hi).1) hi) r
        refine CW.exit ?_
        refine CW.seq ?_
        refine CW.drawn mixed 5 (by decide) (by kernel_rfl) (by kernel_rfl) (by kernel_rfl) ?_
        refine Seg.run htt 3 (by simp only [go_sem, simprocAttr, eGraph, eDelta]; exact rfl) ?_
        refine Seg.callA (canon_Canon up a) (by simp only [go_sem, simprocAttr, eGraph, eDelta]) (by simp only [go_sem, simprocAttr, eGraph, eDelta] <;> exact rfl) (by simp only [go_sem, simprocAttr, eGraph, eDelta]) (by simp only [go_sem, simprocAttr, eGraph, eDelta]) ?_
        refine Seg.run htt 1 (by simp only [go_sem, simprocAttr, eGraph, eDelta]; exact rfl) ?_
        refine Seg.done ?_
        refine CWops.call (ref08_Ints up q.Roots (gCanon a).Roots) (by simp only [go_sem, simprocAttr, eGraph, eDelta]) (by simp only [go_sem, simprocAttr, eGraph, eDelta] <;> exact rfl) (by simp only [go_sem, simprocAttr, eGraph, eDelta]) (fun rt113 hrt113 => ?_)
        subst hrt113; refine ⟨rfl, ?_⟩
        refine CWops.run htt 1 (by simp only [go_sem, simprocAttr, eGraph, eDelta]; exact rfl) (by simp [go_sem, simprocAttr, eGraph, eDelta]) (.done ?_)
        refine CW.seq (.rg (.run htt 3 (by simp only [go_sem, simprocAttr, eGraph]; exact rfl) (by simp [go_sem, simprocAttr, eGraph]) ?_))
        all_goals (first | refine CWops.guard 116 (by simp only [go_sem, simprocAttr, eGraph]; exact rfl) (fun g116 => ?_) (fun g116 => ?_) | skip)
        all_goals (first | (simp at g116; done) | (cases g116; done) | (exfalso; simp_all; done) | skip)
        all_goals (refine CWops.run htt 4 (by simp only [go_sem, simprocAttr, eGraph]; exact rfl) (by simp [go_sem, simprocAttr, eGraph]) ?_)
        all_goals (first | refine CWops.guard 120 (by simp only [go_sem, simprocAttr, eGraph]; exact rfl) (fun g120 => ?_) (fun g120 => ?_) | skip)
        all_goals (first | (simp at g120; done) | (cases g120; done) | (exfalso; simp_all; done) | skip)
        all_goals (refine CWops.run htt 2 (by simp only [go_sem, simprocAttr, eGraph]; exact rfl) (by simp [go_sem, simprocAttr, eGraph]) ?_)
        all_goals (first | (refine CWops.skip ?_ ?_; next => (simp only [go_sem, simprocAttr]; done)) | (refine CWops.call (canon_Iso up a b) (by simp only [go_sem, simprocAttr, eGraph]) (by simp only [go_sem, simprocAttr, eGraph] <;> exact rfl) (by simp only [go_sem, simprocAttr, eGraph]) (fun rt123 hrt123 => ?_); subst hrt123; refine ⟨rfl, ?_⟩))
        all_goals (refine CWops.run htt 2 (by simp only [go_sem, simprocAttr, eGraph]; exact rfl) (by simp [go_sem, simprocAttr, eGraph]) ?_)
        all_goals (refine CWops.done ?_)
        all_goals (
          refine CW.ret ?_
          refine retQ.rt (by simp only [f3, go_sem, simprocAttr]; exact rfl) ?_
          refine ⟨_, ?_, rfl⟩
          first | (simp [leP]; done) | (simp_all [leP]; done) | (cases S <;> simp_all [leP]; done))
end Go.Ab
