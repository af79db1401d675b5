/-
  What functions of the program answer: each by its contract. No condition but those of each theorem.
-/
import Derived.WalkKit
import Derived.Below
import Derived.Scope
import Derived.Test.YtgmegmfbedgabaaProg
import Derived.Orders
import Derived.Still
import Derived.WalkSmall
import Derived.Tactics
import Derived.Tactics2
import Derived.Defers
import Derived.Recover
import Derived.Laws.Pointers
import Derived.Lib.AppendStr
import Derived.ArgAppend
import Derived.Lib.ConvBytes
import Derived.Shelf.Strings.OnBuilder
import Derived.Test.YtgmegmfbedgabaaFa
import Derived.Test.YtgmegmfbedgabaaFb
import Derived.Test.YtgmegmfbedgabaaFc
import Derived.Test.YtgmegmfbedgabaaFd
import Derived.Test.YtgmegmfbedgabaaFe
import Derived.Test.YtgmegmfbedgabaaFf
import Derived.Test.YtgmegmfbedgabaaDa
import Derived.Test.YtgmegmfbedgabaaVa
import Derived.Test.YtgmegmfbedgabaaVb
set_option linter.unusedVariables false
set_option linter.unusedSimpArgs false
namespace Go.Ab
open Go Go.Proofs.Try Go.RowKit
set_option maxRecDepth 100000
@[go_sem] theorem tt_78 : tiOf prog 78 = some ⟨.struct [(28, 0), (76, 3)], 4, 80, [.nilsl, .nilsl, .nilsl, .nilmap], true⟩ := by kernel_rfl
@[go_sem] theorem tt_75 : tiOf prog 75 = some ⟨.ptr 78, 1, 8, [.nilp], false⟩ := by kernel_rfl
def mixW (φ : GField → GVal → GVal) (fs : List GField) (vs : List GVal) (k : Nat) : List GVal := List.zipWith (φ) (fs.take k) (vs.take k) ++ vs.drop k
theorem mixW_zero (φ : GField → GVal → GVal) (fs : List GField) (vs : List GVal) : mixW φ fs vs 0 = vs := by simp [mixW]
theorem mixW_all (φ : GField → GVal → GVal) (fs : List GField) (vs : List GVal) (h : vs.length = fs.length) : mixW φ fs vs fs.length = List.zipWith (φ) fs vs := by
  unfold mixW
  rw [List.take_length, List.take_of_length_le (by omega), List.drop_eq_nil_of_le (by omega), List.append_nil]
theorem mixW_get {φ : GField → GVal → GVal} {fs : List GField} {vs : List GVal} {k : Nat} {v : GVal} (h : vs.length = fs.length) (hv : vs[k]? = some v) : (mixW φ fs vs k)[k]? = some v := by
  have hlt := (List.getElem?_eq_some_iff.1 hv).1
  unfold mixW
  rw [List.getElem?_append_right (by simp; omega)]
  simp only [List.length_zipWith, List.length_take]
  rw [show k - min (min k fs.length) (min k vs.length) = 0 by omega, List.getElem?_drop]
  exact hv
theorem mixW_succ {φ : GField → GVal → GVal} {fs : List GField} {vs : List GVal} {k : Nat} {f : GField} {v : GVal} (hf : fs[k]? = some f) (hv : vs[k]? = some v) : mixW φ fs vs (k + 1) = (mixW φ fs vs k).set k (φ f v) := by
  have h1 := (List.getElem?_eq_some_iff.1 hf).1
  have h2 := (List.getElem?_eq_some_iff.1 hv).1
  have hd : vs.drop k = v :: vs.drop (k + 1) := by
    rw [List.drop_eq_getElem_cons h2]; congr 1; exact (List.getElem?_eq_some_iff.1 hv).2
  unfold mixW
  rw [hd, List.take_add_one, List.take_add_one, hf, hv]
  simp only [Option.toList_some]
  rw [List.zipWith_append (by simp; omega)]
  rw [List.set_append_right _ _ (by simp; omega)]
  simp only [List.length_zipWith, List.length_take]
  rw [show k - min (min k fs.length) (min k vs.length) = 0 by omega]
  simp
theorem mixW_no {φ : GField → GVal → GVal} {fs : List GField} {vs : List GVal} {k : Nat} {f : GField} {v : GVal} (h : vs.length = fs.length) (hf : fs[k]? = some f) (hv : vs[k]? = some v) (hk : φ f v = v) : mixW φ fs vs (k + 1) = mixW φ fs vs k := by
  rw [mixW_succ hf hv, hk, set_same (mixW_get h hv)]
def keepF (tf : Int → Int) (f : GField) (v : GVal) : GVal := if f.Kind = 5 ∧ v.R ≠ -1 then { v with R := tf v.R } else v
def TfOK (M : List (Int × AV)) (tf : Int → Int) : Prop := ∀ r, (∃ k, maplk M r = some (.int .i64 k) ∧ tf r = k) ∨ (maplk M r = none ∧ tf r = 1073741825)
theorem maker_kept (up : Bool) (c : Graph) (M : List (Int × AV)) (tf : Int → Int) (hM : TfOK M tf) (m : Nat) (o : GObj) (t : GType) (q : Nat) (ho : c.O[m]? = some o) (hq : o.T = (q : Int)) (ht : c.S[q]? = some t) (hlen : o.F.length = t.F.length) (h5 : t.F.length ≤ 5) : GCall prog up 96 [.lv 0 [] 0, .int .i64 m] 1 [(0, ⟨true, [.sl 2 (c.S.map eType), .sl 3 (c.O.map eObj), .sl 1 (c.Roots.map eI), .omap M]⟩)] (fun r σ' => r = .ref 1 [] 0 ∧ ∃ t', σ' = ⟨2, t', [(0, ⟨true, [.sl 2 (c.S.map eType), .sl 3 (c.O.map eObj), .sl 1 (c.Roots.map eI), .omap M]⟩), (1, ⟨false, [.own 3 ((List.zipWith (keepF tf) t.F o.F).map eVal)]⟩)]⟩) := by
  refine GCall.intro htt 1 func96 (by kernel_rfl) rfl (Nat.le_of_ble_eq_true rfl) (CW.told ?_)
  obtain ⟨oi, oT, oF⟩ := o
  simp only at hq hlen
  subst hq
  have hm := (List.getElem?_eq_some_iff.1 ho).1
  have hqs := (List.getElem?_eq_some_iff.1 ht).1
  simp only [tmps0, Nat.reduceAdd]
  refine CW.seq ?_
  refine CW.rg ?_
  refine CWops.rn htt 1 ?_
  refine CWops.done ?_
  refine CW.seq ?_
  refine CW.rg ?_
  refine CWops.run htt 10 (by simp only [go_sem, simprocAttr, ho, hm, eObj]; exact rfl) (by simp [go_sem, simprocAttr, ho, hm, eObj]) ?_
  refine CWops.done ?_
  refine CW.seq ?_
  refine CW.rg ?_
  refine CWops.run htt 2 (by simp only [go_sem, simprocAttr, eObj]; exact rfl) (by simp [go_sem, simprocAttr, eObj]) ?_
  refine CWops.callG [] rfl (clone_ValG up oF (by unfold MX; omega)) (by simp only [go_sem, simprocAttr]) (by simp only [go_sem, simprocAttr]; first | done | exact rfl) (by decide) (by simp [go_sem, simprocAttr, mName, memB]) (by simp [go_sem, simprocAttr, mName]) (by simp [go_sem, simprocAttr]) (by simp [go_sem, simprocAttr]) (by simp [go_sem, simprocAttr, mName]) (fun r σ' hσ => ?_)
  obtain ⟨σn, σt, σs⟩ := σ'
  simp only at hσ
  obtain ⟨rfl, rfl, rfl⟩ := hσ
  simp only [aftS, renS, delAll, memB, mName, List.getD_nil, killH, kref, ren, Nat.beq_eq, go_sem, simprocAttr]
  refine CWops.run htt 1 (by simp only [go_sem, simprocAttr, eObj]; exact rfl) (by simp [go_sem, simprocAttr, eObj]) ?_
  refine CWops.done ?_
  refine CW.seq ?_
  refine CW.seq ?_
  refine CW.drawn mixed 13 (by decide) (by kernel_rfl) (by kernel_rfl) (by kernel_rfl) ?_
  refine Seg.run htt 13 (by simp only [go_sem, simprocAttr, eObj, ht, hqs, eType]; exact rfl) ?_
  refine Seg.done ?_
  refine CWops.run htt 1 (by simp only [go_sem, simprocAttr, eObj, ht, hqs, eType]; exact rfl) (by simp) ?_
  refine CWops.done ?_
  refine CW.block ?_
  refine CW.loop (S := Nat) (fun k => ⟨3, [(0, .lv 0 [] 0), (5, .lv 1 [] 0), (6, .ref 2 [] 0), (32, .sl 3 (t.F.map eField)), (33, .int .i64 t.F.length), (34, .int .i64 k)], [(0, ⟨true, [.sl 2 (c.S.map eType), .sl 3 (c.O.map eObj), .sl 1 (c.Roots.map eI), .omap M]⟩), (1, ⟨true, eObj ⟨oi, q, oF⟩⟩), (2, ⟨false, [.own 3 ((mixW (keepF tf) t.F oF k).map eVal)]⟩)]⟩) (fun k => k ≤ t.F.length) (fun k => t.F.length - k) (0) ?_ (Nat.zero_le _) (fun k k1 => ?_)
  · refine Sh.wk0 ?_; simp [Wk, go_sem, simprocAttr, mixW_zero, eObj]
  refine CW.seq ?_
  refine CW.rg ?_
  refine CWops.rn htt 1 ?_
  refine CWops.done ?_
  refine CW.seq ?_
  refine CW.cond (by simp only [go_sem, simprocAttr]; first | done | exact rfl) (fun ct35 => ?_) (fun ct35 => ?_)
  · have hk : k < t.F.length := by simpa using ct35
    obtain ⟨v, hv⟩ : ∃ v, oF[k]? = some v := ⟨oF[k], List.getElem?_eq_getElem (by omega)⟩
    obtain ⟨f, hf⟩ : ∃ f, t.F[k]? = some f := ⟨t.F[k], List.getElem?_eq_getElem hk⟩
    have hgv := mixW_get (φ := keepF tf) hlen hv
    have hgl : k < (mixW (keepF tf) t.F oF k).length := (List.getElem?_eq_some_iff.1 hgv).1
    refine CW.skip ?_
    refine CW.seq ?_
    refine CW.block ?_
    refine CW.seq ?_
    refine CW.rg ?_
    refine CWops.run htt 6 (by simp only [go_sem, simprocAttr, hf, eField]; exact rfl) (by simp [go_sem, simprocAttr, hf, eField]) ?_
    refine CWops.done ?_
    refine CW.seq ?_
    refine CW.cut ⟨4, [(0, .lv 0 [] 0), (5, .lv 1 [] 0), (6, .ref 2 [] 0), (32, .sl 3 (t.F.map eField)), (33, .int .i64 t.F.length), (34, .int .i64 k), (7, .int .i64 k), (8, .lv 3 [] 0), (49, .bool (!decide (f.Kind = 5) || decide (v.R = -1)))], [(0, ⟨true, [.sl 2 (c.S.map eType), .sl 3 (c.O.map eObj), .sl 1 (c.Roots.map eI), .omap M]⟩), (1, ⟨true, eObj ⟨oi, q, oF⟩⟩), (2, ⟨false, [.own 3 ((mixW (keepF tf) t.F oF k).map eVal)]⟩), (3, ⟨true, eField f⟩)]⟩ ?_ ?_
    · refine CW.rg ?_
      refine CWops.run htt 4 (by simp only [go_sem, simprocAttr, eField, hgv, hgl, eVal, List.length_map]; exact rfl) (by simp [go_sem, simprocAttr, eField, hgv, hgl, eVal, List.length_map]) ?_
      all_goals (first | refine CWops.guard 42 (by simp only [go_sem, simprocAttr, eField, hgv, hgl, eVal, List.length_map]; exact rfl) (fun g42 => ?_) (fun g42 => ?_) | skip)
      all_goals (refine CWops.run htt 7 (by simp only [go_sem, simprocAttr, eField, hgv, hgl, eVal, List.length_map]; exact rfl) (by simp [go_sem, simprocAttr, eField, hgv, hgl, eVal, List.length_map]) ?_)
      all_goals (refine CWops.done ?_)
      all_goals (
        refine ⟨rfl, Sh.wk0 ?_⟩
        simp_all [Wk, go_sem, simprocAttr, eObj, eField, eVal])
    refine CW.cond (by simp only [go_sem, simprocAttr]; first | done | exact rfl) (fun ct49 => ?_) (fun ct49 => ?_)
    · have hno : keepF tf f v = v := by
        unfold keepF
        rw [if_neg (fun h => by simp [h.1] at ct49; exact h.2 ct49)]
      have hnx := mixW_no hlen hf hv hno
      refine CW.exit ?_
      refine CW.rg ?_
      refine CWops.run htt 2 (by simp only [go_sem, simprocAttr, wrap_succ (show k < MX by unfold MX; omega)]; exact rfl) (by simp [go_sem, simprocAttr, wrap_succ (show k < MX by unfold MX; omega)]) ?_
      refine CWops.done ?_
      refine ⟨k + 1, ?_, ?_, ?_⟩
      · refine Sh.wk0 ?_
        dsimp only
        rw [hnx]
        first | (simp [Wk, go_sem, simprocAttr, eObj]; done) | (simp [Wk, go_sem, simprocAttr, eObj, List.map_set, eVal, hIs]; done) | (rw [hT]; simp [Wk, go_sem, simprocAttr, eObj, List.map_set, eVal])
      · exact hk
      · simp only; omega
    · have hk5 : f.Kind = 5 ∧ v.R ≠ -1 := by simpa using ct49
      have hyes : keepF tf f v = ⟨v.N, v.S, tf v.R⟩ := by unfold keepF; rw [if_pos hk5]
      have hnx := mixW_succ (φ := keepF tf) hf hv
      rw [hyes] at hnx
      refine CW.skip ?_
      refine CW.cut ⟨4, [(0, .lv 0 [] 0), (5, .lv 1 [] 0), (6, .ref 2 [] 0), (32, .sl 3 (t.F.map eField)), (33, .int .i64 t.F.length), (34, .int .i64 k), (7, .int .i64 k), (8, .lv 3 [] 0), (9, .int .i64 (if (maplk M v.R).isSome = true then tf v.R else 0)), (10, .bool (maplk M v.R).isSome)], [(0, ⟨true, [.sl 2 (c.S.map eType), .sl 3 (c.O.map eObj), .sl 1 (c.Roots.map eI), .omap M]⟩), (1, ⟨true, eObj ⟨oi, q, oF⟩⟩), (2, ⟨false, [.own 3 ((mixW (keepF tf) t.F oF k).map eVal)]⟩), (3, ⟨true, eField f⟩)]⟩ ?_ ?_
      · rcases hM v.R with ⟨k', hm1, hm2⟩ | ⟨hm1, hm2⟩
        all_goals (refine CW.drawn mixed 14 (by decide) (by kernel_rfl) (by kernel_rfl) (by kernel_rfl) ?_)
        all_goals (refine Seg.run htt 14 (by simp only [go_sem, simprocAttr, hgv, hgl, eVal, List.length_map, hm1]; exact rfl) ?_)
        all_goals (refine Seg.done ?_)
        all_goals (refine CWops.run htt 1 (by simp only [go_sem, simprocAttr, hgv, hgl, eVal, List.length_map, hm1]; exact rfl) (by simp [go_sem, simprocAttr, hgv, hgl, eVal, List.length_map, hm1]) ?_)
        all_goals (refine CWops.done ?_)
        all_goals (
          refine ⟨rfl, Sh.wk0 ?_⟩
          simp [Wk, go_sem, simprocAttr, eObj, eField, hm1, hm2])
      refine CW.seq ?_
      refine CW.seq ?_
      refine CW.rg ?_
      refine CWops.rn htt 2 ?_
      refine CWops.done ?_
      refine CW.cond (by simp only [go_sem, simprocAttr]; first | done | exact rfl) (fun ct64 => ?_) (fun ct64 => ?_)
      · have hIs : (maplk M v.R).isSome = false := by simpa using ct64
        have hT : tf v.R = 1073741825 := by
          rcases hM v.R with ⟨k', h1, _⟩ | ⟨_, h2⟩
          · rw [h1] at hIs; cases hIs
          · exact h2
        refine CW.rg ?_
        refine CWops.rn htt 1 ?_
        refine CWops.done ?_
        refine CW.rg ?_
        refine CWops.run htt 6 (by simp only [go_sem, simprocAttr, hgv, hgl, eVal, List.length_map, hIs]; exact rfl) (by simp [go_sem, simprocAttr, hgv, hgl, eVal, List.length_map, hIs]) ?_
        refine CWops.done ?_
        refine CW.rg ?_
        refine CWops.run htt 2 (by simp only [go_sem, simprocAttr, wrap_succ (show k < MX by unfold MX; omega)]; exact rfl) (by simp [go_sem, simprocAttr, wrap_succ (show k < MX by unfold MX; omega)]) ?_
        refine CWops.done ?_
        refine ⟨k + 1, ?_, ?_, ?_⟩
        · refine Sh.wk0 ?_
          dsimp only
          rw [hnx]
          first | (simp [Wk, go_sem, simprocAttr, eObj]; done) | (simp [Wk, go_sem, simprocAttr, eObj, List.map_set, eVal, hIs]; done) | (rw [hT]; simp [Wk, go_sem, simprocAttr, eObj, List.map_set, eVal])
        · exact hk
        · simp only; omega
      · have hIs : (maplk M v.R).isSome = true := by simpa using ct64
        have hT : tf v.R = tf v.R := rfl
        refine CW.skip ?_
        refine CW.rg ?_
        refine CWops.run htt 6 (by simp only [go_sem, simprocAttr, hgv, hgl, eVal, List.length_map, hIs]; exact rfl) (by simp [go_sem, simprocAttr, hgv, hgl, eVal, List.length_map, hIs]) ?_
        refine CWops.done ?_
        refine CW.rg ?_
        refine CWops.run htt 2 (by simp only [go_sem, simprocAttr, wrap_succ (show k < MX by unfold MX; omega)]; exact rfl) (by simp [go_sem, simprocAttr, wrap_succ (show k < MX by unfold MX; omega)]) ?_
        refine CWops.done ?_
        refine ⟨k + 1, ?_, ?_, ?_⟩
        · refine Sh.wk0 ?_
          dsimp only
          rw [hnx]
          first | (simp [Wk, go_sem, simprocAttr, eObj]; done) | (simp [Wk, go_sem, simprocAttr, eObj, List.map_set, eVal, hIs]; done) | (rw [hT]; simp [Wk, go_sem, simprocAttr, eObj, List.map_set, eVal])
        · exact hk
        · simp only; omega
  · have hk : k = t.F.length := by simp at ct35; omega
    refine CW.exit ?_
    refine CW.seq ?_
    refine CW.rg ?_
    refine CWops.rn htt 2 ?_
    refine CWops.done ?_
    refine CW.ret ?_
    refine ⟨⟨2, [(0, .lv 0 [] 0), (4, .ref 1 [] 0)], [(0, ⟨true, [.sl 2 (c.S.map eType), .sl 3 (c.O.map eObj), .sl 1 (c.Roots.map eI), .omap M]⟩), (1, ⟨false, [.own 3 ((List.zipWith (keepF tf) t.F oF).map eVal)]⟩)]⟩, ?_, .inr rfl, by simp [ptrOK, go_sem, simprocAttr], _, by simp only [f96, go_sem, simprocAttr]; exact rfl, ?_⟩ -- ret1
    · rw [hk, mixW_all _ _ _ hlen]
      refine Sh.wk (fun x => if x = 1 then 2 else x) ?_
      simp [Wk, go_sem, simprocAttr]
    · exact ⟨rfl, _, rfl⟩
end Go.Ab
namespace Go.Ab
open Go Go.Proofs.Try Go.RowKit
set_option maxRecDepth 100000
set_option maxHeartbeats 1600000
def objR : Option GObj → AV
  | some o => .tup [.agg (eObj o), .bool true]
  | none => .tup [.agg [.int .i64 0, .int .i64 0, .nilsl], .bool false]
def frOK (c : Graph) (q : Int) (xF : Int) : Bool := decide (0 ≤ xF) && (match c.O[xF.toNat]? with
  | some o => decide (o.T = q)
  | none => false)
theorem apl_bad {c : Graph} {m : List (Int × Nat)} {id : Nat} {xF xT : Int} {xS : List GCell} (h : (decide (0 ≤ xT) && decide (xT < c.S.length)) = false) : aplObj c m id ⟨xF, xT, xS⟩ = none := by
  unfold aplObj
  have : typeAt c.S xT = none := by
    unfold typeAt
    split
    · rename_i h0
      rw [List.getElem?_eq_none]
      simp [h0] at h
      omega
    · rfl
  simp only [this]
theorem apl_new {c : Graph} {m : List (Int × Nat)} {id q : Nat} {xS : List GCell} {t : GType} (ht : c.S[q]? = some t) : aplObj c m id ⟨-1, q, xS⟩ = if xS.length = t.F.length then (setAll (-1) xS (t.F.map fun _ => ⟨0, ⟨#[]⟩, 0⟩)).map (fun F => ⟨id, q, F⟩) else none := by
  unfold aplObj
  have : typeAt c.S (q : Int) = some t := by unfold typeAt; rw [if_pos (by omega)]; simpa using ht
  simp only [this, if_true]
theorem apl_fr {c : Graph} {m : List (Int × Nat)} {id q : Nat} {xF : Int} {xS : List GCell} {t : GType} (ht : c.S[q]? = some t) (hn : xF ≠ -1) (h : frOK c q xF = false) : aplObj c m id ⟨xF, q, xS⟩ = none := by
  unfold aplObj
  have : typeAt c.S (q : Int) = some t := by unfold typeAt; rw [if_pos (by omega)]; simpa using ht
  simp only [this]
  rw [if_neg hn]
  split
  · rfl
  · rename_i h0
    unfold frOK at h
    cases ho : c.O[xF.toNat]? with
    | none => rfl
    | some o =>
      rw [ho] at h
      simp [show 0 ≤ xF by omega] at h
      simp only
      rw [if_neg h]
theorem apl_old {c : Graph} {m : List (Int × Nat)} {id q n : Nat} {xS : List GCell} {t : GType} {o : GObj} (ht : c.S[q]? = some t) (ho : c.O[n]? = some o) (hT : o.T = (q : Int)) : aplObj c m id ⟨(n : Int), q, xS⟩ = (setAll (-1) xS (List.zipWith (keepF (toOf m)) t.F o.F)).map (fun F => ⟨id, q, F⟩) := by
  unfold aplObj
  have : typeAt c.S (q : Int) = some t := by unfold typeAt; rw [if_pos (by omega)]; simpa using ht
  simp only [this]
  rw [if_neg (by omega), if_neg (by omega), Int.toNat_natCast, ho]
  simp only [hT, if_true]
  rfl
theorem fr_cases (c : Graph) (q : Nat) (xF : Int) : (decide (xF < 0) = true ∧ True ∧ True ∧ True ∧ frOK c q xF = false) ∨ (decide (xF < 0) = false ∧ decide ((c.O.length : Int) ≤ xF) = true ∧ True ∧ True ∧ frOK c q xF = false) ∨
    ∃ (mm : Nat) (oc : GObj), xF = mm ∧ decide ((mm : Int) < 0) = false ∧ decide ((c.O.length : Int) ≤ (mm : Int)) = false ∧ c.O[mm]? = some oc ∧ mm < c.O.length ∧ frOK c q (mm : Int) = decide (oc.T = q) := by
  by_cases h1 : xF < 0
  · exact .inl ⟨decide_eq_true h1, trivial, trivial, trivial, by unfold frOK; rw [show decide (0 ≤ xF) = false from decide_eq_false (by omega)]; rfl⟩
  · by_cases h2 : (c.O.length : Int) ≤ xF
    · refine .inr (.inl ⟨decide_eq_false (by omega), decide_eq_true h2, trivial, trivial, ?_⟩)
      unfold frOK
      rw [List.getElem?_eq_none (by omega)]
      simp
    · obtain ⟨mm, rfl⟩ := Int.eq_ofNat_of_zero_le (show 0 ≤ xF by omega)
      have hmm : mm < c.O.length := by omega
      exact .inr (.inr ⟨mm, c.O[mm], rfl, decide_eq_false (by omega), decide_eq_false (by omega), List.getElem?_eq_getElem hmm, hmm, by unfold frOK; rw [Int.toNat_natCast, List.getElem?_eq_getElem hmm]; simp⟩)
theorem setAll_no {last : Int} {s : GCell} {r : List GCell} {F : List GVal} (h : (decide (s.F ≤ last) || decide ((F.length : Int) ≤ s.F)) = true) : setAll last (s :: r) F = none := by
  simp only [setAll]
  rw [if_pos (by simpa using h)]
theorem setAll_yes {last : Int} {s : GCell} {r : List GCell} {F : List GVal} (h : (decide (s.F ≤ last) || decide ((F.length : Int) ≤ s.F)) = false) : setAll last (s :: r) F = setAll s.F r (F.set s.F.toNat s.V) := by
  simp only [setAll]
  rw [if_neg (by simpa using h)]
theorem drop_at {α : Type} {l : List α} {i : Nat} {x : α} (h : l[i]? = some x) : l.drop i = x :: l.drop (i + 1) := by
  obtain ⟨h1, h2⟩ := List.getElem?_eq_some_iff.1 h
  rw [List.drop_eq_getElem_cons h1, h2]
theorem maker_object (up : Bool) (c : Graph) (hmc : May c) (M : List (Int × AV)) (m : List (Int × Nat)) (hM : TfOK M (toOf m)) (id : Nat) (x : GItem) (hxS : x.Set.length ≤ MX) : GCall prog up 66 [.lv 0 [] 0, .int .i64 id, .agg (eItem x)] 1 [(0, ⟨true, [.sl 2 (c.S.map eType), .sl 3 (c.O.map eObj), .sl 1 (c.Roots.map eI), .omap M]⟩)] (fun r σ' => r = objR (aplObj c m id x) ∧ ∃ t' R, σ' = ⟨2, t', [(0, ⟨true, [.sl 2 (c.S.map eType), .sl 3 (c.O.map eObj), .sl 1 (c.Roots.map eI), .omap M]⟩), (1, R)]⟩) := by
  refine GCall.intro htt 1 func66 (by kernel_rfl) rfl (Nat.le_of_ble_eq_true rfl) (CW.told ?_)
  obtain ⟨xF, xT, xS⟩ := x
  simp only at hxS
  obtain ⟨hs4, hsh⟩ := short_of hmc.s
  simp only [tmps0, Nat.reduceAdd]
  refine CW.seq ?_
  refine CW.rg ?_
  refine CWops.run htt 3 (by simp only [go_sem, simprocAttr, eItem]; exact rfl) (by simp [go_sem, simprocAttr, eItem]) ?_
  refine CWops.done ?_
  refine CW.seq ?_
  refine CW.cut ⟨3, [(0, .lv 0 [] 0), (1, .int .i64 id), (5, .lv 1 [] 0), (6, .lv 2 [] 0), (26, .bool (!(decide (0 ≤ xT) && decide (xT < c.S.length))))], [(0, ⟨true, [.sl 2 (c.S.map eType), .sl 3 (c.O.map eObj), .sl 1 (c.Roots.map eI), .omap M]⟩), (1, ⟨true, [.int .i64 xF, .int .i64 xT, .sl 4 (xS.map eCell)]⟩), (2, ⟨true, [.int .i64 0, .int .i64 0, .nilsl]⟩)]⟩ ?_ ?_
  · refine CW.drawn mixed 13 (by decide) (by kernel_rfl) (by kernel_rfl) (by kernel_rfl) ?_
    refine Seg.run htt 4 (by simp only [go_sem, simprocAttr]; exact rfl) ?_
    all_goals (first | refine Seg.guard 15 (by simp only [go_sem, simprocAttr]; exact rfl) (fun g15 => ?_) (fun g15 => ?_) | skip)
    all_goals (refine Seg.run htt 9 (by simp only [go_sem, simprocAttr]; exact rfl) ?_)
    all_goals (refine Seg.done ?_)
    all_goals (refine CWops.rn htt 2 ?_)
    all_goals (refine CWops.done ?_)
    all_goals (
      refine ⟨rfl, Sh.wk0 ?_⟩
      simp_all [Wk, go_sem, simprocAttr] <;> first | done | (rw [Bool.eq_iff_iff]; simp; done) | (rw [Bool.eq_iff_iff]; simp; omega) | omega | skip)
  refine CW.cond (by simp only [go_sem, simprocAttr]; first | done | exact rfl) (fun ct26 => ?_) (fun ct26 => ?_)
  · have hN : aplObj c m id ⟨xF, xT, xS⟩ = none := apl_bad (by
      cases h : (decide (0 ≤ xT) && decide (xT < c.S.length)) with
      | false => rfl
      | true => rw [h] at ct26; cases ct26)
    refine CW.seq ?_
    refine CW.rg ?_
    refine CWops.rn htt 3 ?_
    refine CWops.done ?_
    refine CW.ret ?_
    refine ⟨⟨2, [(0, .lv 0 [] 0), (6, .lv 1 [] 0), (7, .bool false)], [(0, ⟨true, [.sl 2 (c.S.map eType), .sl 3 (c.O.map eObj), .sl 1 (c.Roots.map eI), .omap M]⟩), (1, ⟨true, [.int .i64 0, .int .i64 0, .nilsl]⟩)]⟩, ?_, .inr rfl, by simp [ptrOK, go_sem, simprocAttr], _, by simp only [f66, go_sem, simprocAttr]; exact rfl, ?_⟩ -- ret1
    · refine Sh.wk (fun x => if x = 1 then 2 else x) ?_
      simp [Wk, go_sem, simprocAttr, eObj, eCell]
    · exact ⟨by rw [hN]; rfl, _, _, rfl⟩
  · have hT2 : 0 ≤ xT ∧ xT < c.S.length := by simpa using ct26
    obtain ⟨q, rfl⟩ := Int.eq_ofNat_of_zero_le hT2.1
    obtain ⟨t, ht⟩ : ∃ t, c.S[q]? = some t := ⟨c.S[q], List.getElem?_eq_getElem (by omega)⟩
    have hqs := (List.getElem?_eq_some_iff.1 ht).1
    have h5 := (hsh t (List.mem_of_getElem? ht)).l
    refine CW.skip ?_
    refine CW.cut ⟨4, [(0, .lv 0 [] 0), (1, .int .i64 id), (5, .lv 1 [] 0), (6, .lv 2 [] 0), (8, .lv 3 [] 0)], [(0, ⟨true, [.sl 2 (c.S.map eType), .sl 3 (c.O.map eObj), .sl 1 (c.Roots.map eI), .omap M]⟩), (1, ⟨true, [.int .i64 xF, .int .i64 q, .sl 4 (xS.map eCell)]⟩), (2, ⟨true, [.int .i64 0, .int .i64 0, .nilsl]⟩), (3, ⟨true, [.int .i64 id, .int .i64 q, .own 3 (List.replicate t.F.length [.int .i64 0, .str ⟨#[]⟩, .int .i64 0])]⟩)]⟩ ?_ ?_
    · refine CW.ord mixed (by kernel_rfl) ?_
      refine OrdOK.either 15 17 (by decide) (by decide) (by decide) (by kernel_rfl) ?_ ?_
      · refine OrdOK.either 16 17 (by decide) (by decide) (by decide) (by kernel_rfl) ?_ ?_
        · refine OrdOK.of ?_
          refine AnyOK.drawnP0 [0, 1, 2, 3, 4, 5, 6, 7, 8, 9, 10, 11, 12, 13, 14, 15, 16, 17, 18] 15 16 [0, 1, 2] (D := [28, 29, 30]) (by simp only [addE_zero, addE_succ, List.toList_toArray, permL_mk, nthO_zero, nthO_succ, renO_mk, List.map_cons, List.map_nil, go_sem, simprocAttr]; exact rfl) (by kernel_rfl) (by decide) (by decide) (by kernel_rfl) (by kernel_rfl) rfl (by kernel_rfl) ?_
          refine Seg.run htt 15 (by simp only [go_sem, simprocAttr, ht, hqs, eType]; exact rfl) ?_
          refine Seg.done ⟨rfl, ?_⟩
          refine Mid.makeSlice (m := t.F.length) htt (Flo.cons htt rfl rfl (by simp only [go_sem, simprocAttr, ht, hqs, eType]; first | done | exact rfl) (Flo.cons htt rfl rfl (by simp only [go_sem, simprocAttr, ht, hqs, eType]; first | done | exact rfl) (Flo.cons htt rfl rfl (by simp only [go_sem, simprocAttr, ht, hqs, eType]; first | done | exact rfl) (Flo.nil)))) (by decide) tt_51 rfl tt_48 (by decide) rfl (by simp only [go_sem, simprocAttr, ht, List.length_map]) (by simp only [go_sem, simprocAttr, ht, List.length_map]) (by unfold MX; omega) (by simp; unfold MX; omega) ?_
          refine Mid.done (Flo.cons htt rfl rfl (by simp only [go_sem, simprocAttr, ht, hqs, eType]; first | done | exact rfl) (Flo.cons htt rfl rfl (by simp only [go_sem, simprocAttr, ht, hqs, eType]; first | done | exact rfl) (Flo.cons htt rfl rfl (by simp only [go_sem, simprocAttr, ht, hqs, eType]; first | done | exact rfl) (Flo.nil)))) ?_
          refine CWops.run htt 3 (by simp only [go_sem, simprocAttr, ht, hqs, eType]; exact rfl) (by simp [go_sem, simprocAttr, ht, hqs, eType]) ?_
          refine CWops.done ?_
          refine ⟨rfl, ?_⟩
          first | (refine Sh.wk0 ?_; simp [Wk, go_sem, simprocAttr]; done) | (refine Sh.wk (fun x => if x = 3 then 4 else x) ?_; simp [Wk, go_sem, simprocAttr])
        · refine OrdOK.of ?_
          refine AnyOK.drawnP0 [0, 1, 2, 3, 4, 5, 6, 7, 8, 9, 10, 11, 12, 13, 14, 15, 17, 16, 18] 15 17 [0, 1, 2] (D := [28, 29, 30]) (by simp only [addE_zero, addE_succ, List.toList_toArray, permL_mk, nthO_zero, nthO_succ, renO_mk, List.map_cons, List.map_nil, go_sem, simprocAttr]; exact rfl) (by kernel_rfl) (by decide) (by decide) (by kernel_rfl) (by kernel_rfl) rfl (by kernel_rfl) ?_
          refine Seg.run htt 15 (by simp only [go_sem, simprocAttr, ht, hqs, eType]; exact rfl) ?_
          refine Seg.done ⟨rfl, ?_⟩
          refine Mid.makeSlice (m := t.F.length) htt (Flo.cons htt rfl rfl (by simp only [go_sem, simprocAttr, ht, hqs, eType]; first | done | exact rfl) (Flo.cons htt rfl rfl (by simp only [go_sem, simprocAttr, ht, hqs, eType]; first | done | exact rfl) (Flo.cons htt rfl rfl (by simp only [go_sem, simprocAttr, ht, hqs, eType]; first | done | exact rfl) (Flo.nil)))) (by decide) tt_51 rfl tt_48 (by decide) rfl (by simp only [go_sem, simprocAttr, ht, List.length_map]) (by simp only [go_sem, simprocAttr, ht, List.length_map]) (by unfold MX; omega) (by simp; unfold MX; omega) ?_
          refine Mid.eop htt [28, 29, 30] (Flo.cons htt rfl rfl (by simp only [go_sem, simprocAttr, ht, hqs, eType]; first | done | exact rfl) (Flo.cons htt rfl rfl (by simp only [go_sem, simprocAttr, ht, hqs, eType]; first | done | exact rfl) (Flo.cons htt rfl rfl (by simp only [go_sem, simprocAttr, ht, hqs, eType]; first | done | exact rfl) (Flo.nil)))) (by decide) ?_ (by kernel_rfl) (by kernel_rfl) (fun u => by simp only [go_sem, simprocAttr, ht, hqs, eType]; exact rfl) ?_
          · simp [go_sem, simprocAttr, ht, hqs, eType]
          refine Mid.done (Flo.cons htt rfl rfl (by simp only [go_sem, simprocAttr, ht, hqs, eType]; first | done | exact rfl) (Flo.cons htt rfl rfl (by simp only [go_sem, simprocAttr, ht, hqs, eType]; first | done | exact rfl) (Flo.cons htt rfl rfl (by simp only [go_sem, simprocAttr, ht, hqs, eType]; first | done | exact rfl) (Flo.nil)))) ?_
          refine CWops.run htt 2 (by simp only [go_sem, simprocAttr, ht, hqs, eType]; exact rfl) (by simp [go_sem, simprocAttr, ht, hqs, eType]) ?_
          refine CWops.done ?_
          refine ⟨rfl, ?_⟩
          first | (refine Sh.wk0 ?_; simp [Wk, go_sem, simprocAttr]; done) | (refine Sh.wk (fun x => if x = 3 then 4 else x) ?_; simp [Wk, go_sem, simprocAttr])
      · refine OrdOK.of ?_
        refine AnyOK.drawnP0 [0, 1, 2, 3, 4, 5, 6, 7, 8, 9, 10, 11, 12, 13, 14, 17, 15, 16, 18] 15 17 [0, 1, 2, 3, 4, 5, 6, 7, 8, 9, 10, 11, 12, 13, 14] (D := [28, 29, 30, 31, 32, 33, 34, 35, 36, 37, 38, 39, 40, 41, 42]) (by simp only [addE_zero, addE_succ, List.toList_toArray, permL_mk, nthO_zero, nthO_succ, renO_mk, List.map_cons, List.map_nil, go_sem, simprocAttr]; exact rfl) (by kernel_rfl) (by decide) (by decide) (by kernel_rfl) (by kernel_rfl) rfl (by kernel_rfl) ?_
        refine Seg.run htt 15 (by simp only [go_sem, simprocAttr, ht, hqs, eType]; exact rfl) ?_
        refine Seg.done ⟨rfl, ?_⟩
        refine Mid.eop htt [28, 29, 30, 31, 32, 33, 34, 35, 36, 37, 38, 39, 40, 41, 42] (Flo.cons htt rfl rfl (by simp only [go_sem, simprocAttr, ht, hqs, eType]; first | done | exact rfl) (Flo.cons htt rfl rfl (by simp only [go_sem, simprocAttr, ht, hqs, eType]; first | done | exact rfl) (Flo.cons htt rfl rfl (by simp only [go_sem, simprocAttr, ht, hqs, eType]; first | done | exact rfl) (Flo.cons htt rfl rfl (by simp only [go_sem, simprocAttr, ht, hqs, eType]; first | done | exact rfl) (Flo.cons htt rfl rfl (by simp only [go_sem, simprocAttr, ht, hqs, eType]; first | done | exact rfl) (Flo.cons htt rfl rfl (by simp only [go_sem, simprocAttr, ht, hqs, eType]; first | done | exact rfl) (Flo.cons htt rfl rfl (by simp only [go_sem, simprocAttr, ht, hqs, eType]; first | done | exact rfl) (Flo.cons htt rfl rfl (by simp only [go_sem, simprocAttr, ht, hqs, eType]; first | done | exact rfl) (Flo.cons htt rfl rfl (by simp only [go_sem, simprocAttr, ht, hqs, eType]; first | done | exact rfl) (Flo.cons htt rfl rfl (by simp only [go_sem, simprocAttr, ht, hqs, eType]; first | done | exact rfl) (Flo.cons htt rfl rfl (by simp only [go_sem, simprocAttr, ht, hqs, eType]; first | done | exact rfl) (Flo.cons htt rfl rfl (by simp only [go_sem, simprocAttr, ht, hqs, eType]; first | done | exact rfl) (Flo.cons htt rfl rfl (by simp only [go_sem, simprocAttr, ht, hqs, eType]; first | done | exact rfl) (Flo.cons htt rfl rfl (by simp only [go_sem, simprocAttr, ht, hqs, eType]; first | done | exact rfl) (Flo.cons htt rfl rfl (by simp only [go_sem, simprocAttr, ht, hqs, eType]; first | done | exact rfl) (Flo.nil)))))))))))))))) (by decide) ?_ (by kernel_rfl) (by kernel_rfl) (fun u => by simp only [go_sem, simprocAttr, ht, hqs, eType]; exact rfl) ?_
        · simp [go_sem, simprocAttr, ht, hqs, eType]
        refine Mid.makeSlice (m := t.F.length) htt (Flo.cons htt rfl rfl (by simp only [go_sem, simprocAttr, ht, hqs, eType]; first | done | exact rfl) (Flo.cons htt rfl rfl (by simp only [go_sem, simprocAttr, ht, hqs, eType]; first | done | exact rfl) (Flo.cons htt rfl rfl (by simp only [go_sem, simprocAttr, ht, hqs, eType]; first | done | exact rfl) (Flo.cons htt rfl rfl (by simp only [go_sem, simprocAttr, ht, hqs, eType]; first | done | exact rfl) (Flo.cons htt rfl rfl (by simp only [go_sem, simprocAttr, ht, hqs, eType]; first | done | exact rfl) (Flo.cons htt rfl rfl (by simp only [go_sem, simprocAttr, ht, hqs, eType]; first | done | exact rfl) (Flo.cons htt rfl rfl (by simp only [go_sem, simprocAttr, ht, hqs, eType]; first | done | exact rfl) (Flo.cons htt rfl rfl (by simp only [go_sem, simprocAttr, ht, hqs, eType]; first | done | exact rfl) (Flo.cons htt rfl rfl (by simp only [go_sem, simprocAttr, ht, hqs, eType]; first | done | exact rfl) (Flo.cons htt rfl rfl (by simp only [go_sem, simprocAttr, ht, hqs, eType]; first | done | exact rfl) (Flo.cons htt rfl rfl (by simp only [go_sem, simprocAttr, ht, hqs, eType]; first | done | exact rfl) (Flo.cons htt rfl rfl (by simp only [go_sem, simprocAttr, ht, hqs, eType]; first | done | exact rfl) (Flo.cons htt rfl rfl (by simp only [go_sem, simprocAttr, ht, hqs, eType]; first | done | exact rfl) (Flo.cons htt rfl rfl (by simp only [go_sem, simprocAttr, ht, hqs, eType]; first | done | exact rfl) (Flo.cons htt rfl rfl (by simp only [go_sem, simprocAttr, ht, hqs, eType]; first | done | exact rfl) (Flo.nil)))))))))))))))) (by decide) tt_51 rfl tt_48 (by decide) rfl (by simp only [go_sem, simprocAttr, ht, List.length_map]) (by simp only [go_sem, simprocAttr, ht, List.length_map]) (by unfold MX; omega) (by simp; unfold MX; omega) ?_
        refine Mid.done (Flo.cons htt rfl rfl (by simp only [go_sem, simprocAttr, ht, hqs, eType]; first | done | exact rfl) (Flo.cons htt rfl rfl (by simp only [go_sem, simprocAttr, ht, hqs, eType]; first | done | exact rfl) (Flo.cons htt rfl rfl (by simp only [go_sem, simprocAttr, ht, hqs, eType]; first | done | exact rfl) (Flo.cons htt rfl rfl (by simp only [go_sem, simprocAttr, ht, hqs, eType]; first | done | exact rfl) (Flo.cons htt rfl rfl (by simp only [go_sem, simprocAttr, ht, hqs, eType]; first | done | exact rfl) (Flo.cons htt rfl rfl (by simp only [go_sem, simprocAttr, ht, hqs, eType]; first | done | exact rfl) (Flo.cons htt rfl rfl (by simp only [go_sem, simprocAttr, ht, hqs, eType]; first | done | exact rfl) (Flo.cons htt rfl rfl (by simp only [go_sem, simprocAttr, ht, hqs, eType]; first | done | exact rfl) (Flo.cons htt rfl rfl (by simp only [go_sem, simprocAttr, ht, hqs, eType]; first | done | exact rfl) (Flo.cons htt rfl rfl (by simp only [go_sem, simprocAttr, ht, hqs, eType]; first | done | exact rfl) (Flo.cons htt rfl rfl (by simp only [go_sem, simprocAttr, ht, hqs, eType]; first | done | exact rfl) (Flo.cons htt rfl rfl (by simp only [go_sem, simprocAttr, ht, hqs, eType]; first | done | exact rfl) (Flo.cons htt rfl rfl (by simp only [go_sem, simprocAttr, ht, hqs, eType]; first | done | exact rfl) (Flo.cons htt rfl rfl (by simp only [go_sem, simprocAttr, ht, hqs, eType]; first | done | exact rfl) (Flo.cons htt rfl rfl (by simp only [go_sem, simprocAttr, ht, hqs, eType]; first | done | exact rfl) (Flo.nil)))))))))))))))) ?_
        refine CWops.run htt 2 (by simp only [go_sem, simprocAttr, ht, hqs, eType]; exact rfl) (by simp [go_sem, simprocAttr, ht, hqs, eType]) ?_
        refine CWops.done ?_
        refine ⟨rfl, ?_⟩
        first | (refine Sh.wk0 ?_; simp [Wk, go_sem, simprocAttr]; done) | (refine Sh.wk (fun x => if x = 3 then 4 else x) ?_; simp [Wk, go_sem, simprocAttr])
    refine CW.seq ?_
    refine CW.seq ?_
    refine CW.rg ?_
    refine CWops.rn htt 3 ?_
    refine CWops.done ?_
    refine CW.cond (by simp only [go_sem, simprocAttr]; first | done | exact rfl) (fun ct47 => ?_) (fun ct47 => ?_)
    · have hne : xF ≠ -1 := by simpa using ct47
      refine CW.seq ?_
      refine CW.cut ⟨4, [(0, .lv 0 [] 0), (1, .int .i64 id), (5, .lv 1 [] 0), (6, .lv 2 [] 0), (8, .lv 3 [] 0), (76, .bool (!frOK c q xF))], [(0, ⟨true, [.sl 2 (c.S.map eType), .sl 3 (c.O.map eObj), .sl 1 (c.Roots.map eI), .omap M]⟩), (1, ⟨true, [.int .i64 xF, .int .i64 q, .sl 4 (xS.map eCell)]⟩), (2, ⟨true, [.int .i64 0, .int .i64 0, .nilsl]⟩), (3, ⟨true, [.int .i64 id, .int .i64 q, .own 3 (List.replicate t.F.length [.int .i64 0, .str ⟨#[]⟩, .int .i64 0])]⟩)]⟩ ?_ ?_
      · rcases fr_cases c q xF with ⟨e51, e60, hO, hmm, hok⟩ | ⟨e51, e60, hO, hmm, hok⟩ | ⟨mm, oc, rfl, e51, e60, hO, hmm, hok⟩
        all_goals (refine CW.drawn mixed 27 (by decide) (by kernel_rfl) (by kernel_rfl) (by kernel_rfl) ?_)
        all_goals (refine Seg.run htt 4 (by simp only [go_sem, simprocAttr, e51, e60, hO, hmm, eObj]; exact rfl) ?_)
        all_goals (first | refine Seg.guard 51 (by simp only [go_sem, simprocAttr, e51, e60, hO, hmm, eObj]; exact rfl) (fun g51 => ?_) (fun g51 => ?_) | skip)
        all_goals (first | (cases g51; done) | skip)
        all_goals (refine Seg.run htt 11 (by simp only [go_sem, simprocAttr, e51, e60, hO, hmm, eObj]; exact rfl) ?_)
        all_goals (first | refine Seg.guard 62 (by simp only [go_sem, simprocAttr, e51, e60, hO, hmm, eObj]; exact rfl) (fun g62 => ?_) (fun g62 => ?_) | skip)
        all_goals (first | (cases g62; done) | skip)
        all_goals (refine Seg.run htt 12 (by simp only [go_sem, simprocAttr, e51, e60, hO, hmm, eObj]; exact rfl) ?_)
        all_goals (refine Seg.done ?_)
        all_goals (refine CWops.run htt 2 (by simp only [go_sem, simprocAttr, e51, e60, hO, hmm, eObj]; exact rfl) (by simp [go_sem, simprocAttr, e51, e60, hO, hmm, eObj]) ?_)
        all_goals (refine CWops.done ?_)
        all_goals (
          refine ⟨rfl, Sh.wk0 ?_⟩
          simp [Wk, go_sem, simprocAttr, hok, eObj])
      refine CW.cond (by simp only [go_sem, simprocAttr]; first | done | exact rfl) (fun ct76 => ?_) (fun ct76 => ?_)
      · have hN : aplObj c m id ⟨xF, q, xS⟩ = none := apl_fr ht hne (by simpa using ct76)
        refine CW.seq ?_
        refine CW.rg ?_
        refine CWops.rn htt 3 ?_
        refine CWops.done ?_
        refine CW.ret ?_
        refine ⟨⟨2, [(0, .lv 0 [] 0), (6, .lv 1 [] 0), (7, .bool false)], [(0, ⟨true, [.sl 2 (c.S.map eType), .sl 3 (c.O.map eObj), .sl 1 (c.Roots.map eI), .omap M]⟩), (1, ⟨true, [.int .i64 0, .int .i64 0, .nilsl]⟩)]⟩, ?_, .inr rfl, by simp [ptrOK, go_sem, simprocAttr], _, by simp only [f66, go_sem, simprocAttr]; exact rfl, ?_⟩ -- ret2
        · refine Sh.wk (fun x => if x = 1 then 2 else x) ?_
          simp [Wk, go_sem, simprocAttr, eObj, eCell]
        · exact ⟨by rw [hN]; rfl, _, _, rfl⟩
      · have hfr : frOK c q xF = true := by simpa using ct76
        obtain ⟨mm, oc, rfl, hO, hoT⟩ : ∃ (mm : Nat) (oc : GObj), xF = mm ∧ c.O[mm]? = some oc ∧ oc.T = (q : Int) := by
          unfold frOK at hfr
          simp only [Bool.and_eq_true, decide_eq_true_eq] at hfr
          obtain ⟨mm, rfl⟩ := Int.eq_ofNat_of_zero_le hfr.1
          have h2 := hfr.2
          rw [Int.toNat_natCast] at h2
          cases ho : c.O[mm]? with
          | none => rw [ho] at h2; cases h2
          | some oc => rw [ho] at h2; exact ⟨mm, oc, rfl, ho, by simpa using h2⟩
        have hlen : oc.F.length = t.F.length := by
          obtain ⟨_, t2, ht2, hmo⟩ := hmc.objT hO
          have := hmo.at_
          rw [hoT, Int.toNat_natCast, ht] at this
          cases this
          exact hmo.len
        obtain ⟨F0, hF0⟩ : ∃ F0, F0 = List.zipWith (keepF (toOf m)) t.F oc.F := ⟨_, rfl⟩
        have hF0l : F0.length = t.F.length := by rw [hF0, List.length_zipWith, hlen, Nat.min_self]
        have hap : aplObj c m id ⟨(mm : Int), q, xS⟩ = (setAll (-1) xS F0).map (fun F => ⟨id, q, F⟩) := by rw [hF0]; exact apl_old ht hO hoT
        obtain ⟨xF, hxF⟩ : ∃ xF : Int, (mm : Int) = xF := ⟨_, rfl⟩
        refine CW.skip ?_
        refine CW.rg ?_
        refine CWops.rn htt 3 ?_
        refine CWops.callG [0] rfl (maker_kept up c M (toOf m) hM mm oc t q hO hoT ht hlen h5) (by simp only [go_sem, simprocAttr]) (by simp only [go_sem, simprocAttr]; first | done | exact rfl) (by decide) (by simp [go_sem, simprocAttr, mName, memB]) (by simp [go_sem, simprocAttr, mName]) (by simp [go_sem, simprocAttr]) (by simp [go_sem, simprocAttr]) (by simp [go_sem, simprocAttr, mName]) (fun r σ' hσ => ?_)
        obtain ⟨rfl, t', rfl⟩ := hσ
        simp only [aftS, renS, delAll, memB, mName, List.getD_nil, killH, kref, ren, Nat.beq_eq, go_sem, simprocAttr]
        refine CWops.rn htt 2 ?_
        refine CWops.done ?_
        refine CW.seq ?_
        refine CW.rg ?_
        refine CWops.rn htt 1 ?_
        refine CWops.done ?_
        refine CW.seq ?_
        refine CW.seq ?_
        refine CW.rg ?_
        refine CWops.rn htt 4 ?_
        refine CWops.done ?_
        refine CW.block ?_
        refine CW.loop (S := Nat × Int × List GVal) (fun p => ⟨4, [(0, .lv 0 [] 0), (1, .int .i64 id), (5, .lv 1 [] 0), (6, .lv 2 [] 0), (8, .lv 3 [] 0), (9, .int .i64 p.2.1), (92, .sl 4 (xS.map eCell)), (93, .int .i64 xS.length), (94, .int .i64 p.1)], [(0, ⟨true, [.sl 2 (c.S.map eType), .sl 3 (c.O.map eObj), .sl 1 (c.Roots.map eI), .omap M]⟩), (1, ⟨true, [.int .i64 xF, .int .i64 q, .sl 4 (xS.map eCell)]⟩), (2, ⟨true, [.int .i64 0, .int .i64 0, .nilsl]⟩), (3, ⟨true, [.int .i64 id, .int .i64 q, .own 3 (p.2.2.map eVal)]⟩)]⟩) (fun p => p.1 ≤ xS.length ∧ setAll (-1) xS F0 = setAll p.2.1 (xS.drop p.1) p.2.2 ∧ p.2.2.length = t.F.length ∧ -1 ≤ p.2.1) (fun p => xS.length - p.1) ((0, -1, F0)) ?_ ⟨Nat.zero_le _, by simp, hF0l, by simp⟩ (fun ⟨i, la, F⟩ ⟨p1, p2, p3, p4⟩ => ?_)
        · refine Sh.wk0 ?_; first | (simp [Wk, go_sem, simprocAttr, hF0, eVal, ← hxF]; done) | (simp [Wk, go_sem, simprocAttr, hF0e, ← hxF])
        refine CW.seq ?_
        refine CW.rg ?_
        refine CWops.rn htt 1 ?_
        refine CWops.done ?_
        refine CW.seq ?_
        refine CW.cond (by simp only [go_sem, simprocAttr]; first | done | exact rfl) (fun ct95 => ?_) (fun ct95 => ?_)
        · simp only at p1 p2 p3 p4
          have hi : i < xS.length := by simpa using ct95
          obtain ⟨s, hx⟩ : ∃ s, xS[i]? = some s := ⟨xS[i], List.getElem?_eq_getElem hi⟩
          rw [drop_at hx] at p2
          refine CW.skip ?_
          refine CW.seq ?_
          refine CW.block ?_
          refine CW.seq ?_
          refine CW.rg ?_
          refine CWops.run htt 4 (by simp only [go_sem, simprocAttr, hx, eCell, eVal]; exact rfl) (by simp [go_sem, simprocAttr, hx, eCell, eVal]) ?_
          refine CWops.done ?_
          refine CW.seq ?_
          refine CW.cut ⟨5, [(0, .lv 0 [] 0), (1, .int .i64 id), (5, .lv 1 [] 0), (6, .lv 2 [] 0), (8, .lv 3 [] 0), (9, .int .i64 la), (92, .sl 4 (xS.map eCell)), (93, .int .i64 xS.length), (94, .int .i64 i), (11, .lv 4 [] 0), (109, .bool (decide (s.F ≤ la) || decide ((F.length : Int) ≤ s.F)))], [(0, ⟨true, [.sl 2 (c.S.map eType), .sl 3 (c.O.map eObj), .sl 1 (c.Roots.map eI), .omap M]⟩), (1, ⟨true, [.int .i64 xF, .int .i64 q, .sl 4 (xS.map eCell)]⟩), (2, ⟨true, [.int .i64 0, .int .i64 0, .nilsl]⟩), (3, ⟨true, [.int .i64 id, .int .i64 q, .own 3 (F.map eVal)]⟩), (4, ⟨true, eCell s⟩)]⟩ ?_ ?_
          · refine CW.rg ?_
            refine CWops.run htt 5 (by simp only [go_sem, simprocAttr, eVal]; exact rfl) (by simp [go_sem, simprocAttr, eVal]) ?_
            all_goals (first | refine CWops.guard 102 (by simp only [go_sem, simprocAttr, eVal]; exact rfl) (fun g102 => ?_) (fun g102 => ?_) | skip)
            all_goals (refine CWops.run htt 7 (by simp only [go_sem, simprocAttr, eVal]; exact rfl) (by simp [go_sem, simprocAttr, eVal]) ?_)
            all_goals (refine CWops.done ?_)
            all_goals (
              refine ⟨rfl, Sh.wk0 ?_⟩
              simp_all [Wk, go_sem, simprocAttr, eCell, eVal] <;> first | done | omega | (intros; omega) | skip)
          refine CW.cond (by simp only [go_sem, simprocAttr]; first | done | exact rfl) (fun ct109 => ?_) (fun ct109 => ?_)
          · have hN := hap
            rw [p2, setAll_no ct109] at hN
            simp only [Option.map_none] at hN
            refine CW.seq ?_
            refine CW.rg ?_
            refine CWops.rn htt 3 ?_
            refine CWops.done ?_
            refine CW.ret ?_
            refine ⟨⟨2, [(0, .lv 0 [] 0), (6, .lv 1 [] 0), (7, .bool false)], [(0, ⟨true, [.sl 2 (c.S.map eType), .sl 3 (c.O.map eObj), .sl 1 (c.Roots.map eI), .omap M]⟩), (1, ⟨true, [.int .i64 0, .int .i64 0, .nilsl]⟩)]⟩, ?_, .inr rfl, by simp [ptrOK, go_sem, simprocAttr], _, by simp only [f66, go_sem, simprocAttr]; exact rfl, ?_⟩ -- ret3
            · refine Sh.wk (fun x => if x = 1 then 2 else x) ?_
              simp [Wk, go_sem, simprocAttr, eObj, eCell]
            · exact ⟨by rw [hN]; rfl, _, _, rfl⟩
          · rw [setAll_yes ct109] at p2
            have hb2 : ¬ s.F ≤ la ∧ ¬ (F.length : Int) ≤ s.F := by simpa using ct109
            obtain ⟨sF, sV⟩ := s
            simp only at p2 hb2
            obtain ⟨k, rfl⟩ := Int.eq_ofNat_of_zero_le (show 0 ≤ sF by omega)
            rw [Int.toNat_natCast] at p2
            have hkF : k < F.length := by omega
            obtain ⟨fv, hgF⟩ : ∃ fv, F[k]? = some fv := ⟨F[k], List.getElem?_eq_getElem hkF⟩
            have hsk : ∀ X : List AV, ((F.map eVal).set k X)[k]? = some X := fun X => List.getElem?_set_self (by simpa using hkF)
            refine CW.skip ?_
            refine CW.drawnF mixed 9 10 [6, 7] (D := [117, 118]) (by decide) (by decide) (by kernel_rfl) (by kernel_rfl) rfl (by kernel_rfl) (by kernel_rfl) ?_
            refine Seg.run htt 9 (by simp only [go_sem, simprocAttr, eCell, hkF, hgF, eVal, List.length_map, hsk, List.set_set]; exact rfl) ?_
            refine Seg.done ?_
            refine Mid.sto htt (Flo.cons htt rfl rfl (by simp only [go_sem, simprocAttr, eCell, hkF, hgF, eVal, List.length_map, hsk, List.set_set]; first | done | exact rfl) (Flo.cons htt rfl rfl (by simp only [go_sem, simprocAttr, eCell, hkF, hgF, eVal, List.length_map, hsk, List.set_set]; first | done | exact rfl) (Flo.nil))) (fun u => by simp only [go_sem, simprocAttr, eCell, hkF, hgF, eVal, List.length_map, hsk, List.set_set]; exact rfl) ?_
            refine Mid.done (Flo.cons htt rfl rfl (by simp only [go_sem, simprocAttr, eCell, hkF, hgF, eVal, List.length_map, hsk, List.set_set]; first | done | exact rfl) (Flo.cons htt rfl rfl (by simp only [go_sem, simprocAttr, eCell, hkF, hgF, eVal, List.length_map, hsk, List.set_set]; first | done | exact rfl) (Flo.nil))) ?_
            refine CWops.run htt 1 (by simp only [go_sem, simprocAttr, eCell, hkF, hgF, eVal, List.length_map, hsk, List.set_set]; exact rfl) (by simp [go_sem, simprocAttr, eCell, hkF, hgF, eVal, List.length_map, hsk, List.set_set]) ?_
            refine CWops.done ?_
            refine CW.rg ?_
            refine CWops.run htt 2 (by simp only [go_sem, simprocAttr, wrap_succ (Nat.lt_of_lt_of_le hi hxS)]; exact rfl) (by simp [go_sem, simprocAttr, wrap_succ (Nat.lt_of_lt_of_le hi hxS)]) ?_
            refine CWops.done ?_
            refine ⟨(i + 1, (k : Int), F.set k sV), ?_, ?_, ?_⟩
            · refine Sh.wk0 ?_; simp [Wk, go_sem, simprocAttr, List.map_set, eVal, hsk]
            · exact ⟨hi, p2, by simp [p3], by simp only; omega⟩
            · simp only; omega
        · simp only at p1 p2 p3 p4
          have hi : i = xS.length := by simp at ct95; omega
          have hY := hap
          rw [p2, hi, List.drop_length] at hY
          simp only [setAll, Option.map_some] at hY
          refine CW.exit ?_
          refine CW.seq ?_
          refine CW.sh (Sh.frz 3 2 (by simp only [go_sem, simprocAttr]; first | done | exact rfl) rfl) ?_
          simp only [go_sem, simprocAttr]
          refine CW.rg ?_
          refine CWops.rn htt 3 ?_
          refine CWops.done ?_
          refine CW.ret ?_
          refine ⟨⟨2, [(0, .lv 0 [] 0), (6, .lv 1 [] 0), (7, .bool true)], [(0, ⟨true, [.sl 2 (c.S.map eType), .sl 3 (c.O.map eObj), .sl 1 (c.Roots.map eI), .omap M]⟩), (1, ⟨true, [.int .i64 id, .int .i64 q, .sl 3 (F.map eVal)]⟩)]⟩, ?_, .inr rfl, by simp [ptrOK, go_sem, simprocAttr], _, by simp only [f66, go_sem, simprocAttr]; exact rfl, ?_⟩ -- ret4
          · refine Sh.wk (fun x => if x = 1 then 2 else x) ?_
            simp [Wk, go_sem, simprocAttr, frz_Val]
          · exact ⟨by rw [hY]; rfl, _, _, rfl⟩
    · have hne : xF = -1 := by simpa using ct47
      subst hne
      refine CW.seq ?_
      refine CW.rg ?_
      refine CWops.rn htt 7 ?_
      refine CWops.done ?_
      refine CW.cond (by simp only [go_sem, simprocAttr]; first | done | exact rfl) (fun ct89 => ?_) (fun ct89 => ?_)
      · have hN : aplObj c m id ⟨-1, q, xS⟩ = none := by rw [apl_new ht, if_neg (fun h => by simp at ct89; omega)]
        refine CW.seq ?_
        refine CW.rg ?_
        refine CWops.rn htt 3 ?_
        refine CWops.done ?_
        refine CW.ret ?_
        refine ⟨⟨2, [(0, .lv 0 [] 0), (6, .lv 1 [] 0), (7, .bool false)], [(0, ⟨true, [.sl 2 (c.S.map eType), .sl 3 (c.O.map eObj), .sl 1 (c.Roots.map eI), .omap M]⟩), (1, ⟨true, [.int .i64 0, .int .i64 0, .nilsl]⟩)]⟩, ?_, .inr rfl, by simp [ptrOK, go_sem, simprocAttr], _, by simp only [f66, go_sem, simprocAttr]; exact rfl, ?_⟩ -- ret5
        · refine Sh.wk (fun x => if x = 1 then 2 else x) ?_
          simp [Wk, go_sem, simprocAttr, eObj, eCell]
        · exact ⟨by rw [hN]; rfl, _, _, rfl⟩
      · have hxl : xS.length = t.F.length := by simp at ct89; omega
        obtain ⟨F0, hF0⟩ : ∃ F0 : List GVal, F0 = t.F.map fun _ => ⟨0, ⟨#[]⟩, 0⟩ := ⟨_, rfl⟩
        have hF0l : F0.length = t.F.length := by rw [hF0, List.length_map]
        have hF0e : F0.map eVal = List.replicate t.F.length [.int .i64 0, .str ⟨#[]⟩, .int .i64 0] := by
          rw [hF0, List.map_map]
          apply List.ext_getElem (by simp)
          intros; simp [eVal]
        have hap : aplObj c m id ⟨-1, q, xS⟩ = (setAll (-1) xS F0).map (fun F => ⟨id, q, F⟩) := by rw [hF0, apl_new ht, if_pos hxl]
        obtain ⟨xF, hxF⟩ : ∃ xF : Int, (-1 : Int) = xF := ⟨_, rfl⟩
        refine CW.skip ?_
        refine CW.seq ?_
        refine CW.rg ?_
        refine CWops.rn htt 1 ?_
        refine CWops.done ?_
        refine CW.seq ?_
        refine CW.seq ?_
        refine CW.rg ?_
        refine CWops.rn htt 4 ?_
        refine CWops.done ?_
        refine CW.block ?_
        refine CW.loop (S := Nat × Int × List GVal) (fun p => ⟨4, [(0, .lv 0 [] 0), (1, .int .i64 id), (5, .lv 1 [] 0), (6, .lv 2 [] 0), (8, .lv 3 [] 0), (9, .int .i64 p.2.1), (92, .sl 4 (xS.map eCell)), (93, .int .i64 xS.length), (94, .int .i64 p.1)], [(0, ⟨true, [.sl 2 (c.S.map eType), .sl 3 (c.O.map eObj), .sl 1 (c.Roots.map eI), .omap M]⟩), (1, ⟨true, [.int .i64 xF, .int .i64 q, .sl 4 (xS.map eCell)]⟩), (2, ⟨true, [.int .i64 0, .int .i64 0, .nilsl]⟩), (3, ⟨true, [.int .i64 id, .int .i64 q, .own 3 (p.2.2.map eVal)]⟩)]⟩) (fun p => p.1 ≤ xS.length ∧ setAll (-1) xS F0 = setAll p.2.1 (xS.drop p.1) p.2.2 ∧ p.2.2.length = t.F.length ∧ -1 ≤ p.2.1) (fun p => xS.length - p.1) ((0, -1, F0)) ?_ ⟨Nat.zero_le _, by simp, hF0l, by simp⟩ (fun ⟨i, la, F⟩ ⟨p1, p2, p3, p4⟩ => ?_)
        · refine Sh.wk0 ?_; first | (simp [Wk, go_sem, simprocAttr, hF0, eVal, ← hxF]; done) | (simp [Wk, go_sem, simprocAttr, hF0e, ← hxF])
        refine CW.seq ?_
        refine CW.rg ?_
        refine CWops.rn htt 1 ?_
        refine CWops.done ?_
        refine CW.seq ?_
        refine CW.cond (by simp only [go_sem, simprocAttr]; first | done | exact rfl) (fun ct95 => ?_) (fun ct95 => ?_)
        · simp only at p1 p2 p3 p4
          have hi : i < xS.length := by simpa using ct95
          obtain ⟨s, hx⟩ : ∃ s, xS[i]? = some s := ⟨xS[i], List.getElem?_eq_getElem hi⟩
          rw [drop_at hx] at p2
          refine CW.skip ?_
          refine CW.seq ?_
          refine CW.block ?_
          refine CW.seq ?_
          refine CW.rg ?_
          refine CWops.run htt 4 (by simp only [go_sem, simprocAttr, hx, eCell, eVal]; exact rfl) (by simp [go_sem, simprocAttr, hx, eCell, eVal]) ?_
          refine CWops.done ?_
          refine CW.seq ?_
          refine CW.cut ⟨5, [(0, .lv 0 [] 0), (1, .int .i64 id), (5, .lv 1 [] 0), (6, .lv 2 [] 0), (8, .lv 3 [] 0), (9, .int .i64 la), (92, .sl 4 (xS.map eCell)), (93, .int .i64 xS.length), (94, .int .i64 i), (11, .lv 4 [] 0), (109, .bool (decide (s.F ≤ la) || decide ((F.length : Int) ≤ s.F)))], [(0, ⟨true, [.sl 2 (c.S.map eType), .sl 3 (c.O.map eObj), .sl 1 (c.Roots.map eI), .omap M]⟩), (1, ⟨true, [.int .i64 xF, .int .i64 q, .sl 4 (xS.map eCell)]⟩), (2, ⟨true, [.int .i64 0, .int .i64 0, .nilsl]⟩), (3, ⟨true, [.int .i64 id, .int .i64 q, .own 3 (F.map eVal)]⟩), (4, ⟨true, eCell s⟩)]⟩ ?_ ?_
          · refine CW.rg ?_
            refine CWops.run htt 5 (by simp only [go_sem, simprocAttr, eVal]; exact rfl) (by simp [go_sem, simprocAttr, eVal]) ?_
            all_goals (first | refine CWops.guard 102 (by simp only [go_sem, simprocAttr, eVal]; exact rfl) (fun g102 => ?_) (fun g102 => ?_) | skip)
            all_goals (refine CWops.run htt 7 (by simp only [go_sem, simprocAttr, eVal]; exact rfl) (by simp [go_sem, simprocAttr, eVal]) ?_)
            all_goals (refine CWops.done ?_)
            all_goals (
              refine ⟨rfl, Sh.wk0 ?_⟩
              simp_all [Wk, go_sem, simprocAttr, eCell, eVal] <;> first | done | omega | (intros; omega) | skip)
          refine CW.cond (by simp only [go_sem, simprocAttr]; first | done | exact rfl) (fun ct109 => ?_) (fun ct109 => ?_)
          · have hN := hap
            rw [p2, setAll_no ct109] at hN
            simp only [Option.map_none] at hN
            refine CW.seq ?_
            refine CW.rg ?_
            refine CWops.rn htt 3 ?_
            refine CWops.done ?_
            refine CW.ret ?_
            refine ⟨⟨2, [(0, .lv 0 [] 0), (6, .lv 1 [] 0), (7, .bool false)], [(0, ⟨true, [.sl 2 (c.S.map eType), .sl 3 (c.O.map eObj), .sl 1 (c.Roots.map eI), .omap M]⟩), (1, ⟨true, [.int .i64 0, .int .i64 0, .nilsl]⟩)]⟩, ?_, .inr rfl, by simp [ptrOK, go_sem, simprocAttr], _, by simp only [f66, go_sem, simprocAttr]; exact rfl, ?_⟩ -- ret6
            · refine Sh.wk (fun x => if x = 1 then 2 else x) ?_
              simp [Wk, go_sem, simprocAttr, eObj, eCell]
            · exact ⟨by rw [hN]; rfl, _, _, rfl⟩
          · rw [setAll_yes ct109] at p2
            have hb2 : ¬ s.F ≤ la ∧ ¬ (F.length : Int) ≤ s.F := by simpa using ct109
            obtain ⟨sF, sV⟩ := s
            simp only at p2 hb2
            obtain ⟨k, rfl⟩ := Int.eq_ofNat_of_zero_le (show 0 ≤ sF by omega)
            rw [Int.toNat_natCast] at p2
            have hkF : k < F.length := by omega
            obtain ⟨fv, hgF⟩ : ∃ fv, F[k]? = some fv := ⟨F[k], List.getElem?_eq_getElem hkF⟩
            have hsk : ∀ X : List AV, ((F.map eVal).set k X)[k]? = some X := fun X => List.getElem?_set_self (by simpa using hkF)
            refine CW.skip ?_
            refine CW.drawnF mixed 9 10 [6, 7] (D := [117, 118]) (by decide) (by decide) (by kernel_rfl) (by kernel_rfl) rfl (by kernel_rfl) (by kernel_rfl) ?_
            refine Seg.run htt 9 (by simp only [go_sem, simprocAttr, eCell, hkF, hgF, eVal, List.length_map, hsk, List.set_set]; exact rfl) ?_
            refine Seg.done ?_
            refine Mid.sto htt (Flo.cons htt rfl rfl (by simp only [go_sem, simprocAttr, eCell, hkF, hgF, eVal, List.length_map, hsk, List.set_set]; first | done | exact rfl) (Flo.cons htt rfl rfl (by simp only [go_sem, simprocAttr, eCell, hkF, hgF, eVal, List.length_map, hsk, List.set_set]; first | done | exact rfl) (Flo.nil))) (fun u => by simp only [go_sem, simprocAttr, eCell, hkF, hgF, eVal, List.length_map, hsk, List.set_set]; exact rfl) ?_
            refine Mid.done (Flo.cons htt rfl rfl (by simp only [go_sem, simprocAttr, eCell, hkF, hgF, eVal, List.length_map, hsk, List.set_set]; first | done | exact rfl) (Flo.cons htt rfl rfl (by simp only [go_sem, simprocAttr, eCell, hkF, hgF, eVal, List.length_map, hsk, List.set_set]; first | done | exact rfl) (Flo.nil))) ?_
            refine CWops.run htt 1 (by simp only [go_sem, simprocAttr, eCell, hkF, hgF, eVal, List.length_map, hsk, List.set_set]; exact rfl) (by simp [go_sem, simprocAttr, eCell, hkF, hgF, eVal, List.length_map, hsk, List.set_set]) ?_
            refine CWops.done ?_
            refine CW.rg ?_
            refine CWops.run htt 2 (by simp only [go_sem, simprocAttr, wrap_succ (Nat.lt_of_lt_of_le hi hxS)]; exact rfl) (by simp [go_sem, simprocAttr, wrap_succ (Nat.lt_of_lt_of_le hi hxS)]) ?_
            refine CWops.done ?_
            refine ⟨(i + 1, (k : Int), F.set k sV), ?_, ?_, ?_⟩
            · refine Sh.wk0 ?_; simp [Wk, go_sem, simprocAttr, List.map_set, eVal, hsk]
            · exact ⟨hi, p2, by simp [p3], by simp only; omega⟩
            · simp only; omega
        · simp only at p1 p2 p3 p4
          have hi : i = xS.length := by simp at ct95; omega
          have hY := hap
          rw [p2, hi, List.drop_length] at hY
          simp only [setAll, Option.map_some] at hY
          refine CW.exit ?_
          refine CW.seq ?_
          refine CW.sh (Sh.frz 3 2 (by simp only [go_sem, simprocAttr]; first | done | exact rfl) rfl) ?_
          simp only [go_sem, simprocAttr]
          refine CW.rg ?_
          refine CWops.rn htt 3 ?_
          refine CWops.done ?_
          refine CW.ret ?_
          refine ⟨⟨2, [(0, .lv 0 [] 0), (6, .lv 1 [] 0), (7, .bool true)], [(0, ⟨true, [.sl 2 (c.S.map eType), .sl 3 (c.O.map eObj), .sl 1 (c.Roots.map eI), .omap M]⟩), (1, ⟨true, [.int .i64 id, .int .i64 q, .sl 3 (F.map eVal)]⟩)]⟩, ?_, .inr rfl, by simp [ptrOK, go_sem, simprocAttr], _, by simp only [f66, go_sem, simprocAttr]; exact rfl, ?_⟩ -- ret7
          · refine Sh.wk (fun x => if x = 1 then 2 else x) ?_
            simp [Wk, go_sem, simprocAttr, frz_Val]
          · exact ⟨by rw [hY]; rfl, _, _, rfl⟩
def fM (L : List GItem) (i : Nat) : List (Int × AV) := (L.take i).zipIdx.foldl (fun M p => if p.1.From = -1 then M else mapput M p.1.From (.int .i64 (p.2 : Int))) []
theorem fM_succ {L : List GItem} {i : Nat} {x : GItem} (h : L[i]? = some x) : fM L (i + 1) = if x.From = -1 then fM L i else mapput (fM L i) x.From (.int .i64 (i : Int)) := by
  have hlt := (List.getElem?_eq_some_iff.1 h).1
  unfold fM
  rw [List.take_add_one, h, Option.toList_some, List.zipIdx_append, List.foldl_append, List.length_take, Nat.min_eq_left (by omega)]
  simp
theorem fM_len (L : List GItem) : ∀ i, i ≤ L.length → (fM L i).length ≤ i
  | 0, _ => by simp [fM]
  | i + 1, hi => by
    obtain ⟨x, hx⟩ : ∃ x, L[i]? = some x := ⟨L[i], List.getElem?_eq_getElem (by omega)⟩
    have ih := fM_len L i (by omega)
    rw [fM_succ hx]
    split
    · omega
    · have := mapput_len (fM L i) x.From (.int .i64 (i : Int)); omega
theorem fM_lk (L : List GItem) : ∀ i, i ≤ L.length → ∀ r, (maplk (fM L i) r = none ∧ ∀ (j : Nat) (x : GItem), j < i → L[j]? = some x → x.From = r → x.From = -1) ∨ ∃ (j : Nat) (x : GItem), j < i ∧ L[j]? = some x ∧ x.From = r ∧ x.From ≠ -1 ∧ maplk (fM L i) r = some (.int .i64 (j : Int))
  | 0, _, r => .inl ⟨by simp [fM, maplk], fun j x hj => by omega⟩
  | i + 1, hi, r => by
    obtain ⟨y, hy⟩ : ∃ x, L[i]? = some x := ⟨L[i], List.getElem?_eq_getElem (by omega)⟩
    have ih := fM_lk L i (by omega) r
    rw [fM_succ hy]
    have step : ∀ (j : Nat) (x : GItem), j < i + 1 → L[j]? = some x → j < i ∨ x = y := fun j x hj hx => by
      by_cases e : j = i
      · subst e; rw [hy] at hx; cases hx; exact .inr rfl
      · exact .inl (by omega)
    by_cases e : y.From = -1
    · rw [if_pos e]
      rcases ih with ⟨h1, h2⟩ | ⟨j, x, h1, h2, h3⟩
      · exact .inl ⟨h1, fun j x hj hx hr => by rcases step j x hj hx with h | rfl; exact h2 j x h hx hr; exact e⟩
      · exact .inr ⟨j, x, by omega, h2, h3⟩
    · rw [if_neg e, maplk_mapput]
      by_cases e2 : r = y.From
      · rw [if_pos e2]; exact .inr ⟨i, y, by omega, hy, e2.symm, e, rfl⟩
      · rw [if_neg e2]
        rcases ih with ⟨h1, h2⟩ | ⟨j, x, h1, h2, h3⟩
        · exact .inl ⟨h1, fun j x hj hx hr => by rcases step j x hj hx with h | rfl; exact h2 j x h hx hr; exact absurd hr.symm e2⟩
        · exact .inr ⟨j, x, by omega, h2, h3⟩
theorem toMap_mem : ∀ (k : Nat) (L : List GItem) (m : List (Int × Nat)), toMap k L = some m → ∀ y ∈ L, y.From ≠ -1 → m.any (fun p => decide (p.1 = y.From)) = true
  | k, [], m, _, y, hy, _ => by cases hy
  | k, x :: r, m, h, y, hy, hn => by
    simp only [toMap] at h
    cases hr : toMap (k + 1) r with
    | none => rw [hr] at h; cases h
    | some m' =>
      rw [hr] at h
      simp only at h
      have ih := toMap_mem (k + 1) r m' hr
      split at h
      · rename_i e
        cases h
        rcases List.mem_cons.1 hy with rfl | hy
        · exact absurd e hn
        · exact ih y hy hn
      · split at h
        · cases h
        · cases h
          rcases List.mem_cons.1 hy with rfl | hy
          · simp
          · simp only [List.any_cons, Bool.or_eq_true]; exact .inr (ih y hy hn)
theorem toMap_dup : ∀ (k : Nat) (L : List GItem) (i j : Nat) (x y : GItem), j < i → L[j]? = some x → L[i]? = some y → x.From = y.From → y.From ≠ -1 → toMap k L = none
  | k, [], i, j, x, y, _, hx, _, _, _ => by simp at hx
  | k, z :: r, 0, j, x, y, hj, _, _, _, _ => by omega
  | k, z :: r, i + 1, 0, x, y, _, hx, hy, he, hn => by
    simp at hx hy
    subst hx
    simp only [toMap]
    cases hr : toMap (k + 1) r with
    | none => rfl
    | some m =>
      simp only
      rw [if_neg (by rw [he]; exact hn), if_pos (by rw [he]; exact toMap_mem (k + 1) r m hr y (List.mem_of_getElem? hy) hn)]
  | k, z :: r, i + 1, j + 1, x, y, hj, hx, hy, he, hn => by
    have := toMap_dup (k + 1) r i j x y (by omega) (by simpa using hx) (by simpa using hy) he hn
    simp only [toMap, this]
def DisL (L : List GItem) (n : Nat) : Prop := ∀ (i j : Nat) (x y : GItem), i < n → j < n → L[i]? = some x → L[j]? = some y → x.From = y.From → x.From ≠ -1 → i = j
theorem tf_ok {L : List GItem} (hd : DisL L L.length) : ∃ m, toMap 0 L = some m ∧ TfOK (fM L L.length) (toOf m) := by
  have hd' : ∀ (i j : Nat) (x y : GItem), L[i]? = some x → L[j]? = some y → x.From = y.From → x.From ≠ -1 → i = j := fun i j x y hx hy => hd i j x y (List.getElem?_eq_some_iff.1 hx).1 (List.getElem?_eq_some_iff.1 hy).1 hx hy
  obtain ⟨m, h1, h2, h3⟩ := toMap_some 0 L hd'
  refine ⟨m, h1, fun r => ?_⟩
  rcases fM_lk L L.length (Nat.le_refl _) r with ⟨a1, a2⟩ | ⟨j, x, _, b2, b3, b4, b5⟩
  · refine .inr ⟨a1, ?_⟩
    unfold toOf
    cases hf : m.find? fun p => decide (p.1 = r) with
    | none => rfl
    | some p =>
      exfalso
      have hp := List.find?_some hf
      simp only [decide_eq_true_eq] at hp
      obtain ⟨j, x, c1, c2, c3, _⟩ := h2 p (List.mem_of_find?_eq_some hf)
      exact c3 (a2 j x (List.getElem?_eq_some_iff.1 c1).1 c1 (c2.trans hp))
  · exact .inl ⟨j, b5, by rw [← b3]; exact toOf_at hd' h2 h3 b2 b4⟩
theorem aplAll_none {c : Graph} {m : List (Int × Nat)} : ∀ (k : Nat) (L : List GItem) (i : Nat) (x : GItem), L[i]? = some x → aplObj c m (k + i) x = none → aplAll c m k L = none
  | k, [], i, x, h, _ => by simp at h
  | k, y :: r, 0, x, h, hn => by
    simp at h; subst h
    simp only [aplAll, show aplObj c m k y = none from hn]
  | k, y :: r, i + 1, x, h, hn => by
    have := aplAll_none (c := c) (m := m) (k + 1) r i x (by simpa using h) (by rw [show k + 1 + i = k + (i + 1) by omega]; exact hn)
    simp only [aplAll, this]
    cases aplObj c m k y <;> rfl
def dAll (c : Graph) (L : List GItem) : Option (List GObj) := match toMap 0 L with
  | none => none
  | some m => aplAll c m 0 L
def allR : Option (List GObj) → AV
  | some l => .tup [.sl 3 (l.map eObj), .bool true]
  | none => .tup [.nilsl, .bool false]
def objC : Option GObj → List AV
  | some o => eObj o
  | none => [.int .i64 0, .int .i64 0, .nilsl]
theorem object_some (up : Bool) (c : Graph) (hmc : May c) (M : List (Int × AV)) (m : List (Int × Nat)) (hM : TfOK M (toOf m)) (id : Nat) (x : GItem) (hxS : x.Set.length ≤ MX) {o : GObj} (h : aplObj c m id x = some o) : GCall prog up 66 [.lv 0 [] 0, .int .i64 id, .agg (eItem x)] 1 [(0, ⟨true, [.sl 2 (c.S.map eType), .sl 3 (c.O.map eObj), .sl 1 (c.Roots.map eI), .omap M]⟩)] (fun r σ' => r = .tup [.agg (eObj o), .bool true] ∧ ∃ t' R, σ' = ⟨2, t', [(0, ⟨true, [.sl 2 (c.S.map eType), .sl 3 (c.O.map eObj), .sl 1 (c.Roots.map eI), .omap M]⟩), (1, R)]⟩) := by
  have q := maker_object up c hmc M m hM id x hxS
  rw [h] at q; exact q
theorem object_none (up : Bool) (c : Graph) (hmc : May c) (M : List (Int × AV)) (m : List (Int × Nat)) (hM : TfOK M (toOf m)) (id : Nat) (x : GItem) (hxS : x.Set.length ≤ MX) (h : aplObj c m id x = none) : GCall prog up 66 [.lv 0 [] 0, .int .i64 id, .agg (eItem x)] 1 [(0, ⟨true, [.sl 2 (c.S.map eType), .sl 3 (c.O.map eObj), .sl 1 (c.Roots.map eI), .omap M]⟩)] (fun r σ' => r = .tup [.agg [.int .i64 0, .int .i64 0, .nilsl], .bool false] ∧ ∃ t' R, σ' = ⟨2, t', [(0, ⟨true, [.sl 2 (c.S.map eType), .sl 3 (c.O.map eObj), .sl 1 (c.Roots.map eI), .omap M]⟩), (1, R)]⟩) := by
  have q := maker_object up c hmc M m hM id x hxS
  rw [h] at q; exact q
theorem maker_all (up : Bool) (c : Graph) (hmc : May c) (L : List GItem) (hL : L.length ≤ 1000) (hS : ∀ x ∈ L, x.Set.length ≤ MX) : GCall prog up 26 [.lv 0 [] 0, .sl 3 (L.map eItem)] 1 [(0, ⟨true, [.sl 2 (c.S.map eType), .sl 3 (c.O.map eObj), .sl 1 (c.Roots.map eI), .omap ([])]⟩)] (fun r σ' => r = allR (dAll c L) ∧ ∃ t' M', σ' = ⟨1, t', [(0, ⟨true, [.sl 2 (c.S.map eType), .sl 3 (c.O.map eObj), .sl 1 (c.Roots.map eI), .omap (M')]⟩)]⟩) := by
  refine GCall.intro htt 1 func26 (by kernel_rfl) rfl (Nat.le_of_ble_eq_true rfl) (CW.told ?_)

  simp only [tmps0, Nat.reduceAdd]
  refine CW.seq ?_
  refine CW.rg ?_
  refine CWops.rn htt 2 ?_
  refine CWops.done ?_
  refine CW.seq ?_
  refine CW.seq ?_
  refine CW.rg ?_
  refine CWops.rn htt 3 ?_
  refine CWops.done ?_
  refine CW.block ?_
  refine CW.loop (S := Nat) (fun i => ⟨1, [(0, .lv 0 [] 0), (1, .sl 3 (L.map eItem)), (15, .sl 3 (L.map eItem)), (16, .int .i64 L.length), (17, .int .i64 i)], [(0, ⟨true, [.sl 2 (c.S.map eType), .sl 3 (c.O.map eObj), .sl 1 (c.Roots.map eI), .omap (fM L i)]⟩)]⟩) (fun i => i ≤ L.length ∧ DisL L i) (fun i => L.length - i) (0) ?_ ⟨Nat.zero_le _, fun a b u v ha => by omega⟩ (fun i ⟨h1, hd⟩ => ?_)
  · refine Sh.wk0 ?_; simp [Wk, go_sem, simprocAttr, fM]
  refine CW.seq ?_
  refine CW.rg ?_
  refine CWops.rn htt 1 ?_
  refine CWops.done ?_
  refine CW.seq ?_
  refine CW.cond (by simp only [go_sem, simprocAttr]; first | done | exact rfl) (fun ct18 => ?_) (fun ct18 => ?_)
  · have hi : i < L.length := by simpa using ct18
    obtain ⟨x, hx⟩ : ∃ x, L[i]? = some x := ⟨L[i], List.getElem?_eq_getElem hi⟩
    have hfl := fM_len L i (by omega)
    refine CW.skip ?_
    refine CW.seq ?_
    refine CW.block ?_
    refine CW.seq ?_
    refine CW.rg ?_
    refine CWops.run htt 6 (by simp only [go_sem, simprocAttr, hx, eItem]; exact rfl) (by simp [go_sem, simprocAttr, hx, eItem]) ?_
    refine CWops.done ?_
    refine CW.seq ?_
    refine CW.seq ?_
    refine CW.rg ?_
    refine CWops.run htt 3 (by simp only [go_sem, simprocAttr, eItem]; exact rfl) (by simp [go_sem, simprocAttr, eItem]) ?_
    refine CWops.done ?_
    refine CW.cond (by simp only [go_sem, simprocAttr]; first | done | exact rfl) (fun ct24 => ?_) (fun ct24 => ?_)
    · have hF : x.From = -1 := by simpa using ct24
      have hfs : fM L (i + 1) = fM L i := by rw [fM_succ hx, if_pos hF]
      have hd2 : DisL L (i + 1) := fun a b u v ha hb hu hv he hn => by
        by_cases e1 : a = i
        · subst e1; rw [hx] at hu; cases hu; exact absurd hF hn
        · by_cases e2 : b = i
          · subst e2; rw [hx] at hv; cases hv; rw [hF] at he; exact absurd he hn
          · exact hd a b u v (by omega) (by omega) hu hv he hn
      refine CW.exit ?_
      refine CW.rg ?_
      refine CWops.run htt 2 (by simp only [go_sem, simprocAttr, wrap_succ (show i < MX by unfold MX; omega)]; exact rfl) (by simp [go_sem, simprocAttr, wrap_succ (show i < MX by unfold MX; omega)]) ?_
      refine CWops.done ?_
      refine ⟨i + 1, ?_, ?_, ?_⟩
      · refine Sh.wk0 ?_; simp [Wk, go_sem, simprocAttr, hfs]
      · exact ⟨hi, hd2⟩
      · simp only; omega
    · have hF : x.From ≠ -1 := by simpa using ct24
      have hfs : fM L (i + 1) = mapput (fM L i) x.From (.int .i64 (i : Int)) := by rw [fM_succ hx, if_neg hF]
      refine CW.skip ?_
      refine CW.seq ?_
      refine CW.cut ⟨2, [(0, .lv 0 [] 0), (1, .sl 3 (L.map eItem)), (15, .sl 3 (L.map eItem)), (16, .int .i64 L.length), (17, .int .i64 i), (6, .int .i64 i), (7, .lv 1 [] 0), (9, .bool (maplk (fM L i) x.From).isSome)], [(0, ⟨true, [.sl 2 (c.S.map eType), .sl 3 (c.O.map eObj), .sl 1 (c.Roots.map eI), .omap (fM L i)]⟩), (1, ⟨true, eItem x⟩)]⟩ ?_ ?_
      · cases hlk : maplk (fM L i) x.From
        all_goals (refine CW.drawn mixed 11 (by decide) (by kernel_rfl) (by kernel_rfl) (by kernel_rfl) ?_)
        all_goals (refine Seg.run htt 11 (by simp only [go_sem, simprocAttr, hlk, eItem]; exact rfl) ?_)
        all_goals (refine Seg.done ?_)
        all_goals (refine CWops.run htt 1 (by simp only [go_sem, simprocAttr, hlk, eItem]; exact rfl) (by simp [go_sem, simprocAttr, hlk, eItem]) ?_)
        all_goals (refine CWops.done ?_)
        all_goals (
          refine ⟨rfl, Sh.wk0 ?_⟩
          simp [Wk, go_sem, simprocAttr, hlk, eItem])
      refine CW.seq ?_
      refine CW.rg ?_
      refine CWops.rn htt 1 ?_
      refine CWops.done ?_
      refine CW.cond (by simp only [go_sem, simprocAttr]; first | done | exact rfl) (fun ct35 => ?_) (fun ct35 => ?_)
      · have hN : dAll c L = none := by
          rcases fM_lk L i (by omega) x.From with ⟨h2, _⟩ | ⟨j, y, h2, h3, h4, h5, _⟩
          · rw [h2] at ct35; cases ct35
          · unfold dAll; rw [toMap_dup 0 L i j y x h2 h3 hx h4 hF]
        refine CW.seq ?_
        refine CW.rg ?_
        refine CWops.rn htt 2 ?_
        refine CWops.done ?_
        refine CW.ret ?_
        refine ⟨⟨1, [(0, .lv 0 [] 0), (4, .nilsl), (5, .bool false)], [(0, ⟨true, [.sl 2 (c.S.map eType), .sl 3 (c.O.map eObj), .sl 1 (c.Roots.map eI), .omap (fM L i)]⟩)]⟩, ?_, .inr rfl, by simp [ptrOK, go_sem, simprocAttr], _, by simp only [f26, go_sem, simprocAttr]; exact rfl, ?_⟩ -- ret1
        · refine Sh.wk0 ?_
          simp [Wk, go_sem, simprocAttr]
        · exact ⟨by rw [hN]; rfl, _, _, rfl⟩
      · have hd2 : DisL L (i + 1) := fun a b u v ha hb hu hv he hn => by
          rcases fM_lk L i (by omega) x.From with ⟨_, h2⟩ | ⟨j, y, _, _, _, _, h3⟩
          · by_cases e1 : a = i
            · by_cases e2 : b = i
              · omega
              · subst e1; rw [hx] at hu; cases hu
                exact absurd (he.trans (h2 b v (by omega) hv he.symm)) hn
            · by_cases e2 : b = i
              · subst e2; rw [hx] at hv; cases hv
                exact absurd (h2 a u (by omega) hu he) hn
              · exact hd a b u v (by omega) (by omega) hu hv he hn
          · rw [h3] at ct35; cases ct35
        refine CW.skip ?_
        refine CW.drawn mixed 7 (by decide) (by kernel_rfl) (by kernel_rfl) (by kernel_rfl) ?_
        refine Seg.run htt 7 (by simp only [go_sem, simprocAttr, eItem]; exact rfl) ?_
        refine Seg.done ?_
        refine CWops.run htt 1 (by simp only [go_sem, simprocAttr, eItem]; exact rfl) (by first | (simp; unfold MX; omega) | (unfold MX; omega)) ?_
        refine CWops.done ?_
        refine CW.rg ?_
        refine CWops.run htt 2 (by simp only [go_sem, simprocAttr, wrap_succ (show i < MX by unfold MX; omega)]; exact rfl) (by simp [go_sem, simprocAttr, wrap_succ (show i < MX by unfold MX; omega)]) ?_
        refine CWops.done ?_
        refine ⟨i + 1, ?_, ?_, ?_⟩
        · refine Sh.wk0 ?_; simp [Wk, go_sem, simprocAttr, hfs]
        · exact ⟨hi, hd2⟩
        · simp only; omega
  · have hi : i = L.length := by simp at ct18; omega
    subst hi
    obtain ⟨m, hm, hTf⟩ := tf_ok hd
    refine CW.exit ?_
    refine CW.seq ?_
    refine CW.rg ?_
    refine CWops.rn htt 1 ?_
    refine CWops.done ?_
    refine CW.seq ?_
    refine CW.seq ?_
    refine CW.rg ?_
    refine CWops.rn htt 3 ?_
    refine CWops.done ?_
    refine CW.block ?_
    refine CW.loop (S := Nat × List GObj) (fun p => ⟨2, [(0, .lv 0 [] 0), (1, .sl 3 (L.map eItem)), (10, .ref 1 [] 0), (44, .sl 3 (L.map eItem)), (45, .int .i64 L.length), (46, .int .i64 p.1)], [(0, ⟨true, [.sl 2 (c.S.map eType), .sl 3 (c.O.map eObj), .sl 1 (c.Roots.map eI), .omap (fM L L.length)]⟩), (1, ⟨false, [.own 3 (p.2.map eObj)]⟩)]⟩) (fun p => p.1 ≤ L.length ∧ p.2.length = p.1 ∧ ∀ (j : Nat) (y : GItem) (o : GObj), L[j]? = some y → p.2[j]? = some o → aplObj c m j y = some o) (fun p => L.length - p.1) ((0, [])) ?_ ⟨Nat.zero_le _, rfl, fun j y o _ h => by simp at h⟩ (fun ⟨i, acc⟩ ⟨p1, p2, p3⟩ => ?_)
    · refine Sh.trans (Sh.nilRoot 10 3 (by simp only [go_sem, simprocAttr]) rfl) (Sh.wk0 ?_); simp [Wk, go_sem, simprocAttr]
    refine CW.seq ?_
    refine CW.rg ?_
    refine CWops.rn htt 1 ?_
    refine CWops.done ?_
    refine CW.seq ?_
    refine CW.cond (by simp only [go_sem, simprocAttr]; first | done | exact rfl) (fun ct47 => ?_) (fun ct47 => ?_)
    · simp only at p1 p2 p3
      have hi : i < L.length := by simpa using ct47
      obtain ⟨x, hx⟩ : ∃ x, L[i]? = some x := ⟨L[i], List.getElem?_eq_getElem hi⟩
      have hxS := hS x (List.mem_of_getElem? hx)
      refine CW.skip ?_
      refine CW.seq ?_
      refine CW.block ?_
      refine CW.seq ?_
      refine CW.rg ?_
      refine CWops.run htt 6 (by simp only [go_sem, simprocAttr, hx, eItem]; exact rfl) (by simp [go_sem, simprocAttr, hx, eItem]) ?_
      refine CWops.done ?_
      refine CW.cut ⟨3, [(0, .lv 0 [] 0), (1, .sl 3 (L.map eItem)), (10, .ref 1 [] 0), (44, .sl 3 (L.map eItem)), (45, .int .i64 L.length), (46, .int .i64 i), (13, .lv 2 [] 0), (14, .bool (aplObj c m i x).isSome)], [(0, ⟨true, [.sl 2 (c.S.map eType), .sl 3 (c.O.map eObj), .sl 1 (c.Roots.map eI), .omap (fM L L.length)]⟩), (1, ⟨false, [.own 3 (acc.map eObj)]⟩), (2, ⟨true, objC (aplObj c m i x)⟩)]⟩ ?_ ?_
      · rcases hap : aplObj c m i x with _ | o
        all_goals (refine CW.rg ?_)
        all_goals (refine CWops.run htt 3 (by simp only [go_sem, simprocAttr, eItem, eObj]; exact rfl) (by simp [go_sem, simprocAttr, eItem, eObj]) ?_)
        all_goals (first | (refine CWops.skip ?_ ?_; next => (simp only [go_sem, simprocAttr]; done)) | (first | (refine CWops.callG [0] rfl (object_none up c hmc (fM L L.length) m hTf i x hxS hap) (by simp only [go_sem, simprocAttr]) (by simp only [go_sem, simprocAttr]; first | done | exact rfl) (by decide) (by simp [go_sem, simprocAttr, mName, memB, eItem]) (by simp [go_sem, simprocAttr, mName, eItem]) (by simp [go_sem, simprocAttr]) (by simp [go_sem, simprocAttr]) (by simp [go_sem, simprocAttr, mName, eItem]) (fun r σ' hσ => ?_); obtain ⟨rfl, t', R, rfl⟩ := hσ; simp only [aftS, renS, delAll, memB, mName, List.getD_nil, killH, kref, ren, Nat.beq_eq, go_sem, simprocAttr]) | (refine CWops.callG [0] rfl (object_some up c hmc (fM L L.length) m hTf i x hxS hap) (by simp only [go_sem, simprocAttr]) (by simp only [go_sem, simprocAttr]; first | done | exact rfl) (by decide) (by simp [go_sem, simprocAttr, mName, memB, eItem]) (by simp [go_sem, simprocAttr, mName, eItem]) (by simp [go_sem, simprocAttr]) (by simp [go_sem, simprocAttr]) (by simp [go_sem, simprocAttr, mName, eItem]) (fun r σ' hσ => ?_); obtain ⟨rfl, t', R, rfl⟩ := hσ; simp only [aftS, renS, delAll, memB, mName, List.getD_nil, killH, kref, ren, Nat.beq_eq, go_sem, simprocAttr])))
        all_goals (refine CWops.run htt 6 (by simp only [go_sem, simprocAttr, eItem, eObj]; exact rfl) (by simp [go_sem, simprocAttr, eItem, eObj]) ?_)
        all_goals (refine CWops.done ?_)
        all_goals (
          refine Sh.wk (fun x => if x = 2 then 5 else x) ?_
          simp [Wk, go_sem, simprocAttr, hap, objC, eObj])
      refine CW.seq ?_
      refine CW.seq ?_
      refine CW.rg ?_
      refine CWops.rn htt 2 ?_
      refine CWops.done ?_
      refine CW.cond (by simp only [go_sem, simprocAttr]; first | done | exact rfl) (fun ct59 => ?_) (fun ct59 => ?_)
      · have hN : dAll c L = none := by
          unfold dAll; rw [hm]
          refine aplAll_none 0 L i x hx ?_
          rw [Nat.zero_add]
          cases h : aplObj c m i x with
          | none => rfl
          | some o => rw [h] at ct59; cases ct59
        refine CW.seq ?_
        refine CW.rg ?_
        refine CWops.rn htt 2 ?_
        refine CWops.done ?_
        refine CW.ret ?_
        refine ⟨⟨1, [(0, .lv 0 [] 0), (4, .nilsl), (5, .bool false)], [(0, ⟨true, [.sl 2 (c.S.map eType), .sl 3 (c.O.map eObj), .sl 1 (c.Roots.map eI), .omap (fM L L.length)]⟩)]⟩, ?_, .inr rfl, by simp [ptrOK, go_sem, simprocAttr], _, by simp only [f26, go_sem, simprocAttr]; exact rfl, ?_⟩ -- ret2
        · refine Sh.wk0 ?_
          simp [Wk, go_sem, simprocAttr]
        · exact ⟨by rw [hN]; rfl, _, _, rfl⟩
      · obtain ⟨o, hap2⟩ : ∃ o, aplObj c m i x = some o := by
          cases h : aplObj c m i x with
          | none => rw [h] at ct59; cases ct59
          | some o => exact ⟨o, rfl⟩
        refine CW.skip ?_
        refine CW.rg ?_
        refine CWops.run htt 5 (by simp only [go_sem, simprocAttr, objC, hap2, eObj]; exact rfl) (by first | (simp [go_sem, simprocAttr, objC, hap2, eObj]; done) | (simp [go_sem, simprocAttr, objC, hap2, eObj]; unfold MX; omega)) ?_
        refine CWops.done ?_
        refine CW.rg ?_
        refine CWops.run htt 2 (by simp only [go_sem, simprocAttr, wrap_succ (show i < MX by unfold MX; omega)]; exact rfl) (by simp [go_sem, simprocAttr, wrap_succ (show i < MX by unfold MX; omega)]) ?_
        refine CWops.done ?_
        refine ⟨(i + 1, acc ++ [o]), ?_, ?_, ?_⟩
        · refine Sh.wk (fun x => if x = 1 then 4 else x) ?_; simp [Wk, go_sem, simprocAttr, eObj]
        · refine ⟨hi, by simp [p2], fun j y o' hy ho => ?_⟩
          simp only at ho
          by_cases hj : j < acc.length
          · rw [List.getElem?_append_left hj] at ho; exact p3 j y o' hy ho
          · rw [List.getElem?_append_right (by omega)] at ho
            have hj2 : j = i := by
              have := (List.getElem?_eq_some_iff.1 ho).1
              simp at this; omega
            subst hj2
            rw [hx] at hy; cases hy
            rw [show j - acc.length = 0 by omega] at ho
            simp at ho; subst ho; exact hap2
        · simp only; omega
    · simp only at p1 p2 p3
      have hi : i = L.length := by simp at ct47; omega
      have hY : dAll c L = some acc := by
        unfold dAll; rw [hm]
        exact aplAll_of 0 L acc (by omega) fun j y o hy ho => by rw [Nat.zero_add]; exact p3 j y o hy ho
      refine CW.exit ?_
      refine CW.seq ?_
      refine CW.sh (Sh.frzT 10 1 rfl rfl rfl) ?_
      simp only [go_sem, simprocAttr]
      refine CW.rg ?_
      refine CWops.rn htt 3 ?_
      refine CWops.done ?_
      refine CW.ret ?_
      refine ⟨⟨1, [(0, .lv 0 [] 0), (4, .sl 3 (acc.map eObj)), (5, .bool true)], [(0, ⟨true, [.sl 2 (c.S.map eType), .sl 3 (c.O.map eObj), .sl 1 (c.Roots.map eI), .omap (fM L L.length)]⟩)]⟩, ?_, .inr rfl, by simp [ptrOK, go_sem, simprocAttr], _, by simp only [f26, go_sem, simprocAttr]; exact rfl, ?_⟩ -- ret3
      · refine Sh.wk0 ?_
        simp [Wk, go_sem, simprocAttr, frz_Obj]
      · exact ⟨by rw [hY]; rfl, _, _, rfl⟩
def objsV : Option (List GObj) → AV
  | some l => .sl 3 (l.map eObj)
  | none => .nilsl
theorem gSum_may {g : Graph} (h : (gSum g).2 = 0) : gMay g = true := by
  unfold gSum at h
  by_cases hp : (gParts g).2 = 0
  · exact (gParts_may hp).1
  · rw [if_neg hp] at h; exact absurd h hp
theorem gApply_eq {g : Graph} {d : GDelta} (h1 : (gSum g).2 = 0) (h2 : (gSum g).1 = d.Base) : gApply g d = match dAll (gCanon g) d.L with
    | none => (noGraph, 2)
    | some l => if gMay ⟨g.S, l, d.Roots⟩ = true ∧ gCanon ⟨g.S, l, d.Roots⟩ = ⟨g.S, l, d.Roots⟩ then (⟨g.S, l, d.Roots⟩, 0) else (noGraph, 2) := by
  unfold gApply dAll
  rw [if_neg (by rw [h1]; simp), if_neg (by rw [h2]; simp)]
  cases toMap 0 d.L with
  | none => rfl
  | some m => rfl
def aplOK (g : Graph) (d : GDelta) : Bool := match dAll (gCanon g) d.L with
  | none => false
  | some l => gMay ⟨g.S, l, d.Roots⟩ && decide (gCanon ⟨g.S, l, d.Roots⟩ = ⟨g.S, l, d.Roots⟩)
theorem eGraph_no : eGraph noGraph = [.sl 2 [], .sl 3 [], .sl 1 []] := rfl
theorem all_some (up : Bool) (c : Graph) (hmc : May c) (L : List GItem) (hL : L.length ≤ 1000) (hS : ∀ x ∈ L, x.Set.length ≤ MX) {l : List GObj} (h : dAll c L = some l) : GCall prog up 26 [.lv 0 [] 0, .sl 3 (L.map eItem)] 1 [(0, ⟨true, [.sl 2 (c.S.map eType), .sl 3 (c.O.map eObj), .sl 1 (c.Roots.map eI), .omap ([])]⟩)] (fun r σ' => r = .tup [.sl 3 (l.map eObj), .bool true] ∧ ∃ t' M', σ' = ⟨1, t', [(0, ⟨true, [.sl 2 (c.S.map eType), .sl 3 (c.O.map eObj), .sl 1 (c.Roots.map eI), .omap (M')]⟩)]⟩) := by
  have q := maker_all up c hmc L hL hS
  rw [h] at q; exact q
theorem all_none (up : Bool) (c : Graph) (hmc : May c) (L : List GItem) (hL : L.length ≤ 1000) (hS : ∀ x ∈ L, x.Set.length ≤ MX) (h : dAll c L = none) : GCall prog up 26 [.lv 0 [] 0, .sl 3 (L.map eItem)] 1 [(0, ⟨true, [.sl 2 (c.S.map eType), .sl 3 (c.O.map eObj), .sl 1 (c.Roots.map eI), .omap ([])]⟩)] (fun r σ' => r = .tup [.nilsl, .bool false] ∧ ∃ t' M', σ' = ⟨1, t', [(0, ⟨true, [.sl 2 (c.S.map eType), .sl 3 (c.O.map eObj), .sl 1 (c.Roots.map eI), .omap (M')]⟩)]⟩) := by
  have q := maker_all up c hmc L hL hS
  rw [h] at q; exact q
theorem clone_Int (up : Bool) (xs : List Int) (hx : xs.length * 8 ≤ MX) : PCall prog up 27 [.sl 1 (xs.map eI)] (· = .sl 1 (xs.map eI)) := by
  refine PCall.intro htt func27 (by kernel_rfl) rfl (Nat.le_of_ble_eq_true rfl) fun hl => ?_
  have hx1 : xs.length ≤ MX := by omega
  simp only [tmps0, Nat.reduceAdd]
  refine CW.seq ?_
  refine CW.rg ?_
  refine CWops.rn htt 1 ?_
  refine CWops.done ?_
  refine CW.seq ?_
  refine CW.seq ?_
  refine CW.rg ?_
  refine CWops.rn htt 1 ?_
  refine CWops.nilcmp (n := 1) (l := xs.map eI) htt (by simp only [go_sem, simprocAttr]) (by simp only [go_sem, simprocAttr]) (by simp only [go_sem, simprocAttr]) tt_26 rfl (fun b hb => ⟨_, rfl, ?_⟩)
  refine CWops.done ?_
  refine CW.cond (by simp only [go_sem, simprocAttr]; first | done | exact rfl) (fun ct4 => ?_) (fun ct4 => ?_)
  · refine CW.seq ?_
    refine CW.rg ?_
    refine CWops.rn htt 1 ?_
    refine CWops.done ?_
    refine CW.ret ?_
    refine retQ.ret (by simp only [f27, go_sem, simprocAttr]; exact rfl) (by simp only [go_sem, simprocAttr]; exact rfl) ?_ -- ret1
    refine ⟨_, ?_, rfl⟩
    have h0 := hb ct4; simp [leP, h0]
  · refine CW.skip ?_
    refine CW.seq ?_
    refine CW.rg ?_
    refine CWops.run htt 4 (by simp only [go_sem, simprocAttr]; exact rfl) (by refine ⟨?_, ?_, ?_⟩ <;> first | (simp [eI, AV.cell]; done) | (simp; omega)) ?_
    refine CWops.done ?_
    refine CW.ret ?_
    refine retQ.ret (by simp only [f27, go_sem, simprocAttr]; exact rfl) (by simp only [go_sem, simprocAttr]; exact rfl) ?_ -- ret2
    refine ⟨_, ?_, rfl⟩
    simp [leP, frz_I, frz_Val, frz_Obj, frz_Field, frz_Type]
theorem delta_Apply (up : Bool) (g : Graph) (d : GDelta) (hL : d.L.length ≤ 1000) (hR : d.Roots.length ≤ 1000) : PCall prog up 11 [.agg (eGraph g), .agg (eDelta d)] (· = .tup [.agg (eGraph (gApply g d).1), .int .i64 (gApply g d).2]) := by
  refine PCall.intro htt func11 (by kernel_rfl) rfl (Nat.le_of_ble_eq_true rfl) fun hl => ?_
  have hLn := (hl (.agg (eDelta d)) (by simp)).agg
  have hS : ∀ x ∈ d.L, x.Set.length ≤ MX := fun x hx => by
    have h1 := ((hLn (.sl 3 (d.L.map eItem)) (by simp [eDelta])).sl.2 (eItem x) (List.mem_map_of_mem hx)).2 (.sl 4 (x.Set.map eCell)) (by simp [eItem])
    simpa using h1.sl.1
  simp only [tmps0, Nat.reduceAdd]
  refine CW.seq ?_
  refine CW.rg ?_
  refine CWops.run htt 4 (by simp only [go_sem, simprocAttr, eGraph, eDelta]; exact rfl) (by simp [go_sem, simprocAttr, eGraph, eDelta]) ?_
  refine CWops.done ?_
  refine CW.seq ?_
  refine CW.rg ?_
  refine CWops.run htt 1 (by simp only [go_sem, simprocAttr, eGraph]; exact rfl) (by simp [go_sem, simprocAttr, eGraph]) ?_
  refine CWops.callA (code_Sum up g) (by simp only [go_sem, simprocAttr, eGraph]) (by simp only [go_sem, simprocAttr, eGraph]; first | done | exact rfl) (by simp only [go_sem, simprocAttr, eGraph]) (by simp only [go_sem, simprocAttr, eGraph]) (fun rt14 hrt14 => ?_)
  subst hrt14
  refine CWops.run htt 5 (by simp only [go_sem, simprocAttr, eGraph]; exact rfl) (by simp [go_sem, simprocAttr, eGraph]) ?_
  refine CWops.done ?_
  refine CW.seq ?_
  refine CW.block ?_
  refine CW.seq ?_
  refine CW.rg ?_
  refine CWops.rn htt 3 ?_
  refine CWops.done ?_
  refine CW.cond (by simp only [go_sem, simprocAttr]; first | done | exact rfl) (fun ct17 => ?_) (fun ct17 => ?_)
  · have h1 : (gSum g).2 ≠ 0 := by simpa using ct17
    refine CW.seq ?_
    refine CW.rg ?_
    refine CWops.rn htt 4 ?_
    refine CWops.done ?_
    refine CW.ret ?_
    refine retQ.ret (by simp only [f11, go_sem, simprocAttr]; exact rfl) (by simp only [go_sem, simprocAttr]; exact rfl) ?_ -- ret1
    refine ⟨_, ?_, rfl⟩
    have e : gApply g d = (noGraph, (gSum g).2) := by unfold gApply; rw [if_pos h1]
    rw [e, eGraph_no]
    simp [leP, leL]
  · have h1 : (gSum g).2 = 0 := by simpa using ct17
    have hgm := gSum_may h1
    have hmc : May (gCanon g) := (may_iff _).1 (once_facts hgm).1
    have hcS : (gCanon g).S = g.S := by rw [gCanon_of hgm]; rfl
    refine CW.seq ?_
    refine CW.rg ?_
    refine CWops.rn htt 5 ?_
    refine CWops.done ?_
    refine CW.cond (by simp only [go_sem, simprocAttr]; first | done | exact rfl) (fun ct22 => ?_) (fun ct22 => ?_)
    · have h2 : (gSum g).1 ≠ d.Base := by simp at ct22; omega
      refine CW.seq ?_
      refine CW.rg ?_
      refine CWops.rn htt 3 ?_
      refine CWops.done ?_
      refine CW.ret ?_
      refine retQ.ret (by simp only [f11, go_sem, simprocAttr]; exact rfl) (by simp only [go_sem, simprocAttr]; exact rfl) ?_ -- ret2
      refine ⟨_, ?_, rfl⟩
      have e : gApply g d = (noGraph, 7) := by unfold gApply; rw [if_neg (by rw [h1]; simp), if_pos h2]
      rw [e, eGraph_no]
      simp [leP, leL]
    · have h2 : (gSum g).1 = d.Base := by simp at ct22; omega
      have hap := gApply_eq h1 h2
      refine CW.skip ?_
      refine CW.seq ?_
      refine CW.rg ?_
      refine CWops.run htt 1 (by simp only [go_sem, simprocAttr, eGraph]; exact rfl) (by simp [go_sem, simprocAttr, eGraph]) ?_
      refine CWops.callA (canon_Canon up g) (by simp only [go_sem, simprocAttr, eGraph]) (by simp only [go_sem, simprocAttr, eGraph]; first | done | exact rfl) (by simp only [go_sem, simprocAttr, eGraph]) (by simp only [go_sem, simprocAttr, eGraph]) (fun rt29 hrt29 => ?_)
      subst hrt29
      refine CWops.run htt 4 (by simp only [go_sem, simprocAttr, eGraph]; exact rfl) (by simp [go_sem, simprocAttr, eGraph]) ?_
      refine CWops.done ?_
      refine CW.cut ⟨4, [(2, .lv 0 [] 0), (3, .lv 1 [] 0), (4, .lv 2 [] 0), (8, .lv 3 [] 0), (9, objsV (dAll (gCanon g) d.L)), (10, .bool (dAll (gCanon g) d.L).isSome)], [(0, ⟨true, eGraph g⟩), (1, ⟨true, [.int .u32 (d.Base : Int), .sl 1 (d.Roots.map eI), .sl 3 (d.L.map eItem)]⟩), (2, ⟨true, [.nilsl, .nilsl, .nilsl]⟩), (3, ⟨true, [.sl 2 ((gCanon g).S.map eType), .undef, .undef, .undef]⟩)]⟩ ?_ ?_
      · rcases hda : dAll (gCanon g) d.L with _ | l
        all_goals (refine CW.rg ?_)
        all_goals (refine CWops.run htt 3 (by simp only [go_sem, simprocAttr, allR]; exact rfl) (by simp [go_sem, simprocAttr, allR]) ?_)
        all_goals (first | (refine CWops.skip ?_ ?_; next => (simp only [go_sem, simprocAttr]; done)) | (first | (refine CWops.callG [4] rfl (all_none up (gCanon g) hmc d.L hL hS hda) (by simp only [go_sem, simprocAttr]) (by simp only [go_sem, simprocAttr]; first | done | exact rfl) (by decide) (by simp [go_sem, simprocAttr, mName, memB]) (by simp [go_sem, simprocAttr, mName]) (by simp [go_sem, simprocAttr]) (by simp [go_sem, simprocAttr]) (by simp [go_sem, simprocAttr, mName]) (fun r σ' hσ => ?_); obtain ⟨rfl, t', M', rfl⟩ := hσ; simp only [aftS, renS, delAll, memB, mName, List.getD_nil, killH, kref, ren, Nat.beq_eq, go_sem, simprocAttr]) | (refine CWops.callG [4] rfl (all_some up (gCanon g) hmc d.L hL hS hda) (by simp only [go_sem, simprocAttr]) (by simp only [go_sem, simprocAttr]; first | done | exact rfl) (by decide) (by simp [go_sem, simprocAttr, mName, memB]) (by simp [go_sem, simprocAttr, mName]) (by simp [go_sem, simprocAttr]) (by simp [go_sem, simprocAttr]) (by simp [go_sem, simprocAttr, mName]) (fun r σ' hσ => ?_); obtain ⟨rfl, t', M', rfl⟩ := hσ; simp only [aftS, renS, delAll, memB, mName, List.getD_nil, killH, kref, ren, Nat.beq_eq, go_sem, simprocAttr])))
        all_goals (refine CWops.run htt 5 (by simp only [go_sem, simprocAttr, allR]; exact rfl) (by simp [go_sem, simprocAttr, allR]) ?_)
        all_goals (refine CWops.done ?_)
        all_goals (
          refine Sh.wk (fun x => if x = 3 then 4 else x) ?_
          simp [Wk, go_sem, simprocAttr, objsV, eGraph])
      refine CW.cut ⟨4, [(2, .lv 0 [] 0), (3, .lv 1 [] 0), (4, .lv 2 [] 0), (10, .bool (dAll (gCanon g) d.L).isSome), (11, .lv 3 [] 0)], [(0, ⟨true, eGraph g⟩), (1, ⟨true, [.int .u32 (d.Base : Int), .sl 1 (d.Roots.map eI), .sl 3 (d.L.map eItem)]⟩), (2, ⟨true, [.nilsl, .nilsl, .nilsl]⟩), (3, ⟨true, [.sl 2 (g.S.map eType), objsV (dAll (gCanon g) d.L), .sl 1 (d.Roots.map eI)]⟩)]⟩ ?_ ?_
      · rcases hda : dAll (gCanon g) d.L with _ | l
        all_goals (refine CW.drawn mixed 11 (by decide) (by kernel_rfl) (by kernel_rfl) (by kernel_rfl) ?_)
        all_goals (refine Seg.run htt 8 (by simp only [go_sem, simprocAttr, objsV, hcS]; exact rfl) ?_)
        all_goals (first | (refine Seg.skip ?_ ?_; next => (simp only [go_sem, simprocAttr]; done)) | (refine Seg.callA (clone_Int up d.Roots (by unfold MX; omega)) (by simp only [go_sem, simprocAttr, objsV, hcS]) (by simp only [go_sem, simprocAttr, objsV, hcS]; first | done | exact rfl) (by simp only [go_sem, simprocAttr, objsV, hcS]) (by simp only [go_sem, simprocAttr, objsV, hcS]) ?_))
        all_goals (refine Seg.run htt 2 (by simp only [go_sem, simprocAttr, objsV, hcS]; exact rfl) ?_)
        all_goals (refine Seg.done ?_)
        all_goals (refine CWops.run htt 1 (by simp only [go_sem, simprocAttr, objsV, hcS]; exact rfl) (by simp [go_sem, simprocAttr, objsV, hcS]) ?_)
        all_goals (refine CWops.done ?_)
        all_goals (
          refine ⟨rfl, Sh.wk (fun x => if x = 3 then 4 else x) ?_⟩
          simp [Wk, go_sem, simprocAttr, objsV, eGraph])
      refine CW.seq ?_
      refine CW.cut ⟨4, [(2, .lv 0 [] 0), (3, .lv 1 [] 0), (4, .lv 2 [] 0), (11, .lv 3 [] 0), (63, .bool (!aplOK g d))], [(0, ⟨true, eGraph g⟩), (1, ⟨true, [.int .u32 (d.Base : Int), .sl 1 (d.Roots.map eI), .sl 3 (d.L.map eItem)]⟩), (2, ⟨true, [.nilsl, .nilsl, .nilsl]⟩), (3, ⟨true, [.sl 2 (g.S.map eType), objsV (dAll (gCanon g) d.L), .sl 1 (d.Roots.map eI)]⟩)]⟩ ?_ ?_
      · rcases hda : dAll (gCanon g) d.L with _ | l
        all_goals (refine CW.drawn mixed 11 (by decide) (by kernel_rfl) (by kernel_rfl) (by kernel_rfl) ?_)
        all_goals (refine Seg.run htt 3 (by simp only [go_sem, simprocAttr, objsV, eGraph]; exact rfl) ?_)
        all_goals (first | refine Seg.guard 52 (by simp only [go_sem, simprocAttr, objsV, eGraph]; exact rfl) (fun g52 => ?_) (fun g52 => ?_) | skip)
        all_goals (first | (cases g52; done) | skip)
        all_goals (refine Seg.run htt 1 (by simp only [go_sem, simprocAttr, objsV, eGraph]; exact rfl) ?_)
        all_goals (first | (refine Seg.skip ?_ ?_; next => (simp only [go_sem, simprocAttr]; done)) | (refine Seg.call (graph_May up ⟨g.S, l, d.Roots⟩) (by simp only [go_sem, simprocAttr, objsV, eGraph]) (by simp only [go_sem, simprocAttr, objsV, eGraph]; first | done | exact rfl) (by simp only [go_sem, simprocAttr, objsV, eGraph]) (by simp only [go_sem, simprocAttr, objsV, eGraph]) rfl ?_))
        all_goals (refine Seg.run htt 3 (by simp only [go_sem, simprocAttr, objsV, eGraph]; exact rfl) ?_)
        all_goals (first | refine Seg.guard 57 (by simp only [go_sem, simprocAttr, objsV, eGraph]; exact rfl) (fun g57 => ?_) (fun g57 => ?_) | skip)
        all_goals (first | (cases g57; done) | skip)
        all_goals (refine Seg.run htt 1 (by simp only [go_sem, simprocAttr, objsV, eGraph]; exact rfl) ?_)
        all_goals (first | (refine Seg.skip ?_ ?_; next => (simp only [go_sem, simprocAttr]; done)) | (refine Seg.callA (canon_Canon up ⟨g.S, l, d.Roots⟩) (by simp only [go_sem, simprocAttr, objsV, eGraph]) (by simp only [go_sem, simprocAttr, objsV, eGraph]; first | done | exact rfl) (by simp only [go_sem, simprocAttr, objsV, eGraph]) (by simp only [go_sem, simprocAttr, objsV, eGraph]) ?_))
        all_goals (refine Seg.run htt 1 (by simp only [go_sem, simprocAttr, objsV, eGraph]; exact rfl) ?_)
        all_goals (refine Seg.done ?_)
        all_goals (first | (refine CWops.skip ?_ ?_; next => (simp only [go_sem, simprocAttr]; done)) | (refine CWops.call (graph_Same up (gCanon ⟨g.S, l, d.Roots⟩) ⟨g.S, l, d.Roots⟩) (by simp only [go_sem, simprocAttr, objsV, eGraph]) (by simp only [go_sem, simprocAttr, objsV, eGraph]; first | done | exact rfl) (by simp only [go_sem, simprocAttr, objsV, eGraph]) (fun rt61 hrt61 => ?_); subst hrt61; refine ⟨rfl, ?_⟩))
        all_goals (refine CWops.run htt 2 (by simp only [go_sem, simprocAttr, objsV, eGraph]; exact rfl) (by simp [go_sem, simprocAttr, objsV, eGraph]) ?_)
        all_goals (refine CWops.done ?_)
        all_goals (
          refine ⟨rfl, Sh.wk0 ?_⟩
          simp [Wk, go_sem, simprocAttr, objsV, eGraph, aplOK, hda] <;> simp_all)
      refine CW.cond (by simp only [go_sem, simprocAttr]; first | done | exact rfl) (fun ct63 => ?_) (fun ct63 => ?_)
      · have hno : aplOK g d = false := by simpa using ct63
        have e : gApply g d = (noGraph, 2) := by
          rw [hap]
          unfold aplOK at hno
          cases hda : dAll (gCanon g) d.L with
          | none => rfl
          | some l =>
            rw [hda] at hno
            simp only at hno ⊢
            rw [if_neg (fun h => by rw [h.1, h.2] at hno; simp at hno)]
        refine CW.seq ?_
        refine CW.rg ?_
        refine CWops.rn htt 3 ?_
        refine CWops.done ?_
        refine CW.ret ?_
        refine retQ.ret (by simp only [f11, go_sem, simprocAttr]; exact rfl) (by simp only [go_sem, simprocAttr]; exact rfl) ?_ -- ret3
        refine ⟨_, ?_, rfl⟩
        rw [e, eGraph_no]
        simp [leP, leL]
      · have hyes : aplOK g d = true := by simpa using ct63
        obtain ⟨l, hda, hok⟩ : ∃ l, dAll (gCanon g) d.L = some l ∧ (gMay ⟨g.S, l, d.Roots⟩ = true ∧ gCanon ⟨g.S, l, d.Roots⟩ = ⟨g.S, l, d.Roots⟩) := by
          unfold aplOK at hyes
          cases hda : dAll (gCanon g) d.L with
          | none => rw [hda] at hyes; cases hyes
          | some l => rw [hda] at hyes; exact ⟨l, rfl, by simpa using hyes⟩
        have e : gApply g d = (⟨g.S, l, d.Roots⟩, 0) := by rw [hap, hda]; simp only; rw [if_pos hok]
        rw [hda]
        simp only [objsV]
        refine CW.skip ?_
        refine CW.seq ?_
        refine CW.rg ?_
        refine CWops.rn htt 3 ?_
        refine CWops.done ?_
        refine CW.ret ?_
        refine retQ.ret (by simp only [f11, go_sem, simprocAttr]; exact rfl) (by simp only [go_sem, simprocAttr]; exact rfl) ?_ -- ret4
        refine ⟨_, ?_, rfl⟩
        rw [e]
        simp [leP, leL, eGraph]
        first | done | exact leP_refl _ | exact leP_refl.leL_refl _
end Go.Ab
namespace Go.Ab
open Go Go.Proofs.Try
set_option maxRecDepth 100000
theorem clone_ObjG (up : Bool) (xs : List GObj) (hx : xs.length * 40 ≤ MX) : GCall prog up 82 [.sl 3 (xs.map eObj)] 0 [] (fun r σ' => r = .ref 0 [] 0 ∧ σ'.n = 1 ∧ σ'.s = [(0, ⟨false, [.own 3 (xs.map eObj)]⟩)]) := by
  refine GCall.intro htt 0 func82 (by kernel_rfl) rfl (Nat.le_of_ble_eq_true rfl) (CW.told ?_)
  have hx1 : xs.length ≤ MX := by omega
  simp only [tmps0, Nat.reduceAdd]
  refine CW.seq ?_
  refine CW.rg ?_
  refine CWops.rn htt 1 ?_
  refine CWops.done ?_
  refine CW.seq ?_
  refine CW.seq ?_
  refine CW.rg ?_
  refine CWops.rn htt 1 ?_
  refine CWops.nilcmp (n := 3) (l := xs.map eObj) htt (by simp only [go_sem, simprocAttr]) (by simp only [go_sem, simprocAttr]) (by simp only [go_sem, simprocAttr]) tt_25 rfl (fun b hb => ⟨_, rfl, ?_⟩)
  refine CWops.done ?_
  refine CW.cond (by simp only [go_sem, simprocAttr]; first | done | exact rfl) (fun ct4 => ?_) (fun ct4 => ?_)
  · refine CW.seq ?_
    refine CW.rg ?_
    refine CWops.rn htt 1 ?_
    refine CWops.done ?_
    refine CW.ret ?_
    refine ⟨⟨1, [(2, .ref 0 [] 0)], [(0, ⟨false, [.own 3 (xs.map eObj)]⟩)]⟩, ?_, .inr rfl, by simp [ptrOK, go_sem, simprocAttr], _, by simp only [f82, go_sem, simprocAttr]; exact rfl, ?_⟩ -- ret1
    · have h0 := hb ct4
      refine Sh.trans (Sh.nilRoot 2 3 (by simp only [go_sem, simprocAttr]) rfl) (Sh.wk0 ?_)
      simp [Wk, go_sem, simprocAttr, h0]
    · exact ⟨rfl, rfl, rfl⟩
  · refine CW.skip ?_
    refine CW.seq ?_
    refine CW.rg ?_
    refine CWops.run htt 4 (by simp only [go_sem, simprocAttr]; exact rfl) (by refine ⟨?_, ?_, ?_⟩ <;> first | (simp [eObj, AV.cell]; done) | (simp; omega)) ?_
    refine CWops.done ?_
    refine CW.ret ?_
    refine ⟨⟨1, [(2, .ref 0 [] 0)], [(0, ⟨false, [.own 3 (xs.map eObj)]⟩)]⟩, ?_, .inr rfl, by simp [ptrOK, go_sem, simprocAttr], _, by simp only [f82, go_sem, simprocAttr]; exact rfl, ?_⟩ -- ret2
    · refine Sh.wk (fun x => x + 1) ?_
      simp [Wk, go_sem, simprocAttr]
    · exact ⟨rfl, rfl, rfl⟩
theorem clone_IntG (up : Bool) (xs : List Int) (hx : xs.length * 8 ≤ MX) : GCall prog up 27 [.sl 1 (xs.map eI)] 0 [] (fun r σ' => r = .ref 0 [] 0 ∧ σ'.n = 1 ∧ σ'.s = [(0, ⟨false, [.own 1 (xs.map eI)]⟩)]) := by
  refine GCall.intro htt 0 func27 (by kernel_rfl) rfl (Nat.le_of_ble_eq_true rfl) (CW.told ?_)
  have hx1 : xs.length ≤ MX := by omega
  simp only [tmps0, Nat.reduceAdd]
  refine CW.seq ?_
  refine CW.rg ?_
  refine CWops.rn htt 1 ?_
  refine CWops.done ?_
  refine CW.seq ?_
  refine CW.seq ?_
  refine CW.rg ?_
  refine CWops.rn htt 1 ?_
  refine CWops.nilcmp (n := 1) (l := xs.map eI) htt (by simp only [go_sem, simprocAttr]) (by simp only [go_sem, simprocAttr]) (by simp only [go_sem, simprocAttr]) tt_26 rfl (fun b hb => ⟨_, rfl, ?_⟩)
  refine CWops.done ?_
  refine CW.cond (by simp only [go_sem, simprocAttr]; first | done | exact rfl) (fun ct4 => ?_) (fun ct4 => ?_)
  · refine CW.seq ?_
    refine CW.rg ?_
    refine CWops.rn htt 1 ?_
    refine CWops.done ?_
    refine CW.ret ?_
    refine ⟨⟨1, [(2, .ref 0 [] 0)], [(0, ⟨false, [.own 1 (xs.map eI)]⟩)]⟩, ?_, .inr rfl, by simp [ptrOK, go_sem, simprocAttr], _, by simp only [f27, go_sem, simprocAttr]; exact rfl, ?_⟩ -- ret1
    · have h0 := hb ct4
      refine Sh.trans (Sh.nilRoot 2 1 (by simp only [go_sem, simprocAttr]) rfl) (Sh.wk0 ?_)
      simp [Wk, go_sem, simprocAttr, h0]
    · exact ⟨rfl, rfl, rfl⟩
  · refine CW.skip ?_
    refine CW.seq ?_
    refine CW.rg ?_
    refine CWops.run htt 4 (by simp only [go_sem, simprocAttr]; exact rfl) (by refine ⟨?_, ?_, ?_⟩ <;> first | (simp [eI, AV.cell]; done) | (simp; omega)) ?_
    refine CWops.done ?_
    refine CW.ret ?_
    refine ⟨⟨1, [(2, .ref 0 [] 0)], [(0, ⟨false, [.own 1 (xs.map eI)]⟩)]⟩, ?_, .inr rfl, by simp [ptrOK, go_sem, simprocAttr], _, by simp only [f27, go_sem, simprocAttr]; exact rfl, ?_⟩ -- ret2
    · refine Sh.wk (fun x => x + 1) ?_
      simp [Wk, go_sem, simprocAttr]
    · exact ⟨rfl, rfl, rfl⟩
theorem graph_own (up : Bool) (g : Graph) (hz : GSz g) : GCall prog up 47 [.agg (eGraph g)] 0 [] (fun r σ' => r = .agg [.ref 0 [] 0, .ref 0 [] 1, .ref 0 [] 2] ∧ σ'.n = 2 ∧ σ'.s = [(0, ⟨true, OWN g⟩), (1, ⟨true, [.ref 0 [] 0, .ref 0 [] 1, .ref 0 [] 2]⟩)]) := by
  refine GCall.intro htt 0 func47 (by kernel_rfl) rfl (Nat.le_of_ble_eq_true rfl) (CW.told ?_)
  have hb1 : g.S.length ≤ MX := by have := hz.s; omega
  have hb2 : g.O.length ≤ MX := by have := hz.o; omega
  simp only [tmps0, Nat.reduceAdd]
  refine CW.seq ?_
  refine CW.rg ?_
  refine CWops.run htt 2 (by simp only [go_sem, simprocAttr, eGraph]; exact rfl) (by simp [go_sem, simprocAttr, eGraph]) ?_
  refine CWops.done ?_
  refine CW.seq ?_
  refine CW.rg ?_
  refine CWops.run htt 3 (by simp only [go_sem, simprocAttr, eGraph]; exact rfl) (by simp [go_sem, simprocAttr, eGraph]) ?_
  refine CWops.callG [] rfl (clone_TypeG up g.S hz.s) (by simp only [go_sem, simprocAttr]) (by simp only [go_sem, simprocAttr]; first | done | exact rfl) (by decide) (by simp [go_sem, simprocAttr, mName, memB]) (by simp [go_sem, simprocAttr, mName]) (by simp [go_sem, simprocAttr]) (by simp [go_sem, simprocAttr]) (by simp [go_sem, simprocAttr, mName]) (fun r σ' hσ => ?_)
  obtain ⟨σn, σt, σs⟩ := σ'
  simp only at hσ
  obtain ⟨rfl, rfl, rfl⟩ := hσ
  simp only [aftS, renS, delAll, memB, mName, List.getD_nil, killH, kref, ren, Nat.beq_eq, go_sem, simprocAttr]
  refine CWops.run htt 3 (by simp only [go_sem, simprocAttr, eGraph]; exact rfl) (by simp [go_sem, simprocAttr, eGraph]) ?_
  refine CWops.done ?_
  refine CW.seq ?_
  refine CW.seq ?_
  refine CW.rg ?_
  refine CWops.rn htt 5 ?_
  refine CWops.done ?_
  refine CW.block ?_
  refine CW.loop (S := Nat) (fun i => ⟨2, [(1, .lv 0 [] 0), (2, .lv 1 [] 0), (15, .ref 0 [] 0), (16, .int .i64 g.S.length), (17, .int .i64 i)], [(0, ⟨true, [.own 2 (g.S.map eType), .sl 3 (g.O.map eObj), .sl 1 (g.Roots.map eI)]⟩), (1, ⟨true, [.nilsl, .nilsl, .nilsl]⟩)]⟩) (fun i => i ≤ g.S.length) (fun i => g.S.length - i) (0) ?_ (Nat.zero_le _) (fun i h3 => ?_)
  · refine Sh.wk0 ?_; simp [Wk, go_sem, simprocAttr, eGraph]
  refine CW.seq ?_
  refine CW.rg ?_
  refine CWops.rn htt 1 ?_
  refine CWops.done ?_
  refine CW.seq ?_
  refine CW.cond (by simp only [go_sem, simprocAttr]; first | done | exact rfl) (fun ct18 => ?_) (fun ct18 => ?_)
  · have hi : i < g.S.length := by simpa using ct18
    obtain ⟨x, hx⟩ : ∃ x, g.S[i]? = some x := ⟨g.S[i], List.getElem?_eq_getElem hi⟩
    refine CW.skip ?_
    refine CW.seq ?_
    refine CW.block ?_
    refine CW.seq ?_
    refine CW.rg ?_
    refine CWops.run htt 6 (by simp only [go_sem, simprocAttr, hi, hx, eType]; exact rfl) (by simp [go_sem, simprocAttr, hi, hx, eType]) ?_
    refine CWops.done ?_
    refine CW.drawn mixed 7 (by decide) (by kernel_rfl) (by kernel_rfl) (by kernel_rfl) ?_
    refine Seg.run htt 6 (by simp only [go_sem, simprocAttr, hi, hx, eType]; exact rfl) ?_
    refine Seg.callA (clone_Field up x.F (hz.sf x (List.mem_of_getElem? hx))) (by simp only [go_sem, simprocAttr, hi, hx, eType]) (by simp only [go_sem, simprocAttr, hi, hx, eType]; first | done | exact rfl) (by simp only [go_sem, simprocAttr, hi, hx, eType]) (by simp only [go_sem, simprocAttr, hi, hx, eType]) ?_
    refine Seg.done ?_
    refine CWops.run htt 3 (by simp only [go_sem, simprocAttr, hi, hx, eType]; exact rfl) (by simp [go_sem, simprocAttr, hi, hx, eType]) ?_
    refine CWops.done ?_
    refine CW.rg ?_
    refine CWops.run htt 2 (by simp only [go_sem, simprocAttr, wrap_succ (Nat.lt_of_lt_of_le hi hb1)]; exact rfl) (by simp [go_sem, simprocAttr, wrap_succ (Nat.lt_of_lt_of_le hi hb1)]) ?_
    refine CWops.done ?_
    refine ⟨i + 1, ?_, ?_, ?_⟩
    · refine Sh.wk0 ?_
      have hss : (g.S.map eType).set i [.str x.Name, .sl 3 (x.F.map eField)] = g.S.map eType := set_same (by rw [List.getElem?_map, hx]; rfl)
      simp [Wk, go_sem, simprocAttr, hss]
    · exact hi
    · simp only; omega
  · have hi : i = g.S.length := by simp at ct18; omega
    refine CW.exit ?_
    refine CW.seq ?_
    refine CW.rg ?_
    refine CWops.rn htt 2 ?_
    refine CWops.callG [] rfl (clone_ObjG up g.O hz.o) (by simp only [go_sem, simprocAttr]) (by simp only [go_sem, simprocAttr]; first | done | exact rfl) (by decide) (by simp [go_sem, simprocAttr, mName, memB]) (by simp [go_sem, simprocAttr, mName]) (by simp [go_sem, simprocAttr]) (by simp [go_sem, simprocAttr]) (by simp [go_sem, simprocAttr, mName]) (fun r σ' hσ => ?_)
    obtain ⟨σn, σt, σs⟩ := σ'
    simp only at hσ
    obtain ⟨rfl, rfl, rfl⟩ := hσ
    simp only [aftS, renS, delAll, memB, mName, List.getD_nil, killH, kref, ren, Nat.beq_eq, go_sem, simprocAttr]
    refine CWops.rn htt 2 ?_
    refine CWops.done ?_
    refine CW.seq ?_
    refine CW.seq ?_
    refine CW.rg ?_
    refine CWops.rn htt 4 ?_
    refine CWops.done ?_
    refine CW.block ?_
    refine CW.loop (S := Nat) (fun i => ⟨2, [(1, .lv 0 [] 0), (2, .lv 1 [] 0), (37, .ref 0 [] 1), (38, .int .i64 g.O.length), (39, .int .i64 i)], [(0, ⟨true, [.own 2 (g.S.map eType), .own 3 (mixO g.O i), .sl 1 (g.Roots.map eI)]⟩), (1, ⟨true, [.nilsl, .nilsl, .nilsl]⟩)]⟩) (fun i => i ≤ g.O.length) (fun i => g.O.length - i) (0) ?_ (Nat.zero_le _) (fun i h4 => ?_)
    · refine Sh.wk0 ?_; simp [Wk, go_sem, simprocAttr, mixO_zero]
    refine CW.seq ?_
    refine CW.rg ?_
    refine CWops.rn htt 1 ?_
    refine CWops.done ?_
    refine CW.seq ?_
    refine CW.cond (by simp only [go_sem, simprocAttr]; first | done | exact rfl) (fun ct40 => ?_) (fun ct40 => ?_)
    · have hi : i < g.O.length := by simpa using ct40
      obtain ⟨x, hx⟩ : ∃ x, g.O[i]? = some x := ⟨g.O[i], List.getElem?_eq_getElem hi⟩
      refine CW.skip ?_
      refine CW.seq ?_
      refine CW.block ?_
      refine CW.seq ?_
      refine CW.rg ?_
      refine CWops.run htt 6 (by simp only [go_sem, simprocAttr, hi, mixO_get hx, mixO_len, eObj]; exact rfl) (by simp [go_sem, simprocAttr, hi, mixO_get hx, mixO_len, eObj]) ?_
      refine CWops.done ?_
      refine CW.drawn mixed 6 (by decide) (by kernel_rfl) (by kernel_rfl) (by kernel_rfl) ?_
      refine Seg.run htt 5 (by simp only [go_sem, simprocAttr, hi, mixO_get hx, mixO_len, eObj]; exact rfl) ?_
      refine Seg.callN (clone_ValG up x.F (hz.of_ x (List.mem_of_getElem? hx))) (by simp only [go_sem, simprocAttr]) (by simp only [go_sem, simprocAttr]; first | done | exact rfl) (by simp [go_sem, simprocAttr]) ?_
      refine Seg.done ?_
      refine CWops.run htt 3 (by simp only [go_sem, simprocAttr, hi, mixO_get hx, mixO_len, eObj]; exact rfl) (by simp [go_sem, simprocAttr, hi, mixO_get hx, mixO_len, eObj]) ?_
      refine CWops.done ?_
      refine CW.rg ?_
      refine CWops.run htt 2 (by simp only [go_sem, simprocAttr, wrap_succ (Nat.lt_of_lt_of_le hi hb2)]; exact rfl) (by simp [go_sem, simprocAttr, wrap_succ (Nat.lt_of_lt_of_le hi hb2)]) ?_
      refine CWops.done ?_
      refine ⟨i + 1, ?_, ?_, ?_⟩
      · refine Sh.wk0 ?_
        dsimp only
        rw [← mixO_set hx]
        simp [Wk, go_sem, simprocAttr, eObjO]
      · exact hi
      · simp only; omega
    · have hi : i = g.O.length := by simp at ct40; omega
      refine CW.exit ?_
      refine CW.seq ?_
      refine CW.rg ?_
      refine CWops.rn htt 2 ?_
      refine CWops.callG [] rfl (clone_IntG up g.Roots hz.r) (by simp only [go_sem, simprocAttr]) (by simp only [go_sem, simprocAttr]; first | done | exact rfl) (by decide) (by simp [go_sem, simprocAttr, mName, memB]) (by simp [go_sem, simprocAttr, mName]) (by simp [go_sem, simprocAttr]) (by simp [go_sem, simprocAttr]) (by simp [go_sem, simprocAttr, mName]) (fun r σ' hσ => ?_)
      obtain ⟨σn, σt, σs⟩ := σ'
      simp only at hσ
      obtain ⟨rfl, rfl, rfl⟩ := hσ
      simp only [aftS, renS, delAll, memB, mName, List.getD_nil, killH, kref, ren, Nat.beq_eq, go_sem, simprocAttr]
      refine CWops.rn htt 2 ?_
      refine CWops.done ?_
      refine CW.seq ?_
      refine CW.rg ?_
      refine CWops.rn htt 2 ?_
      refine CWops.done ?_
      refine CW.ret ?_
      refine ⟨⟨2, [(2, .lv 1 [] 0)], [(0, ⟨true, OWN g⟩), (1, ⟨true, [.ref 0 [] 0, .ref 0 [] 1, .ref 0 [] 2]⟩)]⟩, ?_, .inr rfl, by simp [ptrOK, go_sem, simprocAttr], _, by simp only [f47, go_sem, simprocAttr]; exact rfl, ?_⟩ -- ret1
      · refine Sh.wk0 ?_
        rw [hi, mixO_all]
        simp [Wk, go_sem, simprocAttr, OWN]
      · exact ⟨rfl, rfl, rfl⟩
theorem graph_Set_none (up : Bool) (g : Graph) (id k : Int) (v : GVal) (hz : GSz g) (f1 : fnd (fun o => decide (o.Id = id)) g.O = -1) (f3 : g.O.findIdx? (fun o => decide (o.Id = id)) = none) : PCall prog up 16 [.agg (eGraph g), .int .i64 id, .int .i64 k, .agg (eVal v)] (· = .tup [.agg (eGraph (gSet g id k v).1), .int .i64 (gSet g id k v).2]) := by
  refine PCall.intro htt func16 (by kernel_rfl) rfl (Nat.le_of_ble_eq_true rfl) fun hl => ?_

  simp only [tmps0, Nat.reduceAdd]
  refine CW.seq ?_
  refine CW.rg ?_
  refine CWops.run htt 4 (by simp only [go_sem, simprocAttr, eGraph, eVal]; exact rfl) (by simp [go_sem, simprocAttr, eGraph, eVal]) ?_
  refine CWops.done ?_
  refine CW.cut ⟨6, [(0, .agg (eGraph g)), (1, .int .i64 id), (2, .int .i64 k), (4, .lv 0 [] 0), (7, .lv 1 [] 0), (8, .lv 2 [] 0), (9, .int .i64 0), (10, .lv 5 [] 0)], [(0, ⟨true, eGraph g⟩), (1, ⟨true, eVal v⟩), (2, ⟨true, [.nilsl, .nilsl, .nilsl]⟩), (3, ⟨true, OWN g⟩), (5, ⟨true, [.ref 3 [] 0, .ref 3 [] 1, .ref 3 [] 2]⟩)]⟩ ?_ ?_
  · refine CW.rg ?_
    refine CWops.run htt 1 (by simp only [go_sem, simprocAttr, eGraph, OWN]; exact rfl) (by simp [go_sem, simprocAttr, eGraph, OWN]) ?_
    refine CWops.callG [] rfl (graph_own up g hz) (by simp only [go_sem, simprocAttr]) (by simp only [go_sem, simprocAttr]; first | done | exact rfl) (by decide) (by simp [go_sem, simprocAttr, mName, memB]) (by simp [go_sem, simprocAttr, mName]) (by simp [go_sem, simprocAttr]) (by simp [go_sem, simprocAttr]) (by simp [go_sem, simprocAttr, mName, eGraph]) (fun r σ' hσ => ?_)
    obtain ⟨σn, σt, σs⟩ := σ'
    simp only at hσ
    obtain ⟨rfl, rfl, rfl⟩ := hσ
    simp only [aftS, renS, delAll, memB, mName, List.getD_nil, killH, kref, ren, Nat.beq_eq, go_sem, simprocAttr]
    refine CWops.run htt 2 (by simp only [go_sem, simprocAttr, eGraph, OWN]; exact rfl) (by simp [go_sem, simprocAttr, eGraph, OWN]) ?_
    refine CWops.done ?_
    first | refine ⟨rfl, Sh.wk0 ?_⟩ | refine Sh.wk0 ?_
    simp [Wk, go_sem, simprocAttr, eGraph, eVal, OWN]
  refine CW.seq ?_
  refine CW.seq ?_
  refine CW.rg ?_
  refine CWops.run htt 1 (by simp only [go_sem, simprocAttr, eGraph]; exact rfl) (by simp [go_sem, simprocAttr, eGraph]) ?_
  refine CWops.call (graph_May up g) (by simp only [go_sem, simprocAttr, eGraph]) (by simp only [go_sem, simprocAttr, eGraph]; first | done | exact rfl) (by simp only [go_sem, simprocAttr, eGraph]) (fun rt15 hrt15 => ?_)
  subst hrt15; refine ⟨rfl, ?_⟩
  refine CWops.run htt 1 (by simp only [go_sem, simprocAttr, eGraph]; exact rfl) (by simp [go_sem, simprocAttr, eGraph]) ?_
  refine CWops.done ?_
  refine CW.cond (by simp only [go_sem, simprocAttr]; first | done | exact rfl) (fun ct16 => ?_) (fun ct16 => ?_)
  · simp only [Bool.not_eq_true'] at ct16
    refine CW.seq ?_
    try simp only [OWN]
    refine CW.sh (Sh.trans (Sh.frzC 3 0 5 0 (by decide) rfl rfl rfl) (Sh.trans (Sh.frzC 3 1 5 1 (by decide) rfl rfl rfl) (Sh.frzC 3 2 5 2 (by decide) rfl rfl rfl))) ?_
    simp only [go_sem, simprocAttr]
    refine CW.rg ?_
    refine CWops.rn htt 3 ?_
    refine CWops.done ?_
    refine CW.ret ?_
    refine retQ.ret (by simp only [f16, go_sem, simprocAttr]; exact rfl) (by simp only [go_sem, simprocAttr]; exact rfl) ?_ -- ret1
    refine ⟨_, ?_, rfl⟩
    simp [leP, leL, gSet, ct16, eGraph]
  · simp only [Bool.not_eq_false'] at ct16
    have hm := (may_iff g).1 ct16
    refine CW.skip ?_
    refine CW.seq ?_
    refine CW.rg ?_
    refine CWops.run htt 2 (by simp only [go_sem, simprocAttr, eGraph]; exact rfl) (by simp [go_sem, simprocAttr, eGraph]) ?_
    refine CWops.call ((by have := graph_Find up g id; rw [f1] at this; exact this)) (by simp only [go_sem, simprocAttr, eGraph]) (by simp only [go_sem, simprocAttr, eGraph]; first | done | exact rfl) (by simp only [go_sem, simprocAttr, eGraph]) (fun rt20 hrt20 => ?_)
    subst hrt20; refine ⟨rfl, ?_⟩
    refine CWops.run htt 1 (by simp only [go_sem, simprocAttr, eGraph]; exact rfl) (by simp [go_sem, simprocAttr, eGraph]) ?_
    refine CWops.done ?_
    refine CW.seq ?_
    refine CW.block ?_
    refine CW.seq ?_
    refine CW.seq ?_
    refine CW.rg ?_
    refine CWops.rn htt 3 ?_
    refine CWops.done ?_
    refine CW.cond (by simp only [go_sem, simprocAttr]; first | done | exact rfl) (fun ct21 => ?_) (fun ct21 => ?_)
    · refine CW.skip ?_
      refine CW.cond (by simp only [go_sem, simprocAttr]; first | done | exact rfl) (fun ct21 => ?_) (fun ct21 => ?_)
      · refine CW.seq ?_
        try simp only [OWN]
        refine CW.sh (Sh.trans (Sh.frzC 3 0 5 0 (by decide) rfl rfl rfl) (Sh.trans (Sh.frzC 3 1 5 1 (by decide) rfl rfl rfl) (Sh.frzC 3 2 5 2 (by decide) rfl rfl rfl))) ?_
        simp only [go_sem, simprocAttr]
        refine CW.rg ?_
        refine CWops.rn htt 3 ?_
        refine CWops.done ?_
        refine CW.ret ?_
        refine retQ.ret (by simp only [f16, go_sem, simprocAttr]; exact rfl) (by simp only [go_sem, simprocAttr]; exact rfl) ?_ -- ret2
        refine ⟨_, ?_, rfl⟩
        simp [leP, leL, gSet, ct16, f3, eGraph]
      · simp at ct21 
    · simp at ct21
theorem graph_Set_some (up : Bool) (g : Graph) (id k : Int) (v : GVal) (hz : GSz g) (i : Nat) (x : GObj) (f1 : fnd (fun o => decide (o.Id = id)) g.O = i) (f2 : g.O[i]? = some x) (f3 : g.O.findIdx? (fun o => decide (o.Id = id)) = some i) : PCall prog up 16 [.agg (eGraph g), .int .i64 id, .int .i64 k, .agg (eVal v)] (· = .tup [.agg (eGraph (gSet g id k v).1), .int .i64 (gSet g id k v).2]) := by
  refine PCall.intro htt func16 (by kernel_rfl) rfl (Nat.le_of_ble_eq_true rfl) fun hl => ?_
  obtain ⟨oi, oT, oF⟩ := x
  simp only [tmps0, Nat.reduceAdd]
  refine CW.seq ?_
  refine CW.rg ?_
  refine CWops.run htt 4 (by simp only [go_sem, simprocAttr, eGraph, eVal]; exact rfl) (by simp [go_sem, simprocAttr, eGraph, eVal]) ?_
  refine CWops.done ?_
  refine CW.cut ⟨6, [(0, .agg (eGraph g)), (1, .int .i64 id), (2, .int .i64 k), (4, .lv 0 [] 0), (7, .lv 1 [] 0), (8, .lv 2 [] 0), (9, .int .i64 0), (10, .lv 5 [] 0)], [(0, ⟨true, eGraph g⟩), (1, ⟨true, eVal v⟩), (2, ⟨true, [.nilsl, .nilsl, .nilsl]⟩), (3, ⟨true, OWN g⟩), (5, ⟨true, [.ref 3 [] 0, .ref 3 [] 1, .ref 3 [] 2]⟩)]⟩ ?_ ?_
  · refine CW.rg ?_
    refine CWops.run htt 1 (by simp only [go_sem, simprocAttr, eGraph, OWN]; exact rfl) (by simp [go_sem, simprocAttr, eGraph, OWN]) ?_
    refine CWops.callG [] rfl (graph_own up g hz) (by simp only [go_sem, simprocAttr]) (by simp only [go_sem, simprocAttr]; first | done | exact rfl) (by decide) (by simp [go_sem, simprocAttr, mName, memB]) (by simp [go_sem, simprocAttr, mName]) (by simp [go_sem, simprocAttr]) (by simp [go_sem, simprocAttr]) (by simp [go_sem, simprocAttr, mName, eGraph]) (fun r σ' hσ => ?_)
    obtain ⟨σn, σt, σs⟩ := σ'
    simp only at hσ
    obtain ⟨rfl, rfl, rfl⟩ := hσ
    simp only [aftS, renS, delAll, memB, mName, List.getD_nil, killH, kref, ren, Nat.beq_eq, go_sem, simprocAttr]
    refine CWops.run htt 2 (by simp only [go_sem, simprocAttr, eGraph, OWN]; exact rfl) (by simp [go_sem, simprocAttr, eGraph, OWN]) ?_
    refine CWops.done ?_
    first | refine ⟨rfl, Sh.wk0 ?_⟩ | refine Sh.wk0 ?_
    simp [Wk, go_sem, simprocAttr, eGraph, eVal, OWN]
  refine CW.seq ?_
  refine CW.seq ?_
  refine CW.rg ?_
  refine CWops.run htt 1 (by simp only [go_sem, simprocAttr, eGraph]; exact rfl) (by simp [go_sem, simprocAttr, eGraph]) ?_
  refine CWops.call (graph_May up g) (by simp only [go_sem, simprocAttr, eGraph]) (by simp only [go_sem, simprocAttr, eGraph]; first | done | exact rfl) (by simp only [go_sem, simprocAttr, eGraph]) (fun rt15 hrt15 => ?_)
  subst hrt15; refine ⟨rfl, ?_⟩
  refine CWops.run htt 1 (by simp only [go_sem, simprocAttr, eGraph]; exact rfl) (by simp [go_sem, simprocAttr, eGraph]) ?_
  refine CWops.done ?_
  refine CW.cond (by simp only [go_sem, simprocAttr]; first | done | exact rfl) (fun ct16 => ?_) (fun ct16 => ?_)
  · simp only [Bool.not_eq_true'] at ct16
    refine CW.seq ?_
    try simp only [OWN]
    refine CW.sh (Sh.trans (Sh.frzC 3 0 5 0 (by decide) rfl rfl rfl) (Sh.trans (Sh.frzC 3 1 5 1 (by decide) rfl rfl rfl) (Sh.frzC 3 2 5 2 (by decide) rfl rfl rfl))) ?_
    simp only [go_sem, simprocAttr]
    refine CW.rg ?_
    refine CWops.rn htt 3 ?_
    refine CWops.done ?_
    refine CW.ret ?_
    refine retQ.ret (by simp only [f16, go_sem, simprocAttr]; exact rfl) (by simp only [go_sem, simprocAttr]; exact rfl) ?_ -- ret1
    refine ⟨_, ?_, rfl⟩
    simp [leP, leL, gSet, ct16, eGraph]
  · simp only [Bool.not_eq_false'] at ct16
    have hm := (may_iff g).1 ct16
    refine CW.skip ?_
    refine CW.seq ?_
    refine CW.rg ?_
    refine CWops.run htt 2 (by simp only [go_sem, simprocAttr, eGraph]; exact rfl) (by simp [go_sem, simprocAttr, eGraph]) ?_
    refine CWops.call ((by have := graph_Find up g id; rw [f1] at this; exact this)) (by simp only [go_sem, simprocAttr, eGraph]) (by simp only [go_sem, simprocAttr, eGraph]; first | done | exact rfl) (by simp only [go_sem, simprocAttr, eGraph]) (fun rt20 hrt20 => ?_)
    subst hrt20; refine ⟨rfl, ?_⟩
    refine CWops.run htt 1 (by simp only [go_sem, simprocAttr, eGraph]; exact rfl) (by simp [go_sem, simprocAttr, eGraph]) ?_
    refine CWops.done ?_
    refine CW.seq ?_
    refine CW.block ?_
    refine CW.seq ?_
    refine CW.seq ?_
    refine CW.rg ?_
    refine CWops.rn htt 3 ?_
    refine CWops.done ?_
    refine CW.cond (by simp only [go_sem, simprocAttr]; first | done | exact rfl) (fun ct21 => ?_) (fun ct21 => ?_)
    · exfalso; revert ct21; simp <;> omega 
    · refine CW.seq ?_
      refine CW.rg ?_
      refine CWops.rn htt 3 ?_
      refine CWops.done ?_
      refine CW.cond (by simp only [go_sem, simprocAttr]; first | done | exact rfl) (fun ct21 => ?_) (fun ct21 => ?_)
      · have hk : k < 0 := by simpa using ct21
        refine CW.skip ?_
        refine CW.cond (by simp only [go_sem, simprocAttr]; first | done | exact rfl) (fun ct21 => ?_) (fun ct21 => ?_)
        · refine CW.seq ?_
          try simp only [OWN]
          refine CW.sh (Sh.trans (Sh.frzC 3 0 5 0 (by decide) rfl rfl rfl) (Sh.trans (Sh.frzC 3 1 5 1 (by decide) rfl rfl rfl) (Sh.frzC 3 2 5 2 (by decide) rfl rfl rfl))) ?_
          simp only [go_sem, simprocAttr]
          refine CW.rg ?_
          refine CWops.rn htt 3 ?_
          refine CWops.done ?_
          refine CW.ret ?_
          refine retQ.ret (by simp only [f16, go_sem, simprocAttr]; exact rfl) (by simp only [go_sem, simprocAttr]; exact rfl) ?_ -- ret2
          refine ⟨_, ?_, rfl⟩
          simp [leP, leL, gSet, ct16, f3, f2, hk, eGraph]
        · exfalso; revert ct21; simp <;> omega 
      · have hk : 0 ≤ k := by simpa using ct21
        obtain ⟨k, rfl⟩ := Int.eq_ofNat_of_zero_le hk
        refine CW.rg ?_
        refine CWops.run htt 10 (by simp only [go_sem, simprocAttr, eGraph, f2, eObj, (List.getElem?_eq_some_iff.1 f2).1]; exact rfl) (by simp [go_sem, simprocAttr, eGraph, f2, eObj, (List.getElem?_eq_some_iff.1 f2).1]) ?_
        refine CWops.done ?_
        refine CW.cond (by simp only [go_sem, simprocAttr]; first | done | exact rfl) (fun ct21 => ?_) (fun ct21 => ?_)
        · have hkl : oF.length ≤ k := by simpa using ct21
          refine CW.seq ?_
          try simp only [OWN]
          refine CW.sh (Sh.trans (Sh.frzC 3 0 5 0 (by decide) rfl rfl rfl) (Sh.trans (Sh.frzC 3 1 5 1 (by decide) rfl rfl rfl) (Sh.frzC 3 2 5 2 (by decide) rfl rfl rfl))) ?_
          simp only [go_sem, simprocAttr]
          refine CW.rg ?_
          refine CWops.rn htt 3 ?_
          refine CWops.done ?_
          refine CW.ret ?_
          refine retQ.ret (by simp only [f16, go_sem, simprocAttr]; exact rfl) (by simp only [go_sem, simprocAttr]; exact rfl) ?_ -- ret3
          refine ⟨_, ?_, rfl⟩
          simp [leP, leL, gSet, ct16, f3, f2, hkl, show ¬ ((k : Int) < 0) by omega, eGraph]
        · have hkl : k < oF.length := by simp at ct21; omega
          obtain ⟨w, hw⟩ : ∃ w, oF[k]? = some w := ⟨oF[k], List.getElem?_eq_getElem hkl⟩
          obtain ⟨_, t, hT, hmo⟩ := hm.objT f2
          obtain ⟨q, rfl⟩ := Int.eq_ofNat_of_zero_le (show 0 ≤ oT from hmo.t0)
          have ht : g.S[q]? = some t := by simpa using hmo.at_
          have hlen : oF.length = t.F.length := hmo.len
          have htF : k < t.F.length := by omega
          obtain ⟨f, hf⟩ : ∃ f, t.F[k]? = some f := ⟨t.F[k], List.getElem?_eq_getElem htF⟩
          have hil : i < g.O.length := (List.getElem?_eq_some_iff.1 f2).1
          have hql : q < g.S.length := (List.getElem?_eq_some_iff.1 ht).1
          refine CW.seq ?_
          refine CW.drawn mixed 19 (by decide) (by kernel_rfl) (by kernel_rfl) (by kernel_rfl) ?_
          refine Seg.run htt 2 (by simp only [go_sem, simprocAttr, eGraph, f2, eObj, ht, eType, hf, eField, hil, hql, htF, eVal]; exact rfl) ?_
          refine Seg.callA (graph_types up g) (by simp only [go_sem, simprocAttr, eGraph, f2, eObj, ht, eType, hf, eField, hil, hql, htF, eVal]) (by simp only [go_sem, simprocAttr, eGraph, f2, eObj, ht, eType, hf, eField, hil, hql, htF, eVal]; first | done | exact rfl) (by simp only [go_sem, simprocAttr, eGraph, f2, eObj, ht, eType, hf, eField, hil, hql, htF, eVal]) (by simp only [go_sem, simprocAttr, eGraph, f2, eObj, ht, eType, hf, eField, hil, hql, htF, eVal]) ?_
          refine Seg.run htt 16 (by simp only [go_sem, simprocAttr, eGraph, f2, eObj, ht, eType, hf, eField, hil, hql, htF, eVal]; exact rfl) ?_
          refine Seg.done ?_
          refine CWops.call (graph_leads up g f v) (by simp only [go_sem, simprocAttr, eGraph, f2, eObj, ht, eType, hf, eField, hil, hql, htF, eVal]) (by simp only [go_sem, simprocAttr, eGraph, f2, eObj, ht, eType, hf, eField, hil, hql, htF, eVal]; first | done | exact rfl) (by simp only [go_sem, simprocAttr, eGraph, f2, eObj, ht, eType, hf, eField, hil, hql, htF, eVal]) (fun rt56 hrt56 => ?_)
          subst hrt56; refine ⟨rfl, ?_⟩
          refine CWops.run htt 2 (by simp only [go_sem, simprocAttr, eGraph, f2, eObj, ht, eType, hf, eField, hil, hql, htF, eVal]; exact rfl) (by simp [go_sem, simprocAttr, eGraph, f2, eObj, ht, eType, hf, eField, hil, hql, htF, eVal]) ?_
          refine CWops.done ?_
          refine CW.cond (by simp only [go_sem, simprocAttr]; first | done | exact rfl) (fun ct36 => ?_) (fun ct36 => ?_)
          · simp only [Bool.not_eq_true'] at ct36
            refine CW.seq ?_
            try simp only [OWN]
            refine CW.sh (Sh.trans (Sh.frzC 3 0 5 0 (by decide) rfl rfl rfl) (Sh.trans (Sh.frzC 3 1 5 1 (by decide) rfl rfl rfl) (Sh.frzC 3 2 5 2 (by decide) rfl rfl rfl))) ?_
            simp only [go_sem, simprocAttr]
            refine CW.rg ?_
            refine CWops.rn htt 3 ?_
            refine CWops.done ?_
            refine CW.ret ?_
            refine retQ.ret (by simp only [f16, go_sem, simprocAttr]; exact rfl) (by simp only [go_sem, simprocAttr]; exact rfl) ?_ -- ret4
            refine ⟨_, ?_, rfl⟩
            simp [leP, leL, gSet, ct16, f3, f2, hkl, Nat.not_le.2 hkl, show ¬ ((k : Int) < 0) by omega, eGraph, tyF, hT, leadsAt, hf, ct36]
          · simp only [Bool.not_eq_false'] at ct36
            refine CW.skip ?_
            refine CW.seq ?_
            refine CW.drawn mixed 8 (by decide) (by kernel_rfl) (by kernel_rfl) (by kernel_rfl) ?_
            refine Seg.run htt 8 (by simp only [go_sem, simprocAttr, OWN, f2, hil, hkl, eObjO, eVal, hw, List.getElem?_set_self, List.length_map, List.length_set, List.set_set]; exact rfl) ?_
            refine Seg.done ?_
            refine CWops.run htt 2 (by simp only [go_sem, simprocAttr, OWN, f2, hil, hkl, eObjO, eVal, hw, List.getElem?_set_self, List.length_map, List.length_set, List.set_set]; exact rfl) (by simp [go_sem, simprocAttr, OWN, f2, hil, hkl, eObjO, eVal, hw, List.getElem?_set_self, List.length_map, List.length_set, List.set_set]) ?_
            refine CWops.done ?_
            have e : (List.map eObjO g.O).set i [.int .i64 oi, .int .i64 (q : Int), .own 3 ((List.map eVal oF).set k [.int .i64 v.N, .str v.S, .int .i64 v.R])] = (g.O.set i ⟨oi, q, oF.set k v⟩).map eObjO := by rw [List.map_set]; simp [eObjO, List.map_set, eVal]
            simp only [e]
            refine CW.seq ?_
            try simp only [OWN]
            refine CW.sh (Sh.frzC 3 0 5 0 (by decide) rfl rfl rfl) ?_
            simp only [go_sem, simprocAttr]
            refine CW.sh (Sh.frzC 3 1 5 1 (by decide) rfl rfl rfl) ?_
            simp only [go_sem, simprocAttr]
            refine CW.sh (Sh.frzC 3 2 5 2 (by decide) rfl rfl rfl) ?_
            simp only [go_sem, simprocAttr]
            refine CW.rg ?_
            refine CWops.rn htt 3 ?_
            refine CWops.done ?_
            refine CW.ret ?_
            refine retQ.ret (by simp only [f16, go_sem, simprocAttr]; exact rfl) (by simp only [go_sem, simprocAttr]; exact rfl) ?_ -- ret5
            refine ⟨_, ?_, rfl⟩
            simp [leP, leL, gSet, ct16, f3, f2, hkl, Nat.not_le.2 hkl, show ¬ ((k : Int) < 0) by omega, eGraph, tyF, hT, leadsAt, hf, ct36, sSet]
theorem graph_Set (up : Bool) (g : Graph) (id k : Int) (v : GVal) (hz : GSz g) : PCall prog up 16 [.agg (eGraph g), .int .i64 id, .int .i64 k, .agg (eVal v)] (· = .tup [.agg (eGraph (gSet g id k v).1), .int .i64 (gSet g id k v).2]) := by
  rcases find_cases (fun o => decide (o.Id = id)) g.O with ⟨f1, f2, f3⟩ | ⟨i, x, f1, f2, _, f3, _⟩
  · exact graph_Set_none up g id k v hz f1 f3
  · exact graph_Set_some up g id k v hz i x f1 f2 f3
theorem law08_Two (up : Bool) : PCall prog up 23 [] (· = .agg (eGraph twG)) := by
  refine PCall.intro htt func23 (by kernel_rfl) rfl (Nat.le_of_ble_eq_true rfl) fun hl => ?_

  simp only [tmps0, Nat.reduceAdd]
  refine CW.seq ?_
  refine CW.rg ?_
  refine CWops.rn htt 1 ?_
  refine CWops.done ?_
  refine CW.seq ?_
  refine CW.rg ?_
  refine CWops.callA (law06_One up) (by simp only [go_sem, simprocAttr, oneS, eSchema, eType, eField]) (by simp only [go_sem, simprocAttr, oneS, eSchema, eType, eField]; first | done | exact rfl) (by simp only [go_sem, simprocAttr, oneS, eSchema, eType, eField]) (by simp only [go_sem, simprocAttr, oneS, eSchema, eType, eField]) (fun rt1 hrt1 => ?_)
  subst hrt1
  refine CWops.run htt 2 (by simp only [go_sem, simprocAttr, oneS, eSchema, eType, eField]; exact rfl) (by simp [go_sem, simprocAttr, oneS, eSchema, eType, eField]) ?_
  refine CWops.run htt 1 (by simp only [go_sem, simprocAttr, List.replicate]; exact rfl) (by simp [go_sem, simprocAttr]) ?_
  refine CWops.sh (Sh.frzT 4 1 (by simp only [go_sem, simprocAttr]) (by simp only [go_sem, simprocAttr]; first | done | exact rfl) rfl) ?_
  simp only [go_sem, simprocAttr, AV.freeze]
  refine CWops.run htt 3 (by simp only [go_sem, simprocAttr, oneS, eSchema, eType, eField]; exact rfl) (by simp [go_sem, simprocAttr, oneS, eSchema, eType, eField]) ?_
  refine CWops.run htt 1 (by simp only [go_sem, simprocAttr, List.replicate]; exact rfl) (by simp [go_sem, simprocAttr]) ?_
  refine CWops.sh (Sh.frzT 8 2 (by simp only [go_sem, simprocAttr]) (by simp only [go_sem, simprocAttr]; first | done | exact rfl) rfl) ?_
  simp only [go_sem, simprocAttr, AV.freeze]
  refine CWops.run htt 1 (by simp only [go_sem, simprocAttr, oneS, eSchema, eType, eField]; exact rfl) (by simp [go_sem, simprocAttr, oneS, eSchema, eType, eField]) ?_
  refine CWops.run htt 1 (by simp only [go_sem, simprocAttr, List.replicate]; exact rfl) (by simp [go_sem, simprocAttr]) ?_
  refine CWops.sh (Sh.frzT 10 3 (by simp only [go_sem, simprocAttr]) (by simp only [go_sem, simprocAttr]; first | done | exact rfl) rfl) ?_
  simp only [go_sem, simprocAttr, AV.freeze]
  refine CWops.run htt 1 (by simp only [go_sem, simprocAttr, List.replicate]; exact rfl) (by simp [go_sem, simprocAttr]) ?_
  refine CWops.sh (Sh.frzT 11 4 (by simp only [go_sem, simprocAttr]) (by simp only [go_sem, simprocAttr]; first | done | exact rfl) rfl) ?_
  simp only [go_sem, simprocAttr, AV.freeze]
  refine CWops.run htt 2 (by simp only [go_sem, simprocAttr, oneS, eSchema, eType, eField]; exact rfl) (by simp [go_sem, simprocAttr, oneS, eSchema, eType, eField]) ?_
  refine CWops.done ?_
  refine CW.ret ?_
  refine retQ.ret (by simp only [f23, go_sem, simprocAttr]; exact rfl) (by simp only [go_sem, simprocAttr]; exact rfl) ?_ -- ret1
  refine ⟨_, ?_, rfl⟩
  simp [leP, leL, eGraph, twG, eObj, eVal, oneS, eType, eField, eI]
end Go.Ab
namespace Go.Ab
open Go Go.Proofs.Try Go.RowKit
set_option maxRecDepth 100000
set_option maxHeartbeats 1600000
@[go_sem] theorem tt_126 : tiOf prog 126 = some ⟨.func, 1, 8, [.nilfunc], false⟩ := by kernel_rfl
theorem equal_Cell (up : Bool) (a b : List GCell) : PCall prog up 64 [.sl 4 (a.map eCell), .sl 4 (b.map eCell)] (· = .bool (decide (a = b))) := by
  refine PCall.intro htt func64 (by kernel_rfl) rfl (Nat.le_of_ble_eq_true rfl) fun hl => ?_
  have ha := (hl (.sl 4 (a.map eCell)) (by simp)).sl.1
  have hb := (hl (.sl 4 (b.map eCell)) (by simp)).sl.1
  simp only [List.length_map] at ha hb
  simp only [tmps0, Nat.reduceAdd]
  refine CW.seq ?_
  refine CW.rg ?_
  refine CWops.rn htt 1 ?_
  refine CWops.done ?_
  refine CW.seq ?_
  refine CW.seq ?_
  refine CW.rg ?_
  refine CWops.rn htt 5 ?_
  refine CWops.done ?_
  refine CW.cond (by simp only [go_sem, simprocAttr]; first | done | exact rfl) (fun ct10 => ?_) (fun ct10 => ?_)
  · have hne : a.length ≠ b.length := by simp at ct10; omega
    refine CW.seq ?_
    refine CW.rg ?_
    refine CWops.rn htt 1 ?_
    refine CWops.done ?_
    refine CW.ret ?_
    refine retQ.ret (by simp only [f64, go_sem, simprocAttr]; exact rfl) (by simp only [go_sem, simprocAttr]; exact rfl) ?_ -- ret1
    refine ⟨_, ?_, rfl⟩
    simp only [leP, AV.bool.injEq]; symm; apply decide_eq_false; intro h; exact hne (by rw [h])
  · have heq : a.length = b.length := by simp at ct10; omega
    refine CW.skip ?_
    refine CW.seq ?_
    refine CW.seq ?_
    refine CW.rg ?_
    refine CWops.rn htt 3 ?_
    refine CWops.done ?_
    refine CW.block ?_
    refine CW.loop (S := Nat) (fun i => ⟨0, [(0, .sl 4 (a.map eCell)), (1, .sl 4 (b.map eCell)), (12, .int .i64 a.length), (13, .int .i64 i)], []⟩) (fun i => i ≤ a.length ∧ a.take i = b.take i) (fun i => a.length - i) (0) ?_ ⟨Nat.zero_le _, rfl⟩ (fun i ⟨h1, h2⟩ => ?_)
    · refine Sh.wk0 ?_; simp [Wk, go_sem, simprocAttr]
    refine CW.seq ?_
    refine CW.rg ?_
    refine CWops.rn htt 1 ?_
    refine CWops.done ?_
    refine CW.seq ?_
    refine CW.cond (by simp only [go_sem, simprocAttr]; first | done | exact rfl) (fun ct14 => ?_) (fun ct14 => ?_)
    · have hi : i < a.length := by simpa using ct14
      obtain ⟨x, e1⟩ : ∃ x, a[i]? = some x := ⟨a[i], List.getElem?_eq_getElem hi⟩
      obtain ⟨y, e2⟩ : ∃ y, b[i]? = some y := ⟨b[i], List.getElem?_eq_getElem (by omega)⟩
      refine CW.skip ?_
      refine CW.seq ?_
      refine CW.block ?_
      refine CW.seq ?_
      refine CW.rg ?_
      refine CWops.rn htt 2 ?_
      refine CWops.done ?_
      refine CW.seq ?_
      refine CW.drawn mixed 8 (by decide) (by kernel_rfl) (by kernel_rfl) (by kernel_rfl) ?_
      refine Seg.run htt 8 (by simp only [go_sem, simprocAttr, e1, e2, eCell, eVal]; exact rfl) ?_
      refine Seg.done ?_
      refine CWops.run htt 1 (by simp only [go_sem, simprocAttr, e1, e2, eCell, eVal]; exact rfl) (by simp [go_sem, simprocAttr, e1, e2, eCell, eVal]) ?_
      refine CWops.done ?_
      refine CW.cond (by simp only [go_sem, simprocAttr]; first | done | exact rfl) (fun ct24 => ?_) (fun ct24 => ?_)
      · have hp : x ≠ y := by
          intro e; subst e; simp at ct24
        refine CW.seq ?_
        refine CW.rg ?_
        refine CWops.rn htt 1 ?_
        refine CWops.done ?_
        refine CW.ret ?_
        refine retQ.ret (by simp only [f64, go_sem, simprocAttr]; exact rfl) (by simp only [go_sem, simprocAttr]; exact rfl) ?_ -- ret2
        refine ⟨_, ?_, rfl⟩
        simp only [leP, AV.bool.injEq]; symm; apply decide_eq_false; intro h; subst h; rw [e1] at e2; cases e2; exact hp rfl
      · have hp : x = y := by
          obtain ⟨xF, xN, xS, xR⟩ := x
          obtain ⟨yF, yN, yS, yR⟩ := y
          simpa [and_assoc] using ct24
        subst hp
        refine CW.skip ?_
        refine CW.rg ?_
        refine CWops.run htt 2 (by simp only [go_sem, simprocAttr, wrap_succ (Nat.lt_of_lt_of_le hi ha)]; exact rfl) (by simp [go_sem, simprocAttr, wrap_succ (Nat.lt_of_lt_of_le hi ha)]) ?_
        refine CWops.done ?_
        refine ⟨i + 1, ?_, ?_, ?_⟩
        · refine Sh.wk0 ?_; simp [Wk, go_sem, simprocAttr]
        · exact ⟨hi, take_same h2 e1 e2⟩
        · simp only; omega
    · have hi : i = a.length := by simp at ct14; omega
      refine CW.exit ?_
      refine CW.seq ?_
      refine CW.rg ?_
      refine CWops.rn htt 1 ?_
      refine CWops.done ?_
      refine CW.ret ?_
      refine retQ.ret (by simp only [f64, go_sem, simprocAttr]; exact rfl) (by simp only [go_sem, simprocAttr]; exact rfl) ?_ -- ret3
      refine ⟨_, ?_, rfl⟩
      simp only [leP, AV.bool.injEq]; symm; apply decide_eq_true; exact all_same h2 hi heq
theorem equalFunc_Item (up : Bool) (a b : List GItem) (p : GItem → GItem → Bool) (fn : FuncId) (caps : List AV) (hc : pureL caps = true) (hp : ∀ x ∈ a, ∀ y ∈ b, PCall prog up fn (.agg (eItem x) :: .agg (eItem y) :: caps) (· = .bool (p x y))) : PCall prog up 65 [.sl 3 (a.map eItem), .sl 3 (b.map eItem), .func (.func fn) [] caps] (· = .bool (allp p a b)) := by
  refine PCall.intro htt func65 (by kernel_rfl) rfl (Nat.le_of_ble_eq_true rfl) fun hl => ?_
  have ha := (hl (.sl 3 (a.map eItem)) (by simp)).sl.1
  have hb := (hl (.sl 3 (b.map eItem)) (by simp)).sl.1
  simp only [List.length_map] at ha hb
  simp only [tmps0, Nat.reduceAdd]
  refine CW.seq ?_
  refine CW.rg ?_
  refine CWops.rn htt 1 ?_
  refine CWops.done ?_
  refine CW.seq ?_
  refine CW.seq ?_
  refine CW.rg ?_
  refine CWops.rn htt 5 ?_
  refine CWops.done ?_
  refine CW.cond (by simp only [go_sem, simprocAttr]; first | done | exact rfl) (fun ct14 => ?_) (fun ct14 => ?_)
  · have hne : a.length ≠ b.length := by simp at ct14; omega
    refine CW.seq ?_
    refine CW.rg ?_
    refine CWops.rn htt 1 ?_
    refine CWops.done ?_
    refine CW.ret ?_
    refine retQ.ret (by simp only [f65, go_sem, simprocAttr]; exact rfl) (by simp only [go_sem, simprocAttr]; exact rfl) ?_ -- ret1
    refine ⟨_, ?_, rfl⟩
    simp only [leP, AV.bool.injEq]; exact (allp_len hne).symm
  · have heq : a.length = b.length := by simp at ct14; omega
    refine CW.skip ?_
    refine CW.seq ?_
    refine CW.seq ?_
    refine CW.rg ?_
    refine CWops.rn htt 3 ?_
    refine CWops.done ?_
    refine CW.block ?_
    refine CW.loop (S := Nat) (fun i => ⟨0, [(0, .sl 3 (a.map eItem)), (1, .sl 3 (b.map eItem)), (2, .func (.func fn) [] caps), (15, .sl 3 (a.map eItem)), (16, .int .i64 a.length), (17, .int .i64 i)], []⟩) (fun i => i ≤ a.length ∧ allp p (a.take i) (b.take i) = true) (fun i => a.length - i) (0) ?_ ⟨Nat.zero_le _, rfl⟩ (fun i ⟨h1, h2⟩ => ?_)
    · refine Sh.wk0 ?_; simp [Wk, go_sem, simprocAttr]; exact ⟨[], caps, ⟨rfl, rfl⟩, by simp [SubL], SubL_pure _ _ hc⟩
    refine CW.seq ?_
    refine CW.rg ?_
    refine CWops.rn htt 1 ?_
    refine CWops.done ?_
    refine CW.seq ?_
    refine CW.cond (by simp only [go_sem, simprocAttr]; first | done | exact rfl) (fun ct18 => ?_) (fun ct18 => ?_)
    · have hi : i < a.length := by simpa using ct18
      obtain ⟨x, e1⟩ : ∃ x, a[i]? = some x := ⟨a[i], List.getElem?_eq_getElem hi⟩
      obtain ⟨y, e2⟩ : ∃ y, b[i]? = some y := ⟨b[i], List.getElem?_eq_getElem (by omega)⟩
      refine CW.skip ?_
      refine CW.seq ?_
      refine CW.block ?_
      refine CW.seq ?_
      refine CW.rg ?_
      refine CWops.run htt 6 (by simp only [go_sem, simprocAttr, e1, eItem]; exact rfl) (by simp [go_sem, simprocAttr, e1, eItem]) ?_
      refine CWops.done ?_
      refine CW.seq ?_
      refine CW.rg ?_
      refine CWops.run htt 6 (by simp only [go_sem, simprocAttr, e2, eItem]; exact rfl) (by simp [go_sem, simprocAttr, e2, eItem]) ?_
      refine CWops.done ?_
      refine CW.seq ?_
      refine CW.rg ?_
      refine CWops.run htt 3 (by simp only [go_sem, simprocAttr, hc, eItem]; exact rfl) (by simp [go_sem, simprocAttr, hc, eItem]) ?_
      refine CWops.callA (hp x (List.mem_of_getElem? e1) y (List.mem_of_getElem? e2)) (by simp only [go_sem, simprocAttr, hc, eItem]) (by simp only [go_sem, simprocAttr, hc, eItem]; first | done | exact rfl) (by simp only [go_sem, simprocAttr, hc, eItem]) (by simp only [go_sem, simprocAttr, hc, eItem]) (fun rt29 hrt29 => ?_)
      subst hrt29
      refine CWops.run htt 1 (by simp only [go_sem, simprocAttr, hc, eItem]; exact rfl) (by simp [go_sem, simprocAttr, hc, eItem]) ?_
      refine CWops.done ?_
      refine CW.cond (by simp only [go_sem, simprocAttr]; first | done | exact rfl) (fun ct30 => ?_) (fun ct30 => ?_)
      · have hp : p x y = false := by simpa using ct30
        refine CW.seq ?_
        refine CW.rg ?_
        refine CWops.rn htt 1 ?_
        refine CWops.done ?_
        refine CW.ret ?_
        refine retQ.ret (by simp only [f65, go_sem, simprocAttr]; exact rfl) (by simp only [go_sem, simprocAttr]; exact rfl) ?_ -- ret2
        refine ⟨_, ?_, rfl⟩
        simp only [leP, AV.bool.injEq]; exact (allp_no e1 e2 hp).symm
      · have hp : p x y = true := by simpa using ct30
        refine CW.skip ?_
        refine CW.rg ?_
        refine CWops.run htt 2 (by simp only [go_sem, simprocAttr, wrap_succ (Nat.lt_of_lt_of_le hi ha)]; exact rfl) (by simp [go_sem, simprocAttr, wrap_succ (Nat.lt_of_lt_of_le hi ha)]) ?_
        refine CWops.done ?_
        refine ⟨i + 1, ?_, ?_, ?_⟩
        · refine Sh.wk0 ?_; simp [Wk, go_sem, simprocAttr]; exact ⟨[], caps, ⟨rfl, rfl⟩, by simp [SubL], SubL_pure _ _ hc⟩
        · exact ⟨hi, allp_take h2 e1 e2 hp⟩
        · simp only; omega
    · have hi : i = a.length := by simp at ct18; omega
      refine CW.exit ?_
      refine CW.seq ?_
      refine CW.rg ?_
      refine CWops.rn htt 1 ?_
      refine CWops.done ?_
      refine CW.ret ?_
      refine retQ.ret (by simp only [f65, go_sem, simprocAttr]; exact rfl) (by simp only [go_sem, simprocAttr]; exact rfl) ?_ -- ret3
      refine ⟨_, ?_, rfl⟩
      simp only [leP, AV.bool.injEq]; rw [hi, List.take_length, heq, List.take_length] at h2; exact h2.symm
theorem delta_Same_1 (up : Bool) (x y : GItem) : PCall prog up 63 [.agg (eItem x), .agg (eItem y)] (· = .bool (decide (x = y))) := by
  refine PCall.intro htt func63 (by kernel_rfl) rfl (Nat.le_of_ble_eq_true rfl) fun hl => ?_

  simp only [tmps0, Nat.reduceAdd]
  refine CW.seq ?_
  refine CW.rg ?_
  refine CWops.run htt 3 (by simp only [go_sem, simprocAttr, eItem]; exact rfl) (by simp [go_sem, simprocAttr, eItem]) ?_
  refine CWops.done ?_
  refine CW.seq ?_
  refine CW.rg ?_
  refine CWops.run htt 6 (by simp only [go_sem, simprocAttr, eItem]; exact rfl) (by simp [go_sem, simprocAttr, eItem]) ?_
  all_goals (first | refine CWops.guard 10 (by simp only [go_sem, simprocAttr, eItem]; exact rfl) (fun g10 => ?_) (fun g10 => ?_) | skip)
  all_goals (refine CWops.run htt 7 (by simp only [go_sem, simprocAttr, eItem]; exact rfl) (by simp [go_sem, simprocAttr, eItem]) ?_)
  all_goals (first | refine CWops.guard 17 (by simp only [go_sem, simprocAttr, eItem]; exact rfl) (fun g17 => ?_) (fun g17 => ?_) | skip)
  all_goals (refine CWops.run htt 4 (by simp only [go_sem, simprocAttr, eItem]; exact rfl) (by simp [go_sem, simprocAttr, eItem]) ?_)
  all_goals (first | (refine CWops.skip ?_ ?_; next => (simp only [go_sem, simprocAttr]; done)) | (refine CWops.call (equal_Cell up x.Set y.Set) (by simp only [go_sem, simprocAttr, eItem]) (by simp only [go_sem, simprocAttr, eItem]; first | done | exact rfl) (by simp only [go_sem, simprocAttr, eItem]) (fun rt22 hrt22 => ?_); subst hrt22; refine ⟨rfl, ?_⟩))
  all_goals (refine CWops.run htt 2 (by simp only [go_sem, simprocAttr, eItem]; exact rfl) (by simp [go_sem, simprocAttr, eItem]) ?_)
  all_goals (refine CWops.done ?_)
  all_goals (
    refine CW.ret ?_
    refine retQ.ret (by simp only [f63, go_sem, simprocAttr]; exact rfl) (by simp only [go_sem, simprocAttr]; exact rfl) ?_ -- ret1
    refine ⟨_, ?_, rfl⟩
    simp_all [leP, GItem.ext_iff'])
theorem delta_Same (up : Bool) (a b : GDelta) : PCall prog up 24 [.agg (eDelta a), .agg (eDelta b)] (· = .bool (decide (a = b))) := by
  refine PCall.intro htt func24 (by kernel_rfl) rfl (Nat.le_of_ble_eq_true rfl) fun hl => ?_

  simp only [tmps0, Nat.reduceAdd]
  refine CW.seq ?_
  refine CW.rg ?_
  refine CWops.run htt 3 (by simp only [go_sem, simprocAttr, eDelta]; exact rfl) (by simp [go_sem, simprocAttr, eDelta]) ?_
  refine CWops.done ?_
  refine CW.seq ?_
  refine CW.rg ?_
  refine CWops.rn htt 1 ?_
  refine CWops.done ?_
  refine CW.seq ?_
  refine CW.rg ?_
  refine CWops.run htt 6 (by simp only [go_sem, simprocAttr, eDelta]; exact rfl) (by simp [go_sem, simprocAttr, eDelta]) ?_
  all_goals (first | refine CWops.guard 11 (by simp only [go_sem, simprocAttr, eDelta]; exact rfl) (fun g11 => ?_) (fun g11 => ?_) | skip)
  all_goals (refine CWops.run htt 4 (by simp only [go_sem, simprocAttr, eDelta]; exact rfl) (by simp [go_sem, simprocAttr, eDelta]) ?_)
  all_goals (first | (refine CWops.skip ?_ ?_; next => (simp only [go_sem, simprocAttr]; done)) | (refine CWops.call (equal_int up a.Roots b.Roots) (by simp only [go_sem, simprocAttr, eDelta]) (by simp only [go_sem, simprocAttr, eDelta]; first | done | exact rfl) (by simp only [go_sem, simprocAttr, eDelta]) (fun rt16 hrt16 => ?_); subst hrt16; refine ⟨rfl, ?_⟩))
  all_goals (refine CWops.run htt 2 (by simp only [go_sem, simprocAttr, eDelta]; exact rfl) (by simp [go_sem, simprocAttr, eDelta]) ?_)
  all_goals (first | refine CWops.guard 18 (by simp only [go_sem, simprocAttr, eDelta]; exact rfl) (fun g18 => ?_) (fun g18 => ?_) | skip)
  all_goals (refine CWops.run htt 5 (by simp only [go_sem, simprocAttr, eDelta]; exact rfl) (by simp [go_sem, simprocAttr, eDelta]) ?_)
  all_goals (first | (refine CWops.skip ?_ ?_; next => (simp only [go_sem, simprocAttr]; done)) | (refine CWops.call (equalFunc_Item up a.L b.L (fun x y => decide (x = y)) 63 [] rfl (fun x _ y _ => delta_Same_1 up x y)) (by simp only [go_sem, simprocAttr, eDelta]) (by simp only [go_sem, simprocAttr, eDelta]; first | done | exact rfl) (by simp only [go_sem, simprocAttr, eDelta]) (fun rt24 hrt24 => ?_); subst hrt24; refine ⟨rfl, ?_⟩))
  all_goals (refine CWops.run htt 2 (by simp only [go_sem, simprocAttr, eDelta]; exact rfl) (by simp [go_sem, simprocAttr, eDelta]) ?_)
  all_goals (refine CWops.done ?_)
  all_goals (
    refine CW.ret ?_
    refine retQ.ret (by simp only [f24, go_sem, simprocAttr]; exact rfl) (by simp only [go_sem, simprocAttr]; exact rfl) ?_ -- ret1
    refine ⟨_, ?_, rfl⟩
    simp_all [leP, allp_eq, GDelta.ext_iff'] <;> omega)
def twH : Graph := ⟨oneS, [⟨0, 0, [⟨9, ⟨#[]⟩, 0⟩, ⟨0, ⟨#[]⟩, -1⟩]⟩, ⟨5, 0, [⟨8, ⟨#[]⟩, 0⟩, ⟨0, ⟨#[]⟩, 0⟩]⟩], [0]⟩
theorem twH_set : gSet twG 0 0 ⟨9, ⟨#[]⟩, 0⟩ = (twH, 0) := by decide
theorem one_of {α β : Type} {l : List α} {f : α → β} {b : β} (h : l.map f = [b]) : ∃ x, l = [x] ∧ f x = b := by
  match l, h with
  | [x], h => exact ⟨x, rfl, by simpa using h⟩
theorem twDl : ∃ B R F T, gMake twG twG = (⟨B, R, [⟨F, T, []⟩]⟩, 0) := by
  have h1 : (gMake twG twG).2 = 0 := by decide
  have h2 : (gMake twG twG).1.L.map (fun x => x.Set.length) = [0] := by decide
  obtain ⟨⟨F, T, S⟩, h3, h4⟩ := one_of h2
  have h5 : S = [] := List.eq_nil_of_length_eq_zero h4
  subst h5
  generalize gMake twG twG = p at h1 h3
  obtain ⟨⟨B, R, L⟩, e⟩ := p
  simp only at h1 h3
  exact ⟨B, R, F, T, by rw [h1, h3]⟩
theorem twC : ∃ B R F T c, gMake twG twH = (⟨B, R, [⟨F, T, [c]⟩]⟩, 0) ∧ R.length ≤ 1000 := by
  have h1 : (gMake twG twH).2 = 0 := by decide
  have h2 : (gMake twG twH).1.L.map (fun x => x.Set.length) = [1] := by decide
  have h6 : (gMake twG twH).1.Roots.length ≤ 1000 := by decide
  obtain ⟨⟨F, T, S⟩, h3, h4⟩ := one_of h2
  obtain ⟨c, hc⟩ : ∃ c, S = [c] := by
    match S, h4 with
    | [c], _ => exact ⟨c, rfl⟩
  subst hc
  generalize gMake twG twH = p at h1 h3 h6
  obtain ⟨⟨B, R, L⟩, e⟩ := p
  simp only at h1 h3 h6
  exact ⟨B, R, F, T, c, by rw [h1, h3], h6⟩
theorem twK : ∃ S i T s r v R, gApply twG (gMake twG twH).1 = (⟨S, [⟨i, T, [⟨9, s, r⟩, v]⟩], R⟩, 0) := by
  have h1 : (gApply twG (gMake twG twH).1).2 = 0 := by decide
  have h2 : (gApply twG (gMake twG twH).1).1.O.map (fun o => o.F.map (fun v => v.N)) = [[9, 0]] := by decide
  obtain ⟨⟨i, T, F⟩, h3, h4⟩ := one_of h2
  obtain ⟨n, s, r, v, rfl⟩ : ∃ n s r v, F = [⟨n, s, r⟩, v] := by
    match F, h4 with
    | [⟨n, s, r⟩, v], _ => exact ⟨n, s, r, v, rfl⟩
  have h5 : n = 9 := by simp at h4; exact h4.1
  subst h5
  generalize gApply twG (gMake twG twH).1 = p at h1 h3
  obtain ⟨⟨S, O, R⟩, e⟩ := p
  simp only at h1 h3
  exact ⟨S, i, T, s, r, v, R, by rw [h1, h3]⟩
theorem law11_awake (up : Bool) : PCall prog up 8 [] (· = .bool true) := by
  refine PCall.intro htt func8 (by kernel_rfl) rfl (Nat.le_of_ble_eq_true rfl) fun hl => ?_
  obtain ⟨B1, R1, F1, T1, hD⟩ := twDl
  obtain ⟨B2, R2, F2, T2, c2, hC, hR2⟩ := twC
  obtain ⟨S3, i3, T3, s3, r3, v3, R3, hK⟩ := twK
  rw [hC] at hK
  simp only at hK
  simp only [tmps0, Nat.reduceAdd]
  refine CW.seq ?_
  refine CW.rg ?_
  refine CWops.rn htt 1 ?_
  refine CWops.done ?_
  refine CW.seq ?_
  refine CW.rg ?_
  refine CWops.callA (law08_Two up) (by simp only [go_sem, simprocAttr, eGraph]) (by simp only [go_sem, simprocAttr, eGraph]; first | done | exact rfl) (by simp only [go_sem, simprocAttr, eGraph]) (by simp only [go_sem, simprocAttr, eGraph]) (fun rt10 hrt10 => ?_)
  subst hrt10
  refine CWops.run htt 2 (by simp only [go_sem, simprocAttr, eGraph]; exact rfl) (by simp [go_sem, simprocAttr, eGraph]) ?_
  refine CWops.done ?_
  refine CW.seq ?_
  refine CW.rg ?_
  refine CWops.run htt 2 (by simp only [go_sem, simprocAttr, eGraph, eDelta]; exact rfl) (by simp [go_sem, simprocAttr, eGraph, eDelta]) ?_
  refine CWops.callA ((by have q := delta_Make up twG twG; rw [hD] at q; exact q)) (by simp only [go_sem, simprocAttr, eGraph, eDelta]) (by simp only [go_sem, simprocAttr, eGraph, eDelta]; first | done | exact rfl) (by simp only [go_sem, simprocAttr, eGraph, eDelta]) (by simp only [go_sem, simprocAttr, eGraph, eDelta]) (fun rt14 hrt14 => ?_)
  subst hrt14
  refine CWops.run htt 6 (by simp only [go_sem, simprocAttr, eGraph, eDelta]; exact rfl) (by simp [go_sem, simprocAttr, eGraph, eDelta]) ?_
  refine CWops.done ?_
  refine CW.seq ?_
  refine CW.rg ?_
  refine CWops.run htt 2 (by simp only [go_sem, simprocAttr, eGraph, eVal]; exact rfl) (by simp [go_sem, simprocAttr, eGraph, eVal]) ?_
  refine CWops.callA ((by have q := graph_Set up twG 0 0 ⟨9, ⟨#[]⟩, 0⟩ twG_sz; rw [twH_set] at q; exact q)) (by simp only [go_sem, simprocAttr, eGraph, eVal]) (by simp only [go_sem, simprocAttr, eGraph, eVal]; first | done | exact rfl) (by simp only [go_sem, simprocAttr, eGraph, eVal]) (by simp only [go_sem, simprocAttr, eGraph, eVal]) (fun rt20 hrt20 => ?_)
  subst hrt20
  refine CWops.run htt 6 (by simp only [go_sem, simprocAttr, eGraph, eVal]; exact rfl) (by simp [go_sem, simprocAttr, eGraph, eVal]) ?_
  refine CWops.done ?_
  refine CW.seq ?_
  refine CW.rg ?_
  refine CWops.run htt 2 (by simp only [go_sem, simprocAttr, eGraph, eDelta]; exact rfl) (by simp [go_sem, simprocAttr, eGraph, eDelta]) ?_
  refine CWops.callA ((by have q := delta_Make up twG twH; rw [hC] at q; exact q)) (by simp only [go_sem, simprocAttr, eGraph, eDelta]) (by simp only [go_sem, simprocAttr, eGraph, eDelta]; first | done | exact rfl) (by simp only [go_sem, simprocAttr, eGraph, eDelta]) (by simp only [go_sem, simprocAttr, eGraph, eDelta]) (fun rt26 hrt26 => ?_)
  subst hrt26
  refine CWops.run htt 6 (by simp only [go_sem, simprocAttr, eGraph, eDelta]; exact rfl) (by simp [go_sem, simprocAttr, eGraph, eDelta]) ?_
  refine CWops.done ?_
  refine CW.seq ?_
  refine CW.rg ?_
  refine CWops.run htt 2 (by simp only [go_sem, simprocAttr, eGraph, eDelta]; exact rfl) (by simp [go_sem, simprocAttr, eGraph, eDelta]) ?_
  refine CWops.callA ((by have q := delta_Apply up twG ⟨B2, R2, [⟨F2, T2, [c2]⟩]⟩ (by simp) hR2; rw [hK] at q; exact q)) (by simp only [go_sem, simprocAttr, eGraph, eDelta]) (by simp only [go_sem, simprocAttr, eGraph, eDelta]; first | done | exact rfl) (by simp only [go_sem, simprocAttr, eGraph, eDelta]) (by simp only [go_sem, simprocAttr, eGraph, eDelta]) (fun rt32 hrt32 => ?_)
  subst hrt32
  refine CWops.run htt 6 (by simp only [go_sem, simprocAttr, eGraph, eDelta]; exact rfl) (by simp [go_sem, simprocAttr, eGraph, eDelta]) ?_
  refine CWops.done ?_
  refine CW.seq ?_
  refine CW.rg ?_
  refine CWops.run htt 3 (by simp only [go_sem, simprocAttr, eDelta, eItem, eGraph, eObj, eVal, eCell, List.map_cons, List.map_nil, List.length_cons, List.length_nil, List.getElem?_cons_zero]; exact rfl) (by simp [go_sem, simprocAttr, eDelta, eItem, eGraph, eObj, eVal, eCell, List.map_cons, List.map_nil, List.length_cons, List.length_nil, List.getElem?_cons_zero]) ?_
  all_goals (first | refine CWops.guard 37 (by simp only [go_sem, simprocAttr, eDelta, eItem, eGraph, eObj, eVal, eCell, List.map_cons, List.map_nil, List.length_cons, List.length_nil, List.getElem?_cons_zero]; exact rfl) (fun g37 => ?_) (fun g37 => ?_) | skip)
  all_goals (first | (simp at g37; done) | (cases g37; done) | skip)
  all_goals (refine CWops.run htt 6 (by simp only [go_sem, simprocAttr, eDelta, eItem, eGraph, eObj, eVal, eCell, List.map_cons, List.map_nil, List.length_cons, List.length_nil, List.getElem?_cons_zero]; exact rfl) (by simp [go_sem, simprocAttr, eDelta, eItem, eGraph, eObj, eVal, eCell, List.map_cons, List.map_nil, List.length_cons, List.length_nil, List.getElem?_cons_zero]) ?_)
  all_goals (first | refine CWops.guard 43 (by simp only [go_sem, simprocAttr, eDelta, eItem, eGraph, eObj, eVal, eCell, List.map_cons, List.map_nil, List.length_cons, List.length_nil, List.getElem?_cons_zero]; exact rfl) (fun g43 => ?_) (fun g43 => ?_) | skip)
  all_goals (first | (simp at g43; done) | (cases g43; done) | skip)
  all_goals (refine CWops.run htt 9 (by simp only [go_sem, simprocAttr, eDelta, eItem, eGraph, eObj, eVal, eCell, List.map_cons, List.map_nil, List.length_cons, List.length_nil, List.getElem?_cons_zero]; exact rfl) (by simp [go_sem, simprocAttr, eDelta, eItem, eGraph, eObj, eVal, eCell, List.map_cons, List.map_nil, List.length_cons, List.length_nil, List.getElem?_cons_zero]) ?_)
  all_goals (first | refine CWops.guard 52 (by simp only [go_sem, simprocAttr, eDelta, eItem, eGraph, eObj, eVal, eCell, List.map_cons, List.map_nil, List.length_cons, List.length_nil, List.getElem?_cons_zero]; exact rfl) (fun g52 => ?_) (fun g52 => ?_) | skip)
  all_goals (first | (simp at g52; done) | (cases g52; done) | skip)
  all_goals (refine CWops.run htt 4 (by simp only [go_sem, simprocAttr, eDelta, eItem, eGraph, eObj, eVal, eCell, List.map_cons, List.map_nil, List.length_cons, List.length_nil, List.getElem?_cons_zero]; exact rfl) (by simp [go_sem, simprocAttr, eDelta, eItem, eGraph, eObj, eVal, eCell, List.map_cons, List.map_nil, List.length_cons, List.length_nil, List.getElem?_cons_zero]) ?_)
  all_goals (first | refine CWops.guard 56 (by simp only [go_sem, simprocAttr, eDelta, eItem, eGraph, eObj, eVal, eCell, List.map_cons, List.map_nil, List.length_cons, List.length_nil, List.getElem?_cons_zero]; exact rfl) (fun g56 => ?_) (fun g56 => ?_) | skip)
  all_goals (first | (simp at g56; done) | (cases g56; done) | skip)
  all_goals (refine CWops.run htt 4 (by simp only [go_sem, simprocAttr, eDelta, eItem, eGraph, eObj, eVal, eCell, List.map_cons, List.map_nil, List.length_cons, List.length_nil, List.getElem?_cons_zero]; exact rfl) (by simp [go_sem, simprocAttr, eDelta, eItem, eGraph, eObj, eVal, eCell, List.map_cons, List.map_nil, List.length_cons, List.length_nil, List.getElem?_cons_zero]) ?_)
  all_goals (first | refine CWops.guard 60 (by simp only [go_sem, simprocAttr, eDelta, eItem, eGraph, eObj, eVal, eCell, List.map_cons, List.map_nil, List.length_cons, List.length_nil, List.getElem?_cons_zero]; exact rfl) (fun g60 => ?_) (fun g60 => ?_) | skip)
  all_goals (first | (simp at g60; done) | (cases g60; done) | skip)
  all_goals (refine CWops.run htt 9 (by simp only [go_sem, simprocAttr, eDelta, eItem, eGraph, eObj, eVal, eCell, List.map_cons, List.map_nil, List.length_cons, List.length_nil, List.getElem?_cons_zero]; exact rfl) (by simp [go_sem, simprocAttr, eDelta, eItem, eGraph, eObj, eVal, eCell, List.map_cons, List.map_nil, List.length_cons, List.length_nil, List.getElem?_cons_zero]) ?_)
  all_goals (first | refine CWops.guard 69 (by simp only [go_sem, simprocAttr, eDelta, eItem, eGraph, eObj, eVal, eCell, List.map_cons, List.map_nil, List.length_cons, List.length_nil, List.getElem?_cons_zero]; exact rfl) (fun g69 => ?_) (fun g69 => ?_) | skip)
  all_goals (first | (simp at g69; done) | (cases g69; done) | skip)
  all_goals (refine CWops.run htt 4 (by simp only [go_sem, simprocAttr, eDelta, eItem, eGraph, eObj, eVal, eCell, List.map_cons, List.map_nil, List.length_cons, List.length_nil, List.getElem?_cons_zero]; exact rfl) (by simp [go_sem, simprocAttr, eDelta, eItem, eGraph, eObj, eVal, eCell, List.map_cons, List.map_nil, List.length_cons, List.length_nil, List.getElem?_cons_zero]) ?_)
  all_goals (first | refine CWops.guard 73 (by simp only [go_sem, simprocAttr, eDelta, eItem, eGraph, eObj, eVal, eCell, List.map_cons, List.map_nil, List.length_cons, List.length_nil, List.getElem?_cons_zero]; exact rfl) (fun g73 => ?_) (fun g73 => ?_) | skip)
  all_goals (first | (simp at g73; done) | (cases g73; done) | skip)
  all_goals (refine CWops.run htt 6 (by simp only [go_sem, simprocAttr, eDelta, eItem, eGraph, eObj, eVal, eCell, List.map_cons, List.map_nil, List.length_cons, List.length_nil, List.getElem?_cons_zero]; exact rfl) (by simp [go_sem, simprocAttr, eDelta, eItem, eGraph, eObj, eVal, eCell, List.map_cons, List.map_nil, List.length_cons, List.length_nil, List.getElem?_cons_zero]) ?_)
  all_goals (first | refine CWops.guard 79 (by simp only [go_sem, simprocAttr, eDelta, eItem, eGraph, eObj, eVal, eCell, List.map_cons, List.map_nil, List.length_cons, List.length_nil, List.getElem?_cons_zero]; exact rfl) (fun g79 => ?_) (fun g79 => ?_) | skip)
  all_goals (first | (simp at g79; done) | (cases g79; done) | skip)
  all_goals (refine CWops.run htt 11 (by simp only [go_sem, simprocAttr, eDelta, eItem, eGraph, eObj, eVal, eCell, List.map_cons, List.map_nil, List.length_cons, List.length_nil, List.getElem?_cons_zero]; exact rfl) (by simp [go_sem, simprocAttr, eDelta, eItem, eGraph, eObj, eVal, eCell, List.map_cons, List.map_nil, List.length_cons, List.length_nil, List.getElem?_cons_zero]) ?_)
  all_goals (first | refine CWops.guard 90 (by simp only [go_sem, simprocAttr, eDelta, eItem, eGraph, eObj, eVal, eCell, List.map_cons, List.map_nil, List.length_cons, List.length_nil, List.getElem?_cons_zero]; exact rfl) (fun g90 => ?_) (fun g90 => ?_) | skip)
  all_goals (first | (simp at g90; done) | (cases g90; done) | skip)
  all_goals (refine CWops.run htt 2 (by simp only [go_sem, simprocAttr, eDelta, eItem, eGraph, eObj, eVal, eCell, List.map_cons, List.map_nil, List.length_cons, List.length_nil, List.getElem?_cons_zero]; exact rfl) (by simp [go_sem, simprocAttr, eDelta, eItem, eGraph, eObj, eVal, eCell, List.map_cons, List.map_nil, List.length_cons, List.length_nil, List.getElem?_cons_zero]) ?_)
  all_goals (first | (refine CWops.skip ?_ ?_; next => (simp only [go_sem, simprocAttr]; done)) | (refine CWops.call (delta_Same up ⟨B2, R2, [⟨F2, T2, [c2]⟩]⟩ ⟨B2, R2, [⟨F2, T2, [c2]⟩]⟩) (by simp only [go_sem, simprocAttr, eDelta, eItem, eGraph, eObj, eVal, eCell, List.map_cons, List.map_nil, List.length_cons, List.length_nil, List.getElem?_cons_zero]) (by simp only [go_sem, simprocAttr, eDelta, eItem, eGraph, eObj, eVal, eCell, List.map_cons, List.map_nil, List.length_cons, List.length_nil, List.getElem?_cons_zero]; first | done | exact rfl) (by simp only [go_sem, simprocAttr, eDelta, eItem, eGraph, eObj, eVal, eCell, List.map_cons, List.map_nil, List.length_cons, List.length_nil, List.getElem?_cons_zero]) (fun rt93 hrt93 => ?_); subst hrt93; refine ⟨rfl, ?_⟩))
  all_goals (refine CWops.run htt 2 (by simp only [go_sem, simprocAttr, eDelta, eItem, eGraph, eObj, eVal, eCell, List.map_cons, List.map_nil, List.length_cons, List.length_nil, List.getElem?_cons_zero]; exact rfl) (by simp [go_sem, simprocAttr, eDelta, eItem, eGraph, eObj, eVal, eCell, List.map_cons, List.map_nil, List.length_cons, List.length_nil, List.getElem?_cons_zero]) ?_)
  all_goals (refine CWops.done ?_)
  all_goals (
    refine CW.ret ?_
    refine retQ.ret (by simp only [f8, go_sem, simprocAttr]; exact rfl) (by simp only [go_sem, simprocAttr]; exact rfl) ?_ -- ret1
    refine ⟨_, ?_, rfl⟩
    first | (simp [leP]; done) | (simp_all [leP]; done))
end Go.Ab
namespace Go.Ab
open Go Go.Proofs.Try Go.RowKit
set_option maxRecDepth 100000
set_option maxHeartbeats 6400000
theorem make_bounds (a b : Graph) : (gMake a b).1.L.length ≤ 1000 ∧ (gMake a b).1.Roots.length ≤ 1000 := by
  by_cases h : (gMake a b).2 = 0
  · obtain ⟨_, hb, _, _, e⟩ := make_ok h
    have hc := canon_may ((may_iff b).1 hb)
    have h1 := hc.o
    have h2 := hc.r
    rw [e]
    simp only
    rw [items_len hb, ← canon_Olen hb]
    omega
  · rw [make_err h]; exact ⟨Nat.zero_le _, Nat.zero_le _⟩
theorem sumSet_snoc {L : List GItem} {j : Nat} {it : GItem} (h : L[j]? = some it) : sumSet (L.take (j + 1)) = sumSet (L.take j) + it.Set.length := by
  unfold sumSet
  rw [List.take_add_one, List.map_append, List.sum_append, h]
  simp
theorem small_cases {g h : Graph} {id k e : Int} {v : GVal} {d : GDelta} {f : Int} (hS : gSet g id k v = (h, e)) (hM : gMake g h = (d, f)) : ∃ B : Bool, (e ≠ 0 ∧ B = true) ∨ (e = 0 ∧ f ≠ 0 ∧ B = true) ∨ (e = 0 ∧ f = 0 ∧ ∃ (i q n : Nat) (xI : Int) (xF : List GVal) (w : GVal) (t : GType) (fl : GField),
    fnd (fun o => decide (o.Id = id)) g.O = i ∧ g.O[i]? = some ⟨xI, n, xF⟩ ∧ k = q ∧ xF[q]? = some w ∧ g.S[n]? = some t ∧ t.F[q]? = some fl ∧ i < g.O.length ∧ q < xF.length ∧ n < g.S.length ∧ q < t.F.length ∧ B = decide (fl.Kind = 5) ∧ d.L.length ≤ 1000 ∧ (fl.Kind ≠ 5 →
      (∀ (j : Nat) (it : GItem), d.L[j]? = some it → it.Set = [] ∨ (it.Set = [⟨q, v⟩] ∧ w ≠ v)) ∧ sumSet d.L ≤ 1)) := by
  by_cases he : e = 0
  · subst he
    by_cases hf : f = 0
    · subst hf
      obtain ⟨i, q, x, w, t, fl, h1, h2, h3, h4, h5, h6, h7⟩ := delta_small hS (by rw [hM])
      obtain ⟨xI, xT, xF⟩ := x
      subst h3
      have hT : 0 ≤ xT := by
        simp only [typeAt] at h5
        split at h5
        · assumption
        · cases h5
      obtain ⟨n, rfl⟩ := Int.eq_ofNat_of_zero_le hT
      simp only [typeAt, if_pos hT, Int.toNat_natCast] at h5
      have hb := (make_bounds g h).1
      rw [hM] at h7 hb
      exact ⟨_, .inr (.inr ⟨rfl, rfl, i, q, n, xI, xF, w, t, fl, h1, h2, rfl, h4, h5, h6, (List.getElem?_eq_some_iff.1 h2).1, (List.getElem?_eq_some_iff.1 h4).1, (List.getElem?_eq_some_iff.1 h5).1, (List.getElem?_eq_some_iff.1 h6).1, rfl, hb, h7⟩)⟩
    · exact ⟨true, .inr (.inl ⟨rfl, hf, rfl⟩)⟩
  · exact ⟨true, .inl ⟨he, rfl⟩⟩
theorem sumSet_le {L : List GItem} {j : Nat} : sumSet (L.take j) ≤ sumSet L := by
  conv => rhs; rw [← List.take_append_drop j L]
  unfold sumSet
  rw [List.map_append, List.sum_append]
  omega
theorem law11_DeltaSmall (up : Bool) (g : Graph) (id k : Int) (v : GVal) (hz : GSz g) : PCall prog up 5 [.agg (eGraph g), .int .i64 id, .int .i64 k, .agg (eVal v)] (· = .bool true) := by
  refine PCall.intro htt func5 (by kernel_rfl) rfl (Nat.le_of_ble_eq_true rfl) fun hl => ?_

  simp only [tmps0, Nat.reduceAdd]
  refine CW.seq ?_
  refine CW.rg ?_
  refine CWops.run htt 3 (by simp only [go_sem, simprocAttr, eGraph, eVal]; exact rfl) (by simp [go_sem, simprocAttr, eGraph, eVal]) ?_
  refine CWops.done ?_
  refine CW.seq ?_
  refine CW.rg ?_
  refine CWops.callA (law11_awake up) (by simp only [go_sem, simprocAttr]) (by simp only [go_sem, simprocAttr]; first | done | exact rfl) (by simp only [go_sem, simprocAttr]) (by simp only [go_sem, simprocAttr]) (fun rt18 hrt18 => ?_)
  subst hrt18
  refine CWops.rn htt 1 ?_
  refine CWops.done ?_
  refine CW.seq ?_
  refine CW.rg ?_
  refine CWops.run htt 1 (by simp only [go_sem, simprocAttr, eGraph]; exact rfl) (by simp [go_sem, simprocAttr, eGraph]) ?_
  refine CWops.callA (law08_Few up g) (by simp only [go_sem, simprocAttr, eGraph]) (by simp only [go_sem, simprocAttr, eGraph]; first | done | exact rfl) (by simp only [go_sem, simprocAttr, eGraph]) (by simp only [go_sem, simprocAttr, eGraph]) (fun rt20 hrt20 => ?_)
  subst hrt20
  refine CWops.run htt 1 (by simp only [go_sem, simprocAttr, eGraph]; exact rfl) (by simp [go_sem, simprocAttr, eGraph]) ?_
  refine CWops.done ?_
  refine CW.seq ?_
  refine CW.cut ⟨2, [(1, .int .i64 id), (2, .int .i64 k), (4, .lv 0 [] 0), (7, .lv 1 [] 0), (9, .bool true), (26, .bool (!fewG g))], [(0, ⟨true, eGraph g⟩), (1, ⟨true, eVal v⟩)]⟩ ?_ ?_
  · refine CW.rg ?_
    refine CWops.rn htt 3 ?_
    all_goals (first | refine CWops.guard 23 (by simp only [go_sem, simprocAttr]; exact rfl) (fun g23 => ?_) (fun g23 => ?_) | skip)
    all_goals (first | (simp at g23; done) | (cases g23; done) | (exfalso; simp only [decide_eq_false_iff_not, decide_eq_true_eq, Bool.not_eq_true', Bool.not_eq_false'] at *; omega) | (exfalso; simp_all; done) | skip)
    all_goals (refine CWops.rn htt 3 ?_)
    all_goals (refine CWops.done ?_)
    all_goals (
      first | refine ⟨rfl, Sh.wk0 ?_⟩ | refine Sh.wk0 ?_
      simp_all [Wk, go_sem, simprocAttr, eGraph, eVal, eDelta] <;> first | done | rfl | omega | (rw [Bool.eq_iff_iff]; simp; done) | (rw [Bool.eq_iff_iff]; simp; omega))
  refine CW.cond (by simp only [go_sem, simprocAttr]; first | done | exact rfl) (fun ct26 => ?_) (fun ct26 => ?_)
  · refine CW.seq ?_
    refine CW.rg ?_
    refine CWops.rn htt 2 ?_
    refine CWops.done ?_
    refine CW.ret ?_
    refine retQ.ret (by simp only [f5, go_sem, simprocAttr]; exact rfl) (by simp only [go_sem, simprocAttr]; exact rfl) ?_ -- ret1
    refine ⟨_, ?_, rfl⟩
    first | (simp [leP]; done) | (simp_all [leP]; done)
  · obtain ⟨⟨h, e⟩, hS⟩ : ∃ p, gSet g id k v = p := ⟨_, rfl⟩
    obtain ⟨⟨d, f⟩, hM⟩ : ∃ p, gMake g h = p := ⟨_, rfl⟩
    obtain ⟨fi, hfi⟩ : ∃ p, fnd (fun o => decide (o.Id = id)) g.O = p := ⟨_, rfl⟩
    obtain ⟨B, hB⟩ := small_cases hS hM
    rw [hfi] at hB
    refine CW.skip ?_
    refine CW.seq ?_
    refine CW.rg ?_
    refine CWops.run htt 4 (by simp only [go_sem, simprocAttr, eGraph, eVal]; exact rfl) (by simp [go_sem, simprocAttr, eGraph, eVal]) ?_
    refine CWops.callA ((by have q := graph_Set up g id k v hz; rw [hS] at q; exact q)) (by simp only [go_sem, simprocAttr, eGraph, eVal]) (by simp only [go_sem, simprocAttr, eGraph, eVal]; first | done | exact rfl) (by simp only [go_sem, simprocAttr, eGraph, eVal]) (by simp only [go_sem, simprocAttr, eGraph, eVal]) (fun rt33 hrt33 => ?_)
    subst hrt33
    refine CWops.run htt 6 (by simp only [go_sem, simprocAttr, eGraph, eVal]; exact rfl) (by simp [go_sem, simprocAttr, eGraph, eVal]) ?_
    refine CWops.done ?_
    refine CW.seq ?_
    refine CW.rg ?_
    refine CWops.run htt 2 (by simp only [go_sem, simprocAttr, eGraph]; exact rfl) (by simp [go_sem, simprocAttr, eGraph]) ?_
    refine CWops.call ((by have q := graph_Find up g id; rw [hfi] at q; exact q)) (by simp only [go_sem, simprocAttr, eGraph]) (by simp only [go_sem, simprocAttr, eGraph]; first | done | exact rfl) (by simp only [go_sem, simprocAttr, eGraph]) (fun rt38 hrt38 => ?_)
    subst hrt38; refine ⟨rfl, ?_⟩
    refine CWops.run htt 1 (by simp only [go_sem, simprocAttr, eGraph]; exact rfl) (by simp [go_sem, simprocAttr, eGraph]) ?_
    refine CWops.done ?_
    refine CW.seq ?_
    refine CW.rg ?_
    refine CWops.run htt 2 (by simp only [go_sem, simprocAttr, eGraph, eDelta]; exact rfl) (by simp [go_sem, simprocAttr, eGraph, eDelta]) ?_
    refine CWops.callA ((by have q := delta_Make up g h; rw [hM] at q; exact q)) (by simp only [go_sem, simprocAttr, eGraph, eDelta]) (by simp only [go_sem, simprocAttr, eGraph, eDelta]; first | done | exact rfl) (by simp only [go_sem, simprocAttr, eGraph, eDelta]) (by simp only [go_sem, simprocAttr, eGraph, eDelta]) (fun rt42 hrt42 => ?_)
    subst hrt42
    refine CWops.run htt 6 (by simp only [go_sem, simprocAttr, eGraph, eDelta]; exact rfl) (by simp [go_sem, simprocAttr, eGraph, eDelta]) ?_
    refine CWops.done ?_
    refine CW.seq ?_
    refine CW.cut ⟨4, [(2, .int .i64 k), (4, .lv 0 [] 0), (7, .lv 1 [] 0), (13, .int .i64 fi), (14, .lv 3 [] 0), (95, .bool B)], [(0, ⟨true, eGraph g⟩), (1, ⟨true, eVal v⟩), (2, ⟨true, eGraph h⟩), (3, ⟨true, eDelta d⟩)]⟩ ?_ ?_
    · have hT : True ∧ True ∧ True ∧ True ∧ True ∧ True ∧ True ∧ True := ⟨trivial, trivial, trivial, trivial, trivial, trivial, trivial, trivial⟩
      have hB := hB.imp (fun h => And.intro hT h) (fun h => h.imp (fun h => And.intro hT h) (fun h => h))
      rcases hB with ⟨⟨hO, hil, hql, hS3, hnl, hqt, hF3, hx0⟩, he, hBe⟩ | ⟨⟨hO, hil, hql, hS3, hnl, hqt, hF3, hx0⟩, he, hf, hBe⟩ | ⟨he, hf, i, q, n, xI, xF, w, t, fl, hfe, hO, hke, hxw, hS3, hF3, hil, hql, hnl, hqt, hBe, -, -⟩ <;> subst hBe <;> (try subst he) <;> (try subst hf) <;> (try subst hfe) <;> (try subst hke)
      all_goals (refine CW.drawn mixed 46 (by decide) (by kernel_rfl) (by kernel_rfl) (by kernel_rfl) ?_)
      all_goals (refine Seg.run htt 3 (by simp only [go_sem, simprocAttr, eGraph, eDelta, hO, eObj, hil, hql, hS3, hnl, eType, hqt, hF3, eField]; exact rfl) ?_)
      all_goals (first | refine Seg.guard 47 (by simp only [go_sem, simprocAttr, eGraph, eDelta, hO, eObj, hil, hql, hS3, hnl, eType, hqt, hF3, eField]; exact rfl) (fun g47 => ?_) (fun g47 => ?_) | skip)
      all_goals (first | (simp at g47; done) | (cases g47; done) | (exfalso; simp only [decide_eq_false_iff_not, decide_eq_true_eq, Bool.not_eq_true', Bool.not_eq_false'] at *; omega) | (exfalso; simp_all; done) | skip)
      all_goals (refine Seg.run htt 4 (by simp only [go_sem, simprocAttr, eGraph, eDelta, hO, eObj, hil, hql, hS3, hnl, eType, hqt, hF3, eField]; exact rfl) ?_)
      all_goals (first | refine Seg.guard 51 (by simp only [go_sem, simprocAttr, eGraph, eDelta, hO, eObj, hil, hql, hS3, hnl, eType, hqt, hF3, eField]; exact rfl) (fun g51 => ?_) (fun g51 => ?_) | skip)
      all_goals (first | (simp at g51; done) | (cases g51; done) | (exfalso; simp only [decide_eq_false_iff_not, decide_eq_true_eq, Bool.not_eq_true', Bool.not_eq_false'] at *; omega) | (exfalso; simp_all; done) | skip)
      all_goals (refine Seg.run htt 4 (by simp only [go_sem, simprocAttr, eGraph, eDelta, hO, eObj, hil, hql, hS3, hnl, eType, hqt, hF3, eField]; exact rfl) ?_)
      all_goals (first | refine Seg.guard 55 (by simp only [go_sem, simprocAttr, eGraph, eDelta, hO, eObj, hil, hql, hS3, hnl, eType, hqt, hF3, eField]; exact rfl) (fun g55 => ?_) (fun g55 => ?_) | skip)
      all_goals (first | (simp at g55; done) | (cases g55; done) | (exfalso; simp only [decide_eq_false_iff_not, decide_eq_true_eq, Bool.not_eq_true', Bool.not_eq_false'] at *; omega) | (exfalso; simp_all; done) | skip)
      all_goals (refine Seg.run htt 7 (by simp only [go_sem, simprocAttr, eGraph, eDelta, hO, eObj, hil, hql, hS3, hnl, eType, hqt, hF3, eField]; exact rfl) ?_)
      all_goals (first | refine Seg.guard 62 (by simp only [go_sem, simprocAttr, eGraph, eDelta, hO, eObj, hil, hql, hS3, hnl, eType, hqt, hF3, eField]; exact rfl) (fun g62 => ?_) (fun g62 => ?_) | skip)
      all_goals (first | (simp at g62; done) | (cases g62; done) | (exfalso; simp only [decide_eq_false_iff_not, decide_eq_true_eq, Bool.not_eq_true', Bool.not_eq_false'] at *; omega) | (exfalso; simp_all; done) | skip)
      all_goals (refine Seg.run htt 4 (by simp only [go_sem, simprocAttr, eGraph, eDelta, hO, eObj, hil, hql, hS3, hnl, eType, hqt, hF3, eField]; exact rfl) ?_)
      all_goals (first | refine Seg.guard 66 (by simp only [go_sem, simprocAttr, eGraph, eDelta, hO, eObj, hil, hql, hS3, hnl, eType, hqt, hF3, eField]; exact rfl) (fun g66 => ?_) (fun g66 => ?_) | skip)
      all_goals (first | (simp at g66; done) | (cases g66; done) | (exfalso; simp only [decide_eq_false_iff_not, decide_eq_true_eq, Bool.not_eq_true', Bool.not_eq_false'] at *; omega) | (exfalso; simp_all; done) | skip)
      all_goals (refine Seg.run htt 11 (by simp only [go_sem, simprocAttr, eGraph, eDelta, hO, eObj, hil, hql, hS3, hnl, eType, hqt, hF3, eField]; exact rfl) ?_)
      all_goals (first | refine Seg.guard 77 (by simp only [go_sem, simprocAttr, eGraph, eDelta, hO, eObj, hil, hql, hS3, hnl, eType, hqt, hF3, eField]; exact rfl) (fun g77 => ?_) (fun g77 => ?_) | skip)
      all_goals (first | (simp at g77; done) | (cases g77; done) | (exfalso; simp only [decide_eq_false_iff_not, decide_eq_true_eq, Bool.not_eq_true', Bool.not_eq_false'] at *; omega) | (exfalso; simp_all; done) | skip)
      all_goals (refine Seg.run htt 13 (by simp only [go_sem, simprocAttr, eGraph, eDelta, hO, eObj, hil, hql, hS3, hnl, eType, hqt, hF3, eField]; exact rfl) ?_)
      all_goals (refine Seg.done ?_)
      all_goals (refine CWops.run htt 5 (by simp only [go_sem, simprocAttr, eGraph, eDelta, hO, eObj, hil, hql, hS3, hnl, eType, hqt, hF3, eField]; exact rfl) (by simp [go_sem, simprocAttr, eGraph, eDelta, hO, eObj, hil, hql, hS3, hnl, eType, hqt, hF3, eField]) ?_)
      all_goals (refine CWops.done ?_)
      all_goals (
        first | refine ⟨rfl, Sh.wk0 ?_⟩ | refine Sh.wk0 ?_
        simp_all [Wk, go_sem, simprocAttr, eGraph, eVal, eDelta] <;> first | done | rfl | omega | (rw [Bool.eq_iff_iff]; simp; done) | (rw [Bool.eq_iff_iff]; simp; omega))
    refine CW.cond (by simp only [go_sem, simprocAttr]; first | done | exact rfl) (fun ct95 => ?_) (fun ct95 => ?_)
    · refine CW.seq ?_
      refine CW.rg ?_
      refine CWops.rn htt 1 ?_
      refine CWops.done ?_
      refine CW.ret ?_
      refine retQ.ret (by simp only [f5, go_sem, simprocAttr]; exact rfl) (by simp only [go_sem, simprocAttr]; exact rfl) ?_ -- ret2
      refine ⟨_, ?_, rfl⟩
      first | (simp [leP]; done) | (simp_all [leP]; done)
    · obtain ⟨_, h⟩ | ⟨_, _, h⟩ | ⟨rfl, rfl, i, q, n, xI, xF, w, t, fl, rfl, hO, rfl, hxw, hS3, hF3, hil, hql, hnl, hqt, hBe, hdl, hfin⟩ := hB
      · rw [h] at ct95; cases ct95
      · rw [h] at ct95; cases ct95
      have hk5 : fl.Kind ≠ 5 := by
        intro h; rw [h] at hBe; rw [hBe] at ct95; simp at ct95
      obtain ⟨hits, hsum⟩ := hfin hk5
      refine CW.skip ?_
      refine CW.seq ?_
      refine CW.rg ?_
      refine CWops.rn htt 1 ?_
      refine CWops.done ?_
      refine CW.seq ?_
      refine CW.seq ?_
      refine CW.rg ?_
      refine CWops.rn htt 1 ?_
      refine CWops.done ?_
      refine CW.block ?_
      refine CW.loop (S := Nat) (fun j => ⟨4, [(2, .int .i64 q), (4, .lv 0 [] 0), (7, .lv 1 [] 0), (13, .int .i64 i), (14, .lv 3 [] 0), (16, .int .i64 (sumSet (d.L.take j) : Nat)), (17, .int .i64 j)], [(0, ⟨true, eGraph g⟩), (1, ⟨true, eVal v⟩), (2, ⟨true, eGraph h⟩), (3, ⟨true, eDelta d⟩)]⟩) (fun j => j ≤ d.L.length ∧ (sumSet (d.L.take j) = 0 ∨ w ≠ v)) (fun j => d.L.length - j) (0) ?_ ⟨Nat.zero_le _, .inl rfl⟩ (fun j ⟨h1, h2⟩ => ?_)
      · refine Sh.wk0 ?_; simp [Wk, go_sem, simprocAttr, eDelta, eGraph, eVal, sumSet]
      refine CW.seq ?_
      refine CW.seq ?_
      refine CW.rg ?_
      refine CWops.run htt 5 (by simp only [go_sem, simprocAttr, eDelta]; exact rfl) (by simp [go_sem, simprocAttr, eDelta]) ?_
      refine CWops.done ?_
      refine CW.cond (by simp only [go_sem, simprocAttr]; first | done | exact rfl) (fun ct100 => ?_) (fun ct100 => ?_)
      · have hjl : j < d.L.length := by simpa using ct100
        obtain ⟨it, hit⟩ : ∃ it, d.L[j]? = some it := ⟨d.L[j], List.getElem?_eq_getElem hjl⟩
        have hsn := sumSet_snoc hit
        have hs1 : sumSet (d.L.take j) ≤ 1 := Nat.le_trans sumSet_le hsum
        have hs2 : it.Set.length ≤ 1 := by rcases hits j it hit with h | ⟨h, _⟩ <;> rw [h] <;> simp
        refine CW.skip ?_
        refine CW.seq ?_
        refine CW.block ?_
        refine CW.seq ?_
        refine CW.rg ?_
        refine CWops.run htt 10 (by simp only [go_sem, simprocAttr, eDelta, hit, eItem, wrap_add (show sumSet (d.L.take j) + it.Set.length ≤ MX by unfold MX; omega)]; exact rfl) (by simp [go_sem, simprocAttr, eDelta, hit, eItem, wrap_add (show sumSet (d.L.take j) + it.Set.length ≤ MX by unfold MX; omega)]) ?_
        refine CWops.done ?_
        refine CW.cut ⟨4, [(2, .int .i64 q), (4, .lv 0 [] 0), (7, .lv 1 [] 0), (13, .int .i64 i), (14, .lv 3 [] 0), (16, .int .i64 (sumSet (d.L.take (j + 1)) : Nat)), (17, .int .i64 j), (145, .bool false)], [(0, ⟨true, eGraph g⟩), (1, ⟨true, eVal v⟩), (2, ⟨true, eGraph h⟩), (3, ⟨true, eDelta d⟩)]⟩ ?_ ?_
        · rcases hits j it hit with hs | ⟨hs, hwv⟩
          all_goals (refine CW.drawn mixed 31 (by decide) (by kernel_rfl) (by kernel_rfl) (by kernel_rfl) ?_)
          all_goals (refine Seg.run htt 9 (by simp only [go_sem, simprocAttr, eDelta, hit, eItem, hjl, hs, eCell, eVal]; exact rfl) ?_)
          all_goals (first | refine Seg.guard 120 (by simp only [go_sem, simprocAttr, eDelta, hit, eItem, hjl, hs, eCell, eVal]; exact rfl) (fun g120 => ?_) (fun g120 => ?_) | skip)
          all_goals (first | (simp at g120; done) | (cases g120; done) | (exfalso; simp only [decide_eq_false_iff_not, decide_eq_true_eq, Bool.not_eq_true', Bool.not_eq_false'] at *; omega) | (exfalso; simp_all; done) | skip)
          all_goals (refine Seg.run htt 12 (by simp only [go_sem, simprocAttr, eDelta, hit, eItem, hjl, hs, eCell, eVal]; exact rfl) ?_)
          all_goals (first | refine Seg.guard 132 (by simp only [go_sem, simprocAttr, eDelta, hit, eItem, hjl, hs, eCell, eVal]; exact rfl) (fun g132 => ?_) (fun g132 => ?_) | skip)
          all_goals (first | (simp at g132; done) | (cases g132; done) | (exfalso; simp only [decide_eq_false_iff_not, decide_eq_true_eq, Bool.not_eq_true', Bool.not_eq_false'] at *; omega) | (exfalso; simp_all; done) | skip)
          all_goals (refine Seg.run htt 10 (by simp only [go_sem, simprocAttr, eDelta, hit, eItem, hjl, hs, eCell, eVal]; exact rfl) ?_)
          all_goals (refine Seg.done ?_)
          all_goals (refine CWops.run htt 3 (by simp only [go_sem, simprocAttr, eDelta, hit, eItem, hjl, hs, eCell, eVal]; exact rfl) (by simp [go_sem, simprocAttr, eDelta, hit, eItem, hjl, hs, eCell, eVal]) ?_)
          all_goals (refine CWops.done ?_)
          all_goals (
            first | refine ⟨rfl, Sh.wk0 ?_⟩ | refine Sh.wk0 ?_
            simp_all [Wk, go_sem, simprocAttr, eGraph, eVal, eDelta] <;> first | done | rfl | omega | (rw [Bool.eq_iff_iff]; simp; done) | (rw [Bool.eq_iff_iff]; simp; omega))
        refine CW.cond (by simp only [go_sem, simprocAttr]; first | done | exact rfl) (fun ct145 => ?_) (fun ct145 => ?_)
        · cases ct145 
        · refine CW.skip ?_
          refine CW.rg ?_
          refine CWops.run htt 3 (by simp only [go_sem, simprocAttr, wrap_succ (show j < MX by unfold MX; omega)]; exact rfl) (by simp [go_sem, simprocAttr, wrap_succ (show j < MX by unfold MX; omega)]) ?_
          refine CWops.done ?_
          refine ⟨j + 1, ?_, ?_, ?_⟩
          · refine Sh.wk0 ?_; simp [Wk, go_sem, simprocAttr, eDelta, eGraph, eVal]
          · exact ⟨hjl, by
              rcases hits j it hit with h | ⟨_, h⟩
              · rw [hsn, h]; simpa using h2
              · exact .inr h⟩
          · simp only; omega
      · have hj : j = d.L.length := by simp at ct100; omega
        subst hj
        rw [List.take_of_length_le (Nat.le_refl _)] at h2 ⊢
        have h3 : sumSet d.L = 0 ∨ ¬w.N = v.N ∨ ¬w.S = v.S ∨ ¬w.R = v.R := h2.imp (fun h => h) (fun h => by
          rw [Ne, GVal.ext_iff'] at h
          exact Classical.byContradiction fun hn => h ⟨Classical.byContradiction fun a => hn (.inl a), Classical.byContradiction fun a => hn (.inr (.inl a)), Classical.byContradiction fun a => hn (.inr (.inr a))⟩)
        refine CW.exit ?_
        refine CW.seq ?_
        refine CW.drawn mixed 16 (by decide) (by kernel_rfl) (by kernel_rfl) (by kernel_rfl) ?_
        refine Seg.run htt 3 (by simp only [go_sem, simprocAttr, eGraph, hO, hil, eObj, hxw, hql, eVal]; exact rfl) ?_
        all_goals (first | refine Seg.guard 148 (by simp only [go_sem, simprocAttr, eGraph, hO, hil, eObj, hxw, hql, eVal]; exact rfl) (fun g148 => ?_) (fun g148 => ?_) | skip)
        all_goals (first | (simp at g148; done) | (cases g148; done) | (exfalso; simp only [decide_eq_false_iff_not, decide_eq_true_eq, Bool.not_eq_true', Bool.not_eq_false'] at *; omega) | (exfalso; simp_all; done) | skip)
        all_goals (refine Seg.run htt 3 (by simp only [go_sem, simprocAttr, eGraph, hO, hil, eObj, hxw, hql, eVal]; exact rfl) ?_)
        all_goals (first | refine Seg.guard 151 (by simp only [go_sem, simprocAttr, eGraph, hO, hil, eObj, hxw, hql, eVal]; exact rfl) (fun g151 => ?_) (fun g151 => ?_) | skip)
        all_goals (first | (simp at g151; done) | (cases g151; done) | (exfalso; simp only [decide_eq_false_iff_not, decide_eq_true_eq, Bool.not_eq_true', Bool.not_eq_false'] at *; omega) | (exfalso; simp_all; done) | skip)
        all_goals (refine Seg.run htt 10 (by simp only [go_sem, simprocAttr, eGraph, hO, hil, eObj, hxw, hql, eVal]; exact rfl) ?_)
        all_goals (refine Seg.done ?_)
        all_goals (refine CWops.run htt 4 (by simp only [go_sem, simprocAttr, eGraph, hO, hil, eObj, hxw, hql, eVal]; exact rfl) (by simp [go_sem, simprocAttr, eGraph, hO, hil, eObj, hxw, hql, eVal]) ?_)
        all_goals (refine CWops.done ?_)
        all_goals (
          refine CW.ret ?_
          refine retQ.ret (by simp only [f5, go_sem, simprocAttr]; exact rfl) (by simp only [go_sem, simprocAttr]; exact rfl) ?_ -- ret3
          refine ⟨_, ?_, rfl⟩
          first | (simp [leP]; done) | (simp_all [leP]; done))
end Go.Ab
