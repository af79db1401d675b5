/-
  What functions of the program answer: each by its contract. No condition but those of each theorem.
-/
import Derived.WalkKit
import Derived.Below
import Derived.Scope
import Derived.Test.YtfimpbledhfipaaGreatProg
import Derived.Orders
import Derived.Still
import Derived.Test.YtfimpbledhfipaaGreatFa
import Derived.Test.YtfimpbledhfipaaGreatFb
import Derived.Test.YtfimpbledhfipaaGreatFc
import Derived.Test.YtfimpbledhfipaaGreatFd
import Derived.Test.YtfimpbledhfipaaGreatFe
import Derived.Test.YtfimpbledhfipaaGreatFf
import Derived.Test.YtfimpbledhfipaaGreatDa
import Derived.Test.YtfimpbledhfipaaGreatVa
import Derived.Test.YtfimpbledhfipaaGreatVb
set_option linter.unusedVariables false
set_option linter.unusedSimpArgs false
namespace Go.Ab
open Go Go.Proofs.Tryz
set_option maxRecDepth 100000
set_option linter.unusedSimpArgs false
set_option linter.unusedVariables false
theorem ref05_sign_at (up : Bool) (s : ByteArray) (p : Nat) (hp : p < s.size) : PCall prog up 141 [.str (s.extract p s.size)] (· = .tup [.int .i64 ((Utf8.decode s p).1 : Nat), .int .i64 ((Utf8.decode s p).2 : Nat)]) := by
  have h := ref05_sign up (s.extract p s.size) (by rw [size_ext]; omega)
  rw [decode_ext hp] at h
  exact h
theorem ref05_Signs (up : Bool) (s : ByteArray) (hs : s.size ≤ 1048576) : PCall prog up 126 [.str s] (· = .sl 1 ((runes s).map eI)) := by
  refine PCall.intro htt func126 (by kernel_rfl) rfl (Nat.le_of_ble_eq_true rfl) fun hl => ?_

  simp only [tmps0, Nat.reduceAdd]
  refine CW.seq ?_
  refine CW.rg ?_
  refine CWops.rn htt 1 ?_
  refine CWops.done ?_
  refine CW.seq ?_
  refine CW.rg ?_
  refine CWops.rn htt 1 ?_
  refine CWops.done ?_
  refine CW.seq ?_
  refine CW.block ?_
  refine CW.loop (S := Nat × List Int) (fun q => ⟨1, [(0, .str (s.extract q.1 s.size)), (3, .ref 0 [] 0)], [(0, ⟨false, [.own 1 (q.2.map eI)]⟩)]⟩) (fun q => q.2.length ≤ q.1 ∧ q.1 ≤ s.size ∧ ∃ f, s.size ≤ q.1 + f ∧ runes s = q.2 ++ runesF s f q.1) (fun q => s.size - q.1) ((0, [])) ?_ ⟨Nat.le_refl _, Nat.zero_le _, s.size, by simp, rfl⟩ (fun q ⟨h1, h2, f, hf, hsum⟩ => ?_)
  · refine Sh.trans (Sh.nilRoot 3 1 (by simp only [go_sem, simprocAttr]) rfl) (Sh.wk0 ?_); simp [Wk, go_sem, simprocAttr, ext_zero]
  refine CW.seq ?_
  refine CW.seq ?_
  refine CW.rg ?_
  refine CWops.run htt 3 (by simp only [go_sem, simprocAttr, size_ext]; exact rfl) (by simp [go_sem, simprocAttr, size_ext]) ?_
  refine CWops.done ?_
  refine CW.cond (by simp only [go_sem, simprocAttr]; first | done | exact rfl) (fun ct8 => ?_) (fun ct8 => ?_)
  · have hp : q.1 < s.size := by simp at ct8; omega
    have hdl := decode_le hp
    have hdp := decode_pos s q.1
    refine CW.skip ?_
    refine CW.block ?_
    refine CW.seq ?_
    refine CW.rg ?_
    refine CWops.rn htt 1 ?_
    refine CWops.call (ref05_sign_at up s q.1 hp) (by simp only [go_sem, simprocAttr]) (by simp only [go_sem, simprocAttr]; first | done | exact rfl) (by simp only [go_sem, simprocAttr]) (fun rt11 hrt11 => ?_)
    subst hrt11; refine ⟨rfl, ?_⟩
    refine CWops.rn htt 5 ?_
    refine CWops.done ?_
    refine CW.seq ?_
    refine CW.rg ?_
    refine CWops.run htt 5 (by simp only [go_sem, simprocAttr, List.replicate]; exact rfl) (by simp [AV.cell, AV.tree, eI, MX]; omega) ?_
    refine CWops.done ?_
    refine CW.rg ?_
    refine CWops.rn htt 2 ?_
    refine CWops.strCut (q := (Utf8.decode s q.1).2) htt (by simp only [go_sem, simprocAttr]) tt_9 rfl (by simp only [go_sem, simprocAttr]; first | done | exact rfl) (by simp only [go_sem, simprocAttr]; first | done | exact rfl) (by rw [size_ext]; omega) ?_
    simp only [go_sem, simprocAttr, size_ext, ext_ext hdl]
    refine CWops.rn htt 1 ?_
    refine CWops.done ?_
    refine ⟨(q.1 + (Utf8.decode s q.1).2, q.2 ++ [((Utf8.decode s q.1).1 : Int)]), ?_, ?_, ?_⟩
    · refine Sh.wk (fun x => if x = 0 then 2 else x) ?_; simp [Wk, go_sem, simprocAttr, eI]
    · refine ⟨by simp only [List.length_append, List.length_singleton]; omega, hdl, ?_⟩
      cases f with
      | zero => omega
      | succ f => exact ⟨f, by simp only; omega, by rw [hsum]; simp only [runesF]; rw [if_pos hp]; simp⟩
    · simp only; omega
  · have hp : ¬ q.1 < s.size := by simp at ct8; omega
    refine CW.exit ?_
    refine CW.seq ?_
    refine CW.rg ?_
    refine CWops.rn htt 2 ?_
    refine CWops.done ?_
    refine CW.ret ?_
    refine retQ.ret (by simp only [f126, go_sem, simprocAttr]; exact rfl) (by simp only [go_sem, simprocAttr]; exact rfl) ?_ -- ret1
    refine ⟨_, ?_, rfl⟩
    have hr : runes s = q.2 := by
      rw [hsum]
      cases f with
      | zero => simp [runesF]
      | succ f => simp only [runesF]; rw [if_neg hp]; simp
    rw [hr]
    simp [leP, frz_I]
theorem ref05_May (up : Bool) (s : ByteArray) (hs : s.size ≤ 1048576) : PCall prog up 94 [.str s] (· = .bool (nameMay s)) := by
  refine PCall.intro htt func94 (by kernel_rfl) rfl (Nat.le_of_ble_eq_true rfl) fun hl => ?_
  have hrl := runes_len s
  rw [nameMay_runes]
  generalize hR : runes s = R at hrl
  simp only [tmps0, Nat.reduceAdd]
  refine CW.seq ?_
  refine CW.rg ?_
  refine CWops.rn htt 1 ?_
  refine CWops.done ?_
  refine CW.seq ?_
  refine CW.rg ?_
  refine CWops.run htt 1 (by simp only [go_sem, simprocAttr, hR]; exact rfl) (by simp [go_sem, simprocAttr, hR]) ?_
  refine CWops.callA (ref05_Signs up s hs) (by simp only [go_sem, simprocAttr, hR]) (by simp only [go_sem, simprocAttr, hR]; first | done | exact rfl) (by simp only [go_sem, simprocAttr, hR]) (by simp only [go_sem, simprocAttr, hR]) (fun rt8 hrt8 => ?_)
  subst hrt8
  refine CWops.run htt 1 (by simp only [go_sem, simprocAttr, hR]; exact rfl) (by simp [go_sem, simprocAttr, hR]) ?_
  refine CWops.done ?_
  refine CW.seq ?_
  refine CW.seq ?_
  refine CW.rg ?_
  refine CWops.rn htt 1 ?_
  refine CWops.done ?_
  refine CW.block ?_
  refine CW.loop (S := Nat) (fun i => ⟨0, [(3, .sl 1 (R.map eI)), (4, .int .i64 i)], []⟩) (fun i => i ≤ R.length ∧ ∀ (j : Nat) (y), j < i → R[j]? = some y → okS j y = true) (fun i => R.length - i) (0) ?_ ⟨Nat.zero_le _, fun j y hj => by omega⟩ (fun i ⟨h1, h2⟩ => ?_)
  · refine Sh.wk0 ?_; simp [Wk, go_sem, simprocAttr]
  refine CW.seq ?_
  refine CW.seq ?_
  refine CW.rg ?_
  refine CWops.rn htt 4 ?_
  refine CWops.done ?_
  refine CW.cond (by simp only [go_sem, simprocAttr]; first | done | exact rfl) (fun ct12 => ?_) (fun ct12 => ?_)
  · have hi : i < R.length := by simpa using ct12
    obtain ⟨x, hx⟩ : ∃ x, R[i]? = some x := ⟨R[i], List.getElem?_eq_getElem hi⟩
    refine CW.skip ?_
    refine CW.seq ?_
    refine CW.block ?_
    refine CW.seq ?_
    refine CW.rg ?_
    refine CWops.run htt 4 (by simp only [go_sem, simprocAttr, hx, eI]; exact rfl) (by simp [go_sem, simprocAttr, hx, eI]) ?_
    refine CWops.call (ref05_letter up x) (by simp only [go_sem, simprocAttr, hx, eI]) (by simp only [go_sem, simprocAttr, hx, eI]; first | done | exact rfl) (by simp only [go_sem, simprocAttr, hx, eI]) (fun rt19 hrt19 => ?_)
    subst hrt19; refine ⟨rfl, ?_⟩
    refine CWops.run htt 1 (by simp only [go_sem, simprocAttr, hx, eI]; exact rfl) (by simp [go_sem, simprocAttr, hx, eI]) ?_
    refine CWops.done ?_
    refine CW.seq ?_
    refine CW.rg ?_
    refine CWops.run htt 4 (by simp only [go_sem, simprocAttr, hx, eI]; exact rfl) (by simp [go_sem, simprocAttr, hx, eI]) ?_
    refine CWops.call (ref05_digit up x) (by simp only [go_sem, simprocAttr, hx, eI]) (by simp only [go_sem, simprocAttr, hx, eI]; first | done | exact rfl) (by simp only [go_sem, simprocAttr, hx, eI]) (fun rt24 hrt24 => ?_)
    subst hrt24; refine ⟨rfl, ?_⟩
    refine CWops.run htt 1 (by simp only [go_sem, simprocAttr, hx, eI]; exact rfl) (by simp [go_sem, simprocAttr, hx, eI]) ?_
    refine CWops.done ?_
    refine CW.cut ⟨0, [(3, .sl 1 (R.map eI)), (4, .int .i64 i), (34, .bool (!okS i x))], []⟩ ?_ ?_
    · refine CW.rg ?_
      refine CWops.rn htt 3 ?_
      all_goals (first | refine CWops.guard 27 (by simp only [go_sem, simprocAttr]; exact rfl) (fun g27 => ?_) (fun g27 => ?_) | skip)
      all_goals (refine CWops.rn htt 3 ?_)
      all_goals (first | refine CWops.guard 30 (by simp only [go_sem, simprocAttr]; exact rfl) (fun g30 => ?_) (fun g30 => ?_) | skip)
      all_goals (refine CWops.rn htt 4 ?_)
      all_goals (refine CWops.done ?_)
      all_goals (
        refine ⟨rfl, Sh.wk0 ?_⟩
        simp_all [Wk, go_sem, simprocAttr, okS] <;> first | done | omega | rfl | (rw [Bool.eq_iff_iff]; done) | (rw [Bool.eq_iff_iff]; simp; done) | (rw [Bool.eq_iff_iff]; simp; omega))
    refine CW.cond (by simp only [go_sem, simprocAttr]; first | done | exact rfl) (fun ct34 => ?_) (fun ct34 => ?_)
    · have hp : okS i x = false := by simpa using ct34
      refine CW.seq ?_
      refine CW.rg ?_
      refine CWops.rn htt 1 ?_
      refine CWops.done ?_
      refine CW.ret ?_
      refine retQ.ret (by simp only [f94, go_sem, simprocAttr]; exact rfl) (by simp only [go_sem, simprocAttr]; exact rfl) ?_ -- ret1
      refine ⟨_, ?_, rfl⟩
      rw [allI_no hx (by rw [Nat.zero_add]; exact hp)]
      simp [leP]
    · have hp : okS i x = true := by simpa using ct34
      refine CW.skip ?_
      refine CW.rg ?_
      refine CWops.run htt 3 (by simp only [go_sem, simprocAttr, wrap_succ (show i < MX by unfold MX; omega)]; exact rfl) (by simp [go_sem, simprocAttr, wrap_succ (show i < MX by unfold MX; omega)]) ?_
      refine CWops.done ?_
      refine ⟨i + 1, ?_, ?_, ?_⟩
      · refine Sh.wk0 ?_; simp [Wk, go_sem, simprocAttr]
      · exact ⟨hi, belowI_succ (p := okS) h2 hx hp⟩
      · simp only; omega
  · have hi : i = R.length := by simp at ct12; omega
    refine CW.exit ?_
    refine CW.seq ?_
    refine CW.rg ?_
    refine CWops.rn htt 4 ?_
    all_goals (first | refine CWops.guard 38 (by simp only [go_sem, simprocAttr]; exact rfl) (fun g38 => ?_) (fun g38 => ?_) | skip)
    all_goals (refine CWops.rn htt 5 ?_)
    all_goals (refine CWops.done ?_)
    all_goals (
      refine CW.ret ?_
      refine retQ.ret (by simp only [f94, go_sem, simprocAttr]; exact rfl) (by simp only [go_sem, simprocAttr]; exact rfl) ?_ -- ret2
      refine ⟨_, ?_, rfl⟩
      rw [belowI_all (p := okS) (by rw [← hi]; exact h2)]
      clear hR hl
      simp_all [leP] <;> first | done | omega | rfl | (rw [Bool.eq_iff_iff]; simp; omega))
theorem ref06_Same (up : Bool) (a b : List GType) : PCall prog up 42 [.agg (eSchema a), .agg (eSchema b)] (· = .bool (decide (a = b))) := by
  refine PCall.intro htt func42 (by kernel_rfl) rfl (Nat.le_of_ble_eq_true rfl) fun hl => ?_
  have hL := (hl (.agg (eSchema a)) (by simp)).agg
  have hba := (hL (.sl 2 (a.map eType)) (by simp [eSchema])).sl.1
  simp only [List.length_map] at hba
  simp only [tmps0, Nat.reduceAdd]
  refine CW.seq ?_
  refine CW.rg ?_
  refine CWops.run htt 3 (by simp only [go_sem, simprocAttr, eSchema]; exact rfl) (by simp [go_sem, simprocAttr, eSchema]) ?_
  refine CWops.done ?_
  refine CW.seq ?_
  refine CW.seq ?_
  refine CW.rg ?_
  refine CWops.run htt 7 (by simp only [go_sem, simprocAttr, eSchema]; exact rfl) (by simp [go_sem, simprocAttr, eSchema]) ?_
  refine CWops.done ?_
  refine CW.cond (by simp only [go_sem, simprocAttr]; first | done | exact rfl) (fun ct13 => ?_) (fun ct13 => ?_)
  · have hne : a.length ≠ b.length := by simp at ct13; omega
    refine CW.seq ?_
    refine CW.rg ?_
    refine CWops.rn htt 1 ?_
    refine CWops.done ?_
    refine CW.ret ?_
    refine retQ.ret (by simp only [f42, go_sem, simprocAttr]; exact rfl) (by simp only [go_sem, simprocAttr]; exact rfl) ?_ -- ret1
    refine ⟨_, ?_, rfl⟩
    have : ¬ a = b := fun e => hne (by rw [e])
    simp [leP, this]
  · have heq : a.length = b.length := by simp at ct13; omega
    refine CW.skip ?_
    refine CW.seq ?_
    refine CW.seq ?_
    refine CW.rg ?_
    refine CWops.rn htt 1 ?_
    refine CWops.done ?_
    refine CW.block ?_
    refine CW.loop (S := Nat) (fun i => ⟨2, [(2, .lv 0 [] 0), (3, .lv 1 [] 0), (5, .int .i64 i)], [(0, ⟨true, eSchema a⟩), (1, ⟨true, eSchema b⟩)]⟩) (fun i => i ≤ a.length ∧ a.take i = b.take i) (fun i => a.length - i) (0) ?_ ⟨Nat.zero_le _, rfl⟩ (fun i ⟨h1, h2⟩ => ?_)
    · refine Sh.wk0 ?_; simp [Wk, go_sem, simprocAttr, eSchema]
    refine CW.seq ?_
    refine CW.seq ?_
    refine CW.rg ?_
    refine CWops.run htt 5 (by simp only [go_sem, simprocAttr, eSchema]; exact rfl) (by simp [go_sem, simprocAttr, eSchema]) ?_
    refine CWops.done ?_
    refine CW.cond (by simp only [go_sem, simprocAttr]; first | done | exact rfl) (fun ct18 => ?_) (fun ct18 => ?_)
    · have hi : i < a.length := by simpa using ct18
      obtain ⟨x, e1⟩ : ∃ x, a[i]? = some x := ⟨a[i], List.getElem?_eq_getElem hi⟩
      obtain ⟨y, e2⟩ : ∃ y, b[i]? = some y := ⟨b[i], List.getElem?_eq_getElem (by omega)⟩
      refine CW.skip ?_
      refine CW.seq ?_
      refine CW.block ?_
      refine CW.seq ?_
      refine CW.drawn mixed 12 (by decide) (by kernel_rfl) (by kernel_rfl) (by kernel_rfl) ?_
      refine Seg.run htt 12 (by simp only [go_sem, simprocAttr, eSchema, e1, e2, eType]; exact rfl) ?_
      refine Seg.done ?_
      refine CWops.call (ref06_fields up x.F y.F) (by simp only [go_sem, simprocAttr, eSchema, e1, e2, eType]) (by simp only [go_sem, simprocAttr, eSchema, e1, e2, eType]; first | done | exact rfl) (by simp only [go_sem, simprocAttr, eSchema, e1, e2, eType]) (fun rt33 hrt33 => ?_)
      subst hrt33; refine ⟨rfl, ?_⟩
      refine CWops.run htt 1 (by simp only [go_sem, simprocAttr, eSchema, e1, e2, eType]; exact rfl) (by simp [go_sem, simprocAttr, eSchema, e1, e2, eType]) ?_
      refine CWops.done ?_
      refine CW.cut ⟨2, [(2, .lv 0 [] 0), (3, .lv 1 [] 0), (5, .int .i64 i), (50, .bool (!(decide (x.F = y.F) && decide (x.Name = y.Name))))], [(0, ⟨true, eSchema a⟩), (1, ⟨true, eSchema b⟩)]⟩ ?_ ?_
      · refine CW.drawn mixed 15 (by decide) (by kernel_rfl) (by kernel_rfl) (by kernel_rfl) ?_
        refine Seg.run htt 3 (by simp only [go_sem, simprocAttr, eSchema, e1, e2, eType]; exact rfl) ?_
        all_goals (first | refine Seg.guard 36 (by simp only [go_sem, simprocAttr, eSchema, e1, e2, eType]; exact rfl) (fun g36 => ?_) (fun g36 => ?_) | skip)
        all_goals (refine Seg.run htt 12 (by simp only [go_sem, simprocAttr, eSchema, e1, e2, eType]; exact rfl) ?_)
        all_goals (refine Seg.done ?_)
        all_goals (refine CWops.run htt 2 (by simp only [go_sem, simprocAttr, eSchema, e1, e2, eType]; exact rfl) (by simp [go_sem, simprocAttr, eSchema, e1, e2, eType]) ?_)
        all_goals (refine CWops.done ?_)
        all_goals (
          refine ⟨rfl, Sh.wk0 ?_⟩
          simp_all [Wk, go_sem, simprocAttr, eSchema] <;> first | done | omega | rfl | (rw [Bool.eq_iff_iff]; done) | (rw [Bool.eq_iff_iff]; simp; done) | (rw [Bool.eq_iff_iff]; simp; omega))
      refine CW.cond (by simp only [go_sem, simprocAttr]; first | done | exact rfl) (fun ct50 => ?_) (fun ct50 => ?_)
      · have hp : x ≠ y := by
          intro e; subst e; simp at ct50
        refine CW.seq ?_
        refine CW.rg ?_
        refine CWops.rn htt 1 ?_
        refine CWops.done ?_
        refine CW.ret ?_
        refine retQ.ret (by simp only [f42, go_sem, simprocAttr]; exact rfl) (by simp only [go_sem, simprocAttr]; exact rfl) ?_ -- ret2
        refine ⟨_, ?_, rfl⟩
        have : ¬ a = b := fun e => hp (by rw [e, e2] at e1; cases e1; rfl)
        simp [leP, this]
      · have hp : x = y := by
          rw [GType.ext_iff']; simp at ct50; exact ⟨ct50.2, ct50.1⟩
        subst hp
        refine CW.skip ?_
        refine CW.rg ?_
        refine CWops.run htt 3 (by simp only [go_sem, simprocAttr, wrap_succ (Nat.lt_of_lt_of_le hi hba)]; exact rfl) (by simp [go_sem, simprocAttr, wrap_succ (Nat.lt_of_lt_of_le hi hba)]) ?_
        refine CWops.done ?_
        refine ⟨i + 1, ?_, ?_, ?_⟩
        · refine Sh.wk0 ?_; simp [Wk, go_sem, simprocAttr, eSchema]
        · exact ⟨hi, take_same h2 e1 e2⟩
        · simp only; omega
    · have hi : i = a.length := by simp at ct18; omega
      refine CW.exit ?_
      refine CW.seq ?_
      refine CW.rg ?_
      refine CWops.rn htt 1 ?_
      refine CWops.done ?_
      refine CW.ret ?_
      refine retQ.ret (by simp only [f42, go_sem, simprocAttr]; exact rfl) (by simp only [go_sem, simprocAttr]; exact rfl) ?_ -- ret3
      refine ⟨_, ?_, rfl⟩
      have := all_same h2 hi heq
      simp [leP, this]
theorem ref06_May (up : Bool) (s : List GType) (hsm : smallS s) : PCall prog up 51 [.agg (eSchema s)] (· = .bool (schemaMay s)) := by
  refine PCall.intro htt func51 (by kernel_rfl) rfl (Nat.le_of_ble_eq_true rfl) fun hl => ?_
  have hL := (hl (.agg (eSchema s)) (by simp)).agg
  have hS := (hL (.sl 2 (s.map eType)) (by simp [eSchema])).sl
  have hb := hS.1
  have hF : ∀ x ∈ s, x.F.length ≤ MX := fun x hx => by
    have h1 := (hS.2 (eType x) (List.mem_map_of_mem hx)).2 (.sl 3 (x.F.map eField)) (by simp [eType])
    simpa using h1.sl.1
  simp only [List.length_map] at hb
  simp only [tmps0, Nat.reduceAdd]
  refine CW.seq ?_
  refine CW.rg ?_
  refine CWops.run htt 2 (by simp only [go_sem, simprocAttr, eSchema]; exact rfl) (by simp [go_sem, simprocAttr, eSchema]) ?_
  refine CWops.done ?_
  refine CW.seq ?_
  refine CW.seq ?_
  refine CW.rg ?_
  refine CWops.rn htt 1 ?_
  refine CWops.done ?_
  refine CW.block ?_
  refine CW.loop (S := Nat) (fun i => ⟨1, [(1, .lv 0 [] 0), (3, .int .i64 i)], [(0, ⟨true, eSchema s⟩)]⟩) (fun i => i ≤ s.length ∧ ∀ (j : Nat) (y), j < i → s[j]? = some y → typeMay s j y = true) (fun i => s.length - i) (0) ?_ ⟨Nat.zero_le _, fun j y hj => by omega⟩ (fun i ⟨h1, h2⟩ => ?_)
  · refine Sh.wk0 ?_; simp [Wk, go_sem, simprocAttr, eSchema]
  refine CW.seq ?_
  refine CW.seq ?_
  refine CW.rg ?_
  refine CWops.run htt 5 (by simp only [go_sem, simprocAttr, eSchema]; exact rfl) (by simp [go_sem, simprocAttr, eSchema]) ?_
  refine CWops.done ?_
  refine CW.cond (by simp only [go_sem, simprocAttr]; first | done | exact rfl) (fun ct13 => ?_) (fun ct13 => ?_)
  · have hi : i < s.length := by simpa using ct13
    obtain ⟨x, hx⟩ : ∃ x, s[i]? = some x := ⟨s[i], List.getElem?_eq_getElem hi⟩
    obtain ⟨sm1, sm2⟩ := hsm x (List.mem_of_getElem? hx)
    refine CW.skip ?_
    refine CW.seq ?_
    refine CW.block ?_
    refine CW.seq ?_
    refine CW.rg ?_
    refine CWops.run htt 7 (by simp only [go_sem, simprocAttr, eSchema, hx, eType]; exact rfl) (by simp [go_sem, simprocAttr, eSchema, hx, eType]) ?_
    refine CWops.done ?_
    refine CW.seq ?_
    refine CW.rg ?_
    refine CWops.run htt 2 (by simp only [go_sem, simprocAttr, eType]; exact rfl) (by simp [go_sem, simprocAttr, eType]) ?_
    refine CWops.call (ref05_May up x.Name sm1) (by simp only [go_sem, simprocAttr, eType]) (by simp only [go_sem, simprocAttr, eType]; first | done | exact rfl) (by simp only [go_sem, simprocAttr, eType]) (fun rt23 hrt23 => ?_)
    subst hrt23; refine ⟨rfl, ?_⟩
    refine CWops.run htt 1 (by simp only [go_sem, simprocAttr, eType]; exact rfl) (by simp [go_sem, simprocAttr, eType]) ?_
    refine CWops.done ?_
    refine CW.seq ?_
    refine CW.cut ⟨2, [(1, .lv 0 [] 0), (3, .int .i64 i), (4, .lv 1 [] 0), (39, .bool (!((nameMay x.Name && decide (sFind s x.Name = i)) && decide (x.F.length ≤ 5))))], [(0, ⟨true, eSchema s⟩), (1, ⟨true, eType x⟩)]⟩ ?_ ?_
    · refine CW.rg ?_
      refine CWops.run htt 3 (by simp only [go_sem, simprocAttr, eSchema, eType]; exact rfl) (by simp [go_sem, simprocAttr, eSchema, eType]) ?_
      all_goals (first | refine CWops.guard 26 (by simp only [go_sem, simprocAttr, eSchema, eType]; exact rfl) (fun g26 => ?_) (fun g26 => ?_) | skip)
      all_goals (refine CWops.run htt 3 (by simp only [go_sem, simprocAttr, eSchema, eType]; exact rfl) (by simp [go_sem, simprocAttr, eSchema, eType]) ?_)
      all_goals (first | (refine CWops.skip ?_ ?_; next => (simp only [go_sem, simprocAttr]; done)) | (refine CWops.call (ref06_Find up s x.Name) (by simp only [go_sem, simprocAttr, eSchema, eType]) (by simp only [go_sem, simprocAttr, eSchema, eType]; first | done | exact rfl) (by simp only [go_sem, simprocAttr, eSchema, eType]) (fun rt30 hrt30 => ?_); subst hrt30; refine ⟨rfl, ?_⟩))
      all_goals (refine CWops.run htt 4 (by simp only [go_sem, simprocAttr, eSchema, eType]; exact rfl) (by simp [go_sem, simprocAttr, eSchema, eType]) ?_)
      all_goals (first | refine CWops.guard 34 (by simp only [go_sem, simprocAttr, eSchema, eType]; exact rfl) (fun g34 => ?_) (fun g34 => ?_) | skip)
      all_goals (refine CWops.run htt 5 (by simp only [go_sem, simprocAttr, eSchema, eType]; exact rfl) (by simp [go_sem, simprocAttr, eSchema, eType]) ?_)
      all_goals (refine CWops.done ?_)
      all_goals (
        refine ⟨rfl, Sh.wk0 ?_⟩
        simp_all [Wk, go_sem, simprocAttr, eSchema, eType, sFind] <;> first | done | omega | rfl | (rw [Bool.eq_iff_iff]; done) | (rw [Bool.eq_iff_iff]; simp; done) | (rw [Bool.eq_iff_iff]; simp; omega))
    refine CW.cond (by simp only [go_sem, simprocAttr]; first | done | exact rfl) (fun ct39 => ?_) (fun ct39 => ?_)
    · simp only [Bool.not_eq_true'] at ct39
      refine CW.seq ?_
      refine CW.rg ?_
      refine CWops.rn htt 1 ?_
      refine CWops.done ?_
      refine CW.ret ?_
      refine retQ.ret (by simp only [f51, go_sem, simprocAttr]; exact rfl) (by simp only [go_sem, simprocAttr]; exact rfl) ?_ -- ret1
      refine ⟨_, ?_, rfl⟩
      have : schemaMay s = false := by unfold schemaMay; rw [allI_no hx (by rw [Nat.zero_add]; unfold typeMay; rw [ct39]; rfl)]; simp
      simp [leP, this]
    · simp only [Bool.not_eq_false'] at ct39
      refine CW.skip ?_
      refine CW.seq ?_
      refine CW.rg ?_
      refine CWops.rn htt 1 ?_
      refine CWops.done ?_
      refine CW.block ?_
      refine CW.loop (S := Nat) (fun k => ⟨2, [(1, .lv 0 [] 0), (3, .int .i64 i), (4, .lv 1 [] 0), (6, .int .i64 k)], [(0, ⟨true, eSchema s⟩), (1, ⟨true, eType x⟩)]⟩) (fun k => k ≤ x.F.length ∧ ∀ (j : Nat) (y), j < k → x.F[j]? = some y → (fieldMay s y && decide (fFind x.F y.Name = j)) = true) (fun k => x.F.length - k) (0) ?_ ⟨Nat.zero_le _, fun j y hj => by omega⟩ (fun k ⟨k1, k2⟩ => ?_)
      · refine Sh.wk0 ?_; simp [Wk, go_sem, simprocAttr, eSchema, eType]
      refine CW.seq ?_
      refine CW.seq ?_
      refine CW.rg ?_
      refine CWops.run htt 5 (by simp only [go_sem, simprocAttr, eType]; exact rfl) (by simp [go_sem, simprocAttr, eType]) ?_
      refine CWops.done ?_
      refine CW.cond (by simp only [go_sem, simprocAttr]; first | done | exact rfl) (fun ct44 => ?_) (fun ct44 => ?_)
      · have hk : k < x.F.length := by simpa using ct44
        obtain ⟨f, hf⟩ : ∃ f, x.F[k]? = some f := ⟨x.F[k], List.getElem?_eq_getElem hk⟩
        have sm3 := sm2 f (List.mem_of_getElem? hf)
        refine CW.skip ?_
        refine CW.seq ?_
        refine CW.block ?_
        refine CW.seq ?_
        refine CW.rg ?_
        refine CWops.run htt 7 (by simp only [go_sem, simprocAttr, eType, hf, eField]; exact rfl) (by simp [go_sem, simprocAttr, eType, hf, eField]) ?_
        refine CWops.done ?_
        refine CW.seq ?_
        refine CW.rg ?_
        refine CWops.run htt 2 (by simp only [go_sem, simprocAttr, eField]; exact rfl) (by simp [go_sem, simprocAttr, eField]) ?_
        refine CWops.call (ref05_May up f.Name sm3) (by simp only [go_sem, simprocAttr, eField]) (by simp only [go_sem, simprocAttr, eField]; first | done | exact rfl) (by simp only [go_sem, simprocAttr, eField]) (fun rt54 hrt54 => ?_)
        subst hrt54; refine ⟨rfl, ?_⟩
        refine CWops.run htt 1 (by simp only [go_sem, simprocAttr, eField]; exact rfl) (by simp [go_sem, simprocAttr, eField]) ?_
        refine CWops.done ?_
        refine CW.seq ?_
        refine CW.cut ⟨3, [(1, .lv 0 [] 0), (3, .int .i64 i), (4, .lv 1 [] 0), (6, .int .i64 k), (7, .lv 2 [] 0), (74, .bool (!((nameMay f.Name && decide (fFind x.F f.Name = k)) && (decide (0 ≤ f.Kind) && decide (f.Kind < 6)))))], [(0, ⟨true, eSchema s⟩), (1, ⟨true, eType x⟩), (2, ⟨true, eField f⟩)]⟩ ?_ ?_
        · refine CW.rg ?_
          refine CWops.run htt 3 (by simp only [go_sem, simprocAttr, eType, eField]; exact rfl) (by simp [go_sem, simprocAttr, eType, eField]) ?_
          all_goals (first | refine CWops.guard 57 (by simp only [go_sem, simprocAttr, eType, eField]; exact rfl) (fun g57 => ?_) (fun g57 => ?_) | skip)
          all_goals (refine CWops.run htt 3 (by simp only [go_sem, simprocAttr, eType, eField]; exact rfl) (by simp [go_sem, simprocAttr, eType, eField]) ?_)
          all_goals (first | (refine CWops.skip ?_ ?_; next => (simp only [go_sem, simprocAttr]; done)) | (refine CWops.call (ref06_Field up x f.Name) (by simp only [go_sem, simprocAttr, eType, eField]) (by simp only [go_sem, simprocAttr, eType, eField]; first | done | exact rfl) (by simp only [go_sem, simprocAttr, eType, eField]) (fun rt61 hrt61 => ?_); subst hrt61; refine ⟨rfl, ?_⟩))
          all_goals (refine CWops.run htt 4 (by simp only [go_sem, simprocAttr, eType, eField]; exact rfl) (by simp [go_sem, simprocAttr, eType, eField]) ?_)
          all_goals (first | refine CWops.guard 65 (by simp only [go_sem, simprocAttr, eType, eField]; exact rfl) (fun g65 => ?_) (fun g65 => ?_) | skip)
          all_goals (refine CWops.run htt 5 (by simp only [go_sem, simprocAttr, eType, eField]; exact rfl) (by simp [go_sem, simprocAttr, eType, eField]) ?_)
          all_goals (first | refine CWops.guard 70 (by simp only [go_sem, simprocAttr, eType, eField]; exact rfl) (fun g70 => ?_) (fun g70 => ?_) | skip)
          all_goals (refine CWops.run htt 4 (by simp only [go_sem, simprocAttr, eType, eField]; exact rfl) (by simp [go_sem, simprocAttr, eType, eField]) ?_)
          all_goals (refine CWops.done ?_)
          all_goals (
            refine ⟨rfl, Sh.wk0 ?_⟩
            simp_all [Wk, go_sem, simprocAttr, eSchema, eType, eField, fFind] <;> first | done | omega | rfl | (rw [Bool.eq_iff_iff]; done) | (rw [Bool.eq_iff_iff]; simp; done) | (rw [Bool.eq_iff_iff]; simp; omega))
        refine CW.cond (by simp only [go_sem, simprocAttr]; first | done | exact rfl) (fun ct74 => ?_) (fun ct74 => ?_)
        · simp only [Bool.not_eq_true'] at ct74
          refine CW.seq ?_
          refine CW.rg ?_
          refine CWops.rn htt 1 ?_
          refine CWops.done ?_
          refine CW.ret ?_
          refine retQ.ret (by simp only [f51, go_sem, simprocAttr]; exact rfl) (by simp only [go_sem, simprocAttr]; exact rfl) ?_ -- ret2
          refine ⟨_, ?_, rfl⟩
          have : schemaMay s = false := by unfold schemaMay; rw [allI_no hx (by rw [Nat.zero_add]; unfold typeMay fieldsMay; rw [allI_no hf (by rw [Nat.zero_add]; exact field_no1 ct74)]; simp)]; simp
          simp [leP, this]
        · simp only [Bool.not_eq_false'] at ct74
          refine CW.skip ?_
          refine CW.cut ⟨2, [(1, .lv 0 [] 0), (3, .int .i64 i), (4, .lv 1 [] 0), (6, .int .i64 k), (94, .bool (!(if f.Kind = 5 then decide (0 ≤ sFind s f.To) else decide (f.To = ⟨#[]⟩))))], [(0, ⟨true, eSchema s⟩), (1, ⟨true, eType x⟩)]⟩ ?_ ?_
          · refine CW.rg ?_
            refine CWops.run htt 4 (by simp only [go_sem, simprocAttr, eSchema, eField]; exact rfl) (by simp [go_sem, simprocAttr, eSchema, eField]) ?_
            all_goals (first | refine CWops.guard 78 (by simp only [go_sem, simprocAttr, eSchema, eField]; exact rfl) (fun g78 => ?_) (fun g78 => ?_) | skip)
            all_goals (refine CWops.run htt 3 (by simp only [go_sem, simprocAttr, eSchema, eField]; exact rfl) (by simp [go_sem, simprocAttr, eSchema, eField]) ?_)
            all_goals (first | (refine CWops.skip ?_ ?_; next => (simp only [go_sem, simprocAttr]; done)) | (refine CWops.call (ref06_Find up s f.To) (by simp only [go_sem, simprocAttr, eSchema, eField]) (by simp only [go_sem, simprocAttr, eSchema, eField]; first | done | exact rfl) (by simp only [go_sem, simprocAttr, eSchema, eField]) (fun rt82 hrt82 => ?_); subst hrt82; refine ⟨rfl, ?_⟩))
            all_goals (refine CWops.run htt 3 (by simp only [go_sem, simprocAttr, eSchema, eField]; exact rfl) (by simp [go_sem, simprocAttr, eSchema, eField]) ?_)
            all_goals (first | refine CWops.guard 85 (by simp only [go_sem, simprocAttr, eSchema, eField]; exact rfl) (fun g85 => ?_) (fun g85 => ?_) | skip)
            all_goals (refine CWops.run htt 4 (by simp only [go_sem, simprocAttr, eSchema, eField]; exact rfl) (by simp [go_sem, simprocAttr, eSchema, eField]) ?_)
            all_goals (first | refine CWops.guard 89 (by simp only [go_sem, simprocAttr, eSchema, eField]; exact rfl) (fun g89 => ?_) (fun g89 => ?_) | skip)
            all_goals (refine CWops.run htt 5 (by simp only [go_sem, simprocAttr, eSchema, eField]; exact rfl) (by simp [go_sem, simprocAttr, eSchema, eField]) ?_)
            all_goals (refine CWops.done ?_)
            all_goals (
              by_cases hk5 : f.Kind = 5
              · by_cases hj : sFind s f.To < 0
                · have hj2 : ¬ 0 ≤ sFind s f.To := by omega
                  clear hsm hS hF hb hl hL h2 k2; unfold sFind at hj hj2
                  have e : (if f.Kind = 5 then decide (0 ≤ sFind s f.To) else decide (f.To = ⟨#[]⟩)) = false := by rw [if_pos hk5]; unfold sFind; exact decide_eq_false hj2
                  rw [e]
                  refine ⟨rfl, Sh.wk0 ?_⟩; first | (simp [Wk, go_sem, simprocAttr, eSchema, eType]; done) | (exfalso; simp at g85; omega) | (exfalso; simp at g78; omega) | (simp_all [Wk, go_sem, simprocAttr, eSchema, eType, eField, sFind]; done) | skip
                · have hj2 : 0 ≤ sFind s f.To := by omega
                  clear hsm hS hF hb hl hL h2 k2; unfold sFind at hj hj2
                  have e : (if f.Kind = 5 then decide (0 ≤ sFind s f.To) else decide (f.To = ⟨#[]⟩)) = true := by rw [if_pos hk5]; unfold sFind; exact decide_eq_true hj2
                  rw [e]
                  refine ⟨rfl, Sh.wk0 ?_⟩; first | (simp [Wk, go_sem, simprocAttr, eSchema, eType]; done) | (exfalso; simp at g85; omega) | (exfalso; simp at g78; omega) | (simp_all [Wk, go_sem, simprocAttr, eSchema, eType, eField, sFind]; done) | skip
              · clear hsm hS hF hb hl hL h2 k2
                refine ⟨rfl, Sh.wk0 ?_⟩; first | (simp_all [Wk, go_sem, simprocAttr, eSchema, eType, eField, sFind]; done) | skip)
          refine CW.cond (by simp only [go_sem, simprocAttr]; first | done | exact rfl) (fun ct94 => ?_) (fun ct94 => ?_)
          · simp only [Bool.not_eq_true'] at ct94
            refine CW.seq ?_
            refine CW.rg ?_
            refine CWops.rn htt 1 ?_
            refine CWops.done ?_
            refine CW.ret ?_
            refine retQ.ret (by simp only [f51, go_sem, simprocAttr]; exact rfl) (by simp only [go_sem, simprocAttr]; exact rfl) ?_ -- ret3
            refine ⟨_, ?_, rfl⟩
            have : schemaMay s = false := by unfold schemaMay; rw [allI_no hx (by rw [Nat.zero_add]; unfold typeMay fieldsMay; rw [allI_no hf (by rw [Nat.zero_add]; exact field_no2 ct94)]; simp)]; simp
            simp [leP, this]
          · simp only [Bool.not_eq_false'] at ct94
            refine CW.skip ?_
            refine CW.rg ?_
            refine CWops.run htt 3 (by simp only [go_sem, simprocAttr, wrap_succ (Nat.lt_of_lt_of_le hk (hF x (List.mem_of_getElem? hx)))]; exact rfl) (by simp [go_sem, simprocAttr, wrap_succ (Nat.lt_of_lt_of_le hk (hF x (List.mem_of_getElem? hx)))]) ?_
            refine CWops.done ?_
            refine ⟨k + 1, ?_, ?_, ?_⟩
            · refine Sh.wk0 ?_; simp [Wk, go_sem, simprocAttr, eSchema, eType]
            · exact ⟨hk, belowI_succ (p := fun j y => fieldMay s y && decide (fFind x.F y.Name = j)) k2 hf (field_yes ct74 ct94)⟩
            · simp only; omega
      · have hk : k = x.F.length := by simp at ct44; omega
        refine CW.exit ?_
        refine CW.rg ?_
        refine CWops.run htt 3 (by simp only [go_sem, simprocAttr, wrap_succ (Nat.lt_of_lt_of_le hi hb)]; exact rfl) (by simp [go_sem, simprocAttr, wrap_succ (Nat.lt_of_lt_of_le hi hb)]) ?_
        refine CWops.done ?_
        refine ⟨i + 1, ?_, ?_, ?_⟩
        · refine Sh.wk0 ?_; simp [Wk, go_sem, simprocAttr, eSchema]
        · exact ⟨hi, belowI_succ h2 hx (by unfold typeMay fieldsMay; rw [ct39, belowI_all (by rw [← hk]; exact k2)]; rfl)⟩
        · simp only; omega
  · have hi : i = s.length := by simp at ct13; omega
    refine CW.exit ?_
    refine CW.seq ?_
    refine CW.rg ?_
    refine CWops.run htt 5 (by simp only [go_sem, simprocAttr, eSchema]; exact rfl) (by simp [go_sem, simprocAttr, eSchema]) ?_
    all_goals (first | refine CWops.guard 99 (by simp only [go_sem, simprocAttr, eSchema]; exact rfl) (fun g99 => ?_) (fun g99 => ?_) | skip)
    all_goals (refine CWops.run htt 6 (by simp only [go_sem, simprocAttr, eSchema]; exact rfl) (by simp [go_sem, simprocAttr, eSchema]) ?_)
    all_goals (refine CWops.done ?_)
    all_goals (
      refine CW.ret ?_
      refine retQ.ret (by simp only [f51, go_sem, simprocAttr]; exact rfl) (by simp only [go_sem, simprocAttr]; exact rfl) ?_ -- ret4
      refine ⟨_, ?_, rfl⟩
      have : schemaMay s = (decide (0 < s.length) && decide (s.length ≤ 4)) := by unfold schemaMay; rw [belowI_all (by rw [← hi]; exact h2)]; simp
      rw [this]
      clear this hsm hl
      simp_all [leP] <;> first | done | omega | rfl | (rw [Bool.eq_iff_iff]; simp; omega))
theorem ref07_Fits (up : Bool) (f : GField) (v : GVal) (hn : -9223372036854775808 ≤ v.N ∧ v.N < 9223372036854775808) : PCall prog up 87 [.agg (eField f), .agg (eVal v)] (· = .bool (valFits f v)) := by
  refine PCall.intro htt func87 (by kernel_rfl) rfl (Nat.le_of_ble_eq_true rfl) fun hl => ?_
  clear hl
  simp only [tmps0, Nat.reduceAdd]
  refine CW.seq ?_
  refine CW.rg ?_
  refine CWops.run htt 3 (by simp only [go_sem, simprocAttr, eField, eVal]; exact rfl) (by simp [go_sem, simprocAttr, eField, eVal]) ?_
  refine CWops.done ?_
  refine CW.cut ⟨2, [(2, .lv 0 [] 0), (3, .lv 1 [] 0), (5, .bool (decide (v.S = ⟨#[]⟩) && decide (v.R = 0)))], [(0, ⟨true, eField f⟩), (1, ⟨true, eVal v⟩)]⟩ ?_ ?_
  · refine CW.rg ?_
    refine CWops.run htt 4 (by simp only [go_sem, simprocAttr, eVal]; exact rfl) (by simp [go_sem, simprocAttr, eVal]) ?_
    all_goals (first | refine CWops.guard 9 (by simp only [go_sem, simprocAttr, eVal]; exact rfl) (fun g9 => ?_) (fun g9 => ?_) | skip)
    all_goals (refine CWops.run htt 5 (by simp only [go_sem, simprocAttr, eVal]; exact rfl) (by simp [go_sem, simprocAttr, eVal]) ?_)
    all_goals (refine CWops.done ?_)
    all_goals (
      refine ⟨rfl, Sh.wk0 ?_⟩
      simp_all [Wk, go_sem, simprocAttr, eField, eVal] <;> first | done | omega | rfl | (rw [Bool.eq_iff_iff]; done) | (rw [Bool.eq_iff_iff]; simp; done) | (rw [Bool.eq_iff_iff]; simp; omega))
  refine CW.seq ?_
  refine CW.seq ?_
  refine CW.rg ?_
  refine CWops.run htt 2 (by simp only [go_sem, simprocAttr, eField]; exact rfl) (by simp [go_sem, simprocAttr, eField]) ?_
  refine CWops.done ?_
  refine CW.block ?_
  refine CW.seq ?_
  refine CW.rg ?_
  refine CWops.rn htt 2 ?_
  refine CWops.done ?_
  refine CW.cond (by simp only [go_sem, simprocAttr]; first | done | exact rfl) (fun ct16 => ?_) (fun ct16 => ?_)
  · refine CW.seq ?_
    refine CW.rg ?_
    refine CWops.run htt 2 (by simp only [go_sem, simprocAttr, eVal]; exact rfl) (by simp [go_sem, simprocAttr, eVal]) ?_
    all_goals (first | refine CWops.guard 19 (by simp only [go_sem, simprocAttr, eVal]; exact rfl) (fun g19 => ?_) (fun g19 => ?_) | skip)
    all_goals (refine CWops.run htt 5 (by simp only [go_sem, simprocAttr, eVal]; exact rfl) (by simp [go_sem, simprocAttr, eVal]) ?_)
    all_goals (first | refine CWops.guard 24 (by simp only [go_sem, simprocAttr, eVal]; exact rfl) (fun g24 => ?_) (fun g24 => ?_) | skip)
    all_goals (refine CWops.run htt 5 (by simp only [go_sem, simprocAttr, eVal]; exact rfl) (by simp [go_sem, simprocAttr, eVal]) ?_)
    all_goals (refine CWops.done ?_)
    all_goals (
      refine CW.ret ?_
      refine retQ.ret (by simp only [f87, go_sem, simprocAttr]; exact rfl) (by simp only [go_sem, simprocAttr]; exact rfl) ?_ -- ret1
      refine ⟨_, ?_, rfl⟩
      simp_all [leP, valFits, numFits] <;> first | done | omega | rfl | (rw [Bool.eq_iff_iff]; simp; omega) | skip)
  · refine CW.seq ?_
    refine CW.rg ?_
    refine CWops.rn htt 2 ?_
    refine CWops.done ?_
    refine CW.cond (by simp only [go_sem, simprocAttr]; first | done | exact rfl) (fun ct29 => ?_) (fun ct29 => ?_)
    · refine CW.seq ?_
      refine CW.rg ?_
      refine CWops.run htt 2 (by simp only [go_sem, simprocAttr, eVal]; exact rfl) (by simp [go_sem, simprocAttr, eVal]) ?_
      all_goals (first | refine CWops.guard 32 (by simp only [go_sem, simprocAttr, eVal]; exact rfl) (fun g32 => ?_) (fun g32 => ?_) | skip)
      all_goals (refine CWops.run htt 5 (by simp only [go_sem, simprocAttr, eVal]; exact rfl) (by simp [go_sem, simprocAttr, eVal]) ?_)
      all_goals (first | refine CWops.guard 37 (by simp only [go_sem, simprocAttr, eVal]; exact rfl) (fun g37 => ?_) (fun g37 => ?_) | skip)
      all_goals (refine CWops.run htt 5 (by simp only [go_sem, simprocAttr, eVal]; exact rfl) (by simp [go_sem, simprocAttr, eVal]) ?_)
      all_goals (refine CWops.done ?_)
      all_goals (
        refine CW.ret ?_
        refine retQ.ret (by simp only [f87, go_sem, simprocAttr]; exact rfl) (by simp only [go_sem, simprocAttr]; exact rfl) ?_ -- ret2
        refine ⟨_, ?_, rfl⟩
        simp_all [leP, valFits, numFits] <;> first | done | omega | rfl | (rw [Bool.eq_iff_iff]; simp; omega) | skip)
    · refine CW.seq ?_
      refine CW.rg ?_
      refine CWops.rn htt 2 ?_
      refine CWops.done ?_
      refine CW.cond (by simp only [go_sem, simprocAttr]; first | done | exact rfl) (fun ct42 => ?_) (fun ct42 => ?_)
      · refine CW.seq ?_
        refine CW.rg ?_
        refine CWops.run htt 2 (by simp only [go_sem, simprocAttr, eVal]; exact rfl) (by simp [go_sem, simprocAttr, eVal]) ?_
        all_goals (first | refine CWops.guard 45 (by simp only [go_sem, simprocAttr, eVal]; exact rfl) (fun g45 => ?_) (fun g45 => ?_) | skip)
        all_goals (refine CWops.run htt 5 (by simp only [go_sem, simprocAttr, eVal]; exact rfl) (by simp [go_sem, simprocAttr, eVal]) ?_)
        all_goals (first | refine CWops.guard 50 (by simp only [go_sem, simprocAttr, eVal]; exact rfl) (fun g50 => ?_) (fun g50 => ?_) | skip)
        all_goals (refine CWops.run htt 5 (by simp only [go_sem, simprocAttr, eVal]; exact rfl) (by simp [go_sem, simprocAttr, eVal]) ?_)
        all_goals (refine CWops.done ?_)
        all_goals (
          refine CW.ret ?_
          refine retQ.ret (by simp only [f87, go_sem, simprocAttr]; exact rfl) (by simp only [go_sem, simprocAttr]; exact rfl) ?_ -- ret3
          refine ⟨_, ?_, rfl⟩
          simp_all [leP, valFits, numFits] <;> first | done | omega | rfl | (rw [Bool.eq_iff_iff]; simp; omega) | skip)
      · refine CW.seq ?_
        refine CW.rg ?_
        refine CWops.rn htt 2 ?_
        refine CWops.done ?_
        refine CW.cond (by simp only [go_sem, simprocAttr]; first | done | exact rfl) (fun ct55 => ?_) (fun ct55 => ?_)
        · refine CW.seq ?_
          refine CW.rg ?_
          refine CWops.rn htt 2 ?_
          refine CWops.done ?_
          refine CW.ret ?_
          refine retQ.ret (by simp only [f87, go_sem, simprocAttr]; exact rfl) (by simp only [go_sem, simprocAttr]; exact rfl) ?_ -- ret4
          refine ⟨_, ?_, rfl⟩
          simp_all [leP, valFits, numFits] <;> first | done | omega | rfl | (rw [Bool.eq_iff_iff]; simp; omega) | skip
        · refine CW.seq ?_
          refine CW.rg ?_
          refine CWops.rn htt 2 ?_
          refine CWops.done ?_
          refine CW.cond (by simp only [go_sem, simprocAttr]; first | done | exact rfl) (fun ct58 => ?_) (fun ct58 => ?_)
          · refine CW.seq ?_
            refine CW.rg ?_
            refine CWops.run htt 5 (by simp only [go_sem, simprocAttr, eVal]; exact rfl) (by simp [go_sem, simprocAttr, eVal]) ?_
            all_goals (first | refine CWops.guard 64 (by simp only [go_sem, simprocAttr, eVal]; exact rfl) (fun g64 => ?_) (fun g64 => ?_) | skip)
            all_goals (refine CWops.run htt 5 (by simp only [go_sem, simprocAttr, eVal]; exact rfl) (by simp [go_sem, simprocAttr, eVal]) ?_)
            all_goals (first | refine CWops.guard 69 (by simp only [go_sem, simprocAttr, eVal]; exact rfl) (fun g69 => ?_) (fun g69 => ?_) | skip)
            all_goals (refine CWops.run htt 5 (by simp only [go_sem, simprocAttr, eVal]; exact rfl) (by simp [go_sem, simprocAttr, eVal]) ?_)
            all_goals (refine CWops.done ?_)
            all_goals (
              refine CW.ret ?_
              refine retQ.ret (by simp only [f87, go_sem, simprocAttr]; exact rfl) (by simp only [go_sem, simprocAttr]; exact rfl) ?_ -- ret5
              refine ⟨_, ?_, rfl⟩
              simp_all [leP, valFits, numFits] <;> first | done | omega | rfl | (rw [Bool.eq_iff_iff]; simp; omega) | skip)
          · refine CW.seq ?_
            refine CW.rg ?_
            refine CWops.rn htt 2 ?_
            refine CWops.done ?_
            refine CW.cond (by simp only [go_sem, simprocAttr]; first | done | exact rfl) (fun ct74 => ?_) (fun ct74 => ?_)
            · refine CW.seq ?_
              refine CW.rg ?_
              refine CWops.run htt 4 (by simp only [go_sem, simprocAttr, eVal]; exact rfl) (by simp [go_sem, simprocAttr, eVal]) ?_
              all_goals (first | refine CWops.guard 79 (by simp only [go_sem, simprocAttr, eVal]; exact rfl) (fun g79 => ?_) (fun g79 => ?_) | skip)
              all_goals (refine CWops.run htt 5 (by simp only [go_sem, simprocAttr, eVal]; exact rfl) (by simp [go_sem, simprocAttr, eVal]) ?_)
              all_goals (first | refine CWops.guard 84 (by simp only [go_sem, simprocAttr, eVal]; exact rfl) (fun g84 => ?_) (fun g84 => ?_) | skip)
              all_goals (refine CWops.run htt 5 (by simp only [go_sem, simprocAttr, eVal]; exact rfl) (by simp [go_sem, simprocAttr, eVal]) ?_)
              all_goals (first | refine CWops.guard 89 (by simp only [go_sem, simprocAttr, eVal]; exact rfl) (fun g89 => ?_) (fun g89 => ?_) | skip)
              all_goals (refine CWops.run htt 5 (by simp only [go_sem, simprocAttr, eVal]; exact rfl) (by simp [go_sem, simprocAttr, eVal]) ?_)
              all_goals (refine CWops.done ?_)
              all_goals (
                refine CW.ret ?_
                refine retQ.ret (by simp only [f87, go_sem, simprocAttr]; exact rfl) (by simp only [go_sem, simprocAttr]; exact rfl) ?_ -- ret6
                refine ⟨_, ?_, rfl⟩
                simp_all [leP, valFits, numFits] <;> first | done | omega | rfl | (rw [Bool.eq_iff_iff]; simp; omega) | skip)
            · refine CW.skip ?_
              refine CW.seq ?_
              refine CW.rg ?_
              refine CWops.rn htt 1 ?_
              refine CWops.done ?_
              refine CW.ret ?_
              refine retQ.ret (by simp only [f87, go_sem, simprocAttr]; exact rfl) (by simp only [go_sem, simprocAttr]; exact rfl) ?_ -- ret7
              refine ⟨_, ?_, rfl⟩
              simp_all [leP, valFits, numFits] <;> first | done | omega | rfl | (rw [Bool.eq_iff_iff]; simp; omega) | skip
end Go.Ab
namespace Go.Ab
open Go Go.Proofs.Tryz
set_option maxRecDepth 100000
set_option linter.unusedSimpArgs false
set_option linter.unusedVariables false
set_option maxHeartbeats 1000000
theorem ref08_object (up : Bool) (g : Graph) (i : Nat) (o : GObj) (ho : g.O[i]? = some o) (hi : i < 1000000) : PCall prog up 52 [.agg (eGraph g), .int .i64 i] (· = .bool (objectR g i o)) := by
  refine PCall.intro htt func52 (by kernel_rfl) rfl (Nat.le_of_ble_eq_true rfl) fun hl => ?_
  have hpc := prev_cases g ho hi
  clear hl
  simp only [tmps0, Nat.reduceAdd]
  refine CW.seq ?_
  refine CW.rg ?_
  refine CWops.run htt 2 (by simp only [go_sem, simprocAttr, eGraph]; exact rfl) (by simp [go_sem, simprocAttr, eGraph]) ?_
  refine CWops.done ?_
  refine CW.seq ?_
  refine CW.rg ?_
  refine CWops.run htt 7 (by simp only [go_sem, simprocAttr, eGraph, ho, eObj]; exact rfl) (by simp [go_sem, simprocAttr, eGraph, ho, eObj]) ?_
  refine CWops.done ?_
  refine CW.seq ?_
  refine CW.cut ⟨2, [(2, .lv 0 [] 0), (5, .lv 1 [] 0), (48, .bool (!(((decide (0 ≤ o.Id) && decide (o.Id ≤ 1073741824)) && (decide (i = 0) || decide (prevId g.O i < o.Id))) && (decide (0 ≤ o.T) && decide (o.T < g.S.length)))))], [(0, ⟨true, eGraph g⟩), (1, ⟨true, eObj o⟩)]⟩ ?_ ?_
  · rcases hpc with ⟨hd, hz, hw, hi0⟩ | ⟨j, z, hd, hz, hw, hpv, hi0⟩
    all_goals (refine CW.drawn mixed 36 (by decide) (by kernel_rfl) (by kernel_rfl) (by kernel_rfl) ?_)
    all_goals (refine Seg.run htt 4 (by simp only [go_sem, simprocAttr, eGraph, eSchema, hd, hz, hw, eObj]; exact rfl) ?_)
    all_goals (first | refine Seg.guard 14 (by simp only [go_sem, simprocAttr, eGraph, eSchema, hd, hz, hw, eObj]; exact rfl) (fun g14 => ?_) (fun g14 => ?_) | skip)
    all_goals (try (simp only [Bool.true_eq_false, Bool.false_eq_true] at g14; done))
    all_goals (refine Seg.run htt 5 (by simp only [go_sem, simprocAttr, eGraph, eSchema, hd, hz, hw, eObj]; exact rfl) ?_)
    all_goals (first | refine Seg.guard 19 (by simp only [go_sem, simprocAttr, eGraph, eSchema, hd, hz, hw, eObj]; exact rfl) (fun g19 => ?_) (fun g19 => ?_) | skip)
    all_goals (try (simp only [Bool.true_eq_false, Bool.false_eq_true] at g19; done))
    all_goals (refine Seg.run htt 3 (by simp only [go_sem, simprocAttr, eGraph, eSchema, hd, hz, hw, eObj]; exact rfl) ?_)
    all_goals (first | refine Seg.guard 22 (by simp only [go_sem, simprocAttr, eGraph, eSchema, hd, hz, hw, eObj]; exact rfl) (fun g22 => ?_) (fun g22 => ?_) | skip)
    all_goals (try (simp only [Bool.true_eq_false, Bool.false_eq_true] at g22; done))
    all_goals (refine Seg.run htt 13 (by simp only [go_sem, simprocAttr, eGraph, eSchema, hd, hz, hw, eObj]; exact rfl) ?_)
    all_goals (first | refine Seg.guard 35 (by simp only [go_sem, simprocAttr, eGraph, eSchema, hd, hz, hw, eObj]; exact rfl) (fun g35 => ?_) (fun g35 => ?_) | skip)
    all_goals (try (simp only [Bool.true_eq_false, Bool.false_eq_true] at g35; done))
    all_goals (refine Seg.run htt 5 (by simp only [go_sem, simprocAttr, eGraph, eSchema, hd, hz, hw, eObj]; exact rfl) ?_)
    all_goals (first | refine Seg.guard 40 (by simp only [go_sem, simprocAttr, eGraph, eSchema, hd, hz, hw, eObj]; exact rfl) (fun g40 => ?_) (fun g40 => ?_) | skip)
    all_goals (try (simp only [Bool.true_eq_false, Bool.false_eq_true] at g40; done))
    all_goals (refine Seg.run htt 6 (by simp only [go_sem, simprocAttr, eGraph, eSchema, hd, hz, hw, eObj]; exact rfl) ?_)
    all_goals (refine Seg.done ?_)
    all_goals (refine CWops.run htt 2 (by simp only [go_sem, simprocAttr, eGraph, eSchema, hd, hz, hw, eObj]; exact rfl) (by simp [go_sem, simprocAttr, eGraph, eSchema, hd, hz, hw, eObj]) ?_)
    all_goals (refine CWops.done ?_)
    all_goals (
      refine ⟨rfl, Sh.wk0 ?_⟩
      clear ho hi hz hw
      simp [Wk, go_sem, simprocAttr, eGraph, eObj] <;> (simp only [decide_eq_true_eq, decide_eq_false_iff_not] at * <;> first | omega | (rw [Bool.eq_iff_iff]; simp; omega)))
  refine CW.cond (by simp only [go_sem, simprocAttr]; first | done | exact rfl) (fun ct48 => ?_) (fun ct48 => ?_)
  · simp only [Bool.not_eq_true'] at ct48
    refine CW.seq ?_
    refine CW.rg ?_
    refine CWops.rn htt 1 ?_
    refine CWops.done ?_
    refine CW.ret ?_
    refine retQ.ret (by simp only [f52, go_sem, simprocAttr]; exact rfl) (by simp only [go_sem, simprocAttr]; exact rfl) ?_ -- ret1
    refine ⟨_, ?_, rfl⟩
    have : objectR g i o = false := by
      unfold objectR
      cases e : typeAt g.S o.T with
      | none => simp
      | some t =>
        have h5 : (decide (0 ≤ o.T) && decide (o.T < g.S.length)) = true := by
          unfold typeAt at e; split at e
          · have := (List.getElem?_eq_some_iff.1 e).1; simp; omega
          · cases e
        rw [h5, Bool.and_true] at ct48; simp only; rw [ct48]; rfl
    simp [leP, this]
  · simp only [Bool.not_eq_false', Bool.and_eq_true] at ct48
    obtain ⟨hA, h3, h4⟩ := ct48
    simp only [decide_eq_true_eq] at h3 h4
    obtain ⟨oi, oT, oF⟩ := o
    simp only at h3 h4 hA
    obtain ⟨q, rfl⟩ := Int.eq_ofNat_of_zero_le h3
    obtain ⟨t, ht⟩ : ∃ t, g.S[q]? = some t := ⟨g.S[q], List.getElem?_eq_getElem (by omega)⟩
    have hT : typeAt g.S q = some t := by unfold typeAt; rw [if_pos h3]; simpa using ht
    refine CW.skip ?_
    refine CW.seq ?_
    refine CW.drawn mixed 12 (by decide) (by kernel_rfl) (by kernel_rfl) (by kernel_rfl) ?_
    refine Seg.run htt 12 (by simp only [go_sem, simprocAttr, eGraph, eSchema, ht, eType, eObj]; exact rfl) ?_
    refine Seg.done ?_
    refine CWops.run htt 2 (by simp only [go_sem, simprocAttr, eGraph, eSchema, ht, eType, eObj]; exact rfl) (by simp [go_sem, simprocAttr, eGraph, eSchema, ht, eType, eObj]) ?_
    refine CWops.done ?_
    refine CW.ret ?_
    refine retQ.ret (by simp only [f52, go_sem, simprocAttr]; exact rfl) (by simp only [go_sem, simprocAttr]; exact rfl) ?_ -- ret2
    refine ⟨_, ?_, rfl⟩
    have h6 : objectR g i ⟨oi, q, oF⟩ = decide (oF.length = t.F.length) := by unfold objectR; simp only [Bool.and_eq_true] at *; rw [hT]; simp only; rw [hA.1.1, hA.1.2, hA.2]; rfl
    rw [h6]
    simp [leP]; omega
theorem ref08_leads_none (up : Bool) (g : Graph) (f : GField) (v : GVal) (hn : -9223372036854775808 ≤ v.N ∧ v.N < 9223372036854775808) (ho : objAt g v.R = none) (hF : fnd (fun o => decide (o.Id = v.R)) g.O = -1) : PCall prog up 41 [.agg (eGraph g), .agg (eField f), .agg (eVal v)] (· = .bool (leadsR g f v)) := by
  refine PCall.intro htt func41 (by kernel_rfl) rfl (Nat.le_of_ble_eq_true rfl) fun hl => ?_

  simp only [tmps0, Nat.reduceAdd]
  refine CW.seq ?_
  refine CW.rg ?_
  refine CWops.run htt 4 (by simp only [go_sem, simprocAttr, eGraph, eField, eVal]; exact rfl) (by simp [go_sem, simprocAttr, eGraph, eField, eVal]) ?_
  refine CWops.done ?_
  refine CW.seq ?_
  refine CW.rg ?_
  refine CWops.run htt 2 (by simp only [go_sem, simprocAttr, eField, eVal]; exact rfl) (by simp [go_sem, simprocAttr, eField, eVal]) ?_
  refine CWops.call (ref07_Fits up f v hn) (by simp only [go_sem, simprocAttr, eField, eVal]) (by simp only [go_sem, simprocAttr, eField, eVal]; first | done | exact rfl) (by simp only [go_sem, simprocAttr, eField, eVal]) (fun rt11 hrt11 => ?_)
  subst hrt11; refine ⟨rfl, ?_⟩
  refine CWops.run htt 1 (by simp only [go_sem, simprocAttr, eField, eVal]; exact rfl) (by simp [go_sem, simprocAttr, eField, eVal]) ?_
  refine CWops.done ?_
  refine CW.seq ?_
  refine CW.seq ?_
  refine CW.rg ?_
  refine CWops.rn htt 2 ?_
  refine CWops.done ?_
  refine CW.cond (by simp only [go_sem, simprocAttr]; first | done | exact rfl) (fun ct13 => ?_) (fun ct13 => ?_)
  · simp only [Bool.not_eq_true'] at ct13
    refine CW.seq ?_
    refine CW.rg ?_
    refine CWops.rn htt 1 ?_
    refine CWops.done ?_
    refine CW.ret ?_
    refine retQ.ret (by simp only [f41, go_sem, simprocAttr]; exact rfl) (by simp only [go_sem, simprocAttr]; exact rfl) ?_ -- ret1
    refine ⟨_, ?_, rfl⟩
    simp [leP, leadsR, ct13]
  · simp only [Bool.not_eq_false'] at ct13
    refine CW.skip ?_
    refine CW.seq ?_
    refine CW.cut ⟨3, [(3, .lv 0 [] 0), (4, .lv 1 [] 0), (5, .lv 2 [] 0), (21, .bool (!decide (f.Kind = 5) || decide (v.R = -1)))], [(0, ⟨true, eGraph g⟩), (1, ⟨true, eField f⟩), (2, ⟨true, eVal v⟩)]⟩ ?_ ?_
    · refine CW.rg ?_
      refine CWops.run htt 4 (by simp only [go_sem, simprocAttr, eField, eVal]; exact rfl) (by simp [go_sem, simprocAttr, eField, eVal]) ?_
      all_goals (first | refine CWops.guard 17 (by simp only [go_sem, simprocAttr, eField, eVal]; exact rfl) (fun g17 => ?_) (fun g17 => ?_) | skip)
      all_goals (refine CWops.run htt 4 (by simp only [go_sem, simprocAttr, eField, eVal]; exact rfl) (by simp [go_sem, simprocAttr, eField, eVal]) ?_)
      all_goals (refine CWops.done ?_)
      all_goals (
        refine ⟨rfl, Sh.wk0 ?_⟩
        clear hl ho hF
        first | (simp_all [Wk, go_sem, simprocAttr, eGraph, eField, eVal]; done) | skip)
    refine CW.cond (by simp only [go_sem, simprocAttr]; first | done | exact rfl) (fun ct21 => ?_) (fun ct21 => ?_)
    · refine CW.seq ?_
      refine CW.rg ?_
      refine CWops.rn htt 1 ?_
      refine CWops.done ?_
      refine CW.ret ?_
      refine retQ.ret (by simp only [f41, go_sem, simprocAttr]; exact rfl) (by simp only [go_sem, simprocAttr]; exact rfl) ?_ -- ret2
      refine ⟨_, ?_, rfl⟩
      have : leadsR g f v = true := by
        unfold leadsR; rw [ct13]
        simp only [Bool.or_eq_true, Bool.not_eq_true', decide_eq_false_iff_not, decide_eq_true_eq] at ct21
        rcases ct21 with h | h <;> simp [h]
      simp [leP, this]
    · refine CW.skip ?_
      refine CW.cut ⟨3, [(3, .lv 0 [] 0), (4, .lv 1 [] 0), (5, .lv 2 [] 0), (8, .int .i64 (fnd (fun o => decide (o.Id = v.R)) g.O))], [(0, ⟨true, eGraph g⟩), (1, ⟨true, eField f⟩), (2, ⟨true, eVal v⟩)]⟩ ?_ ?_
      · refine CW.rg ?_
        refine CWops.run htt 3 (by simp only [go_sem, simprocAttr, eGraph, eVal, hF]; exact rfl) (by simp [go_sem, simprocAttr, eGraph, eVal, hF]) ?_
        refine CWops.call (ref08_Find up g v.R) (by simp only [go_sem, simprocAttr, eGraph, eVal, hF]) (by simp only [go_sem, simprocAttr, eGraph, eVal, hF]; first | done | exact rfl) (by simp only [go_sem, simprocAttr, eGraph, eVal, hF]) (fun rt25 hrt25 => ?_)
        subst hrt25; refine ⟨rfl, ?_⟩
        refine CWops.run htt 1 (by simp only [go_sem, simprocAttr, eGraph, eVal, hF]; exact rfl) (by simp [go_sem, simprocAttr, eGraph, eVal, hF]) ?_
        refine CWops.done ?_
        refine ⟨rfl, Sh.wk0 ?_⟩
        simp [Wk, go_sem, simprocAttr, eGraph, eField, eVal, hF]
      refine CW.seq ?_
      refine CW.drawn mixed 14 (by decide) (by kernel_rfl) (by kernel_rfl) (by kernel_rfl) ?_
      refine Seg.run htt 3 (by simp only [go_sem, simprocAttr, eGraph, eObj, eField, eSchema, hF]; exact rfl) ?_
      all_goals (first | refine Seg.guard 28 (by simp only [go_sem, simprocAttr, eGraph, eObj, eField, eSchema, hF]; exact rfl) (fun g28 => ?_) (fun g28 => ?_) | skip)
      all_goals (first | (exfalso; simp at g28; done) | (exfalso; simp at g28; omega) | skip)
      all_goals (refine Seg.run htt 10 (by simp only [go_sem, simprocAttr, eGraph, eObj, eField, eSchema, hF]; exact rfl) ?_)
      all_goals (first | (refine Seg.skip ?_ ?_; next => (simp only [go_sem, simprocAttr]; done)) | (refine Seg.call (ref06_Find up g.S f.To) (by simp only [go_sem, simprocAttr, eGraph, eObj, eField, eSchema, hF]) (by simp only [go_sem, simprocAttr, eGraph, eObj, eField, eSchema, hF]; first | done | exact rfl) (by simp only [go_sem, simprocAttr, eGraph, eObj, eField, eSchema, hF]) (by simp only [go_sem, simprocAttr, eGraph, eObj, eField, eSchema, hF]) rfl ?_))
      all_goals (refine Seg.done ?_)
      all_goals (refine CWops.run htt 3 (by simp only [go_sem, simprocAttr, eGraph, eObj, eField, eSchema, hF]; exact rfl) (by simp [go_sem, simprocAttr, eGraph, eObj, eField, eSchema, hF]) ?_)
      all_goals (refine CWops.done ?_)
      all_goals (
        refine CW.ret ?_
        refine retQ.ret (by simp only [f41, go_sem, simprocAttr]; exact rfl) (by simp only [go_sem, simprocAttr]; exact rfl) ?_ -- ret3
        refine ⟨_, ?_, rfl⟩
        have : leadsR g f v = false := by
          unfold leadsR; rw [ho, ct13]
          simp only [Bool.or_eq_false_iff] at ct21
          simp [ct21.1, ct21.2]
        simp [leP, this])
theorem ref08_leads_some (up : Bool) (g : Graph) (f : GField) (v : GVal) (hn : -9223372036854775808 ≤ v.N ∧ v.N < 9223372036854775808) (p : Nat) (o : GObj) (ho : objAt g v.R = some o) (hF : fnd (fun o => decide (o.Id = v.R)) g.O = p) (hp : g.O[p]? = some o) : PCall prog up 41 [.agg (eGraph g), .agg (eField f), .agg (eVal v)] (· = .bool (leadsR g f v)) := by
  refine PCall.intro htt func41 (by kernel_rfl) rfl (Nat.le_of_ble_eq_true rfl) fun hl => ?_

  simp only [tmps0, Nat.reduceAdd]
  refine CW.seq ?_
  refine CW.rg ?_
  refine CWops.run htt 4 (by simp only [go_sem, simprocAttr, eGraph, eField, eVal]; exact rfl) (by simp [go_sem, simprocAttr, eGraph, eField, eVal]) ?_
  refine CWops.done ?_
  refine CW.seq ?_
  refine CW.rg ?_
  refine CWops.run htt 2 (by simp only [go_sem, simprocAttr, eField, eVal]; exact rfl) (by simp [go_sem, simprocAttr, eField, eVal]) ?_
  refine CWops.call (ref07_Fits up f v hn) (by simp only [go_sem, simprocAttr, eField, eVal]) (by simp only [go_sem, simprocAttr, eField, eVal]; first | done | exact rfl) (by simp only [go_sem, simprocAttr, eField, eVal]) (fun rt11 hrt11 => ?_)
  subst hrt11; refine ⟨rfl, ?_⟩
  refine CWops.run htt 1 (by simp only [go_sem, simprocAttr, eField, eVal]; exact rfl) (by simp [go_sem, simprocAttr, eField, eVal]) ?_
  refine CWops.done ?_
  refine CW.seq ?_
  refine CW.seq ?_
  refine CW.rg ?_
  refine CWops.rn htt 2 ?_
  refine CWops.done ?_
  refine CW.cond (by simp only [go_sem, simprocAttr]; first | done | exact rfl) (fun ct13 => ?_) (fun ct13 => ?_)
  · simp only [Bool.not_eq_true'] at ct13
    refine CW.seq ?_
    refine CW.rg ?_
    refine CWops.rn htt 1 ?_
    refine CWops.done ?_
    refine CW.ret ?_
    refine retQ.ret (by simp only [f41, go_sem, simprocAttr]; exact rfl) (by simp only [go_sem, simprocAttr]; exact rfl) ?_ -- ret1
    refine ⟨_, ?_, rfl⟩
    simp [leP, leadsR, ct13]
  · simp only [Bool.not_eq_false'] at ct13
    refine CW.skip ?_
    refine CW.seq ?_
    refine CW.cut ⟨3, [(3, .lv 0 [] 0), (4, .lv 1 [] 0), (5, .lv 2 [] 0), (21, .bool (!decide (f.Kind = 5) || decide (v.R = -1)))], [(0, ⟨true, eGraph g⟩), (1, ⟨true, eField f⟩), (2, ⟨true, eVal v⟩)]⟩ ?_ ?_
    · refine CW.rg ?_
      refine CWops.run htt 4 (by simp only [go_sem, simprocAttr, eField, eVal]; exact rfl) (by simp [go_sem, simprocAttr, eField, eVal]) ?_
      all_goals (first | refine CWops.guard 17 (by simp only [go_sem, simprocAttr, eField, eVal]; exact rfl) (fun g17 => ?_) (fun g17 => ?_) | skip)
      all_goals (refine CWops.run htt 4 (by simp only [go_sem, simprocAttr, eField, eVal]; exact rfl) (by simp [go_sem, simprocAttr, eField, eVal]) ?_)
      all_goals (refine CWops.done ?_)
      all_goals (
        refine ⟨rfl, Sh.wk0 ?_⟩
        clear hl ho hF
        first | (simp_all [Wk, go_sem, simprocAttr, eGraph, eField, eVal]; done) | skip)
    refine CW.cond (by simp only [go_sem, simprocAttr]; first | done | exact rfl) (fun ct21 => ?_) (fun ct21 => ?_)
    · refine CW.seq ?_
      refine CW.rg ?_
      refine CWops.rn htt 1 ?_
      refine CWops.done ?_
      refine CW.ret ?_
      refine retQ.ret (by simp only [f41, go_sem, simprocAttr]; exact rfl) (by simp only [go_sem, simprocAttr]; exact rfl) ?_ -- ret2
      refine ⟨_, ?_, rfl⟩
      have : leadsR g f v = true := by
        unfold leadsR; rw [ct13]
        simp only [Bool.or_eq_true, Bool.not_eq_true', decide_eq_false_iff_not, decide_eq_true_eq] at ct21
        rcases ct21 with h | h <;> simp [h]
      simp [leP, this]
    · refine CW.skip ?_
      refine CW.cut ⟨3, [(3, .lv 0 [] 0), (4, .lv 1 [] 0), (5, .lv 2 [] 0), (8, .int .i64 (fnd (fun o => decide (o.Id = v.R)) g.O))], [(0, ⟨true, eGraph g⟩), (1, ⟨true, eField f⟩), (2, ⟨true, eVal v⟩)]⟩ ?_ ?_
      · refine CW.rg ?_
        refine CWops.run htt 3 (by simp only [go_sem, simprocAttr, eGraph, eVal, hF]; exact rfl) (by simp [go_sem, simprocAttr, eGraph, eVal, hF]) ?_
        refine CWops.call (ref08_Find up g v.R) (by simp only [go_sem, simprocAttr, eGraph, eVal, hF]) (by simp only [go_sem, simprocAttr, eGraph, eVal, hF]; first | done | exact rfl) (by simp only [go_sem, simprocAttr, eGraph, eVal, hF]) (fun rt25 hrt25 => ?_)
        subst hrt25; refine ⟨rfl, ?_⟩
        refine CWops.run htt 1 (by simp only [go_sem, simprocAttr, eGraph, eVal, hF]; exact rfl) (by simp [go_sem, simprocAttr, eGraph, eVal, hF]) ?_
        refine CWops.done ?_
        refine ⟨rfl, Sh.wk0 ?_⟩
        simp [Wk, go_sem, simprocAttr, eGraph, eField, eVal, hF]
      refine CW.seq ?_
      refine CW.drawn mixed 14 (by decide) (by kernel_rfl) (by kernel_rfl) (by kernel_rfl) ?_
      refine Seg.run htt 3 (by simp only [go_sem, simprocAttr, eGraph, eObj, eField, eSchema, hF, hp]; exact rfl) ?_
      all_goals (first | refine Seg.guard 28 (by simp only [go_sem, simprocAttr, eGraph, eObj, eField, eSchema, hF, hp]; exact rfl) (fun g28 => ?_) (fun g28 => ?_) | skip)
      all_goals (first | (exfalso; simp at g28; done) | (exfalso; simp at g28; omega) | skip)
      all_goals (refine Seg.run htt 10 (by simp only [go_sem, simprocAttr, eGraph, eObj, eField, eSchema, hF, hp]; exact rfl) ?_)
      all_goals (first | (refine Seg.skip ?_ ?_; next => (simp only [go_sem, simprocAttr]; done)) | (refine Seg.call (ref06_Find up g.S f.To) (by simp only [go_sem, simprocAttr, eGraph, eObj, eField, eSchema, hF, hp]) (by simp only [go_sem, simprocAttr, eGraph, eObj, eField, eSchema, hF, hp]; first | done | exact rfl) (by simp only [go_sem, simprocAttr, eGraph, eObj, eField, eSchema, hF, hp]) (by simp only [go_sem, simprocAttr, eGraph, eObj, eField, eSchema, hF, hp]) rfl ?_))
      all_goals (refine Seg.done ?_)
      all_goals (refine CWops.run htt 3 (by simp only [go_sem, simprocAttr, eGraph, eObj, eField, eSchema, hF, hp]; exact rfl) (by simp [go_sem, simprocAttr, eGraph, eObj, eField, eSchema, hF, hp]) ?_)
      all_goals (refine CWops.done ?_)
      all_goals (
        refine CW.ret ?_
        refine retQ.ret (by simp only [f41, go_sem, simprocAttr]; exact rfl) (by simp only [go_sem, simprocAttr]; exact rfl) ?_ -- ret3
        refine ⟨_, ?_, rfl⟩
        have : leadsR g f v = decide (o.T = sFind g.S f.To) := by
          unfold leadsR; rw [ho, ct13]
          simp only [Bool.or_eq_false_iff] at ct21
          simp [ct21.1, ct21.2]
        rw [this]
        simp [leP, sFind] <;> first | done | rfl | congr)
theorem ref08_leads (up : Bool) (g : Graph) (f : GField) (v : GVal) (hn : -9223372036854775808 ≤ v.N ∧ v.N < 9223372036854775808) : PCall prog up 41 [.agg (eGraph g), .agg (eField f), .agg (eVal v)] (· = .bool (leadsR g f v)) := by
  rcases obj_cases g v.R with ⟨h1, h2⟩ | ⟨p, o, h1, h2, h3⟩
  · exact ref08_leads_none up g f v hn h1 h2
  · exact ref08_leads_some up g f v hn p o h1 h2 h3
theorem ref08_May (up : Bool) (g : Graph) (hsm : smallS g.S) (hN : ∀ o ∈ g.O, ∀ v ∈ o.F, -9223372036854775808 ≤ v.N ∧ v.N < 9223372036854775808) : PCall prog up 19 [.agg (eGraph g)] (· = .bool (gMay g)) := by
  refine PCall.intro htt func19 (by kernel_rfl) rfl (Nat.le_of_ble_eq_true rfl) fun hl => ?_
  rw [← rMay_eq]
  have hL := (hl (.agg (eGraph g)) (by simp)).agg
  have hb := (hL (.sl 3 (g.O.map eObj)) (by simp [eGraph])).sl
  have hF : ∀ x ∈ g.O, x.F.length ≤ MX := fun x hx => by
    have h1 := (hb.2 (eObj x) (List.mem_map_of_mem hx)).2 (.sl 3 (x.F.map eVal)) (by simp [eObj])
    simpa using h1.sl.1
  clear hb hL hl
  simp only [tmps0, Nat.reduceAdd]
  refine CW.seq ?_
  refine CW.rg ?_
  refine CWops.run htt 2 (by simp only [go_sem, simprocAttr, eGraph]; exact rfl) (by simp [go_sem, simprocAttr, eGraph]) ?_
  refine CWops.done ?_
  refine CW.seq ?_
  refine CW.rg ?_
  refine CWops.run htt 2 (by simp only [go_sem, simprocAttr, eGraph, eSchema]; exact rfl) (by simp [go_sem, simprocAttr, eGraph, eSchema]) ?_
  refine CWops.call (ref06_May up g.S hsm) (by simp only [go_sem, simprocAttr, eGraph, eSchema]) (by simp only [go_sem, simprocAttr, eGraph, eSchema]; first | done | exact rfl) (by simp only [go_sem, simprocAttr, eGraph, eSchema]) (fun rt12 hrt12 => ?_)
  subst hrt12; refine ⟨rfl, ?_⟩
  refine CWops.run htt 1 (by simp only [go_sem, simprocAttr, eGraph, eSchema]; exact rfl) (by simp [go_sem, simprocAttr, eGraph, eSchema]) ?_
  refine CWops.done ?_
  refine CW.seq ?_
  refine CW.cut ⟨1, [(1, .lv 0 [] 0), (26, .bool (!((schemaMay g.S && decide (g.O.length ≤ 8)) && decide (g.Roots.length ≤ 3))))], [(0, ⟨true, eGraph g⟩)]⟩ ?_ ?_
  · refine CW.rg ?_
    refine CWops.run htt 3 (by simp only [go_sem, simprocAttr, eGraph]; exact rfl) (by simp [go_sem, simprocAttr, eGraph]) ?_
    all_goals (first | refine CWops.guard 15 (by simp only [go_sem, simprocAttr, eGraph]; exact rfl) (fun g15 => ?_) (fun g15 => ?_) | skip)
    all_goals (refine CWops.run htt 6 (by simp only [go_sem, simprocAttr, eGraph]; exact rfl) (by simp [go_sem, simprocAttr, eGraph]) ?_)
    all_goals (first | refine CWops.guard 21 (by simp only [go_sem, simprocAttr, eGraph]; exact rfl) (fun g21 => ?_) (fun g21 => ?_) | skip)
    all_goals (refine CWops.run htt 5 (by simp only [go_sem, simprocAttr, eGraph]; exact rfl) (by simp [go_sem, simprocAttr, eGraph]) ?_)
    all_goals (refine CWops.done ?_)
    all_goals (
      refine ⟨rfl, Sh.wk0 ?_⟩
      simp_all [Wk, go_sem, simprocAttr, eGraph] <;> first | done | omega | rfl | (rw [Bool.eq_iff_iff]; done) | (rw [Bool.eq_iff_iff]; simp; done) | (rw [Bool.eq_iff_iff]; simp; omega))
  refine CW.cond (by simp only [go_sem, simprocAttr]; first | done | exact rfl) (fun ct26 => ?_) (fun ct26 => ?_)
  · simp only [Bool.not_eq_true'] at ct26
    refine CW.seq ?_
    refine CW.rg ?_
    refine CWops.rn htt 1 ?_
    refine CWops.done ?_
    refine CW.ret ?_
    refine retQ.ret (by simp only [f19, go_sem, simprocAttr]; exact rfl) (by simp only [go_sem, simprocAttr]; exact rfl) ?_ -- ret1
    refine ⟨_, ?_, rfl⟩
    have : rMay g = false := by unfold rMay; rw [ct26]; rfl
    simp [leP, this]
  · simp only [Bool.not_eq_false'] at ct26
    have h8 : g.O.length ≤ 8 := by simp only [Bool.and_eq_true, decide_eq_true_eq] at ct26; exact ct26.1.2
    have h3 : g.Roots.length ≤ 3 := by simp only [Bool.and_eq_true, decide_eq_true_eq] at ct26; exact ct26.2
    refine CW.skip ?_
    refine CW.seq ?_
    refine CW.seq ?_
    refine CW.rg ?_
    refine CWops.rn htt 1 ?_
    refine CWops.done ?_
    refine CW.block ?_
    refine CW.loop (S := Nat) (fun i => ⟨1, [(1, .lv 0 [] 0), (4, .int .i64 i)], [(0, ⟨true, eGraph g⟩)]⟩) (fun i => i ≤ g.O.length ∧ ∀ (j : Nat) (y), j < i → g.O[j]? = some y → objectR g j y = true) (fun i => g.O.length - i) (0) ?_ ⟨Nat.zero_le _, fun j y hj => by omega⟩ (fun i ⟨h1, h2⟩ => ?_)
    · refine Sh.wk0 ?_; simp [Wk, go_sem, simprocAttr, eGraph]
    refine CW.seq ?_
    refine CW.seq ?_
    refine CW.rg ?_
    refine CWops.run htt 5 (by simp only [go_sem, simprocAttr, eGraph]; exact rfl) (by simp [go_sem, simprocAttr, eGraph]) ?_
    refine CWops.done ?_
    refine CW.cond (by simp only [go_sem, simprocAttr]; first | done | exact rfl) (fun ct31 => ?_) (fun ct31 => ?_)
    · have hi : i < g.O.length := by simpa using ct31
      obtain ⟨x, hx⟩ : ∃ x, g.O[i]? = some x := ⟨g.O[i], List.getElem?_eq_getElem hi⟩
      refine CW.skip ?_
      refine CW.seq ?_
      refine CW.block ?_
      refine CW.seq ?_
      refine CW.rg ?_
      refine CWops.run htt 2 (by simp only [go_sem, simprocAttr, eGraph]; exact rfl) (by simp [go_sem, simprocAttr, eGraph]) ?_
      refine CWops.call (ref08_object up g i x hx (by omega)) (by simp only [go_sem, simprocAttr, eGraph]) (by simp only [go_sem, simprocAttr, eGraph]; first | done | exact rfl) (by simp only [go_sem, simprocAttr, eGraph]) (fun rt36 hrt36 => ?_)
      subst hrt36; refine ⟨rfl, ?_⟩
      refine CWops.run htt 1 (by simp only [go_sem, simprocAttr, eGraph]; exact rfl) (by simp [go_sem, simprocAttr, eGraph]) ?_
      refine CWops.done ?_
      refine CW.seq ?_
      refine CW.rg ?_
      refine CWops.rn htt 2 ?_
      refine CWops.done ?_
      refine CW.cond (by simp only [go_sem, simprocAttr]; first | done | exact rfl) (fun ct38 => ?_) (fun ct38 => ?_)
      · simp only [Bool.not_eq_true'] at ct38
        refine CW.seq ?_
        refine CW.rg ?_
        refine CWops.rn htt 1 ?_
        refine CWops.done ?_
        refine CW.ret ?_
        refine retQ.ret (by simp only [f19, go_sem, simprocAttr]; exact rfl) (by simp only [go_sem, simprocAttr]; exact rfl) ?_ -- ret2
        refine ⟨_, ?_, rfl⟩
        have : rMay g = false := by unfold rMay; rw [allI_no hx (by rw [Nat.zero_add]; exact ct38)]; simp
        simp [leP, this]
      · simp only [Bool.not_eq_false'] at ct38
        refine CW.skip ?_
        refine CW.rg ?_
        refine CWops.run htt 3 (by simp only [go_sem, simprocAttr, wrap_succ (show i < MX by unfold MX; omega)]; exact rfl) (by simp [go_sem, simprocAttr, wrap_succ (show i < MX by unfold MX; omega)]) ?_
        refine CWops.done ?_
        refine ⟨i + 1, ?_, ?_, ?_⟩
        · refine Sh.wk0 ?_; simp [Wk, go_sem, simprocAttr, eGraph]
        · exact ⟨hi, belowI_succ (p := objectR g) h2 hx ct38⟩
        · simp only; omega
    · have hi : i = g.O.length := by simp at ct31; omega
      have hA : allI (objectR g) 0 g.O = true := belowI_all (by rw [← hi]; exact h2)
      refine CW.exit ?_
      refine CW.seq ?_
      refine CW.seq ?_
      refine CW.rg ?_
      refine CWops.rn htt 1 ?_
      refine CWops.done ?_
      refine CW.block ?_
      refine CW.loop (S := Nat) (fun i => ⟨1, [(1, .lv 0 [] 0), (6, .int .i64 i)], [(0, ⟨true, eGraph g⟩)]⟩) (fun i => i ≤ g.O.length ∧ ∀ (j : Nat) (y), j < i → g.O[j]? = some y → leadsO g j y = true) (fun i => g.O.length - i) (0) ?_ ⟨Nat.zero_le _, fun j y hj => by omega⟩ (fun i ⟨h1, h2⟩ => ?_)
      · refine Sh.wk0 ?_; simp [Wk, go_sem, simprocAttr, eGraph]
      refine CW.seq ?_
      refine CW.seq ?_
      refine CW.rg ?_
      refine CWops.run htt 5 (by simp only [go_sem, simprocAttr, eGraph]; exact rfl) (by simp [go_sem, simprocAttr, eGraph]) ?_
      refine CWops.done ?_
      refine CW.cond (by simp only [go_sem, simprocAttr]; first | done | exact rfl) (fun ct43 => ?_) (fun ct43 => ?_)
      · have hi : i < g.O.length := by simpa using ct43
        obtain ⟨⟨oi, oT, oF⟩, hp⟩ : ∃ x, g.O[i]? = some x := ⟨g.O[i], List.getElem?_eq_getElem hi⟩
        have hob := allI_at hA hp
        unfold objectR at hob
        simp only [Bool.and_eq_true] at hob
        obtain ⟨t, hT⟩ : ∃ t, typeAt g.S oT = some t := by
          cases e : typeAt g.S oT with
          | none => rw [e] at hob; cases hob.2
          | some t => exact ⟨t, rfl⟩
        have h0 : 0 ≤ oT := by
          unfold typeAt at hT; split at hT
          · assumption
          · cases hT
        obtain ⟨q, rfl⟩ := Int.eq_ofNat_of_zero_le h0
        have ht : g.S[q]? = some t := by unfold typeAt at hT; rw [if_pos h0] at hT; simpa using hT
        have hlen : oF.length = t.F.length := by have := hob.2; rw [hT] at this; simpa using this
        refine CW.skip ?_
        refine CW.seq ?_
        refine CW.block ?_
        refine CW.seq ?_
        refine CW.rg ?_
        refine CWops.rn htt 1 ?_
        refine CWops.done ?_
        refine CW.block ?_
        refine CW.loop (S := Nat) (fun k => ⟨1, [(1, .lv 0 [] 0), (6, .int .i64 i), (7, .int .i64 k)], [(0, ⟨true, eGraph g⟩)]⟩) (fun k => k ≤ oF.length ∧ ∀ (j : Nat) (y), j < k → oF[j]? = some y → leadsAtR g t.F j y = true) (fun k => oF.length - k) (0) ?_ ⟨Nat.zero_le _, fun j y hj => by omega⟩ (fun k ⟨k1, k2⟩ => ?_)
        · refine Sh.wk0 ?_; simp [Wk, go_sem, simprocAttr, eGraph]
        refine CW.seq ?_
        refine CW.seq ?_
        refine CW.rg ?_
        refine CWops.run htt 9 (by simp only [go_sem, simprocAttr, eGraph, hp, eObj]; exact rfl) (by simp [go_sem, simprocAttr, eGraph, hp, eObj]) ?_
        refine CWops.done ?_
        refine CW.cond (by simp only [go_sem, simprocAttr]; first | done | exact rfl) (fun ct54 => ?_) (fun ct54 => ?_)
        · have hk : k < oF.length := by simpa using ct54
          obtain ⟨v, hv⟩ : ∃ v, oF[k]? = some v := ⟨oF[k], List.getElem?_eq_getElem hk⟩
          obtain ⟨f, hf⟩ : ∃ f, t.F[k]? = some f := ⟨t.F[k], List.getElem?_eq_getElem (by omega)⟩
          refine CW.skip ?_
          refine CW.seq ?_
          refine CW.block ?_
          refine CW.seq ?_
          refine CW.drawn mixed 25 (by decide) (by kernel_rfl) (by kernel_rfl) (by kernel_rfl) ?_
          refine Seg.run htt 25 (by simp only [go_sem, simprocAttr, eGraph, eSchema, hp, eObj, ht, eType, hf, eField, hv, eVal]; exact rfl) ?_
          refine Seg.done ?_
          refine CWops.call (ref08_leads up g f v (hN _ (List.mem_of_getElem? hp) v (List.mem_of_getElem? hv))) (by simp only [go_sem, simprocAttr, eGraph, eSchema, hp, eObj, ht, eType, hf, eField, hv, eVal]) (by simp only [go_sem, simprocAttr, eGraph, eSchema, hp, eObj, ht, eType, hf, eField, hv, eVal]; first | done | exact rfl) (by simp only [go_sem, simprocAttr, eGraph, eSchema, hp, eObj, ht, eType, hf, eField, hv, eVal]) (fun rt82 hrt82 => ?_)
          subst hrt82; refine ⟨rfl, ?_⟩
          refine CWops.run htt 1 (by simp only [go_sem, simprocAttr, eGraph, eSchema, hp, eObj, ht, eType, hf, eField, hv, eVal]; exact rfl) (by simp [go_sem, simprocAttr, eGraph, eSchema, hp, eObj, ht, eType, hf, eField, hv, eVal]) ?_
          refine CWops.done ?_
          refine CW.seq ?_
          refine CW.rg ?_
          refine CWops.rn htt 2 ?_
          refine CWops.done ?_
          refine CW.cond (by simp only [go_sem, simprocAttr]; first | done | exact rfl) (fun ct84 => ?_) (fun ct84 => ?_)
          · simp only [Bool.not_eq_true'] at ct84
            refine CW.seq ?_
            refine CW.rg ?_
            refine CWops.rn htt 1 ?_
            refine CWops.done ?_
            refine CW.ret ?_
            refine retQ.ret (by simp only [f19, go_sem, simprocAttr]; exact rfl) (by simp only [go_sem, simprocAttr]; exact rfl) ?_ -- ret3
            refine ⟨_, ?_, rfl⟩
            have : rMay g = false := by unfold rMay; rw [allI_no (p := leadsO g) hp (by rw [Nat.zero_add]; unfold leadsO; rw [hT]; exact allI_no hv (by rw [Nat.zero_add]; unfold leadsAtR; rw [hf]; exact ct84))]; simp
            simp [leP, this]
          · simp only [Bool.not_eq_false'] at ct84
            refine CW.skip ?_
            refine CW.rg ?_
            refine CWops.run htt 3 (by simp only [go_sem, simprocAttr, wrap_succ (Nat.lt_of_lt_of_le hk (hF _ (List.mem_of_getElem? hp)))]; exact rfl) (by simp [go_sem, simprocAttr, wrap_succ (Nat.lt_of_lt_of_le hk (hF _ (List.mem_of_getElem? hp)))]) ?_
            refine CWops.done ?_
            refine ⟨k + 1, ?_, ?_, ?_⟩
            · refine Sh.wk0 ?_; simp [Wk, go_sem, simprocAttr, eGraph]
            · exact ⟨hk, belowI_succ (p := leadsAtR g t.F) k2 hv (by unfold leadsAtR; rw [hf]; exact ct84)⟩
            · simp only; omega
        · have hk : k = oF.length := by simp at ct54; omega
          refine CW.exit ?_
          refine CW.rg ?_
          refine CWops.run htt 3 (by simp only [go_sem, simprocAttr, wrap_succ (show i < MX by unfold MX; omega)]; exact rfl) (by simp [go_sem, simprocAttr, wrap_succ (show i < MX by unfold MX; omega)]) ?_
          refine CWops.done ?_
          refine ⟨i + 1, ?_, ?_, ?_⟩
          · refine Sh.wk0 ?_; simp [Wk, go_sem, simprocAttr, eGraph]
          · exact ⟨hi, belowI_succ (p := leadsO g) h2 hp (by unfold leadsO; rw [hT]; exact belowI_all (by rw [← hk]; exact k2))⟩
          · simp only; omega
      · have hi : i = g.O.length := by simp at ct43; omega
        have hB : allI (leadsO g) 0 g.O = true := belowI_all (by rw [← hi]; exact h2)
        refine CW.exit ?_
        refine CW.seq ?_
        refine CW.seq ?_
        refine CW.rg ?_
        refine CWops.rn htt 1 ?_
        refine CWops.done ?_
        refine CW.block ?_
        refine CW.loop (S := Nat) (fun i => ⟨1, [(1, .lv 0 [] 0), (9, .int .i64 i)], [(0, ⟨true, eGraph g⟩)]⟩) (fun i => i ≤ g.Roots.length ∧ ∀ (j : Nat) (y), j < i → g.Roots[j]? = some y → rootR g y = true) (fun i => g.Roots.length - i) (0) ?_ ⟨Nat.zero_le _, fun j y hj => by omega⟩ (fun i ⟨h1, h2⟩ => ?_)
        · refine Sh.wk0 ?_; simp [Wk, go_sem, simprocAttr, eGraph]
        refine CW.seq ?_
        refine CW.seq ?_
        refine CW.rg ?_
        refine CWops.run htt 5 (by simp only [go_sem, simprocAttr, eGraph]; exact rfl) (by simp [go_sem, simprocAttr, eGraph]) ?_
        refine CWops.done ?_
        refine CW.cond (by simp only [go_sem, simprocAttr]; first | done | exact rfl) (fun ct89 => ?_) (fun ct89 => ?_)
        · have hi : i < g.Roots.length := by simpa using ct89
          obtain ⟨x, hx⟩ : ∃ x, g.Roots[i]? = some x := ⟨g.Roots[i], List.getElem?_eq_getElem hi⟩
          refine CW.skip ?_
          refine CW.seq ?_
          refine CW.block ?_
          refine CW.cut ⟨1, [(1, .lv 0 [] 0), (9, .int .i64 i), (107, .bool (!rootR g x))], [(0, ⟨true, eGraph g⟩)]⟩ ?_ ?_
          · rcases obj_cases g x with ⟨hO2, hFF⟩ | ⟨p, o, hO2, hFF, hp⟩
            all_goals (refine CW.drawn mixed 13 (by decide) (by kernel_rfl) (by kernel_rfl) (by kernel_rfl) ?_)
            all_goals (refine Seg.run htt 7 (by simp only [go_sem, simprocAttr, eGraph, hx, eI, hFF]; exact rfl) ?_)
            all_goals (first | refine Seg.guard 98 (by simp only [go_sem, simprocAttr, eGraph, hx, eI, hFF]; exact rfl) (fun g98 => ?_) (fun g98 => ?_) | skip)
            all_goals (skip)
            all_goals (refine Seg.run htt 6 (by simp only [go_sem, simprocAttr, eGraph, hx, eI, hFF]; exact rfl) ?_)
            all_goals (refine Seg.done ?_)
            all_goals (first | (refine CWops.skip ?_ ?_; next => (simp only [go_sem, simprocAttr]; done)) | (refine CWops.call (ref08_Find up g x) (by simp only [go_sem, simprocAttr, eGraph, hx, eI, hFF]) (by simp only [go_sem, simprocAttr, eGraph, hx, eI, hFF]; first | done | exact rfl) (by simp only [go_sem, simprocAttr, eGraph, hx, eI, hFF]) (fun rt105 hrt105 => ?_); subst hrt105; refine ⟨rfl, ?_⟩))
            all_goals (refine CWops.run htt 2 (by simp only [go_sem, simprocAttr, eGraph, hx, eI, hFF]; exact rfl) (by simp [go_sem, simprocAttr, eGraph, hx, eI, hFF]) ?_)
            all_goals (refine CWops.done ?_)
            all_goals (
              refine ⟨rfl, Sh.wk0 ?_⟩
              clear hN hsm ct26 hA hB h2 hF
              first | (simp [Wk, go_sem, simprocAttr, eGraph, rootR, hO2]; done) | (simp at g98; simp [Wk, go_sem, simprocAttr, eGraph, rootR, hO2, g98]; done) | (simp_all [Wk, go_sem, simprocAttr, eGraph, rootR]; done) | skip)
          refine CW.cond (by simp only [go_sem, simprocAttr]; first | done | exact rfl) (fun ct107 => ?_) (fun ct107 => ?_)
          · simp only [Bool.not_eq_true'] at ct107
            refine CW.seq ?_
            refine CW.rg ?_
            refine CWops.rn htt 1 ?_
            refine CWops.done ?_
            refine CW.ret ?_
            refine retQ.ret (by simp only [f19, go_sem, simprocAttr]; exact rfl) (by simp only [go_sem, simprocAttr]; exact rfl) ?_ -- ret4
            refine ⟨_, ?_, rfl⟩
            have : rMay g = false := by unfold rMay; rw [allI_no (p := fun _ r => rootR g r) hx ct107]; simp
            simp [leP, this]
          · simp only [Bool.not_eq_false'] at ct107
            refine CW.skip ?_
            refine CW.rg ?_
            refine CWops.run htt 3 (by simp only [go_sem, simprocAttr, wrap_succ (show i < MX by unfold MX; omega)]; exact rfl) (by simp [go_sem, simprocAttr, wrap_succ (show i < MX by unfold MX; omega)]) ?_
            refine CWops.done ?_
            refine ⟨i + 1, ?_, ?_, ?_⟩
            · refine Sh.wk0 ?_; simp [Wk, go_sem, simprocAttr, eGraph]
            · exact ⟨hi, belowI_succ (p := fun _ r => rootR g r) h2 hx ct107⟩
            · simp only; omega
        · have hi : i = g.Roots.length := by simp at ct89; omega
          refine CW.exit ?_
          refine CW.seq ?_
          refine CW.rg ?_
          refine CWops.rn htt 1 ?_
          refine CWops.done ?_
          refine CW.ret ?_
          refine retQ.ret (by simp only [f19, go_sem, simprocAttr]; exact rfl) (by simp only [go_sem, simprocAttr]; exact rfl) ?_ -- ret5
          refine ⟨_, ?_, rfl⟩
          have : rMay g = true := by unfold rMay; rw [ct26, hA, hB, belowI_all (p := fun _ r => rootR g r) (by rw [← hi]; exact h2)]; rfl
          simp [leP, this]
theorem ref08_objects (up : Bool) (a b : GObj) : PCall prog up 43 [.agg (eObj a), .agg (eObj b)] (· = .bool (decide (a = b))) := by
  refine PCall.intro htt func43 (by kernel_rfl) rfl (Nat.le_of_ble_eq_true rfl) fun hl => ?_
  have hL := (hl (.agg (eObj a)) (by simp)).agg
  have hba := (hL (.sl 3 (a.F.map eVal)) (by simp [eObj])).sl.1
  simp only [List.length_map] at hba
  clear hl hL
  simp only [tmps0, Nat.reduceAdd]
  refine CW.seq ?_
  refine CW.rg ?_
  refine CWops.run htt 3 (by simp only [go_sem, simprocAttr, eObj]; exact rfl) (by simp [go_sem, simprocAttr, eObj]) ?_
  refine CWops.done ?_
  refine CW.seq ?_
  refine CW.cut ⟨2, [(2, .lv 0 [] 0), (3, .lv 1 [] 0), (26, .bool (!((decide (a.Id = b.Id) && decide (a.T = b.T)) && decide (a.F.length = b.F.length))))], [(0, ⟨true, eObj a⟩), (1, ⟨true, eObj b⟩)]⟩ ?_ ?_
  · refine CW.rg ?_
    refine CWops.run htt 6 (by simp only [go_sem, simprocAttr, eObj]; exact rfl) (by simp [go_sem, simprocAttr, eObj]) ?_
    all_goals (first | refine CWops.guard 11 (by simp only [go_sem, simprocAttr, eObj]; exact rfl) (fun g11 => ?_) (fun g11 => ?_) | skip)
    all_goals (refine CWops.run htt 7 (by simp only [go_sem, simprocAttr, eObj]; exact rfl) (by simp [go_sem, simprocAttr, eObj]) ?_)
    all_goals (first | refine CWops.guard 18 (by simp only [go_sem, simprocAttr, eObj]; exact rfl) (fun g18 => ?_) (fun g18 => ?_) | skip)
    all_goals (refine CWops.run htt 8 (by simp only [go_sem, simprocAttr, eObj]; exact rfl) (by simp [go_sem, simprocAttr, eObj]) ?_)
    all_goals (refine CWops.done ?_)
    all_goals (
      refine ⟨rfl, Sh.wk0 ?_⟩
      simp_all [Wk, go_sem, simprocAttr, eObj] <;> first | done | omega | rfl | (rw [Bool.eq_iff_iff]; done) | (rw [Bool.eq_iff_iff]; simp; done) | (rw [Bool.eq_iff_iff]; simp; omega))
  refine CW.cond (by simp only [go_sem, simprocAttr]; first | done | exact rfl) (fun ct26 => ?_) (fun ct26 => ?_)
  · have hne : a ≠ b := by
      intro e; subst e; simp at ct26
    refine CW.seq ?_
    refine CW.rg ?_
    refine CWops.rn htt 1 ?_
    refine CWops.done ?_
    refine CW.ret ?_
    refine retQ.ret (by simp only [f43, go_sem, simprocAttr]; exact rfl) (by simp only [go_sem, simprocAttr]; exact rfl) ?_ -- ret1
    refine ⟨_, ?_, rfl⟩
    simp [leP, hne]
  · simp only [Bool.not_eq_false', Bool.and_eq_true, decide_eq_true_eq] at ct26
    obtain ⟨⟨hid, hT⟩, heq⟩ := ct26
    refine CW.skip ?_
    refine CW.seq ?_
    refine CW.seq ?_
    refine CW.rg ?_
    refine CWops.rn htt 1 ?_
    refine CWops.done ?_
    refine CW.block ?_
    refine CW.loop (S := Nat) (fun i => ⟨2, [(2, .lv 0 [] 0), (3, .lv 1 [] 0), (5, .int .i64 i)], [(0, ⟨true, eObj a⟩), (1, ⟨true, eObj b⟩)]⟩) (fun i => i ≤ a.F.length ∧ a.F.take i = b.F.take i) (fun i => a.F.length - i) (0) ?_ ⟨Nat.zero_le _, rfl⟩ (fun i ⟨h1, h2⟩ => ?_)
    · refine Sh.wk0 ?_; simp [Wk, go_sem, simprocAttr, eObj]
    refine CW.seq ?_
    refine CW.seq ?_
    refine CW.rg ?_
    refine CWops.run htt 5 (by simp only [go_sem, simprocAttr, eObj]; exact rfl) (by simp [go_sem, simprocAttr, eObj]) ?_
    refine CWops.done ?_
    refine CW.cond (by simp only [go_sem, simprocAttr]; first | done | exact rfl) (fun ct31 => ?_) (fun ct31 => ?_)
    · have hi : i < a.F.length := by simpa using ct31
      obtain ⟨x, e1⟩ : ∃ x, a.F[i]? = some x := ⟨a.F[i], List.getElem?_eq_getElem hi⟩
      obtain ⟨y, e2⟩ : ∃ y, b.F[i]? = some y := ⟨b.F[i], List.getElem?_eq_getElem (by omega)⟩
      refine CW.skip ?_
      refine CW.seq ?_
      refine CW.block ?_
      refine CW.seq ?_
      refine CW.drawn mixed 10 (by decide) (by kernel_rfl) (by kernel_rfl) (by kernel_rfl) ?_
      refine Seg.run htt 10 (by simp only [go_sem, simprocAttr, eObj, e1, e2, eVal]; exact rfl) ?_
      refine Seg.done ?_
      refine CWops.run htt 1 (by simp only [go_sem, simprocAttr, eObj, e1, e2, eVal]; exact rfl) (by simp [go_sem, simprocAttr, eObj, e1, e2, eVal]) ?_
      refine CWops.done ?_
      refine CW.cond (by simp only [go_sem, simprocAttr]; first | done | exact rfl) (fun ct44 => ?_) (fun ct44 => ?_)
      · have hp : x ≠ y := by
          intro e; subst e; simp at ct44
        refine CW.seq ?_
        refine CW.rg ?_
        refine CWops.rn htt 1 ?_
        refine CWops.done ?_
        refine CW.ret ?_
        refine retQ.ret (by simp only [f43, go_sem, simprocAttr]; exact rfl) (by simp only [go_sem, simprocAttr]; exact rfl) ?_ -- ret2
        refine ⟨_, ?_, rfl⟩
        have : ¬ a = b := fun e => hp (by rw [e, e2] at e1; cases e1; rfl)
        simp [leP, this]
      · have hp : x = y := by
          simp at ct44
          first | exact ct44 | simpa [GVal.ext_iff'] using ct44
        subst hp
        refine CW.skip ?_
        refine CW.rg ?_
        refine CWops.run htt 3 (by simp only [go_sem, simprocAttr, wrap_succ (Nat.lt_of_lt_of_le hi hba)]; exact rfl) (by simp [go_sem, simprocAttr, wrap_succ (Nat.lt_of_lt_of_le hi hba)]) ?_
        refine CWops.done ?_
        refine ⟨i + 1, ?_, ?_, ?_⟩
        · refine Sh.wk0 ?_; simp [Wk, go_sem, simprocAttr, eObj]
        · exact ⟨hi, take_same h2 e1 e2⟩
        · simp only; omega
    · have hi : i = a.F.length := by simp at ct31; omega
      refine CW.exit ?_
      refine CW.seq ?_
      refine CW.rg ?_
      refine CWops.rn htt 1 ?_
      refine CWops.done ?_
      refine CW.ret ?_
      refine retQ.ret (by simp only [f43, go_sem, simprocAttr]; exact rfl) (by simp only [go_sem, simprocAttr]; exact rfl) ?_ -- ret3
      refine ⟨_, ?_, rfl⟩
      have : a = b := by rw [GObj.ext_iff']; exact ⟨hid, hT, all_same h2 hi heq⟩
      simp [leP, this]
theorem ref08_Same (up : Bool) (a b : Graph) : PCall prog up 13 [.agg (eGraph a), .agg (eGraph b)] (· = .bool (decide (a = b))) := by
  refine PCall.intro htt func13 (by kernel_rfl) rfl (Nat.le_of_ble_eq_true rfl) fun hl => ?_
  have hL := (hl (.agg (eGraph a)) (by simp)).agg
  have hba := (hL (.sl 3 (a.O.map eObj)) (by simp [eGraph])).sl.1
  simp only [List.length_map] at hba
  clear hl hL
  simp only [tmps0, Nat.reduceAdd]
  refine CW.seq ?_
  refine CW.rg ?_
  refine CWops.run htt 3 (by simp only [go_sem, simprocAttr, eGraph]; exact rfl) (by simp [go_sem, simprocAttr, eGraph]) ?_
  refine CWops.done ?_
  refine CW.seq ?_
  refine CW.rg ?_
  refine CWops.run htt 4 (by simp only [go_sem, simprocAttr, eGraph, eSchema]; exact rfl) (by simp [go_sem, simprocAttr, eGraph, eSchema]) ?_
  refine CWops.call (ref06_Same up a.S b.S) (by simp only [go_sem, simprocAttr, eGraph, eSchema]) (by simp only [go_sem, simprocAttr, eGraph, eSchema]; first | done | exact rfl) (by simp only [go_sem, simprocAttr, eGraph, eSchema]) (fun rt13 hrt13 => ?_)
  subst hrt13; refine ⟨rfl, ?_⟩
  refine CWops.run htt 1 (by simp only [go_sem, simprocAttr, eGraph, eSchema]; exact rfl) (by simp [go_sem, simprocAttr, eGraph, eSchema]) ?_
  refine CWops.done ?_
  refine CW.seq ?_
  refine CW.rg ?_
  refine CWops.run htt 4 (by simp only [go_sem, simprocAttr, eGraph]; exact rfl) (by simp [go_sem, simprocAttr, eGraph]) ?_
  refine CWops.call (ref08_Ints up a.Roots b.Roots) (by simp only [go_sem, simprocAttr, eGraph]) (by simp only [go_sem, simprocAttr, eGraph]; first | done | exact rfl) (by simp only [go_sem, simprocAttr, eGraph]) (fun rt18 hrt18 => ?_)
  subst hrt18; refine ⟨rfl, ?_⟩
  refine CWops.run htt 1 (by simp only [go_sem, simprocAttr, eGraph]; exact rfl) (by simp [go_sem, simprocAttr, eGraph]) ?_
  refine CWops.done ?_
  refine CW.seq ?_
  refine CW.cut ⟨2, [(2, .lv 0 [] 0), (3, .lv 1 [] 0), (33, .bool (!((decide (a.S = b.S) && decide (a.Roots = b.Roots)) && decide (a.O.length = b.O.length))))], [(0, ⟨true, eGraph a⟩), (1, ⟨true, eGraph b⟩)]⟩ ?_ ?_
  · refine CW.rg ?_
    refine CWops.run htt 3 (by simp only [go_sem, simprocAttr, eGraph]; exact rfl) (by simp [go_sem, simprocAttr, eGraph]) ?_
    all_goals (first | refine CWops.guard 21 (by simp only [go_sem, simprocAttr, eGraph]; exact rfl) (fun g21 => ?_) (fun g21 => ?_) | skip)
    all_goals (refine CWops.run htt 4 (by simp only [go_sem, simprocAttr, eGraph]; exact rfl) (by simp [go_sem, simprocAttr, eGraph]) ?_)
    all_goals (first | refine CWops.guard 25 (by simp only [go_sem, simprocAttr, eGraph]; exact rfl) (fun g25 => ?_) (fun g25 => ?_) | skip)
    all_goals (refine CWops.run htt 8 (by simp only [go_sem, simprocAttr, eGraph]; exact rfl) (by simp [go_sem, simprocAttr, eGraph]) ?_)
    all_goals (refine CWops.done ?_)
    all_goals (
      refine ⟨rfl, Sh.wk0 ?_⟩
      simp_all [Wk, go_sem, simprocAttr, eGraph] <;> first | done | omega | rfl | (rw [Bool.eq_iff_iff]; done) | (rw [Bool.eq_iff_iff]; simp; done) | (rw [Bool.eq_iff_iff]; simp; omega))
  refine CW.cond (by simp only [go_sem, simprocAttr]; first | done | exact rfl) (fun ct33 => ?_) (fun ct33 => ?_)
  · have hne : a ≠ b := by
      intro e; subst e; simp at ct33
    refine CW.seq ?_
    refine CW.rg ?_
    refine CWops.rn htt 1 ?_
    refine CWops.done ?_
    refine CW.ret ?_
    refine retQ.ret (by simp only [f13, go_sem, simprocAttr]; exact rfl) (by simp only [go_sem, simprocAttr]; exact rfl) ?_ -- ret1
    refine ⟨_, ?_, rfl⟩
    simp [leP, hne]
  · simp only [Bool.not_eq_false', Bool.and_eq_true, decide_eq_true_eq] at ct33
    obtain ⟨⟨hS, hR⟩, heq⟩ := ct33
    refine CW.skip ?_
    refine CW.seq ?_
    refine CW.seq ?_
    refine CW.rg ?_
    refine CWops.rn htt 1 ?_
    refine CWops.done ?_
    refine CW.block ?_
    refine CW.loop (S := Nat) (fun i => ⟨2, [(2, .lv 0 [] 0), (3, .lv 1 [] 0), (7, .int .i64 i)], [(0, ⟨true, eGraph a⟩), (1, ⟨true, eGraph b⟩)]⟩) (fun i => i ≤ a.O.length ∧ a.O.take i = b.O.take i) (fun i => a.O.length - i) (0) ?_ ⟨Nat.zero_le _, rfl⟩ (fun i ⟨h1, h2⟩ => ?_)
    · refine Sh.wk0 ?_; simp [Wk, go_sem, simprocAttr, eGraph]
    refine CW.seq ?_
    refine CW.seq ?_
    refine CW.rg ?_
    refine CWops.run htt 5 (by simp only [go_sem, simprocAttr, eGraph]; exact rfl) (by simp [go_sem, simprocAttr, eGraph]) ?_
    refine CWops.done ?_
    refine CW.cond (by simp only [go_sem, simprocAttr]; first | done | exact rfl) (fun ct38 => ?_) (fun ct38 => ?_)
    · have hi : i < a.O.length := by simpa using ct38
      obtain ⟨x, e1⟩ : ∃ x, a.O[i]? = some x := ⟨a.O[i], List.getElem?_eq_getElem hi⟩
      obtain ⟨y, e2⟩ : ∃ y, b.O[i]? = some y := ⟨b.O[i], List.getElem?_eq_getElem (by omega)⟩
      refine CW.skip ?_
      refine CW.seq ?_
      refine CW.block ?_
      refine CW.seq ?_
      refine CW.drawn mixed 10 (by decide) (by kernel_rfl) (by kernel_rfl) (by kernel_rfl) ?_
      refine Seg.run htt 10 (by simp only [go_sem, simprocAttr, eGraph, e1, e2, eObj]; exact rfl) ?_
      refine Seg.done ?_
      refine CWops.call (ref08_objects up x y) (by simp only [go_sem, simprocAttr, eGraph, e1, e2, eObj]) (by simp only [go_sem, simprocAttr, eGraph, e1, e2, eObj]; first | done | exact rfl) (by simp only [go_sem, simprocAttr, eGraph, e1, e2, eObj]) (fun rt51 hrt51 => ?_)
      subst hrt51; refine ⟨rfl, ?_⟩
      refine CWops.run htt 1 (by simp only [go_sem, simprocAttr, eGraph, e1, e2, eObj]; exact rfl) (by simp [go_sem, simprocAttr, eGraph, e1, e2, eObj]) ?_
      refine CWops.done ?_
      refine CW.seq ?_
      refine CW.rg ?_
      refine CWops.rn htt 2 ?_
      refine CWops.done ?_
      refine CW.cond (by simp only [go_sem, simprocAttr]; first | done | exact rfl) (fun ct53 => ?_) (fun ct53 => ?_)
      · have hp : x ≠ y := by
          intro e; subst e; simp at ct53
        refine CW.seq ?_
        refine CW.rg ?_
        refine CWops.rn htt 1 ?_
        refine CWops.done ?_
        refine CW.ret ?_
        refine retQ.ret (by simp only [f13, go_sem, simprocAttr]; exact rfl) (by simp only [go_sem, simprocAttr]; exact rfl) ?_ -- ret2
        refine ⟨_, ?_, rfl⟩
        have : ¬ a = b := fun e => hp (by rw [e, e2] at e1; cases e1; rfl)
        simp [leP, this]
      · have hp : x = y := by simpa using ct53
        subst hp
        refine CW.skip ?_
        refine CW.rg ?_
        refine CWops.run htt 3 (by simp only [go_sem, simprocAttr, wrap_succ (Nat.lt_of_lt_of_le hi hba)]; exact rfl) (by simp [go_sem, simprocAttr, wrap_succ (Nat.lt_of_lt_of_le hi hba)]) ?_
        refine CWops.done ?_
        refine ⟨i + 1, ?_, ?_, ?_⟩
        · refine Sh.wk0 ?_; simp [Wk, go_sem, simprocAttr, eGraph]
        · exact ⟨hi, take_same h2 e1 e2⟩
        · simp only; omega
    · have hi : i = a.O.length := by simp at ct38; omega
      refine CW.exit ?_
      refine CW.seq ?_
      refine CW.rg ?_
      refine CWops.rn htt 1 ?_
      refine CWops.done ?_
      refine CW.ret ?_
      refine retQ.ret (by simp only [f13, go_sem, simprocAttr]; exact rfl) (by simp only [go_sem, simprocAttr]; exact rfl) ?_ -- ret3
      refine ⟨_, ?_, rfl⟩
      have : a = b := by rw [Graph.ext_iff']; exact ⟨hS, all_same h2 hi heq, hR⟩
      simp [leP, this]
end Go.Ab
namespace Go.Ab
open Go Go.Proofs.Tryz
set_option maxRecDepth 100000
set_option maxHeartbeats 3200000
set_option linter.unusedSimpArgs false
set_option linter.unusedVariables false
@[go_sem] theorem tt_79 : tiOf prog 79 = some ⟨.slice 4, 1, 24, [.nilsl], false⟩ := by kernel_rfl
def eBo (b : Bool) : List AV := [.bool b]
theorem frz_Bo (n : Nat) (xs : List Bool) : (AV.own n (xs.map eBo)).freeze = .sl n (xs.map eBo) := frz_map (fun x a ha => by simp [eBo] at ha; subst ha; rfl) n xs
attribute [go_sem] frz_Bo
theorem enumF_take {α : Type} : ∀ {l : List α} {i k : Nat} {x : α}, l[i]? = some x → enumF k (l.take (i + 1)) = enumF k (l.take i) ++ [(k + i, x)]
  | [], i, k, x, h => by simp at h
  | y :: l, 0, k, x, h => by simp at h; subst h; simp [enumF]
  | y :: l, i + 1, k, x, h => by
    have := enumF_take (l := l) (i := i) (k := k + 1) (by simpa using h)
    simp only [List.take_succ_cons, enumF, this, List.cons_append]
    rw [show k + 1 + i = k + (i + 1) by omega]
theorem ref07_Zero (up : Bool) (f : GField) : PCall prog up 38 [.agg (eField f)] (· = .agg (eVal (zeroV f))) := by
  refine PCall.intro htt func38 (by kernel_rfl) rfl (Nat.le_of_ble_eq_true rfl) fun hl => ?_

  simp only [tmps0, Nat.reduceAdd]
  refine CW.seq ?_
  refine CW.rg ?_
  refine CWops.run htt 2 (by simp only [go_sem, simprocAttr, eField]; exact rfl) (by simp [go_sem, simprocAttr, eField]) ?_
  refine CWops.done ?_
  refine CW.seq ?_
  refine CW.seq ?_
  refine CW.rg ?_
  refine CWops.run htt 3 (by simp only [go_sem, simprocAttr, eField]; exact rfl) (by simp [go_sem, simprocAttr, eField]) ?_
  refine CWops.done ?_
  refine CW.cond (by simp only [go_sem, simprocAttr]; first | done | exact rfl) (fun ct5 => ?_) (fun ct5 => ?_)
  · refine CW.seq ?_
    refine CW.rg ?_
    refine CWops.rn htt 2 ?_
    refine CWops.done ?_
    refine CW.ret ?_
    refine retQ.ret (by simp only [f38, go_sem, simprocAttr]; exact rfl) (by simp only [go_sem, simprocAttr]; exact rfl) ?_ -- ret1
    refine ⟨_, ?_, rfl⟩
    simp_all [leP, leL, zeroV, eVal]
  · refine CW.skip ?_
    refine CW.seq ?_
    refine CW.rg ?_
    refine CWops.rn htt 2 ?_
    refine CWops.done ?_
    refine CW.ret ?_
    refine retQ.ret (by simp only [f38, go_sem, simprocAttr]; exact rfl) (by simp only [go_sem, simprocAttr]; exact rfl) ?_ -- ret2
    refine ⟨_, ?_, rfl⟩
    simp_all [leP, leL, zeroV, eVal]
theorem ref08_come (up : Bool) (g : Graph) (hM : May g) (l : List Bool) (hll : l.length = g.O.length) : PCall prog up 50 [.agg (eGraph g), .sl 1 (l.map eBo)] (· = .sl 1 ((comeB g l).map eBo)) := by
  refine PCall.intro htt func50 (by kernel_rfl) rfl (Nat.le_of_ble_eq_true rfl) fun hl => ?_
  have ho8 := hM.o
  have hsm8 := hM.small
  have hl8 : l.length ≤ 8 := by omega
  simp only [tmps0, Nat.reduceAdd]
  refine CW.seq ?_
  refine CW.rg ?_
  refine CWops.run htt 2 (by simp only [go_sem, simprocAttr, eGraph]; exact rfl) (by simp [go_sem, simprocAttr, eGraph]) ?_
  refine CWops.done ?_
  refine CW.seq ?_
  refine CW.rg ?_
  refine CWops.run htt 3 (by simp only [go_sem, simprocAttr]; exact rfl) (by refine ⟨fun r hr c hc => ?_, ?_, ?_⟩ <;> first | (obtain ⟨b9, _, rfl⟩ := List.mem_map.1 hr; simp [eBo] at hc; subst hc; rfl) | (simp [MX]; omega)) ?_
  refine CWops.done ?_
  refine CW.seq ?_
  refine CW.seq ?_
  refine CW.rg ?_
  refine CWops.rn htt 1 ?_
  refine CWops.done ?_
  refine CW.block ?_
  refine CW.loop (S := Nat) (fun i => ⟨2, [(1, .sl 1 (l.map eBo)), (2, .lv 0 [] 0), (4, .nilsl), (5, .ref 1 [] 0), (6, .int .i64 i)], [(0, ⟨true, eGraph g⟩), (1, ⟨false, [.own 1 (((enumF 0 (g.O.take i)).foldl (comeO g l) l).map eBo)]⟩)]⟩) (fun i => i ≤ g.O.length) (fun i => g.O.length - i) (0) ?_ (Nat.zero_le _) (fun i h1 => ?_)
  · refine Sh.wk0 ?_; simp [Wk, go_sem, simprocAttr, eGraph, enumF]
  refine CW.seq ?_
  refine CW.seq ?_
  refine CW.rg ?_
  refine CWops.run htt 5 (by simp only [go_sem, simprocAttr, eGraph]; exact rfl) (by simp [go_sem, simprocAttr, eGraph]) ?_
  refine CWops.done ?_
  refine CW.cond (by simp only [go_sem, simprocAttr]; first | done | exact rfl) (fun ct14 => ?_) (fun ct14 => ?_)
  · have hi : i < g.O.length := by simpa using ct14
    obtain ⟨o, ho⟩ : ∃ o, g.O[i]? = some o := ⟨g.O[i], List.getElem?_eq_getElem hi⟩
    obtain ⟨t, hT, hmo⟩ := hM.objM (List.mem_of_getElem? ho)
    obtain ⟨q, hti⟩ := Int.eq_ofNat_of_zero_le hmo.t0
    have hS : g.S[q]? = some t := by have := hmo.at_; rw [hti] at this; simpa using this
    have hql := (List.getElem?_eq_some_iff.1 hS).1
    have hlen := hmo.len
    have ho5 := hsm8.2.2 o (List.mem_of_getElem? ho)
    have hil : i < l.length := by omega
    obtain ⟨b, hlb⟩ : ∃ b, l[i]? = some b := ⟨l[i], List.getElem?_eq_getElem hil⟩
    have hlg : l.getD i false = b := by rw [List.getD_eq_getElem?_getD, hlb]; rfl
    have hzo : zipO g o = t.F.zip o.F := by unfold zipO tyF; rw [hT]
    have hol := foldO_len g l (enumF 0 (g.O.take i)) l
    refine CW.skip ?_
    refine CW.seq ?_
    refine CW.block ?_
    refine CW.seq ?_
    refine CW.rg ?_
    refine CWops.rn htt 1 ?_
    refine CWops.done ?_
    refine CW.block ?_
    refine CW.loop (S := Nat) (fun k => ⟨2, [(1, .sl 1 (l.map eBo)), (2, .lv 0 [] 0), (4, .nilsl), (5, .ref 1 [] 0), (6, .int .i64 i), (7, .int .i64 k)], [(0, ⟨true, eGraph g⟩), (1, ⟨false, [.own 1 ((if l.getD i false = true then ((zipO g o).take k).foldl (comeS g) ((enumF 0 (g.O.take i)).foldl (comeO g l) l) else (enumF 0 (g.O.take i)).foldl (comeO g l) l).map eBo)]⟩)]⟩) (fun k => k ≤ o.F.length) (fun k => o.F.length - k) (0) ?_ (Nat.zero_le _) (fun k k1 => ?_)
    · refine Sh.wk0 ?_; simp [Wk, go_sem, simprocAttr, eGraph]
    refine CW.seq ?_
    refine CW.seq ?_
    refine CW.rg ?_
    refine CWops.run htt 9 (by simp only [go_sem, simprocAttr, eGraph, ho, hi, eObj]; exact rfl) (by simp [go_sem, simprocAttr, eGraph, ho, hi, eObj]) ?_
    refine CWops.done ?_
    refine CW.cond (by simp only [go_sem, simprocAttr]; first | done | exact rfl) (fun ct25 => ?_) (fun ct25 => ?_)
    · have hk : k < o.F.length := by simpa using ct25
      obtain ⟨v, hv⟩ : ∃ v, o.F[k]? = some v := ⟨o.F[k], List.getElem?_eq_getElem hk⟩
      have hkf : k < t.F.length := by omega
      obtain ⟨f, hf⟩ : ∃ f, t.F[k]? = some f := ⟨t.F[k], List.getElem?_eq_getElem hkf⟩
      obtain ⟨outK, hoK⟩ : ∃ l', l' = (if l.getD i false = true then ((zipO g o).take k).foldl (comeS g) ((enumF 0 (g.O.take i)).foldl (comeO g l) l) else (enumF 0 (g.O.take i)).foldl (comeO g l) l) := ⟨_, rfl⟩
      rw [← hoK]
      have hoKl : outK.length = g.O.length := by
        rw [hoK]; split <;> first | (rw [foldS_len, hol]; exact hll) | (rw [hol]; exact hll)
      have hz : (zipO g o)[k]? = some (f, v) := by rw [hzo]; exact List.getElem?_zip_eq_some.2 ⟨hf, hv⟩
      refine CW.skip ?_
      refine CW.seq ?_
      refine CW.block ?_
      refine CW.cut ⟨2, [(1, .sl 1 (l.map eBo)), (2, .lv 0 [] 0), (4, .nilsl), (5, .ref 1 [] 0), (6, .int .i64 i), (7, .int .i64 k), (63, .bool ((l.getD i false && decide (f.Kind = 5)) && decide (0 ≤ v.R)))], [(0, ⟨true, eGraph g⟩), (1, ⟨false, [.own 1 (outK.map eBo)]⟩)]⟩ ?_ ?_
      · refine CW.drawn mixed 31 (by decide) (by kernel_rfl) (by kernel_rfl) (by kernel_rfl) ?_
        refine Seg.run htt 5 (by simp only [go_sem, simprocAttr, eGraph, ho, hi, eObj, hlb, hil, eBo, hti, hS, hql, eSchema, eType, hkf, hf, eField, hk, hv, eVal]; exact rfl) ?_
        all_goals (first | refine Seg.guard 32 (by simp only [go_sem, simprocAttr, eGraph, ho, hi, eObj, hlb, hil, eBo, hti, hS, hql, eSchema, eType, hkf, hf, eField, hk, hv, eVal]; exact rfl) (fun g32 => ?_) (fun g32 => ?_) | skip)
        all_goals (skip)
        all_goals (refine Seg.run htt 19 (by simp only [go_sem, simprocAttr, eGraph, ho, hi, eObj, hlb, hil, eBo, hti, hS, hql, eSchema, eType, hkf, hf, eField, hk, hv, eVal]; exact rfl) ?_)
        all_goals (first | refine Seg.guard 51 (by simp only [go_sem, simprocAttr, eGraph, ho, hi, eObj, hlb, hil, eBo, hti, hS, hql, eSchema, eType, hkf, hf, eField, hk, hv, eVal]; exact rfl) (fun g51 => ?_) (fun g51 => ?_) | skip)
        all_goals (skip)
        all_goals (refine Seg.run htt 7 (by simp only [go_sem, simprocAttr, eGraph, ho, hi, eObj, hlb, hil, eBo, hti, hS, hql, eSchema, eType, hkf, hf, eField, hk, hv, eVal]; exact rfl) ?_)
        all_goals (refine Seg.done ?_)
        all_goals (refine CWops.run htt 5 (by simp only [go_sem, simprocAttr, eGraph, ho, hi, eObj, hlb, hil, eBo, hti, hS, hql, eSchema, eType, hkf, hf, eField, hk, hv, eVal]; exact rfl) (by simp [go_sem, simprocAttr, eGraph, ho, hi, eObj, hlb, hil, eBo, hti, hS, hql, eSchema, eType, hkf, hf, eField, hk, hv, eVal]) ?_)
        all_goals (refine CWops.done ?_)
        all_goals (
          first | refine ⟨rfl, Sh.wk0 ?_⟩ | refine Sh.wk0 ?_
          rw [hlg]
          first | (simp [Wk, go_sem, simprocAttr, eGraph]; done) | (simp_all [Wk, go_sem, simprocAttr, eGraph]; done))
      refine CW.cond (by simp only [go_sem, simprocAttr]; first | done | exact rfl) (fun ct63 => ?_) (fun ct63 => ?_)
      · have hb3 : (b = true ∧ f.Kind = 5) ∧ 0 ≤ v.R := by rw [hlg] at ct63; simpa [and_assoc] using ct63
        obtain ⟨⟨hbt, hf5⟩, hv0⟩ := hb3
        have hty := typ_root (hmo.ref hf hv hf5) hv0
        obtain ⟨p, hp⟩ : ∃ p : Nat, fnd (fun o => decide (o.Id = v.R)) g.O = p := by
          have := pos_lt hM hty
          rcases find_cases (fun o => decide (o.Id = v.R)) g.O with ⟨h1, h2, h3⟩ | ⟨i, y, h1, _⟩
          · exfalso
            obtain ⟨_, o9, ho9, hid9⟩ := this
            rw [List.find?_eq_none] at h2
            have := h2 o9 (List.mem_of_getElem? ho9)
            simp [hid9] at this
          · exact ⟨i, h1⟩
        have hpp : posOf g v.R = p := by unfold posOf; rw [hp]; simp
        have hpl : p < g.O.length := by rw [← hpp]; exact (pos_lt hM hty).1
        have hplo : p < outK.length := by omega
        obtain ⟨b9, hpb⟩ : ∃ b9, outK[p]? = some b9 := ⟨outK[p], List.getElem?_eq_getElem hplo⟩
        have hstep : comeS g outK (f, v) = outK.set p true := by unfold comeS; rw [if_pos ⟨hf5, hv0⟩, hpp]
        have hnext : (if l.getD i false = true then ((zipO g o).take (k + 1)).foldl (comeS g) ((enumF 0 (g.O.take i)).foldl (comeO g l) l) else (enumF 0 (g.O.take i)).foldl (comeO g l) l) = outK.set p true := by
          rw [hlg, hbt] at hoK ⊢
          rw [if_pos rfl] at hoK ⊢
          rw [List.take_add_one, hz]
          simp only [Option.toList_some, List.foldl_append, List.foldl_cons, List.foldl_nil]
          rw [← hoK, hstep]
        refine CW.drawn mixed 13 (by decide) (by kernel_rfl) (by kernel_rfl) (by kernel_rfl) ?_
        refine Seg.run htt 12 (by simp only [go_sem, simprocAttr, eGraph, ho, hi, eObj, hk, hv, eVal, hp, hplo, hpb, eBo]; exact rfl) ?_
        refine Seg.call ((by have := ref08_Find up g v.R; rw [hp] at this; exact this)) (by simp only [go_sem, simprocAttr, eGraph, ho, hi, eObj, hk, hv, eVal, hp, hplo, hpb, eBo]) (by simp only [go_sem, simprocAttr, eGraph, ho, hi, eObj, hk, hv, eVal, hp, hplo, hpb, eBo]; first | done | exact rfl) (by simp only [go_sem, simprocAttr, eGraph, ho, hi, eObj, hk, hv, eVal, hp, hplo, hpb, eBo]) (by simp only [go_sem, simprocAttr, eGraph, ho, hi, eObj, hk, hv, eVal, hp, hplo, hpb, eBo]) rfl ?_
        refine Seg.done ?_
        refine CWops.run htt 2 (by simp only [go_sem, simprocAttr, eGraph, ho, hi, eObj, hk, hv, eVal, hp, hplo, hpb, eBo]; exact rfl) (by simp [go_sem, simprocAttr, eGraph, ho, hi, eObj, hk, hv, eVal, hp, hplo, hpb, eBo]) ?_
        refine CWops.done ?_
        refine CW.rg ?_
        refine CWops.run htt 3 (by simp only [go_sem, simprocAttr, wrap_succ (show k < MX by unfold MX; omega)]; exact rfl) (by simp [go_sem, simprocAttr, wrap_succ (show k < MX by unfold MX; omega)]) ?_
        refine CWops.done ?_
        refine ⟨k + 1, ?_, ?_, ?_⟩
        · refine Sh.wk0 ?_
          dsimp only
          rw [hnext]
          first | (simp [Wk, go_sem, simprocAttr, eGraph, List.map_set, eBo]; done) | (simp [Wk, go_sem, simprocAttr, eGraph]; done)
        · exact hk
        · simp only; omega
      · have hnext : (if l.getD i false = true then ((zipO g o).take (k + 1)).foldl (comeS g) ((enumF 0 (g.O.take i)).foldl (comeO g l) l) else (enumF 0 (g.O.take i)).foldl (comeO g l) l) = outK := by
          by_cases hbt : l.getD i false = true
          · rw [if_pos hbt] at hoK ⊢
            rw [List.take_add_one, hz]
            simp only [Option.toList_some, List.foldl_append, List.foldl_cons, List.foldl_nil]
            rw [← hoK]
            unfold comeS
            rw [if_neg (fun h => by have h1 : f.Kind = 5 := h.1; have h2 : 0 ≤ v.R := h.2; rw [hbt] at ct63; simp [h1, h2] at ct63)]
          · rw [if_neg hbt] at hoK ⊢; exact hoK.symm
        refine CW.skip ?_
        refine CW.rg ?_
        refine CWops.run htt 3 (by simp only [go_sem, simprocAttr, wrap_succ (show k < MX by unfold MX; omega)]; exact rfl) (by simp [go_sem, simprocAttr, wrap_succ (show k < MX by unfold MX; omega)]) ?_
        refine CWops.done ?_
        refine ⟨k + 1, ?_, ?_, ?_⟩
        · refine Sh.wk0 ?_
          dsimp only
          rw [hnext]
          first | (simp [Wk, go_sem, simprocAttr, eGraph, List.map_set, eBo]; done) | (simp [Wk, go_sem, simprocAttr, eGraph]; done)
        · exact hk
        · simp only; omega
    · have hk : k = o.F.length := by simp at ct25; omega
      refine CW.exit ?_
      refine CW.rg ?_
      refine CWops.run htt 3 (by simp only [go_sem, simprocAttr, wrap_succ (show i < MX by unfold MX; omega)]; exact rfl) (by simp [go_sem, simprocAttr, wrap_succ (show i < MX by unfold MX; omega)]) ?_
      refine CWops.done ?_
      refine ⟨i + 1, ?_, ?_, ?_⟩
      · have hen : (enumF 0 (g.O.take (i + 1))).foldl (comeO g l) l = (if l.getD i false = true then (zipO g o).foldl (comeS g) ((enumF 0 (g.O.take i)).foldl (comeO g l) l) else (enumF 0 (g.O.take i)).foldl (comeO g l) l) := by
          rw [enumF_take ho, List.foldl_append]
          simp only [List.foldl_cons, List.foldl_nil, comeO, Nat.zero_add]
        have hzl : (zipO g o).length = o.F.length := by rw [hzo, List.length_zip, hlen]; omega
        refine Sh.wk0 ?_
        dsimp only
        rw [hk, ← hzl, List.take_length, ← hen]
        simp [Wk, go_sem, simprocAttr, eGraph]
      · exact hi
      · simp only; omega
  · have hi : i = g.O.length := by simp at ct14; omega
    refine CW.exit ?_
    refine CW.seq ?_
    rw [hi, List.take_length]
    refine CW.sh (Sh.frzT 5 1 rfl rfl rfl) ?_
    simp only [go_sem, simprocAttr]
    refine CW.rg ?_
    refine CWops.rn htt 2 ?_
    refine CWops.done ?_
    refine CW.ret ?_
    refine retQ.ret (by simp only [f50, go_sem, simprocAttr]; exact rfl) (by simp only [go_sem, simprocAttr]; exact rfl) ?_ -- ret1
    refine ⟨_, ?_, rfl⟩
    simp [leP, leL, comeB]
end Go.Ab
namespace Go.Ab
open Go Go.Proofs.Tryz
set_option maxRecDepth 100000
set_option maxHeartbeats 3200000
set_option linter.unusedSimpArgs false
set_option linter.unusedVariables false
theorem ref08_Reach (up : Bool) (g : Graph) (hsm : smallS g.S) (hN : ∀ o ∈ g.O, ∀ v ∈ o.F, -9223372036854775808 ≤ v.N ∧ v.N < 9223372036854775808) : PCall prog up 18 [.agg (eGraph g)] (· = .sl 1 ((gReach g).map eI)) := by
  refine PCall.intro htt func18 (by kernel_rfl) rfl (Nat.le_of_ble_eq_true rfl) fun hl => ?_

  simp only [tmps0, Nat.reduceAdd]
  refine CW.seq ?_
  refine CW.rg ?_
  refine CWops.run htt 2 (by simp only [go_sem, simprocAttr, eGraph]; exact rfl) (by simp [go_sem, simprocAttr, eGraph]) ?_
  refine CWops.done ?_
  refine CW.seq ?_
  refine CW.rg ?_
  refine CWops.run htt 1 (by simp only [go_sem, simprocAttr, eGraph]; exact rfl) (by simp [go_sem, simprocAttr, eGraph]) ?_
  refine CWops.call (ref08_May up g hsm hN) (by simp only [go_sem, simprocAttr, eGraph]) (by simp only [go_sem, simprocAttr, eGraph]; first | done | exact rfl) (by simp only [go_sem, simprocAttr, eGraph]) (fun rt10 hrt10 => ?_)
  subst hrt10; refine ⟨rfl, ?_⟩
  refine CWops.run htt 1 (by simp only [go_sem, simprocAttr, eGraph]; exact rfl) (by simp [go_sem, simprocAttr, eGraph]) ?_
  refine CWops.done ?_
  refine CW.seq ?_
  refine CW.seq ?_
  refine CW.rg ?_
  refine CWops.rn htt 2 ?_
  refine CWops.done ?_
  refine CW.cond (by simp only [go_sem, simprocAttr]; first | done | exact rfl) (fun ct12 => ?_) (fun ct12 => ?_)
  · have hm : gMay g = false := by simpa using ct12
    refine CW.seq ?_
    refine CW.rg ?_
    refine CWops.rn htt 1 ?_
    refine CWops.done ?_
    refine CW.ret ?_
    refine retQ.ret (by simp only [f18, go_sem, simprocAttr]; exact rfl) (by simp only [go_sem, simprocAttr]; exact rfl) ?_ -- ret1
    refine ⟨_, ?_, rfl⟩
    have : gReach g = [] := by unfold gReach; rw [hm]; rfl
    simp [leP, this]
  · have hm : gMay g = true := by simpa using ct12
    have hM := (may_iff g).1 hm
    have ho8 := hM.o
    have hr3 := hM.r
    refine CW.skip ?_
    refine CW.seq ?_
    refine CW.rg ?_
    refine CWops.run htt 3 (by simp only [go_sem, simprocAttr, eGraph]; exact rfl) (by simp [go_sem, simprocAttr, eGraph]) ?_
    refine CWops.makeSlice (n := g.O.length) htt (by simp only [go_sem, simprocAttr]) tt_79 rfl tt_4 (by decide) rfl (by simp only [go_sem, simprocAttr, List.length_map]) (by simp only [go_sem, simprocAttr, List.length_map]) (by unfold MX; omega) (by simp; unfold MX; omega) ?_
    simp only [go_sem, simprocAttr]
    rw [show List.replicate g.O.length [AV.bool false] = (List.replicate g.O.length false).map eBo by simp [eBo]]
    refine CWops.run htt 1 (by simp only [go_sem, simprocAttr, eGraph]; exact rfl) (by simp [go_sem, simprocAttr, eGraph]) ?_
    refine CWops.done ?_
    refine CW.seq ?_
    refine CW.seq ?_
    refine CW.rg ?_
    refine CWops.rn htt 1 ?_
    refine CWops.done ?_
    refine CW.block ?_
    refine CW.loop (S := Nat) (fun i => ⟨2, [(1, .lv 0 [] 0), (2, .nilsl), (4, .ref 1 [] 0), (5, .int .i64 i)], [(0, ⟨true, eGraph g⟩), (1, ⟨false, [.own 1 (((g.Roots.take i).foldl (rootS g) (List.replicate g.O.length false)).map eBo)]⟩)]⟩) (fun i => i ≤ g.Roots.length) (fun i => g.Roots.length - i) (0) ?_ (Nat.zero_le _) (fun i h1 => ?_)
    · refine Sh.wk0 ?_; simp [Wk, go_sem, simprocAttr, eGraph]
    refine CW.seq ?_
    refine CW.seq ?_
    refine CW.rg ?_
    refine CWops.run htt 5 (by simp only [go_sem, simprocAttr, eGraph]; exact rfl) (by simp [go_sem, simprocAttr, eGraph]) ?_
    refine CWops.done ?_
    refine CW.cond (by simp only [go_sem, simprocAttr]; first | done | exact rfl) (fun ct21 => ?_) (fun ct21 => ?_)
    · have hi : i < g.Roots.length := by simpa using ct21
      obtain ⟨r, hr⟩ : ∃ r, g.Roots[i]? = some r := ⟨g.Roots[i], List.getElem?_eq_getElem hi⟩
      have hrl := (rootsB_iff hM (g.Roots.take i) (List.replicate g.O.length false) (by simp) (fun x hx => hM.root x (List.mem_of_mem_take hx)) 0).2
      rw [List.length_replicate] at hrl
      obtain ⟨outK, hoK⟩ : ∃ l', l' = ((g.Roots.take i).foldl (rootS g) (List.replicate g.O.length false)) := ⟨_, rfl⟩
      rw [← hoK]
      have hoKl : outK.length = g.O.length := by rw [hoK]; exact hrl
      have hstep : ((g.Roots.take (i + 1)).foldl (rootS g) (List.replicate g.O.length false)) = rootS g outK r := by
        rw [List.take_add_one, hr]
        simp only [Option.toList_some, List.foldl_append, List.foldl_cons, List.foldl_nil]
        rw [← hoK]
      refine CW.skip ?_
      refine CW.seq ?_
      refine CW.block ?_
      refine CW.seq ?_
      refine CW.rg ?_
      refine CWops.run htt 6 (by simp only [go_sem, simprocAttr, eGraph, hr, hi, eI]; exact rfl) (by simp [go_sem, simprocAttr, eGraph, hr, hi, eI]) ?_
      refine CWops.done ?_
      refine CW.cond (by simp only [go_sem, simprocAttr]; first | done | exact rfl) (fun ct29 => ?_) (fun ct29 => ?_)
      · have hr0 : 0 ≤ r := by simpa using ct29
        have hty := typ_root (hM.root r (List.mem_of_getElem? hr)) hr0
        obtain ⟨p, hp⟩ : ∃ p : Nat, fnd (fun o => decide (o.Id = r)) g.O = p := by
          have := pos_lt hM hty
          rcases find_cases (fun o => decide (o.Id = r)) g.O with ⟨h1, h2, h3⟩ | ⟨i, y, h1, _⟩
          · exfalso
            obtain ⟨_, o9, ho9, hid9⟩ := this
            rw [List.find?_eq_none] at h2
            have := h2 o9 (List.mem_of_getElem? ho9)
            simp [hid9] at this
          · exact ⟨i, h1⟩
        have hpp : posOf g r = p := by unfold posOf; rw [hp]; simp
        have hpl : p < g.O.length := by rw [← hpp]; exact (pos_lt hM hty).1
        have hplo : p < outK.length := by omega
        obtain ⟨b9, hpb⟩ : ∃ b9, outK[p]? = some b9 := ⟨outK[p], List.getElem?_eq_getElem hplo⟩
        have hnext : rootS g outK r = outK.set p true := by unfold rootS; rw [if_pos hr0, hpp]
        refine CW.drawn mixed 8 (by decide) (by kernel_rfl) (by kernel_rfl) (by kernel_rfl) ?_
        refine Seg.run htt 7 (by simp only [go_sem, simprocAttr, eGraph, hr, hi, eI, hp, hplo, hpb, eBo]; exact rfl) ?_
        refine Seg.call ((by have := ref08_Find up g r; rw [hp] at this; exact this)) (by simp only [go_sem, simprocAttr, eGraph, hr, hi, eI, hp, hplo, hpb, eBo]) (by simp only [go_sem, simprocAttr, eGraph, hr, hi, eI, hp, hplo, hpb, eBo]; first | done | exact rfl) (by simp only [go_sem, simprocAttr, eGraph, hr, hi, eI, hp, hplo, hpb, eBo]) (by simp only [go_sem, simprocAttr, eGraph, hr, hi, eI, hp, hplo, hpb, eBo]) rfl ?_
        refine Seg.done ?_
        refine CWops.run htt 2 (by simp only [go_sem, simprocAttr, eGraph, hr, hi, eI, hp, hplo, hpb, eBo]; exact rfl) (by simp [go_sem, simprocAttr, eGraph, hr, hi, eI, hp, hplo, hpb, eBo]) ?_
        refine CWops.done ?_
        refine CW.rg ?_
        refine CWops.run htt 3 (by simp only [go_sem, simprocAttr, wrap_succ (show i < MX by unfold MX; omega)]; exact rfl) (by simp [go_sem, simprocAttr, wrap_succ (show i < MX by unfold MX; omega)]) ?_
        refine CWops.done ?_
        refine ⟨i + 1, ?_, ?_, ?_⟩
        · refine Sh.wk0 ?_
          dsimp only
          rw [hstep, hnext]
          first | (simp [Wk, go_sem, simprocAttr, eGraph, List.map_set, eBo]; done) | (simp [Wk, go_sem, simprocAttr, eGraph]; done)
        · exact hi
        · simp only; omega
      · have hr0 : ¬ 0 ≤ r := by simpa using ct29
        have hnext : rootS g outK r = outK := by unfold rootS; rw [if_neg hr0]
        refine CW.skip ?_
        refine CW.rg ?_
        refine CWops.run htt 3 (by simp only [go_sem, simprocAttr, wrap_succ (show i < MX by unfold MX; omega)]; exact rfl) (by simp [go_sem, simprocAttr, wrap_succ (show i < MX by unfold MX; omega)]) ?_
        refine CWops.done ?_
        refine ⟨i + 1, ?_, ?_, ?_⟩
        · refine Sh.wk0 ?_
          dsimp only
          rw [hstep, hnext]
          first | (simp [Wk, go_sem, simprocAttr, eGraph, List.map_set, eBo]; done) | (simp [Wk, go_sem, simprocAttr, eGraph]; done)
        · exact hi
        · simp only; omega
    · have hi : i = g.Roots.length := by simp at ct21; omega
      rw [hi, List.take_length]
      refine CW.exit ?_
      refine CW.seq ?_
      refine CW.seq ?_
      refine CW.sh (Sh.frzT 4 1 rfl rfl rfl) ?_
      simp only [go_sem, simprocAttr]
      refine CW.rg ?_
      refine CWops.rn htt 1 ?_
      refine CWops.done ?_
      refine CW.block ?_
      refine CW.loop (S := Nat × List Bool) (fun p => ⟨2, [(1, .lv 0 [] 0), (2, .nilsl), (4, .sl 1 (p.2.map eBo)), (6, .int .i64 p.1)], [(0, ⟨true, eGraph g⟩)]⟩) (fun p => p.1 ≤ g.O.length ∧ p.2.length = g.O.length ∧ comeN g (g.O.length - p.1) p.2 = comeN g g.O.length (rootB0 g)) (fun p => g.O.length - p.1) ((0, (rootB0 g))) ?_ ⟨Nat.zero_le _, by have := (rootsB_iff hM g.Roots (List.replicate g.O.length false) (by simp) (fun x hx => hM.root x hx) 0).2; rw [List.length_replicate] at this; exact this, rfl⟩ (fun ⟨i, l⟩ ⟨hI1, hI2⟩ => ?_)
      · refine Sh.wk0 ?_; simp [Wk, go_sem, simprocAttr, eGraph, rootB0]
      simp only at hI1 hI2
      refine CW.seq ?_
      refine CW.seq ?_
      refine CW.rg ?_
      refine CWops.run htt 5 (by simp only [go_sem, simprocAttr, eGraph]; exact rfl) (by simp [go_sem, simprocAttr, eGraph]) ?_
      refine CWops.done ?_
      refine CW.cond (by simp only [go_sem, simprocAttr]; first | done | exact rfl) (fun ct43 => ?_) (fun ct43 => ?_)
      · have hi : i < g.O.length := by simpa using ct43
        obtain ⟨hll, hst⟩ := hI2
        obtain ⟨m, hm2⟩ : ∃ m, g.O.length - i = m + 1 := ⟨g.O.length - i - 1, by omega⟩
        rw [hm2] at hst
        simp only [comeN] at hst
        have hm3 : g.O.length - (i + 1) = m := by omega
        refine CW.skip ?_
        refine CW.seq ?_
        refine CW.block ?_
        refine CW.rg ?_
        refine CWops.run htt 2 (by simp only [go_sem, simprocAttr, eGraph]; exact rfl) (by simp [go_sem, simprocAttr, eGraph]) ?_
        refine CWops.callA (ref08_come up g hM l hll) (by simp only [go_sem, simprocAttr, eGraph]) (by simp only [go_sem, simprocAttr, eGraph]; first | done | exact rfl) (by simp only [go_sem, simprocAttr, eGraph]) (by simp only [go_sem, simprocAttr, eGraph]) (fun rt48 hrt48 => ?_)
        subst hrt48
        refine CWops.run htt 1 (by simp only [go_sem, simprocAttr, eGraph]; exact rfl) (by simp [go_sem, simprocAttr, eGraph]) ?_
        refine CWops.done ?_
        refine CW.rg ?_
        refine CWops.run htt 3 (by simp only [go_sem, simprocAttr, wrap_succ (show i < MX by unfold MX; omega)]; exact rfl) (by simp [go_sem, simprocAttr, wrap_succ (show i < MX by unfold MX; omega)]) ?_
        refine CWops.done ?_
        refine ⟨(i + 1, comeB g l), ?_, ?_, ?_⟩
        · refine Sh.wk0 ?_; simp [Wk, go_sem, simprocAttr, eGraph]
        · exact ⟨hi, by simp only; rw [comeB_len]; exact hll, by simp only; rw [hm3]; exact hst⟩
        · simp only; omega
      · have hi : i = g.O.length := by have := hI1; simp at ct43; omega
        obtain ⟨hll, hst⟩ := hI2
        rw [hi, Nat.sub_self] at hst
        simp only [comeN] at hst
        have hpick : pickB g l = gReach g := by rw [hst]; exact refReach hM
        refine CW.exit ?_
        refine CW.seq ?_
        refine CW.rg ?_
        refine CWops.rn htt 1 ?_
        refine CWops.done ?_
        refine CW.seq ?_
        refine CW.seq ?_
        refine CW.rg ?_
        refine CWops.rn htt 1 ?_
        refine CWops.done ?_
        refine CW.block ?_
        refine CW.loop (S := Nat) (fun i => ⟨3, [(1, .lv 0 [] 0), (2, .nilsl), (4, .sl 1 (l.map eBo)), (7, .ref 2 [] 0), (8, .int .i64 i)], [(0, ⟨true, eGraph g⟩), (2, ⟨false, [.own 1 ((((enumF 0 (g.O.take i)).filter fun p => l.getD p.1 false).map fun p => p.2.Id).map eI)]⟩)]⟩) (fun i => i ≤ g.O.length) (fun i => g.O.length - i) (0) ?_ (Nat.zero_le _) (fun i h4 => ?_)
        · refine Sh.trans (Sh.nilRoot 7 1 (by simp only [go_sem, simprocAttr]) rfl) (Sh.wk0 ?_); simp [Wk, go_sem, simprocAttr, eGraph, enumF]
        refine CW.seq ?_
        refine CW.seq ?_
        refine CW.rg ?_
        refine CWops.run htt 5 (by simp only [go_sem, simprocAttr, eGraph]; exact rfl) (by simp [go_sem, simprocAttr, eGraph]) ?_
        refine CWops.done ?_
        refine CW.cond (by simp only [go_sem, simprocAttr]; first | done | exact rfl) (fun ct53 => ?_) (fun ct53 => ?_)
        · have hi : i < g.O.length := by simpa using ct53
          obtain ⟨o, ho⟩ : ∃ o, g.O[i]? = some o := ⟨g.O[i], List.getElem?_eq_getElem hi⟩
          have hil : i < l.length := by omega
          obtain ⟨b, hlb⟩ : ∃ b, l[i]? = some b := ⟨l[i], List.getElem?_eq_getElem hil⟩
          have hlg : l.getD i false = b := by rw [List.getD_eq_getElem?_getD, hlb]; rfl
          have hlen9 : (((enumF 0 (g.O.take i)).filter fun p => l.getD p.1 false).map fun p => p.2.Id).length ≤ 8 := by
            rw [List.length_map]
            refine Nat.le_trans (List.length_filter_le _ _) ?_
            rw [enumF_len, List.length_take]; omega
          have hen : (((enumF 0 (g.O.take (i + 1))).filter fun p => l.getD p.1 false).map fun p => p.2.Id) = (((enumF 0 (g.O.take i)).filter fun p => l.getD p.1 false).map fun p => p.2.Id) ++ (if b = true then [o.Id] else []) := by
            rw [enumF_take ho, List.filter_append, List.map_append]
            congr 1
            simp only [Nat.zero_add, List.filter_cons, hlg, List.filter_nil]
            cases b <;> rfl
          revert hlen9 hen
          generalize (((enumF 0 (g.O.take i)).filter fun p => l.getD p.1 false).map fun p => p.2.Id) = ids
          intro hlen9 hen
          refine CW.skip ?_
          refine CW.seq ?_
          refine CW.block ?_
          refine CW.seq ?_
          refine CW.rg ?_
          refine CWops.run htt 4 (by simp only [go_sem, simprocAttr, hlb, hil, eBo]; exact rfl) (by simp [go_sem, simprocAttr, hlb, hil, eBo]) ?_
          refine CWops.done ?_
          refine CW.cond (by simp only [go_sem, simprocAttr]; first | done | exact rfl) (fun ct59 => ?_) (fun ct59 => ?_)
          · have hb1 : b = true := by simpa using ct59
            rw [hb1] at hen
            simp only [if_true] at hen
            refine CW.rg ?_
            refine CWops.run htt 10 (by simp only [go_sem, simprocAttr, eGraph, ho, hi, eObj, List.replicate]; exact rfl) (by simp [AV.cell, AV.tree, eI, MX] <;> omega) ?_
            refine CWops.done ?_
            refine CW.rg ?_
            refine CWops.run htt 3 (by simp only [go_sem, simprocAttr, wrap_succ (show i < MX by unfold MX; omega)]; exact rfl) (by simp [go_sem, simprocAttr, wrap_succ (show i < MX by unfold MX; omega)]) ?_
            refine CWops.done ?_
            refine ⟨i + 1, ?_, ?_, ?_⟩
            · dsimp only
              rw [hen]
              first | (refine Sh.wk (fun x => if x = 2 then 4 else x) ?_; simp [Wk, go_sem, simprocAttr, eGraph, eI]; done) | (refine Sh.wk (fun x => if x = 2 then 3 else x) ?_; simp [Wk, go_sem, simprocAttr, eGraph, eI]; done) | (refine Sh.wk0 ?_; simp [Wk, go_sem, simprocAttr, eGraph]; done)
            · exact hi
            · simp only; omega
          · have hb1 : b = false := by simpa using ct59
            rw [hb1] at hen
            simp only [Bool.false_eq_true, if_false, List.append_nil] at hen
            refine CW.skip ?_
            refine CW.rg ?_
            refine CWops.run htt 3 (by simp only [go_sem, simprocAttr, wrap_succ (show i < MX by unfold MX; omega)]; exact rfl) (by simp [go_sem, simprocAttr, wrap_succ (show i < MX by unfold MX; omega)]) ?_
            refine CWops.done ?_
            refine ⟨i + 1, ?_, ?_, ?_⟩
            · dsimp only
              rw [hen]
              first | (refine Sh.wk (fun x => if x = 2 then 4 else x) ?_; simp [Wk, go_sem, simprocAttr, eGraph, eI]; done) | (refine Sh.wk (fun x => if x = 2 then 3 else x) ?_; simp [Wk, go_sem, simprocAttr, eGraph, eI]; done) | (refine Sh.wk0 ?_; simp [Wk, go_sem, simprocAttr, eGraph]; done)
            · exact hi
            · simp only; omega
        · have hi : i = g.O.length := by simp at ct53; omega
          have hids : (((enumF 0 (g.O.take i)).filter fun p => l.getD p.1 false).map fun p => p.2.Id) = gReach g := by rw [hi, List.take_length]; exact hpick
          rw [hids]
          refine CW.exit ?_
          refine CW.seq ?_
          refine CW.rg ?_
          refine CWops.rn htt 2 ?_
          refine CWops.done ?_
          refine CW.ret ?_
          refine retQ.ret (by simp only [f18, go_sem, simprocAttr]; exact rfl) (by simp only [go_sem, simprocAttr]; exact rfl) ?_ -- ret2
          refine ⟨_, ?_, rfl⟩
          simp [leP, frz_I]
theorem ref08_Sweep (up : Bool) (g : Graph) (hsm : smallS g.S) (hN : ∀ o ∈ g.O, ∀ v ∈ o.F, -9223372036854775808 ≤ v.N ∧ v.N < 9223372036854775808) : PCall prog up 15 [.agg (eGraph g)] (· = .agg (eGraph (gSweep g))) := by
  refine PCall.intro htt func15 (by kernel_rfl) rfl (Nat.le_of_ble_eq_true rfl) fun hl => ?_

  simp only [tmps0, Nat.reduceAdd]
  refine CW.seq ?_
  refine CW.rg ?_
  refine CWops.run htt 2 (by simp only [go_sem, simprocAttr, eGraph]; exact rfl) (by simp [go_sem, simprocAttr, eGraph]) ?_
  refine CWops.done ?_
  refine CW.seq ?_
  refine CW.rg ?_
  refine CWops.run htt 1 (by simp only [go_sem, simprocAttr, eGraph]; exact rfl) (by simp [go_sem, simprocAttr, eGraph]) ?_
  refine CWops.call (ref08_May up g hsm hN) (by simp only [go_sem, simprocAttr, eGraph]) (by simp only [go_sem, simprocAttr, eGraph]; first | done | exact rfl) (by simp only [go_sem, simprocAttr, eGraph]) (fun rt9 hrt9 => ?_)
  subst hrt9; refine ⟨rfl, ?_⟩
  refine CWops.run htt 1 (by simp only [go_sem, simprocAttr, eGraph]; exact rfl) (by simp [go_sem, simprocAttr, eGraph]) ?_
  refine CWops.done ?_
  refine CW.seq ?_
  refine CW.seq ?_
  refine CW.rg ?_
  refine CWops.rn htt 2 ?_
  refine CWops.done ?_
  refine CW.cond (by simp only [go_sem, simprocAttr]; first | done | exact rfl) (fun ct11 => ?_) (fun ct11 => ?_)
  · have hm : gMay g = false := by simpa using ct11
    refine CW.seq ?_
    refine CW.rg ?_
    refine CWops.rn htt 2 ?_
    refine CWops.done ?_
    refine CW.ret ?_
    refine retQ.ret (by simp only [f15, go_sem, simprocAttr]; exact rfl) (by simp only [go_sem, simprocAttr]; exact rfl) ?_ -- ret1
    refine ⟨_, ?_, rfl⟩
    have : gSweep g = ⟨[], [], []⟩ := by unfold gSweep; rw [hm]; rfl
    simp [leP, leL, this, eGraph]
  · have hm : gMay g = true := by simpa using ct11
    have hM := (may_iff g).1 hm
    have ho8 := hM.o
    refine CW.skip ?_
    refine CW.seq ?_
    refine CW.rg ?_
    refine CWops.run htt 1 (by simp only [go_sem, simprocAttr, eGraph]; exact rfl) (by simp [go_sem, simprocAttr, eGraph]) ?_
    refine CWops.callA (ref08_Reach up g hsm hN) (by simp only [go_sem, simprocAttr, eGraph]) (by simp only [go_sem, simprocAttr, eGraph]; first | done | exact rfl) (by simp only [go_sem, simprocAttr, eGraph]) (by simp only [go_sem, simprocAttr, eGraph]) (fun rt14 hrt14 => ?_)
    subst hrt14
    refine CWops.run htt 1 (by simp only [go_sem, simprocAttr, eGraph]; exact rfl) (by simp [go_sem, simprocAttr, eGraph]) ?_
    refine CWops.done ?_
    refine CW.seq ?_
    refine CW.rg ?_
    refine CWops.rn htt 1 ?_
    refine CWops.done ?_
    refine CW.seq ?_
    refine CW.seq ?_
    refine CW.rg ?_
    refine CWops.rn htt 1 ?_
    refine CWops.done ?_
    refine CW.block ?_
    refine CW.loop (S := Nat) (fun i => ⟨3, [(1, .lv 0 [] 0), (2, .lv 1 [] 0), (4, .sl 1 ((gReach g).map eI)), (5, .ref 2 [] 0), (6, .int .i64 i)], [(0, ⟨true, eGraph g⟩), (1, ⟨true, [.nilsl, .nilsl, .nilsl]⟩), (2, ⟨false, [.own 3 (((g.O.take i).filter fun o => decide (o.Id ∈ order g)).map eObj)]⟩)]⟩) (fun i => i ≤ g.O.length) (fun i => g.O.length - i) (0) ?_ (Nat.zero_le _) (fun i h4 => ?_)
    · refine Sh.trans (Sh.nilRoot 5 3 (by simp only [go_sem, simprocAttr]) rfl) (Sh.wk0 ?_); simp [Wk, go_sem, simprocAttr, eGraph]
    refine CW.seq ?_
    refine CW.seq ?_
    refine CW.rg ?_
    refine CWops.run htt 5 (by simp only [go_sem, simprocAttr, eGraph]; exact rfl) (by simp [go_sem, simprocAttr, eGraph]) ?_
    refine CWops.done ?_
    refine CW.cond (by simp only [go_sem, simprocAttr]; first | done | exact rfl) (fun ct19 => ?_) (fun ct19 => ?_)
    · have hi : i < g.O.length := by simpa using ct19
      obtain ⟨o, ho⟩ : ∃ o, g.O[i]? = some o := ⟨g.O[i], List.getElem?_eq_getElem hi⟩
      have hany : ((gReach g).any fun y => decide (y = o.Id)) = decide (o.Id ∈ order g) := by
        rw [Bool.eq_iff_iff]
        simp only [List.any_eq_true, decide_eq_true_eq]
        constructor
        · rintro ⟨y, hy, rfl⟩; exact (mem_gReach hM _).1 hy
        · intro h; exact ⟨o.Id, (mem_gReach hM _).2 h, rfl⟩
      have hlen9 : ((g.O.take i).filter fun o => decide (o.Id ∈ order g)).length ≤ 8 := Nat.le_trans (List.length_filter_le _ _) (by rw [List.length_take]; omega)
      have hen : ((g.O.take (i + 1)).filter fun o => decide (o.Id ∈ order g)) = ((g.O.take i).filter fun o => decide (o.Id ∈ order g)) ++ (if o.Id ∈ order g then [o] else []) := by
        rw [List.take_add_one, ho, List.filter_append]
        congr 1
        simp only [Option.toList_some, List.filter_cons, List.filter_nil]
        by_cases h : o.Id ∈ order g <;> simp [h]
      revert hlen9 hen
      generalize ((g.O.take i).filter fun o => decide (o.Id ∈ order g)) = objs
      intro hlen9 hen
      refine CW.skip ?_
      refine CW.seq ?_
      refine CW.block ?_
      refine CW.seq ?_
      refine CW.rg ?_
      refine CWops.run htt 7 (by simp only [go_sem, simprocAttr, eGraph, ho, hi, eObj]; exact rfl) (by simp [go_sem, simprocAttr, eGraph, ho, hi, eObj]) ?_
      refine CWops.call ((by have := ref08_Has up (gReach g) o.Id; rw [hany] at this; exact this)) (by simp only [go_sem, simprocAttr, eGraph, ho, hi, eObj]) (by simp only [go_sem, simprocAttr, eGraph, ho, hi, eObj]; first | done | exact rfl) (by simp only [go_sem, simprocAttr, eGraph, ho, hi, eObj]) (fun rt29 hrt29 => ?_)
      subst hrt29; refine ⟨rfl, ?_⟩
      refine CWops.run htt 1 (by simp only [go_sem, simprocAttr, eGraph, ho, hi, eObj]; exact rfl) (by simp [go_sem, simprocAttr, eGraph, ho, hi, eObj]) ?_
      refine CWops.done ?_
      refine CW.seq ?_
      refine CW.rg ?_
      refine CWops.rn htt 1 ?_
      refine CWops.done ?_
      refine CW.cond (by simp only [go_sem, simprocAttr]; first | done | exact rfl) (fun ct30 => ?_) (fun ct30 => ?_)
      · have hin : o.Id ∈ order g := by simpa using ct30
        rw [if_pos hin] at hen
        refine CW.rg ?_
        refine CWops.run htt 9 (by simp only [go_sem, simprocAttr, eGraph, ho, hi, eObj, List.replicate]; exact rfl) (by simp [AV.cell, AV.tree, eObj, MX] <;> omega) ?_
        refine CWops.done ?_
        refine CW.rg ?_
        refine CWops.run htt 3 (by simp only [go_sem, simprocAttr, wrap_succ (show i < MX by unfold MX; omega)]; exact rfl) (by simp [go_sem, simprocAttr, wrap_succ (show i < MX by unfold MX; omega)]) ?_
        refine CWops.done ?_
        refine ⟨i + 1, ?_, ?_, ?_⟩
        · dsimp only
          rw [hen]
          first | (refine Sh.wk (fun x => if x = 2 then 4 else x) ?_; simp [Wk, go_sem, simprocAttr, eGraph, eObj]; done) | (refine Sh.wk (fun x => if x = 2 then 3 else x) ?_; simp [Wk, go_sem, simprocAttr, eGraph, eObj]; done) | (refine Sh.wk0 ?_; simp [Wk, go_sem, simprocAttr, eGraph]; done)
        · exact hi
        · simp only; omega
      · have hin : ¬ o.Id ∈ order g := by simpa using ct30
        rw [if_neg hin, List.append_nil] at hen
        refine CW.skip ?_
        refine CW.rg ?_
        refine CWops.run htt 3 (by simp only [go_sem, simprocAttr, wrap_succ (show i < MX by unfold MX; omega)]; exact rfl) (by simp [go_sem, simprocAttr, wrap_succ (show i < MX by unfold MX; omega)]) ?_
        refine CWops.done ?_
        refine ⟨i + 1, ?_, ?_, ?_⟩
        · dsimp only
          rw [hen]
          first | (refine Sh.wk (fun x => if x = 2 then 4 else x) ?_; simp [Wk, go_sem, simprocAttr, eGraph, eObj]; done) | (refine Sh.wk (fun x => if x = 2 then 3 else x) ?_; simp [Wk, go_sem, simprocAttr, eGraph, eObj]; done) | (refine Sh.wk0 ?_; simp [Wk, go_sem, simprocAttr, eGraph]; done)
        · exact hi
        · simp only; omega
    · have hi : i = g.O.length := by simp at ct19; omega
      rw [hi, List.take_length]
      refine CW.exit ?_
      refine CW.seq ?_
      refine CW.sh (Sh.frzT 5 2 rfl rfl rfl) ?_
      simp only [go_sem, simprocAttr]
      refine CW.rg ?_
      refine CWops.run htt 3 (by simp only [go_sem, simprocAttr, eGraph]; exact rfl) (by simp [go_sem, simprocAttr, eGraph]) ?_
      refine CWops.done ?_
      refine CW.seq ?_
      refine CW.rg ?_
      refine CWops.run htt 2 (by simp only [go_sem, simprocAttr, eGraph]; exact rfl) (by simp [go_sem, simprocAttr, eGraph]) ?_
      refine CWops.done ?_
      refine CW.ret ?_
      refine retQ.ret (by simp only [f15, go_sem, simprocAttr]; exact rfl) (by simp only [go_sem, simprocAttr]; exact rfl) ?_ -- ret2
      refine ⟨_, ?_, rfl⟩
      rw [gSweep_of hM]
      simp [leP, leL, eGraph, swO]
end Go.Ab
namespace Go.Ab
open Go Go.Proofs.Tryz
set_option maxRecDepth 100000
set_option maxHeartbeats 3200000
set_option linter.unusedSimpArgs false
set_option linter.unusedVariables false
theorem frz_ObjS (xs : List GObj) (i : Nat) (a b : Int) (F : List GVal) : (AV.own 3 ((xs.map eObj).set i [.int .i64 a, .int .i64 b, .own 3 (F.map eVal)])).freeze = .sl 3 ((xs.set i ⟨a, b, F⟩).map eObj) := by
  have h := frz_Obj 3 xs
  have hF := frz_Val 3 F
  simp only [AV.freeze, AV.sl.injEq, true_and, List.map_map] at h hF ⊢
  rw [List.map_set, List.map_map, h, List.map_set]
  congr 1
  simp only [List.map_cons, List.map_nil, AV.freeze, eObj, AV.sl.injEq, List.map_map, hF]
theorem ref08_Set_no (up : Bool) (g : Graph) (id k : Int) (v : GVal) (hsm : smallS g.S) (hN : ∀ o ∈ g.O, ∀ v ∈ o.F, -9223372036854775808 ≤ v.N ∧ v.N < 9223372036854775808) (hNv : -9223372036854775808 ≤ v.N ∧ v.N < 9223372036854775808) (f1 : fnd (fun o => decide (o.Id = id)) g.O = -1) (f3 : g.O.findIdx? (fun o => decide (o.Id = id)) = none) : PCall prog up 10 [.agg (eGraph g), .int .i64 id, .int .i64 k, .agg (eVal v)] (· = .tup [.agg (eGraph (gSet g id k v).1), .int .i64 (gSet g id k v).2]) := by
  refine PCall.intro htt func10 (by kernel_rfl) rfl (Nat.le_of_ble_eq_true rfl) fun hl => ?_

  simp only [tmps0, Nat.reduceAdd]
  refine CW.seq ?_
  refine CW.rg ?_
  refine CWops.run htt 4 (by simp only [go_sem, simprocAttr, eGraph, eVal]; exact rfl) (by simp [go_sem, simprocAttr, eGraph, eVal]) ?_
  refine CWops.done ?_
  refine CW.seq ?_
  refine CW.rg ?_
  refine CWops.run htt 1 (by simp only [go_sem, simprocAttr, eGraph]; exact rfl) (by simp [go_sem, simprocAttr, eGraph]) ?_
  refine CWops.call (ref08_May up g hsm hN) (by simp only [go_sem, simprocAttr, eGraph]) (by simp only [go_sem, simprocAttr, eGraph]; first | done | exact rfl) (by simp only [go_sem, simprocAttr, eGraph]) (fun rt14 hrt14 => ?_)
  subst hrt14; refine ⟨rfl, ?_⟩
  refine CWops.run htt 1 (by simp only [go_sem, simprocAttr, eGraph]; exact rfl) (by simp [go_sem, simprocAttr, eGraph]) ?_
  refine CWops.done ?_
  refine CW.seq ?_
  refine CW.seq ?_
  refine CW.rg ?_
  refine CWops.rn htt 2 ?_
  refine CWops.done ?_
  refine CW.cond (by simp only [go_sem, simprocAttr]; first | done | exact rfl) (fun ct16 => ?_) (fun ct16 => ?_)
  · have hm : gMay g = false := by simpa using ct16
    refine CW.seq ?_
    refine CW.rg ?_
    refine CWops.run htt 3 (by simp only [go_sem, simprocAttr, eGraph]; exact rfl) (by simp [go_sem, simprocAttr, eGraph]) ?_
    refine CWops.done ?_
    refine CW.ret ?_
    refine retQ.ret (by simp only [f10, go_sem, simprocAttr]; exact rfl) (by simp only [go_sem, simprocAttr]; exact rfl) ?_ -- ret1
    refine ⟨_, ?_, rfl⟩
    simp [leP, leL, gSet, hm, eGraph]
  · have hm : gMay g = true := by simpa using ct16
    have hM := (may_iff g).1 hm
    have ho8 := hM.o
    have hsm8 := hM.small
    refine CW.skip ?_
    refine CW.seq ?_
    refine CW.rg ?_
    refine CWops.run htt 2 (by simp only [go_sem, simprocAttr, eGraph]; exact rfl) (by simp [go_sem, simprocAttr, eGraph]) ?_
    refine CWops.call ((by have := ref08_Find up g id; rw [f1] at this; exact this)) (by simp only [go_sem, simprocAttr, eGraph]) (by simp only [go_sem, simprocAttr, eGraph]; first | done | exact rfl) (by simp only [go_sem, simprocAttr, eGraph]) (fun rt20 hrt20 => ?_)
    subst hrt20; refine ⟨rfl, ?_⟩
    refine CWops.run htt 1 (by simp only [go_sem, simprocAttr, eGraph]; exact rfl) (by simp [go_sem, simprocAttr, eGraph]) ?_
    refine CWops.done ?_
    refine CW.seq ?_
    refine CW.seq ?_
    refine CW.rg ?_
    refine CWops.run htt 3 (by simp only [go_sem, simprocAttr, eGraph]; exact rfl) (by simp [go_sem, simprocAttr, eGraph]) ?_
    all_goals (first | refine CWops.guard 23 (by simp only [go_sem, simprocAttr, eGraph]; exact rfl) (fun g23 => ?_) (fun g23 => ?_) | skip)
    all_goals (first | (exfalso; simp at g23; done) | skip)
    all_goals (refine CWops.run htt 4 (by simp only [go_sem, simprocAttr, eGraph]; exact rfl) (by simp [go_sem, simprocAttr, eGraph]) ?_)
    all_goals (first | refine CWops.guard 27 (by simp only [go_sem, simprocAttr, eGraph]; exact rfl) (fun g27 => ?_) (fun g27 => ?_) | skip)
    all_goals (first | (exfalso; simp at g27; done) | skip)
    all_goals (refine CWops.run htt 10 (by simp only [go_sem, simprocAttr, eGraph]; exact rfl) (by simp [go_sem, simprocAttr, eGraph]) ?_)
    all_goals (refine CWops.done ?_)
    all_goals (
      refine CW.cond (by simp only [go_sem, simprocAttr]; first | done | exact rfl) (fun ct37 => ?_) (fun ct37 => ?_)
      · refine CW.seq ?_
        refine CW.rg ?_
        refine CWops.run htt 3 (by simp only [go_sem, simprocAttr, eGraph]; exact rfl) (by simp [go_sem, simprocAttr, eGraph]) ?_
        refine CWops.done ?_
        refine CW.ret ?_
        refine retQ.ret (by simp only [f10, go_sem, simprocAttr]; exact rfl) (by simp only [go_sem, simprocAttr]; exact rfl) ?_ -- ret2
        refine ⟨_, ?_, rfl⟩
        simp [leP, leL, gSet, hm, f3, eGraph]
      · simp at ct37 )
theorem ref08_Set_bad (up : Bool) (g : Graph) (id k : Int) (v : GVal) (hsm : smallS g.S) (hN : ∀ o ∈ g.O, ∀ v ∈ o.F, -9223372036854775808 ≤ v.N ∧ v.N < 9223372036854775808) (hNv : -9223372036854775808 ≤ v.N ∧ v.N < 9223372036854775808) (i : Nat) (x : GObj) (f1 : fnd (fun o => decide (o.Id = id)) g.O = i) (f2 : g.O[i]? = some x) (f3 : g.O.findIdx? (fun o => decide (o.Id = id)) = some i) (hk : k < 0 ∨ (x.F.length : Int) ≤ k) : PCall prog up 10 [.agg (eGraph g), .int .i64 id, .int .i64 k, .agg (eVal v)] (· = .tup [.agg (eGraph (gSet g id k v).1), .int .i64 (gSet g id k v).2]) := by
  refine PCall.intro htt func10 (by kernel_rfl) rfl (Nat.le_of_ble_eq_true rfl) fun hl => ?_
  have hil := (List.getElem?_eq_some_iff.1 f2).1
  simp only [tmps0, Nat.reduceAdd]
  refine CW.seq ?_
  refine CW.rg ?_
  refine CWops.run htt 4 (by simp only [go_sem, simprocAttr, eGraph, eVal]; exact rfl) (by simp [go_sem, simprocAttr, eGraph, eVal]) ?_
  refine CWops.done ?_
  refine CW.seq ?_
  refine CW.rg ?_
  refine CWops.run htt 1 (by simp only [go_sem, simprocAttr, eGraph]; exact rfl) (by simp [go_sem, simprocAttr, eGraph]) ?_
  refine CWops.call (ref08_May up g hsm hN) (by simp only [go_sem, simprocAttr, eGraph]) (by simp only [go_sem, simprocAttr, eGraph]; first | done | exact rfl) (by simp only [go_sem, simprocAttr, eGraph]) (fun rt14 hrt14 => ?_)
  subst hrt14; refine ⟨rfl, ?_⟩
  refine CWops.run htt 1 (by simp only [go_sem, simprocAttr, eGraph]; exact rfl) (by simp [go_sem, simprocAttr, eGraph]) ?_
  refine CWops.done ?_
  refine CW.seq ?_
  refine CW.seq ?_
  refine CW.rg ?_
  refine CWops.rn htt 2 ?_
  refine CWops.done ?_
  refine CW.cond (by simp only [go_sem, simprocAttr]; first | done | exact rfl) (fun ct16 => ?_) (fun ct16 => ?_)
  · have hm : gMay g = false := by simpa using ct16
    refine CW.seq ?_
    refine CW.rg ?_
    refine CWops.run htt 3 (by simp only [go_sem, simprocAttr, eGraph]; exact rfl) (by simp [go_sem, simprocAttr, eGraph]) ?_
    refine CWops.done ?_
    refine CW.ret ?_
    refine retQ.ret (by simp only [f10, go_sem, simprocAttr]; exact rfl) (by simp only [go_sem, simprocAttr]; exact rfl) ?_ -- ret1
    refine ⟨_, ?_, rfl⟩
    simp [leP, leL, gSet, hm, eGraph]
  · have hm : gMay g = true := by simpa using ct16
    have hM := (may_iff g).1 hm
    have ho8 := hM.o
    have hsm8 := hM.small
    refine CW.skip ?_
    refine CW.seq ?_
    refine CW.rg ?_
    refine CWops.run htt 2 (by simp only [go_sem, simprocAttr, eGraph]; exact rfl) (by simp [go_sem, simprocAttr, eGraph]) ?_
    refine CWops.call ((by have := ref08_Find up g id; rw [f1] at this; exact this)) (by simp only [go_sem, simprocAttr, eGraph]) (by simp only [go_sem, simprocAttr, eGraph]; first | done | exact rfl) (by simp only [go_sem, simprocAttr, eGraph]) (fun rt20 hrt20 => ?_)
    subst hrt20; refine ⟨rfl, ?_⟩
    refine CWops.run htt 1 (by simp only [go_sem, simprocAttr, eGraph]; exact rfl) (by simp [go_sem, simprocAttr, eGraph]) ?_
    refine CWops.done ?_
    refine CW.seq ?_
    refine CW.cut ⟨3, [(4, .lv 0 [] 0), (8, .lv 2 [] 0), (9, .int .i64 0), (37, .bool true)], [(0, ⟨true, eGraph g⟩), (2, ⟨true, [.nilsl, .nilsl, .nilsl]⟩)]⟩ ?_ ?_
    · refine CW.rg ?_
      refine CWops.run htt 3 (by simp only [go_sem, simprocAttr, eGraph, f2, hil, eObj]; exact rfl) (by simp [go_sem, simprocAttr, eGraph, f2, hil, eObj]) ?_
      all_goals (first | refine CWops.guard 23 (by simp only [go_sem, simprocAttr, eGraph, f2, hil, eObj]; exact rfl) (fun g23 => ?_) (fun g23 => ?_) | skip)
      all_goals (first | (exfalso; simp at g23; done) | (exfalso; simp at g23; omega) | skip)
      all_goals (refine CWops.run htt 4 (by simp only [go_sem, simprocAttr, eGraph, f2, hil, eObj]; exact rfl) (by simp [go_sem, simprocAttr, eGraph, f2, hil, eObj]) ?_)
      all_goals (first | refine CWops.guard 27 (by simp only [go_sem, simprocAttr, eGraph, f2, hil, eObj]; exact rfl) (fun g27 => ?_) (fun g27 => ?_) | skip)
      all_goals (skip)
      all_goals (refine CWops.run htt 10 (by simp only [go_sem, simprocAttr, eGraph, f2, hil, eObj]; exact rfl) (by simp [go_sem, simprocAttr, eGraph, f2, hil, eObj]) ?_)
      all_goals (refine CWops.done ?_)
      all_goals (
        first | refine ⟨rfl, Sh.wk0 ?_⟩ | refine Sh.wk0 ?_
        first | (simp [Wk, go_sem, simprocAttr, eGraph]; done) | (simp [Wk, go_sem, simprocAttr, eGraph]; omega) | (simp at g27; simp [Wk, go_sem, simprocAttr, eGraph]; omega))
    refine CW.cond (by simp only [go_sem, simprocAttr]; first | done | exact rfl) (fun ct37 => ?_) (fun ct37 => ?_)
    · refine CW.seq ?_
      refine CW.rg ?_
      refine CWops.run htt 3 (by simp only [go_sem, simprocAttr, eGraph]; exact rfl) (by simp [go_sem, simprocAttr, eGraph]) ?_
      refine CWops.done ?_
      refine CW.ret ?_
      refine retQ.ret (by simp only [f10, go_sem, simprocAttr]; exact rfl) (by simp only [go_sem, simprocAttr]; exact rfl) ?_ -- ret2
      refine ⟨_, ?_, rfl⟩
      simp [leP, leL, gSet, hm, f3, f2, hk, eGraph]
    · cases ct37
theorem ref08_Set_ok (up : Bool) (g : Graph) (id k : Int) (v : GVal) (hsm : smallS g.S) (hN : ∀ o ∈ g.O, ∀ v ∈ o.F, -9223372036854775808 ≤ v.N ∧ v.N < 9223372036854775808) (hNv : -9223372036854775808 ≤ v.N ∧ v.N < 9223372036854775808) (i q : Nat) (x : GObj) (f1 : fnd (fun o => decide (o.Id = id)) g.O = i) (f2 : g.O[i]? = some x) (f3 : g.O.findIdx? (fun o => decide (o.Id = id)) = some i) (hq : q < x.F.length) (hkq : k = q) : PCall prog up 10 [.agg (eGraph g), .int .i64 id, .int .i64 k, .agg (eVal v)] (· = .tup [.agg (eGraph (gSet g id k v).1), .int .i64 (gSet g id k v).2]) := by
  refine PCall.intro htt func10 (by kernel_rfl) rfl (Nat.le_of_ble_eq_true rfl) fun hl => ?_
  subst hkq
  have hil := (List.getElem?_eq_some_iff.1 f2).1
  obtain ⟨w, hw⟩ : ∃ w, x.F[q]? = some w := ⟨x.F[q], List.getElem?_eq_getElem hq⟩
  simp only [tmps0, Nat.reduceAdd]
  refine CW.seq ?_
  refine CW.rg ?_
  refine CWops.run htt 4 (by simp only [go_sem, simprocAttr, eGraph, eVal]; exact rfl) (by simp [go_sem, simprocAttr, eGraph, eVal]) ?_
  refine CWops.done ?_
  refine CW.seq ?_
  refine CW.rg ?_
  refine CWops.run htt 1 (by simp only [go_sem, simprocAttr, eGraph]; exact rfl) (by simp [go_sem, simprocAttr, eGraph]) ?_
  refine CWops.call (ref08_May up g hsm hN) (by simp only [go_sem, simprocAttr, eGraph]) (by simp only [go_sem, simprocAttr, eGraph]; first | done | exact rfl) (by simp only [go_sem, simprocAttr, eGraph]) (fun rt14 hrt14 => ?_)
  subst hrt14; refine ⟨rfl, ?_⟩
  refine CWops.run htt 1 (by simp only [go_sem, simprocAttr, eGraph]; exact rfl) (by simp [go_sem, simprocAttr, eGraph]) ?_
  refine CWops.done ?_
  refine CW.seq ?_
  refine CW.seq ?_
  refine CW.rg ?_
  refine CWops.rn htt 2 ?_
  refine CWops.done ?_
  refine CW.cond (by simp only [go_sem, simprocAttr]; first | done | exact rfl) (fun ct16 => ?_) (fun ct16 => ?_)
  · have hm : gMay g = false := by simpa using ct16
    refine CW.seq ?_
    refine CW.rg ?_
    refine CWops.run htt 3 (by simp only [go_sem, simprocAttr, eGraph]; exact rfl) (by simp [go_sem, simprocAttr, eGraph]) ?_
    refine CWops.done ?_
    refine CW.ret ?_
    refine retQ.ret (by simp only [f10, go_sem, simprocAttr]; exact rfl) (by simp only [go_sem, simprocAttr]; exact rfl) ?_ -- ret1
    refine ⟨_, ?_, rfl⟩
    simp [leP, leL, gSet, hm, eGraph]
  · have hm : gMay g = true := by simpa using ct16
    have hM := (may_iff g).1 hm
    have ho8 := hM.o
    have hsm8 := hM.small
    obtain ⟨_, t, hT, hmo⟩ := hM.objT f2
    obtain ⟨tq, hti⟩ := Int.eq_ofNat_of_zero_le hmo.t0
    have hS : g.S[tq]? = some t := by have := hmo.at_; rw [hti] at this; simpa using this
    have htl := (List.getElem?_eq_some_iff.1 hS).1
    have hlen := hmo.len
    have hqt : q < t.F.length := by omega
    obtain ⟨f, hf⟩ : ∃ f, t.F[q]? = some f := ⟨t.F[q], List.getElem?_eq_getElem hqt⟩
    have hx5 := hsm8.2.2 x (List.mem_of_getElem? f2)
    have hlr : leadsR g f v = leadsAt g (tyF g x.T) q v := by
      rw [leadsR_eq (fun i y hy => (hM.objT hy).1)]
      unfold leadsAt tyF
      rw [hT]; simp only [hf]
    rw [hti] at hlr
    refine CW.skip ?_
    refine CW.seq ?_
    refine CW.rg ?_
    refine CWops.run htt 2 (by simp only [go_sem, simprocAttr, eGraph]; exact rfl) (by simp [go_sem, simprocAttr, eGraph]) ?_
    refine CWops.call ((by have := ref08_Find up g id; rw [f1] at this; exact this)) (by simp only [go_sem, simprocAttr, eGraph]) (by simp only [go_sem, simprocAttr, eGraph]; first | done | exact rfl) (by simp only [go_sem, simprocAttr, eGraph]) (fun rt20 hrt20 => ?_)
    subst hrt20; refine ⟨rfl, ?_⟩
    refine CWops.run htt 1 (by simp only [go_sem, simprocAttr, eGraph]; exact rfl) (by simp [go_sem, simprocAttr, eGraph]) ?_
    refine CWops.done ?_
    refine CW.seq ?_
    refine CW.cut ⟨3, [(2, .int .i64 (q : Int)), (4, .lv 0 [] 0), (7, .lv 1 [] 0), (8, .lv 2 [] 0), (9, .int .i64 0), (11, .int .i64 (i : Int)), (37, .bool false)], [(0, ⟨true, eGraph g⟩), (1, ⟨true, eVal v⟩), (2, ⟨true, [.nilsl, .nilsl, .nilsl]⟩)]⟩ ?_ ?_
    · refine CW.rg ?_
      refine CWops.run htt 3 (by simp only [go_sem, simprocAttr, eGraph, f2, hil, eObj, hq]; exact rfl) (by simp [go_sem, simprocAttr, eGraph, f2, hil, eObj, hq]) ?_
      all_goals (first | refine CWops.guard 23 (by simp only [go_sem, simprocAttr, eGraph, f2, hil, eObj, hq]; exact rfl) (fun g23 => ?_) (fun g23 => ?_) | skip)
      all_goals (first | (exfalso; simp at g23; done) | (exfalso; simp at g23; omega) | skip)
      all_goals (refine CWops.run htt 4 (by simp only [go_sem, simprocAttr, eGraph, f2, hil, eObj, hq]; exact rfl) (by simp [go_sem, simprocAttr, eGraph, f2, hil, eObj, hq]) ?_)
      all_goals (first | refine CWops.guard 27 (by simp only [go_sem, simprocAttr, eGraph, f2, hil, eObj, hq]; exact rfl) (fun g27 => ?_) (fun g27 => ?_) | skip)
      all_goals (first | (exfalso; simp at g27; done) | (exfalso; simp at g27; omega) | skip)
      all_goals (refine CWops.run htt 10 (by simp only [go_sem, simprocAttr, eGraph, f2, hil, eObj, hq]; exact rfl) (by simp [go_sem, simprocAttr, eGraph, f2, hil, eObj, hq]) ?_)
      all_goals (refine CWops.done ?_)
      all_goals (
        first | refine ⟨rfl, Sh.wk0 ?_⟩ | refine Sh.wk0 ?_
        first | (simp [Wk, go_sem, simprocAttr, eGraph, eVal]; done) | (simp [Wk, go_sem, simprocAttr, eGraph, eVal]; omega))
    refine CW.cond (by simp only [go_sem, simprocAttr]; first | done | exact rfl) (fun ct37 => ?_) (fun ct37 => ?_)
    · cases ct37 
    · refine CW.skip ?_
      refine CW.seq ?_
      refine CW.drawn mixed 17 (by decide) (by kernel_rfl) (by kernel_rfl) (by kernel_rfl) ?_
      refine Seg.run htt 17 (by simp only [go_sem, simprocAttr, eGraph, eSchema, f2, hil, eObj, hti, hS, htl, eType, hf, hqt, eVal, eField]; exact rfl) ?_
      refine Seg.done ?_
      refine CWops.call ((by have := ref08_leads up g f v hNv; rw [hlr] at this; exact this)) (by simp only [go_sem, simprocAttr, eGraph, eSchema, f2, hil, eObj, hti, hS, htl, eType, hf, hqt, eVal, eField]) (by simp only [go_sem, simprocAttr, eGraph, eSchema, f2, hil, eObj, hti, hS, htl, eType, hf, hqt, eVal, eField]; first | done | exact rfl) (by simp only [go_sem, simprocAttr, eGraph, eSchema, f2, hil, eObj, hti, hS, htl, eType, hf, hqt, eVal, eField]) (fun rt56 hrt56 => ?_)
      subst hrt56; refine ⟨rfl, ?_⟩
      refine CWops.run htt 1 (by simp only [go_sem, simprocAttr, eGraph, eSchema, f2, hil, eObj, hti, hS, htl, eType, hf, hqt, eVal, eField]; exact rfl) (by simp [go_sem, simprocAttr, eGraph, eSchema, f2, hil, eObj, hti, hS, htl, eType, hf, hqt, eVal, eField]) ?_
      refine CWops.done ?_
      refine CW.seq ?_
      refine CW.seq ?_
      refine CW.rg ?_
      refine CWops.rn htt 2 ?_
      refine CWops.done ?_
      refine CW.cond (by simp only [go_sem, simprocAttr]; first | done | exact rfl) (fun ct58 => ?_) (fun ct58 => ?_)
      · have hld : leadsAt g (tyF g (tq : Int)) q v = false := by simpa using ct58
        refine CW.seq ?_
        refine CW.rg ?_
        refine CWops.run htt 3 (by simp only [go_sem, simprocAttr, eGraph]; exact rfl) (by simp [go_sem, simprocAttr, eGraph]) ?_
        refine CWops.done ?_
        refine CW.ret ?_
        refine retQ.ret (by simp only [f10, go_sem, simprocAttr]; exact rfl) (by simp only [go_sem, simprocAttr]; exact rfl) ?_ -- ret2
        refine ⟨_, ?_, rfl⟩
        simp [leP, leL, gSet, hm, f3, f2, hti, hld, hq, show ¬ ((q : Int) < 0) by omega, Nat.not_le.2 hq, eGraph]
      · have hld : leadsAt g (tyF g (tq : Int)) q v = true := by simpa using ct58
        refine CW.skip ?_
        refine CW.seq ?_
        refine CW.rg ?_
        refine CWops.run htt 5 (by simp only [go_sem, simprocAttr, eGraph]; exact rfl) (by refine ⟨fun r hr c hc => ?_, ?_, ?_⟩ <;> first | (obtain ⟨o9, _, rfl⟩ := List.mem_map.1 hr; simp [eObj] at hc; rcases hc with rfl | rfl | rfl <;> rfl) | (simp [MX]; omega)) ?_
        refine CWops.done ?_
        refine CW.seq ?_
        refine CW.drawnF mixed 9 10 [0, 1, 2] (D := [64, 65, 66]) (by decide) (by decide) (by kernel_rfl) (by kernel_rfl) rfl (by kernel_rfl) (by kernel_rfl) ?_
        refine Seg.run htt 9 (by simp only [go_sem, simprocAttr, eGraph, f2, hil, eObj, eVal, eField]; exact rfl) ?_
        refine Seg.done ?_
        refine Mid.eop htt [64, 65, 66] (Flo.cons htt rfl rfl (by simp only [go_sem, simprocAttr, eGraph, f2, hil, eObj, eVal, eField]; first | done | exact rfl) (Flo.cons htt rfl rfl (by simp only [go_sem, simprocAttr, eGraph, f2, hil, eObj, eVal, eField]; first | done | exact rfl) (Flo.cons htt rfl rfl (by simp only [go_sem, simprocAttr, eGraph, f2, hil, eObj, eVal, eField]; first | done | exact rfl) (Flo.nil)))) (by decide) ?_ (by kernel_rfl) (by kernel_rfl) (fun u => by simp only [go_sem, simprocAttr, eGraph, f2, hil, eObj, eVal, eField]; exact rfl) ?_
        · refine ⟨fun r hr c hc => ?_, ?_, ?_⟩ <;> first | (obtain ⟨o9, _, rfl⟩ := List.mem_map.1 hr; simp [eVal] at hc; rcases hc with rfl | rfl | rfl <;> rfl) | (simp [MX]; omega)
        refine Mid.done (Flo.cons htt rfl rfl (by simp only [go_sem, simprocAttr, eGraph, f2, hil, eObj, eVal, eField]; first | done | exact rfl) (Flo.cons htt rfl rfl (by simp only [go_sem, simprocAttr, eGraph, f2, hil, eObj, eVal, eField]; first | done | exact rfl) (Flo.cons htt rfl rfl (by simp only [go_sem, simprocAttr, eGraph, f2, hil, eObj, eVal, eField]; first | done | exact rfl) (Flo.nil)))) ?_
        refine CWops.run htt 3 (by simp only [go_sem, simprocAttr, eGraph, f2, hil, eObj, eVal, eField]; exact rfl) (by simp [go_sem, simprocAttr, eGraph, f2, hil, eObj, eVal, eField]) ?_
        refine CWops.done ?_
        refine CW.seq ?_
        refine CW.drawn mixed 8 (by decide) (by kernel_rfl) (by kernel_rfl) (by kernel_rfl) ?_
        refine Seg.run htt 8 (by simp only [go_sem, simprocAttr, eGraph, f2, hil, eObj, hw, hq, eVal, List.getElem?_set_self, List.length_map, List.length_set, List.set_set]; exact rfl) ?_
        refine Seg.done ?_
        refine CWops.run htt 2 (by simp only [go_sem, simprocAttr, eGraph, f2, hil, eObj, hw, hq, eVal, List.getElem?_set_self, List.length_map, List.length_set, List.set_set]; exact rfl) (by simp [go_sem, simprocAttr, eGraph, f2, hil, eObj, hw, hq, eVal, List.getElem?_set_self, List.length_map, List.length_set, List.set_set]) ?_
        refine CWops.done ?_
        rw [show (List.map eVal x.F).set q [.int .i64 v.N, .str v.S, .int .i64 v.R] = (x.F.set q v).map eVal by rw [List.map_set]; rfl]
        refine CW.seq ?_
        refine CW.rg ?_
        refine CWops.run htt 3 (by simp only [go_sem, simprocAttr, eGraph]; exact rfl) (by simp [go_sem, simprocAttr, eGraph]) ?_
        refine CWops.done ?_
        refine CW.ret ?_
        refine retQ.ret (by simp only [f10, go_sem, simprocAttr]; exact rfl) (by simp only [go_sem, simprocAttr]; exact rfl) ?_ -- ret3
        refine ⟨_, ?_, rfl⟩
        simp [leP, leL, gSet, hm, f3, f2, hti, hld, hq, show ¬ ((q : Int) < 0) by omega, Nat.not_le.2 hq, eGraph]
        have hfz := frz_ObjS g.O i x.Id tq (x.F.set q v)
        rw [List.map_set] at hfz
        exact ⟨rfl, Or.inl (hfz.trans (by simp [sSet, hti])), rfl⟩
theorem ref08_Set (up : Bool) (g : Graph) (id k : Int) (v : GVal) (hsm : smallS g.S) (hN : ∀ o ∈ g.O, ∀ v ∈ o.F, -9223372036854775808 ≤ v.N ∧ v.N < 9223372036854775808) (hNv : -9223372036854775808 ≤ v.N ∧ v.N < 9223372036854775808) : PCall prog up 10 [.agg (eGraph g), .int .i64 id, .int .i64 k, .agg (eVal v)] (· = .tup [.agg (eGraph (gSet g id k v).1), .int .i64 (gSet g id k v).2]) := by
  rcases find_cases (fun o => decide (o.Id = id)) g.O with ⟨f1, _, f3⟩ | ⟨i, x, f1, f2, _, f4, _⟩
  · exact ref08_Set_no up g id k v hsm hN hNv f1 f3
  · by_cases hk : k < 0 ∨ (x.F.length : Int) ≤ k
    · exact ref08_Set_bad up g id k v hsm hN hNv i x f1 f2 f4 hk
    · obtain ⟨q, hq⟩ := Int.eq_ofNat_of_zero_le (show 0 ≤ k by omega)
      exact ref08_Set_ok up g id k v hsm hN hNv i q x f1 f2 f4 (by omega) hq
end Go.Ab
namespace Go.Ab
open Go Go.Proofs.Tryz
set_option maxRecDepth 100000
set_option maxHeartbeats 3200000
set_option linter.unusedSimpArgs false
set_option linter.unusedVariables false
theorem ref08_Root (up : Bool) (g : Graph) (i id : Int) (hsm : smallS g.S) (hN : ∀ o ∈ g.O, ∀ v ∈ o.F, -9223372036854775808 ≤ v.N ∧ v.N < 9223372036854775808) : PCall prog up 12 [.agg (eGraph g), .int .i64 i, .int .i64 id] (· = .tup [.agg (eGraph (gRoot g i id).1), .int .i64 (gRoot g i id).2]) := by
  refine PCall.intro htt func12 (by kernel_rfl) rfl (Nat.le_of_ble_eq_true rfl) fun hl => ?_
  have hfn : fnd (fun o => decide (o.Id = id)) g.O = -1 ∨ 0 ≤ fnd (fun o => decide (o.Id = id)) g.O := by
    rcases find_cases (fun o => decide (o.Id = id)) g.O with ⟨h1, _⟩ | ⟨i9, y, h1, _⟩
    · exact .inl h1
    · exact .inr (by omega)
  simp only [tmps0, Nat.reduceAdd]
  refine CW.seq ?_
  refine CW.rg ?_
  refine CWops.run htt 3 (by simp only [go_sem, simprocAttr, eGraph]; exact rfl) (by simp [go_sem, simprocAttr, eGraph]) ?_
  refine CWops.done ?_
  refine CW.seq ?_
  refine CW.rg ?_
  refine CWops.run htt 1 (by simp only [go_sem, simprocAttr, eGraph]; exact rfl) (by simp [go_sem, simprocAttr, eGraph]) ?_
  refine CWops.call (ref08_May up g hsm hN) (by simp only [go_sem, simprocAttr, eGraph]) (by simp only [go_sem, simprocAttr, eGraph]; first | done | exact rfl) (by simp only [go_sem, simprocAttr, eGraph]) (fun rt10 hrt10 => ?_)
  subst hrt10; refine ⟨rfl, ?_⟩
  refine CWops.run htt 1 (by simp only [go_sem, simprocAttr, eGraph]; exact rfl) (by simp [go_sem, simprocAttr, eGraph]) ?_
  refine CWops.done ?_
  refine CW.seq ?_
  refine CW.seq ?_
  refine CW.rg ?_
  refine CWops.rn htt 2 ?_
  refine CWops.done ?_
  refine CW.cond (by simp only [go_sem, simprocAttr]; first | done | exact rfl) (fun ct12 => ?_) (fun ct12 => ?_)
  · have hmf : gMay g = false := by simpa using ct12
    refine CW.seq ?_
    refine CW.rg ?_
    refine CWops.run htt 3 (by simp only [go_sem, simprocAttr, eGraph]; exact rfl) (by simp [go_sem, simprocAttr, eGraph]) ?_
    refine CWops.done ?_
    refine CW.ret ?_
    refine retQ.ret (by simp only [f12, go_sem, simprocAttr]; exact rfl) (by simp only [go_sem, simprocAttr]; exact rfl) ?_ -- ret1
    refine ⟨_, ?_, rfl⟩
    simp [leP, leL, gRoot, hmf, eGraph]
  · have hmm : gMay g = true := by simpa using ct12
    have hm := (may_iff g).1 hmm
    have hr3 := hm.r
    refine CW.skip ?_
    refine CW.seq ?_
    refine CW.cut ⟨2, [(1, .int .i64 i), (2, .int .i64 id), (3, .lv 0 [] 0), (6, .lv 1 [] 0), (7, .int .i64 0), (36, .bool (rootBad g i id))], [(0, ⟨true, eGraph g⟩), (1, ⟨true, [.nilsl, .nilsl, .nilsl]⟩)]⟩ ?_ ?_
    · refine CW.rg ?_
      refine CWops.run htt 3 (by simp only [go_sem, simprocAttr, eGraph]; exact rfl) (by simp [go_sem, simprocAttr, eGraph]) ?_
      all_goals (first | refine CWops.guard 16 (by simp only [go_sem, simprocAttr, eGraph]; exact rfl) (fun g16 => ?_) (fun g16 => ?_) | skip)
      all_goals (refine CWops.run htt 4 (by simp only [go_sem, simprocAttr, eGraph]; exact rfl) (by simp [go_sem, simprocAttr, eGraph]) ?_)
      all_goals (first | refine CWops.guard 20 (by simp only [go_sem, simprocAttr, eGraph]; exact rfl) (fun g20 => ?_) (fun g20 => ?_) | skip)
      all_goals (refine CWops.run htt 7 (by simp only [go_sem, simprocAttr, eGraph]; exact rfl) (by simp [go_sem, simprocAttr, eGraph]) ?_)
      all_goals (first | refine CWops.guard 27 (by simp only [go_sem, simprocAttr, eGraph]; exact rfl) (fun g27 => ?_) (fun g27 => ?_) | skip)
      all_goals (refine CWops.run htt 3 (by simp only [go_sem, simprocAttr, eGraph]; exact rfl) (by simp [go_sem, simprocAttr, eGraph]) ?_)
      all_goals (first | refine CWops.guard 30 (by simp only [go_sem, simprocAttr, eGraph]; exact rfl) (fun g30 => ?_) (fun g30 => ?_) | skip)
      all_goals (refine CWops.run htt 2 (by simp only [go_sem, simprocAttr, eGraph]; exact rfl) (by simp [go_sem, simprocAttr, eGraph]) ?_)
      all_goals (first | (refine CWops.skip ?_ ?_; next => (simp only [go_sem, simprocAttr]; done)) | (refine CWops.call (ref08_Find up g id) (by simp only [go_sem, simprocAttr, eGraph]) (by simp only [go_sem, simprocAttr, eGraph]; first | done | exact rfl) (by simp only [go_sem, simprocAttr, eGraph]) (fun rt33 hrt33 => ?_); subst hrt33; refine ⟨rfl, ?_⟩))
      all_goals (refine CWops.run htt 3 (by simp only [go_sem, simprocAttr, eGraph]; exact rfl) (by simp [go_sem, simprocAttr, eGraph]) ?_)
      all_goals (refine CWops.done ?_)
      all_goals (
        first | refine ⟨rfl, Sh.wk0 ?_⟩ | refine Sh.wk0 ?_
        unfold rootBad
        by_cases b1 : i < 0 <;> by_cases b2 : 3 ≤ i <;> by_cases b3 : (g.Roots.length : Int) < i <;> by_cases b4 : id = -1 <;> by_cases b5 : fnd (fun o => decide (o.Id = id)) g.O = -1 <;> simp_all [Wk, go_sem, simprocAttr, eGraph] <;> first | omega | (rw [decide_eq_false (show ¬ fnd (fun o => decide (o.Id = id)) g.O < 0 by omega)]; symm; simp; omega))
    refine CW.cond (by simp only [go_sem, simprocAttr]; first | done | exact rfl) (fun ct36 => ?_) (fun ct36 => ?_)
    · refine CW.seq ?_
      refine CW.rg ?_
      refine CWops.run htt 3 (by simp only [go_sem, simprocAttr, eGraph]; exact rfl) (by simp [go_sem, simprocAttr, eGraph]) ?_
      refine CWops.done ?_
      refine CW.ret ?_
      refine retQ.ret (by simp only [f12, go_sem, simprocAttr]; exact rfl) (by simp only [go_sem, simprocAttr]; exact rfl) ?_ -- ret2
      refine ⟨_, ?_, rfl⟩
      simp [leP, leL, gRoot, hmm, ct36, eGraph]
    · have hb := ct36
      unfold rootBad at hb
      simp only [Bool.or_eq_false_iff, decide_eq_false_iff_not] at hb
      obtain ⟨j, rfl⟩ := Int.eq_ofNat_of_zero_le (show 0 ≤ i by omega)
      have hj : j ≤ g.Roots.length := by omega
      refine CW.skip ?_
      refine CW.cut ⟨2, [(1, .int .i64 (j : Int)), (2, .int .i64 id), (3, .lv 0 [] 0), (6, .lv 1 [] 0), (7, .int .i64 0)], [(0, ⟨true, [.sl 2 (g.S.map eType), .sl 3 (g.O.map eObj), .own 1 (g.Roots.map eI)]⟩), (1, ⟨true, [.nilsl, .nilsl, .nilsl]⟩)]⟩ ?_ ?_
      · refine CW.rg ?_
        refine CWops.run htt 5 (by simp only [go_sem, simprocAttr, eGraph]; exact rfl) (by refine ⟨fun r hr c hc => ?_, ?_, ?_⟩ <;> first | (obtain ⟨o9, _, rfl⟩ := List.mem_map.1 hr; simp [eI] at hc; subst hc; rfl) | (simp [MX]; omega)) ?_
        refine CWops.done ?_
        first | refine ⟨rfl, Sh.wk0 ?_⟩ | refine Sh.wk0 ?_
        simp [Wk, go_sem, simprocAttr, eGraph]
      refine CW.seq ?_
      refine CW.seq ?_
      refine CW.rg ?_
      refine CWops.rn htt 5 ?_
      refine CWops.done ?_
      refine CW.cond (by simp only [go_sem, simprocAttr]; first | done | exact rfl) (fun ct46 => ?_) (fun ct46 => ?_)
      · have hje : j = g.Roots.length := by simp at ct46; omega
        refine CW.rg ?_
        refine CWops.run htt 7 (by simp only [go_sem, simprocAttr, List.replicate]; exact rfl) (by simp [AV.cell, AV.tree, MX] <;> omega) ?_
        refine CWops.done ?_
        rw [show (List.map eI g.Roots ++ [[AV.int .i64 id]]) = (g.Roots ++ [id]).map eI by simp [eI]]
        generalize hl2 : g.Roots ++ [id] = l2
        have hkl : j < l2.length := by rw [← hl2]; simp; omega
        obtain ⟨w, hw⟩ : ∃ x, l2[j]? = some x := ⟨l2[j], List.getElem?_eq_getElem hkl⟩
        refine CW.seq ?_
        refine CW.rg ?_
        refine CWops.run htt 6 (by simp only [go_sem, simprocAttr, List.getElem?_set_self, List.length_map, hkl, hw, eI]; exact rfl) (by simp [go_sem, simprocAttr, List.getElem?_set_self, List.length_map, hkl, hw, eI]) ?_
        refine CWops.done ?_
        first | rw [show (List.map eI l2).set j [AV.int .i64 id] = (setRoot g.Roots j id).map eI by rw [← hl2, hje, List.map_append]; exact set_app g.Roots id] | rw [set_root (Nat.ne_of_lt hkl) id]
        refine CW.seq ?_
        refine CW.rg ?_
        refine CWops.rn htt 3 ?_
        refine CWops.done ?_
        refine CW.ret ?_
        refine retQ.ret (by simp only [f12, go_sem, simprocAttr]; exact rfl) (by simp only [go_sem, simprocAttr]; exact rfl) ?_ -- ret3
        refine ⟨_, ?_, rfl⟩
        simp [leP, leL, gRoot, hmm, ct36, eGraph, frz_I]
      · have hkl : j < g.Roots.length := by simp at ct46; omega
        obtain ⟨w, hw⟩ : ∃ x, g.Roots[j]? = some x := ⟨g.Roots[j], List.getElem?_eq_getElem hkl⟩
        refine CW.skip ?_
        refine CW.seq ?_
        refine CW.rg ?_
        refine CWops.run htt 6 (by simp only [go_sem, simprocAttr, List.getElem?_set_self, List.length_map, hkl, hw, eI]; exact rfl) (by simp [go_sem, simprocAttr, List.getElem?_set_self, List.length_map, hkl, hw, eI]) ?_
        refine CWops.done ?_
        first | rw [show (List.map eI l2).set j [AV.int .i64 id] = (setRoot g.Roots j id).map eI by rw [← hl2, hje, List.map_append]; exact set_app g.Roots id] | rw [set_root (Nat.ne_of_lt hkl) id]
        refine CW.seq ?_
        refine CW.rg ?_
        refine CWops.rn htt 3 ?_
        refine CWops.done ?_
        refine CW.ret ?_
        refine retQ.ret (by simp only [f12, go_sem, simprocAttr]; exact rfl) (by simp only [go_sem, simprocAttr]; exact rfl) ?_ -- ret4
        refine ⟨_, ?_, rfl⟩
        simp [leP, leL, gRoot, hmm, ct36, eGraph, frz_I]
theorem ref08_New (up : Bool) (g : Graph) (t : Int) (hsm : smallS g.S) (hN : ∀ o ∈ g.O, ∀ v ∈ o.F, -9223372036854775808 ≤ v.N ∧ v.N < 9223372036854775808) : PCall prog up 8 [.agg (eGraph g), .int .i64 t] (· = .tup [.agg (eGraph (gNew g t).1), .int .i64 (gNew g t).2.1, .int .i64 (gNew g t).2.2]) := by
  refine PCall.intro htt func8 (by kernel_rfl) rfl (Nat.le_of_ble_eq_true rfl) fun hl => ?_

  simp only [tmps0, Nat.reduceAdd]
  refine CW.seq ?_
  refine CW.rg ?_
  refine CWops.run htt 4 (by simp only [go_sem, simprocAttr, eGraph]; exact rfl) (by simp [go_sem, simprocAttr, eGraph]) ?_
  refine CWops.done ?_
  refine CW.seq ?_
  refine CW.rg ?_
  refine CWops.run htt 1 (by simp only [go_sem, simprocAttr, eGraph]; exact rfl) (by simp [go_sem, simprocAttr, eGraph]) ?_
  refine CWops.call (ref08_May up g hsm hN) (by simp only [go_sem, simprocAttr, eGraph]) (by simp only [go_sem, simprocAttr, eGraph]; first | done | exact rfl) (by simp only [go_sem, simprocAttr, eGraph]) (fun rt12 hrt12 => ?_)
  subst hrt12; refine ⟨rfl, ?_⟩
  refine CWops.run htt 1 (by simp only [go_sem, simprocAttr, eGraph]; exact rfl) (by simp [go_sem, simprocAttr, eGraph]) ?_
  refine CWops.done ?_
  refine CW.seq ?_
  refine CW.seq ?_
  refine CW.rg ?_
  refine CWops.rn htt 2 ?_
  refine CWops.done ?_
  refine CW.cond (by simp only [go_sem, simprocAttr]; first | done | exact rfl) (fun ct14 => ?_) (fun ct14 => ?_)
  · have hmf : gMay g = false := by simpa using ct14
    refine CW.seq ?_
    refine CW.rg ?_
    refine CWops.run htt 4 (by simp only [go_sem, simprocAttr, eGraph]; exact rfl) (by simp [go_sem, simprocAttr, eGraph]) ?_
    refine CWops.done ?_
    refine CW.ret ?_
    refine retQ.ret (by simp only [f8, go_sem, simprocAttr]; exact rfl) (by simp only [go_sem, simprocAttr]; exact rfl) ?_ -- ret1
    refine ⟨_, ?_, rfl⟩
    simp [leP, leL, gNew, hmf, eGraph]
  · have hmm : gMay g = true := by simpa using ct14
    have hm := (may_iff g).1 hmm
    have ho8 := hm.o
    refine CW.skip ?_
    refine CW.seq ?_
    refine CW.cut ⟨2, [(1, .int .i64 t), (2, .lv 0 [] 0), (4, .lv 1 [] 0), (5, .int .i64 0), (6, .int .i64 0), (25, .bool (decide (t < 0) || decide ((g.S.length : Int) ≤ t)))], [(0, ⟨true, eGraph g⟩), (1, ⟨true, [.nilsl, .nilsl, .nilsl]⟩)]⟩ ?_ ?_
    · refine CW.rg ?_
      refine CWops.run htt 3 (by simp only [go_sem, simprocAttr, eGraph, eSchema]; exact rfl) (by simp [go_sem, simprocAttr, eGraph, eSchema]) ?_
      all_goals (first | refine CWops.guard 18 (by simp only [go_sem, simprocAttr, eGraph, eSchema]; exact rfl) (fun g18 => ?_) (fun g18 => ?_) | skip)
      all_goals (refine CWops.run htt 7 (by simp only [go_sem, simprocAttr, eGraph, eSchema]; exact rfl) (by simp [go_sem, simprocAttr, eGraph, eSchema]) ?_)
      all_goals (refine CWops.done ?_)
      all_goals (
        first | refine ⟨rfl, Sh.wk0 ?_⟩ | refine Sh.wk0 ?_
        simp_all [Wk, go_sem, simprocAttr, eGraph]
        try (intro h; omega))
    refine CW.cond (by simp only [go_sem, simprocAttr]; first | done | exact rfl) (fun ct25 => ?_) (fun ct25 => ?_)
    · refine CW.seq ?_
      refine CW.rg ?_
      refine CWops.run htt 4 (by simp only [go_sem, simprocAttr, eGraph]; exact rfl) (by simp [go_sem, simprocAttr, eGraph]) ?_
      refine CWops.done ?_
      refine CW.ret ?_
      refine retQ.ret (by simp only [f8, go_sem, simprocAttr]; exact rfl) (by simp only [go_sem, simprocAttr]; exact rfl) ?_ -- ret2
      refine ⟨_, ?_, rfl⟩
      simp [leP, leL, gNew, hmm, ct25, eGraph]
    · have hno := ct25
      simp only [Bool.or_eq_false_iff, decide_eq_false_iff_not] at hno
      obtain ⟨q, rfl⟩ := Int.eq_ofNat_of_zero_le (show 0 ≤ t by omega)
      have hql : q < g.S.length := by omega
      obtain ⟨ty, ht⟩ : ∃ x, g.S[q]? = some x := ⟨g.S[q], List.getElem?_eq_getElem hql⟩
      have htF : tyF g q = ty.F := by unfold tyF typeAt; simp [ht]
      have hf5 := hm.small.2.1 ty (List.mem_of_getElem? ht)
      refine CW.skip ?_
      refine CW.seq ?_
      refine CW.rg ?_
      refine CWops.rn htt 1 ?_
      refine CWops.done ?_
      refine CW.cut ⟨2, [(1, .int .i64 (q : Int)), (2, .lv 0 [] 0), (4, .lv 1 [] 0), (5, .int .i64 0), (6, .int .i64 0), (8, .int .i64 (newId g))], [(0, ⟨true, eGraph g⟩), (1, ⟨true, [.nilsl, .nilsl, .nilsl]⟩)]⟩ ?_ ?_
      · refine CW.seq ?_
        refine CW.rg ?_
        refine CWops.run htt 4 (by simp only [go_sem, simprocAttr, eGraph]; exact rfl) (by simp [go_sem, simprocAttr, eGraph]) ?_
        refine CWops.done ?_
        refine CW.cond (by simp only [go_sem, simprocAttr]; first | done | exact rfl) (fun ct30 => ?_) (fun ct30 => ?_)
        · obtain ⟨m, hml'⟩ : ∃ m, g.O.length = m + 1 := ⟨g.O.length - 1, by simp at ct30; omega⟩
          have hml : m < g.O.length := by omega
          obtain ⟨z, hx⟩ : ∃ x, g.O[m]? = some x := ⟨g.O[m], List.getElem?_eq_getElem hml⟩
          have hw1 : IntKind.i64.wrap ((g.O.length : Int) - 1) = (m : Int) := by rw [wrap_id (by omega) (by omega)]; omega
          obtain ⟨_, _, _, hzo⟩ := hm.objT hx
          have hz1 := hzo.id
          have hz2 := (hm.ids m z hx).1
          have hw2 : IntKind.i64.wrap (z.Id + 1) = z.Id + 1 := wrap_id (by omega) (by omega)
          have hnid : newId g = z.Id + 1 := by unfold newId; rw [hml']; simp [prevId, hx]
          refine CW.rg ?_
          refine CWops.run htt 11 (by simp only [go_sem, simprocAttr, eGraph, hx, eObj, hml, hw1, hw2]; exact rfl) (by simp [go_sem, simprocAttr, eGraph, hx, eObj, hml, hw1, hw2]) ?_
          refine CWops.done ?_
          first | refine ⟨rfl, Sh.wk0 ?_⟩ | refine Sh.wk0 ?_
          first | (simp [Wk, go_sem, simprocAttr, eGraph, hnid]; done) | (simp [Wk, go_sem, simprocAttr, eGraph, newId, hn0, prevId]; done) | skip
        · have hn0 : g.O = [] := by
            simpa using ct30
          refine CW.skip ?_
          first | refine ⟨rfl, Sh.wk0 ?_⟩ | refine Sh.wk0 ?_
          first | (simp [Wk, go_sem, simprocAttr, eGraph, hnid]; done) | (simp [Wk, go_sem, simprocAttr, eGraph, newId, hn0, prevId]; done) | skip
      refine CW.seq ?_
      refine CW.cut ⟨2, [(1, .int .i64 (q : Int)), (2, .lv 0 [] 0), (4, .lv 1 [] 0), (5, .int .i64 0), (6, .int .i64 0), (8, .int .i64 (newId g)), (48, .bool (newBad g))], [(0, ⟨true, eGraph g⟩), (1, ⟨true, [.nilsl, .nilsl, .nilsl]⟩)]⟩ ?_ ?_
      · refine CW.rg ?_
        refine CWops.run htt 5 (by simp only [go_sem, simprocAttr, eGraph]; exact rfl) (by simp [go_sem, simprocAttr, eGraph]) ?_
        all_goals (first | refine CWops.guard 45 (by simp only [go_sem, simprocAttr, eGraph]; exact rfl) (fun g45 => ?_) (fun g45 => ?_) | skip)
        all_goals (refine CWops.run htt 3 (by simp only [go_sem, simprocAttr, eGraph]; exact rfl) (by simp [go_sem, simprocAttr, eGraph]) ?_)
        all_goals (refine CWops.done ?_)
        all_goals (
          first | refine ⟨rfl, Sh.wk0 ?_⟩ | refine Sh.wk0 ?_
          unfold newBad
          by_cases h8 : g.O.length = 8 <;> by_cases hb : 1073741824 < newId g <;> simp_all [Wk, go_sem, simprocAttr, eGraph] <;> omega)
      refine CW.cond (by simp only [go_sem, simprocAttr]; first | done | exact rfl) (fun ct48 => ?_) (fun ct48 => ?_)
      · refine CW.seq ?_
        refine CW.rg ?_
        refine CWops.run htt 4 (by simp only [go_sem, simprocAttr, eGraph]; exact rfl) (by simp [go_sem, simprocAttr, eGraph]) ?_
        refine CWops.done ?_
        refine CW.ret ?_
        refine retQ.ret (by simp only [f8, go_sem, simprocAttr]; exact rfl) (by simp only [go_sem, simprocAttr]; exact rfl) ?_ -- ret3
        refine ⟨_, ?_, rfl⟩
        simp [leP, leL, gNew, hmm, show ¬ ((q : Int) < 0) by omega, Nat.not_le.2 hql, ct48, eGraph]
      · refine CW.skip ?_
        refine CW.seq ?_
        refine CW.rg ?_
        refine CWops.rn htt 5 ?_
        refine CWops.done ?_
        refine CW.seq ?_
        refine CW.seq ?_
        refine CW.rg ?_
        refine CWops.rn htt 1 ?_
        refine CWops.done ?_
        refine CW.block ?_
        refine CW.loop (S := Nat) (fun i => ⟨3, [(1, .int .i64 (q : Int)), (2, .lv 0 [] 0), (4, .lv 1 [] 0), (5, .int .i64 0), (6, .int .i64 0), (8, .int .i64 (newId g)), (9, .lv 2 [] 0), (10, .int .i64 i)], [(0, ⟨true, eGraph g⟩), (1, ⟨true, [.nilsl, .nilsl, .nilsl]⟩), (2, ⟨true, [.int .i64 (newId g), .int .i64 (q : Int), .own 3 (((ty.F.take i).map zeroV).map eVal)]⟩)]⟩) (fun i => i ≤ ty.F.length) (fun i => ty.F.length - i) (0) ?_ (Nat.zero_le _) (fun i h1 => ?_)
        · refine Sh.trans (Sh.nilCell 2 [] 2 3 (by simp [go_sem, simprocAttr]) rfl) (Sh.wk0 ?_); simp [Wk, go_sem, simprocAttr, eGraph]
        refine CW.seq ?_
        refine CW.seq ?_
        refine CW.rg ?_
        refine CWops.run htt 10 (by simp only [go_sem, simprocAttr, eGraph, eSchema, ht, eType, hql]; exact rfl) (by simp [go_sem, simprocAttr, eGraph, eSchema, ht, eType, hql]) ?_
        refine CWops.done ?_
        refine CW.cond (by simp only [go_sem, simprocAttr]; first | done | exact rfl) (fun ct62 => ?_) (fun ct62 => ?_)
        · have hi : i < ty.F.length := by simpa using ct62
          obtain ⟨f, hf⟩ : ∃ x, ty.F[i]? = some x := ⟨ty.F[i], List.getElem?_eq_getElem hi⟩
          refine CW.skip ?_
          refine CW.seq ?_
          refine CW.block ?_
          refine CW.drawn mixed 14 (by decide) (by kernel_rfl) (by kernel_rfl) (by kernel_rfl) ?_
          refine Seg.run htt 12 (by simp only [go_sem, simprocAttr, eGraph, eSchema, ht, eType, hql, hi, hf, eField, eVal, List.replicate]; exact rfl) ?_
          refine Seg.callA (ref07_Zero up f) (by simp only [go_sem, simprocAttr, eGraph, eSchema, ht, eType, hql, hi, hf, eField, eVal, List.replicate]) (by simp only [go_sem, simprocAttr, eGraph, eSchema, ht, eType, hql, hi, hf, eField, eVal, List.replicate]; first | done | exact rfl) (by simp only [go_sem, simprocAttr, eGraph, eSchema, ht, eType, hql, hi, hf, eField, eVal, List.replicate]) (by simp only [go_sem, simprocAttr, eGraph, eSchema, ht, eType, hql, hi, hf, eField, eVal, List.replicate]) ?_
          refine Seg.run htt 1 (by simp only [go_sem, simprocAttr, eGraph, eSchema, ht, eType, hql, hi, hf, eField, eVal, List.replicate]; exact rfl) ?_
          refine Seg.done ?_
          refine CWops.run htt 3 (by simp only [go_sem, simprocAttr, eGraph, eSchema, ht, eType, hql, hi, hf, eField, eVal, List.replicate]; exact rfl) (by unfold zeroV; split <;> simp [AV.cell, AV.tree, eVal, MX] <;> omega) ?_
          refine CWops.done ?_
          refine CW.rg ?_
          refine CWops.run htt 3 (by simp only [go_sem, simprocAttr, wrap_succ (show i < MX by unfold MX; omega)]; exact rfl) (by simp [go_sem, simprocAttr, wrap_succ (show i < MX by unfold MX; omega)]) ?_
          refine CWops.done ?_
          refine ⟨i + 1, ?_, ?_, ?_⟩
          · refine Sh.wk0 ?_
            dsimp only
            simp [Wk, go_sem, simprocAttr, eGraph, List.take_add_one, hf, eVal]
          · exact hi
          · simp only; omega
        · have hi : i = ty.F.length := by simp at ct62; omega
          rw [hi, List.take_length]
          refine CW.exit ?_
          refine CW.cut ⟨3, [(1, .int .i64 (q : Int)), (2, .lv 0 [] 0), (4, .lv 1 [] 0), (5, .int .i64 0), (6, .int .i64 0), (8, .int .i64 (newId g))], [(0, ⟨true, [.sl 2 (g.S.map eType), .own 3 ((g.O ++ [newObj g q]).map eObj), .sl 1 (g.Roots.map eI)]⟩), (1, ⟨true, [.nilsl, .nilsl, .nilsl]⟩)]⟩ ?_ ?_
          · refine CW.sh (Sh.frz 2 2 rfl rfl) ?_
            simp only [go_sem, simprocAttr, frz_Val]
            refine CW.orders mixed (by kernel_rfl) (by kernel_rfl) (by kernel_rfl) (l := [[0, 1, 2, 3, 4, 5, 6, 7], [0, 1, 3, 2, 4, 5, 6, 7], [0, 1, 3, 4, 2, 5, 6, 7], [0, 3, 1, 2, 4, 5, 6, 7], [0, 3, 1, 4, 2, 5, 6, 7], [0, 3, 4, 1, 2, 5, 6, 7], [3, 0, 1, 2, 4, 5, 6, 7], [3, 0, 1, 4, 2, 5, 6, 7], [3, 0, 4, 1, 2, 5, 6, 7], [3, 4, 0, 1, 2, 5, 6, 7]]) (by kernel_rfl) ?_
            intro is his
            simp only [List.mem_cons, List.not_mem_nil, or_false] at his
            rcases his with rfl | rfl | rfl | rfl | rfl | rfl | rfl | rfl | rfl | rfl
            all_goals (refine CWops.run htt 8 (by simp only [List.map_cons, List.map_nil, nthO_zero, nthO_succ, go_sem, simprocAttr, eGraph, List.replicate]; exact rfl) (by refine ⟨⟨fun r hr c hc => ?_, ?_, ?_⟩, ?_⟩ <;> first | (obtain ⟨o9, _, rfl⟩ := List.mem_map.1 hr; simp [eObj] at hc; rcases hc with rfl | rfl | rfl <;> rfl) | (simp [AV.cell, AV.tree, MX]; done) | (simp [MX]; omega) | (simp [AV.cell, AV.tree, MX] <;> omega)) ?_)
            all_goals (refine CWops.done ?_)
            all_goals (first | (refine Sh.wk0 ?_; simp [Wk, go_sem, simprocAttr, eGraph, eObj, newObj, htF]; done) | (refine ⟨rfl, Sh.wk0 ?_⟩; simp [Wk, go_sem, simprocAttr, eGraph, eObj, newObj, htF]))
          refine CW.seq ?_
          refine CW.rg ?_
          refine CWops.rn htt 5 ?_
          refine CWops.done ?_
          refine CW.ret ?_
          refine retQ.ret (by simp only [f8, go_sem, simprocAttr]; exact rfl) (by simp only [go_sem, simprocAttr]; exact rfl) ?_ -- ret4
          refine ⟨_, ?_, rfl⟩
          simp [leP, leL, gNew, hmm, show ¬ ((q : Int) < 0) by omega, Nat.not_le.2 hql, ct48, eGraph, frz_Obj]
end Go.Ab
