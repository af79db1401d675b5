/-
  What functions of the program answer: each by its contract. No condition but those of each theorem.
-/
import Derived.WalkKit
import Derived.Below
import Derived.Scope
import Derived.Test.YtgnkdehaknhieaaProg
import Derived.Orders
import Derived.Still
import Derived.Deep.RegionLaw
import Derived.Lib.AppendZerosOnto
import Derived.Lib.Walk
import Derived.Lib.SliceRun
import Derived.Test.YtgnkdehaknhieaaFa
import Derived.Test.YtgnkdehaknhieaaFb
import Derived.Test.YtgnkdehaknhieaaFc
import Derived.Test.YtgnkdehaknhieaaFd
import Derived.Test.YtgnkdehaknhieaaFe
import Derived.Test.YtgnkdehaknhieaaFf
import Derived.Test.YtgnkdehaknhieaaDa
import Derived.Test.YtgnkdehaknhieaaVa
import Derived.Test.YtgnkdehaknhieaaVb
set_option linter.unusedVariables false
set_option linter.unusedSimpArgs false
namespace Go.Ab
open Go Go.Proofs.Try
open Nat (reduceEqDiff reduceAdd reduceLT reduceLeDiff reduceBEq reduceSub reduceMul)
open Int (reduceToNat)
set_option maxRecDepth 100000
set_option linter.unusedSimpArgs false
set_option linter.unusedVariables false
theorem ref05_sign_at (up : Bool) (s : ByteArray) (p : Nat) (hp : p < s.size) : PCall prog up 139 [.str (s.extract p s.size)] (· = .tup [.int .i64 ((Utf8.decode s p).1 : Nat), .int .i64 ((Utf8.decode s p).2 : Nat)]) := by
  have h := ref05_sign up (s.extract p s.size) (by rw [size_ext]; omega)
  rw [decode_ext hp] at h
  exact h
theorem ref05_Signs (up : Bool) (s : ByteArray) (hs : s.size ≤ 1048576) : PCall prog up 118 [.str s] (· = .sl 1 ((runes s).map eI)) := by
  refine PCall.intro htt func118 (by kernel_rfl) rfl (Nat.le_of_ble_eq_true rfl) fun hl => ?_

  simp only [tmps0, Nat.reduceAdd]
  refine CW.seq ?_
  refine CW.rg ?_
  refine CWops.rn htt 1 ?_
  refine CWops.done ?_
  refine CW.seq ?_
  refine CW.rg ?_
  refine CWops.rn htt 1 ?_
  refine CWops.done ?_
  refine CW.seq ?_
  refine CW.block ?_
  refine CW.loop (S := Nat × List Int) (fun q => ⟨1, [(0, .str (s.extract q.1 s.size)), (3, .ref 0 [] 0)], [(0, ⟨false, [.own 1 (q.2.map eI)]⟩)]⟩) (fun q => q.2.length ≤ q.1 ∧ q.1 ≤ s.size ∧ ∃ f, s.size ≤ q.1 + f ∧ runes s = q.2 ++ runesF s f q.1) (fun q => s.size - q.1) ((0, [])) ?_ ⟨Nat.le_refl _, Nat.zero_le _, s.size, by simp, rfl⟩ (fun q ⟨h1, h2, f, hf, hsum⟩ => ?_)
  · refine Sh.trans (Sh.nilRoot 3 1 (by simp only [go_sem, simprocAttr]) rfl) (Sh.wk0 ?_); simp [Wk, go_sem, simprocAttr, ext_zero]
  refine CW.seq ?_
  refine CW.seq ?_
  refine CW.rg ?_
  refine CWops.run htt 3 (by simp only [go_sem, simprocAttr, size_ext]; exact rfl) (by simp [go_sem, simprocAttr, size_ext]) ?_
  refine CWops.done ?_
  refine CW.cond (by simp only [go_sem, simprocAttr]; first | done | exact rfl) (fun ct8 => ?_) (fun ct8 => ?_)
  · have hp : q.1 < s.size := by simp at ct8; omega
    have hdl := decode_le hp
    have hdp := decode_pos s q.1
    refine CW.skip ?_
    refine CW.block ?_
    refine CW.seq ?_
    refine CW.rg ?_
    refine CWops.rn htt 1 ?_
    refine CWops.call (ref05_sign_at up s q.1 hp) (by simp only [go_sem, simprocAttr]) (by simp only [go_sem, simprocAttr]; first | done | exact rfl) (by simp only [go_sem, simprocAttr]) (fun rt11 hrt11 => ?_)
    subst hrt11; refine ⟨rfl, ?_⟩
    refine CWops.rn htt 5 ?_
    refine CWops.done ?_
    refine CW.seq ?_
    refine CW.rg ?_
    refine CWops.run htt 5 (by simp only [go_sem, simprocAttr, List.replicate]; exact rfl) (by simp [AV.cell, AV.tree, eI, MX]; omega) ?_
    refine CWops.done ?_
    refine CW.rg ?_
    refine CWops.rn htt 2 ?_
    refine CWops.strCut (q := (Utf8.decode s q.1).2) htt (by simp only [go_sem, simprocAttr]) tt_9 rfl (by simp only [go_sem, simprocAttr]; first | done | exact rfl) (by simp only [go_sem, simprocAttr]; first | done | exact rfl) (by rw [size_ext]; omega) ?_
    simp only [go_sem, simprocAttr, size_ext, ext_ext hdl]
    refine CWops.rn htt 1 ?_
    refine CWops.done ?_
    refine ⟨(q.1 + (Utf8.decode s q.1).2, q.2 ++ [((Utf8.decode s q.1).1 : Int)]), ?_, ?_, ?_⟩
    · refine Sh.wk (fun x => if x = 0 then 2 else x) ?_; simp [Wk, go_sem, simprocAttr, eI]
    · refine ⟨by simp only [List.length_append, List.length_singleton]; omega, hdl, ?_⟩
      cases f with
      | zero => omega
      | succ f => exact ⟨f, by simp only; omega, by rw [hsum]; simp only [runesF]; rw [if_pos hp]; simp⟩
    · simp only; omega
  · have hp : ¬ q.1 < s.size := by simp at ct8; omega
    refine CW.exit ?_
    refine CW.seq ?_
    refine CW.rg ?_
    refine CWops.rn htt 2 ?_
    refine CWops.done ?_
    refine CW.ret ?_
    refine retQ.ret (by simp only [f118, go_sem, simprocAttr]; exact rfl) (by simp only [go_sem, simprocAttr]; exact rfl) ?_ -- ret1
    refine ⟨_, ?_, rfl⟩
    have hr : runes s = q.2 := by
      rw [hsum]
      cases f with
      | zero => simp [runesF]
      | succ f => simp only [runesF]; rw [if_neg hp]; simp
    rw [hr]
    simp [leP, frz_I]
theorem ref05_May (up : Bool) (s : ByteArray) (hs : s.size ≤ 1048576) : PCall prog up 94 [.str s] (· = .bool (nameMay s)) := by
  refine PCall.intro htt func94 (by kernel_rfl) rfl (Nat.le_of_ble_eq_true rfl) fun hl => ?_
  have hrl := runes_len s
  rw [nameMay_runes]
  generalize hR : runes s = R at hrl
  simp only [tmps0, Nat.reduceAdd]
  refine CW.seq ?_
  refine CW.rg ?_
  refine CWops.rn htt 1 ?_
  refine CWops.done ?_
  refine CW.seq ?_
  refine CW.rg ?_
  refine CWops.run htt 1 (by simp only [go_sem, simprocAttr, hR]; exact rfl) (by simp [go_sem, simprocAttr, hR]) ?_
  refine CWops.callA (ref05_Signs up s hs) (by simp only [go_sem, simprocAttr, hR]) (by simp only [go_sem, simprocAttr, hR]; first | done | exact rfl) (by simp only [go_sem, simprocAttr, hR]) (by simp only [go_sem, simprocAttr, hR]) (fun rt8 hrt8 => ?_)
  subst hrt8
  refine CWops.run htt 1 (by simp only [go_sem, simprocAttr, hR]; exact rfl) (by simp [go_sem, simprocAttr, hR]) ?_
  refine CWops.done ?_
  refine CW.seq ?_
  refine CW.seq ?_
  refine CW.rg ?_
  refine CWops.rn htt 1 ?_
  refine CWops.done ?_
  refine CW.block ?_
  refine CW.loop (S := Nat) (fun i => ⟨0, [(3, .sl 1 (R.map eI)), (4, .int .i64 i)], []⟩) (fun i => i ≤ R.length ∧ ∀ (j : Nat) (y), j < i → R[j]? = some y → okS j y = true) (fun i => R.length - i) (0) ?_ ⟨Nat.zero_le _, fun j y hj => by omega⟩ (fun i ⟨h1, h2⟩ => ?_)
  · refine Sh.wk0 ?_; simp [Wk, go_sem, simprocAttr]
  refine CW.seq ?_
  refine CW.seq ?_
  refine CW.rg ?_
  refine CWops.rn htt 4 ?_
  refine CWops.done ?_
  refine CW.cond (by simp only [go_sem, simprocAttr]; first | done | exact rfl) (fun ct12 => ?_) (fun ct12 => ?_)
  · have hi : i < R.length := by simpa using ct12
    obtain ⟨x, hx⟩ : ∃ x, R[i]? = some x := ⟨R[i], List.getElem?_eq_getElem hi⟩
    refine CW.skip ?_
    refine CW.seq ?_
    refine CW.block ?_
    refine CW.seq ?_
    refine CW.rg ?_
    refine CWops.run htt 4 (by simp only [go_sem, simprocAttr, hx, eI]; exact rfl) (by simp [go_sem, simprocAttr, hx, eI]) ?_
    refine CWops.call (ref05_letter up x) (by simp only [go_sem, simprocAttr, hx, eI]) (by simp only [go_sem, simprocAttr, hx, eI]; first | done | exact rfl) (by simp only [go_sem, simprocAttr, hx, eI]) (fun rt19 hrt19 => ?_)
    subst hrt19; refine ⟨rfl, ?_⟩
    refine CWops.run htt 1 (by simp only [go_sem, simprocAttr, hx, eI]; exact rfl) (by simp [go_sem, simprocAttr, hx, eI]) ?_
    refine CWops.done ?_
    refine CW.seq ?_
    refine CW.rg ?_
    refine CWops.run htt 4 (by simp only [go_sem, simprocAttr, hx, eI]; exact rfl) (by simp [go_sem, simprocAttr, hx, eI]) ?_
    refine CWops.call (ref05_digit up x) (by simp only [go_sem, simprocAttr, hx, eI]) (by simp only [go_sem, simprocAttr, hx, eI]; first | done | exact rfl) (by simp only [go_sem, simprocAttr, hx, eI]) (fun rt24 hrt24 => ?_)
    subst hrt24; refine ⟨rfl, ?_⟩
    refine CWops.run htt 1 (by simp only [go_sem, simprocAttr, hx, eI]; exact rfl) (by simp [go_sem, simprocAttr, hx, eI]) ?_
    refine CWops.done ?_
    refine CW.cut ⟨0, [(3, .sl 1 (R.map eI)), (4, .int .i64 i), (34, .bool (!okS i x))], []⟩ ?_ ?_
    · refine CW.rg ?_
      refine CWops.rn htt 3 ?_
      all_goals (first | refine CWops.guard 27 (by simp only [go_sem, simprocAttr]; exact rfl) (fun g27 => ?_) (fun g27 => ?_) | skip)
      all_goals (refine CWops.rn htt 3 ?_)
      all_goals (first | refine CWops.guard 30 (by simp only [go_sem, simprocAttr]; exact rfl) (fun g30 => ?_) (fun g30 => ?_) | skip)
      all_goals (refine CWops.rn htt 4 ?_)
      all_goals (refine CWops.done ?_)
      all_goals (
        refine ⟨rfl, Sh.wk0 ?_⟩
        simp_all [Wk, go_sem, simprocAttr, okS] <;> first | done | omega | rfl | (rw [Bool.eq_iff_iff]; done) | (rw [Bool.eq_iff_iff]; simp; done) | (rw [Bool.eq_iff_iff]; simp; omega))
    refine CW.cond (by simp only [go_sem, simprocAttr]; first | done | exact rfl) (fun ct34 => ?_) (fun ct34 => ?_)
    · have hp : okS i x = false := by simpa using ct34
      refine CW.seq ?_
      refine CW.rg ?_
      refine CWops.rn htt 1 ?_
      refine CWops.done ?_
      refine CW.ret ?_
      refine retQ.ret (by simp only [f94, go_sem, simprocAttr]; exact rfl) (by simp only [go_sem, simprocAttr]; exact rfl) ?_ -- ret1
      refine ⟨_, ?_, rfl⟩
      rw [allI_no hx (by rw [Nat.zero_add]; exact hp)]
      simp [leP]
    · have hp : okS i x = true := by simpa using ct34
      refine CW.skip ?_
      refine CW.rg ?_
      refine CWops.run htt 3 (by simp only [go_sem, simprocAttr, wrap_succ (show i < MX by unfold MX; omega)]; exact rfl) (by simp [go_sem, simprocAttr, wrap_succ (show i < MX by unfold MX; omega)]) ?_
      refine CWops.done ?_
      refine ⟨i + 1, ?_, ?_, ?_⟩
      · refine Sh.wk0 ?_; simp [Wk, go_sem, simprocAttr]
      · exact ⟨hi, belowI_succ (p := okS) h2 hx hp⟩
      · simp only; omega
  · have hi : i = R.length := by simp at ct12; omega
    refine CW.exit ?_
    refine CW.seq ?_
    refine CW.rg ?_
    refine CWops.rn htt 4 ?_
    all_goals (first | refine CWops.guard 38 (by simp only [go_sem, simprocAttr]; exact rfl) (fun g38 => ?_) (fun g38 => ?_) | skip)
    all_goals (refine CWops.rn htt 5 ?_)
    all_goals (refine CWops.done ?_)
    all_goals (
      refine CW.ret ?_
      refine retQ.ret (by simp only [f94, go_sem, simprocAttr]; exact rfl) (by simp only [go_sem, simprocAttr]; exact rfl) ?_ -- ret2
      refine ⟨_, ?_, rfl⟩
      rw [belowI_all (p := okS) (by rw [← hi]; exact h2)]
      clear hR hl
      simp_all [leP] <;> first | done | omega | rfl | (rw [Bool.eq_iff_iff]; simp; omega))
theorem ref06_Same (up : Bool) (a b : List GType) : PCall prog up 24 [.agg (eSchema a), .agg (eSchema b)] (· = .bool (decide (a = b))) := by
  refine PCall.intro htt func24 (by kernel_rfl) rfl (Nat.le_of_ble_eq_true rfl) fun hl => ?_
  have hL := (hl (.agg (eSchema a)) (by simp)).agg
  have hba := (hL (.sl 2 (a.map eType)) (by simp [eSchema])).sl.1
  simp only [List.length_map] at hba
  simp only [tmps0, Nat.reduceAdd]
  refine CW.seq ?_
  refine CW.rg ?_
  refine CWops.run htt 3 (by simp only [go_sem, simprocAttr, eSchema]; exact rfl) (by simp [go_sem, simprocAttr, eSchema]) ?_
  refine CWops.done ?_
  refine CW.seq ?_
  refine CW.seq ?_
  refine CW.rg ?_
  refine CWops.run htt 7 (by simp only [go_sem, simprocAttr, eSchema]; exact rfl) (by simp [go_sem, simprocAttr, eSchema]) ?_
  refine CWops.done ?_
  refine CW.cond (by simp only [go_sem, simprocAttr]; first | done | exact rfl) (fun ct13 => ?_) (fun ct13 => ?_)
  · have hne : a.length ≠ b.length := by simp at ct13; omega
    refine CW.seq ?_
    refine CW.rg ?_
    refine CWops.rn htt 1 ?_
    refine CWops.done ?_
    refine CW.ret ?_
    refine retQ.ret (by simp only [f24, go_sem, simprocAttr]; exact rfl) (by simp only [go_sem, simprocAttr]; exact rfl) ?_ -- ret1
    refine ⟨_, ?_, rfl⟩
    have : ¬ a = b := fun e => hne (by rw [e])
    simp [leP, this]
  · have heq : a.length = b.length := by simp at ct13; omega
    refine CW.skip ?_
    refine CW.seq ?_
    refine CW.seq ?_
    refine CW.rg ?_
    refine CWops.rn htt 1 ?_
    refine CWops.done ?_
    refine CW.block ?_
    refine CW.loop (S := Nat) (fun i => ⟨2, [(2, .lv 0 [] 0), (3, .lv 1 [] 0), (5, .int .i64 i)], [(0, ⟨true, eSchema a⟩), (1, ⟨true, eSchema b⟩)]⟩) (fun i => i ≤ a.length ∧ a.take i = b.take i) (fun i => a.length - i) (0) ?_ ⟨Nat.zero_le _, rfl⟩ (fun i ⟨h1, h2⟩ => ?_)
    · refine Sh.wk0 ?_; simp [Wk, go_sem, simprocAttr, eSchema]
    refine CW.seq ?_
    refine CW.seq ?_
    refine CW.rg ?_
    refine CWops.run htt 5 (by simp only [go_sem, simprocAttr, eSchema]; exact rfl) (by simp [go_sem, simprocAttr, eSchema]) ?_
    refine CWops.done ?_
    refine CW.cond (by simp only [go_sem, simprocAttr]; first | done | exact rfl) (fun ct18 => ?_) (fun ct18 => ?_)
    · have hi : i < a.length := by simpa using ct18
      obtain ⟨x, e1⟩ : ∃ x, a[i]? = some x := ⟨a[i], List.getElem?_eq_getElem hi⟩
      obtain ⟨y, e2⟩ : ∃ y, b[i]? = some y := ⟨b[i], List.getElem?_eq_getElem (by omega)⟩
      refine CW.skip ?_
      refine CW.seq ?_
      refine CW.block ?_
      refine CW.seq ?_
      refine CW.drawn mixed 12 (by decide) (by kernel_rfl) (by kernel_rfl) (by kernel_rfl) ?_
      refine Seg.run htt 12 (by simp only [go_sem, simprocAttr, eSchema, e1, e2, eType]; exact rfl) ?_
      refine Seg.done ?_
      refine CWops.call (ref06_fields up x.F y.F) (by simp only [go_sem, simprocAttr, eSchema, e1, e2, eType]) (by simp only [go_sem, simprocAttr, eSchema, e1, e2, eType]; first | done | exact rfl) (by simp only [go_sem, simprocAttr, eSchema, e1, e2, eType]) (fun rt33 hrt33 => ?_)
      subst hrt33; refine ⟨rfl, ?_⟩
      refine CWops.run htt 1 (by simp only [go_sem, simprocAttr, eSchema, e1, e2, eType]; exact rfl) (by simp [go_sem, simprocAttr, eSchema, e1, e2, eType]) ?_
      refine CWops.done ?_
      refine CW.cut ⟨2, [(2, .lv 0 [] 0), (3, .lv 1 [] 0), (5, .int .i64 i), (50, .bool (!(decide (x.F = y.F) && decide (x.Name = y.Name))))], [(0, ⟨true, eSchema a⟩), (1, ⟨true, eSchema b⟩)]⟩ ?_ ?_
      · refine CW.drawn mixed 15 (by decide) (by kernel_rfl) (by kernel_rfl) (by kernel_rfl) ?_
        refine Seg.run htt 3 (by simp only [go_sem, simprocAttr, eSchema, e1, e2, eType]; exact rfl) ?_
        all_goals (first | refine Seg.guard 36 (by simp only [go_sem, simprocAttr, eSchema, e1, e2, eType]; exact rfl) (fun g36 => ?_) (fun g36 => ?_) | skip)
        all_goals (refine Seg.run htt 12 (by simp only [go_sem, simprocAttr, eSchema, e1, e2, eType]; exact rfl) ?_)
        all_goals (refine Seg.done ?_)
        all_goals (refine CWops.run htt 2 (by simp only [go_sem, simprocAttr, eSchema, e1, e2, eType]; exact rfl) (by simp [go_sem, simprocAttr, eSchema, e1, e2, eType]) ?_)
        all_goals (refine CWops.done ?_)
        all_goals (
          refine ⟨rfl, Sh.wk0 ?_⟩
          simp_all [Wk, go_sem, simprocAttr, eSchema] <;> first | done | omega | rfl | (rw [Bool.eq_iff_iff]; done) | (rw [Bool.eq_iff_iff]; simp; done) | (rw [Bool.eq_iff_iff]; simp; omega))
      refine CW.cond (by simp only [go_sem, simprocAttr]; first | done | exact rfl) (fun ct50 => ?_) (fun ct50 => ?_)
      · have hp : x ≠ y := by
          intro e; subst e; simp at ct50
        refine CW.seq ?_
        refine CW.rg ?_
        refine CWops.rn htt 1 ?_
        refine CWops.done ?_
        refine CW.ret ?_
        refine retQ.ret (by simp only [f24, go_sem, simprocAttr]; exact rfl) (by simp only [go_sem, simprocAttr]; exact rfl) ?_ -- ret2
        refine ⟨_, ?_, rfl⟩
        have : ¬ a = b := fun e => hp (by rw [e, e2] at e1; cases e1; rfl)
        simp [leP, this]
      · have hp : x = y := by
          rw [GType.ext_iff']; simp at ct50; exact ⟨ct50.2, ct50.1⟩
        subst hp
        refine CW.skip ?_
        refine CW.rg ?_
        refine CWops.run htt 3 (by simp only [go_sem, simprocAttr, wrap_succ (Nat.lt_of_lt_of_le hi hba)]; exact rfl) (by simp [go_sem, simprocAttr, wrap_succ (Nat.lt_of_lt_of_le hi hba)]) ?_
        refine CWops.done ?_
        refine ⟨i + 1, ?_, ?_, ?_⟩
        · refine Sh.wk0 ?_; simp [Wk, go_sem, simprocAttr, eSchema]
        · exact ⟨hi, take_same h2 e1 e2⟩
        · simp only; omega
    · have hi : i = a.length := by simp at ct18; omega
      refine CW.exit ?_
      refine CW.seq ?_
      refine CW.rg ?_
      refine CWops.rn htt 1 ?_
      refine CWops.done ?_
      refine CW.ret ?_
      refine retQ.ret (by simp only [f24, go_sem, simprocAttr]; exact rfl) (by simp only [go_sem, simprocAttr]; exact rfl) ?_ -- ret3
      refine ⟨_, ?_, rfl⟩
      have := all_same h2 hi heq
      simp [leP, this]
theorem ref06_May (up : Bool) (s : List GType) (hsm : smallS s) : PCall prog up 49 [.agg (eSchema s)] (· = .bool (schemaMay s)) := by
  refine PCall.intro htt func49 (by kernel_rfl) rfl (Nat.le_of_ble_eq_true rfl) fun hl => ?_
  have hL := (hl (.agg (eSchema s)) (by simp)).agg
  have hS := (hL (.sl 2 (s.map eType)) (by simp [eSchema])).sl
  have hb := hS.1
  have hF : ∀ x ∈ s, x.F.length ≤ MX := fun x hx => by
    have h1 := (hS.2 (eType x) (List.mem_map_of_mem hx)).2 (.sl 3 (x.F.map eField)) (by simp [eType])
    simpa using h1.sl.1
  simp only [List.length_map] at hb
  simp only [tmps0, Nat.reduceAdd]
  refine CW.seq ?_
  refine CW.rg ?_
  refine CWops.run htt 2 (by simp only [go_sem, simprocAttr, eSchema]; exact rfl) (by simp [go_sem, simprocAttr, eSchema]) ?_
  refine CWops.done ?_
  refine CW.seq ?_
  refine CW.seq ?_
  refine CW.rg ?_
  refine CWops.rn htt 1 ?_
  refine CWops.done ?_
  refine CW.block ?_
  refine CW.loop (S := Nat) (fun i => ⟨1, [(1, .lv 0 [] 0), (3, .int .i64 i)], [(0, ⟨true, eSchema s⟩)]⟩) (fun i => i ≤ s.length ∧ ∀ (j : Nat) (y), j < i → s[j]? = some y → typeMay s j y = true) (fun i => s.length - i) (0) ?_ ⟨Nat.zero_le _, fun j y hj => by omega⟩ (fun i ⟨h1, h2⟩ => ?_)
  · refine Sh.wk0 ?_; simp [Wk, go_sem, simprocAttr, eSchema]
  refine CW.seq ?_
  refine CW.seq ?_
  refine CW.rg ?_
  refine CWops.run htt 5 (by simp only [go_sem, simprocAttr, eSchema]; exact rfl) (by simp [go_sem, simprocAttr, eSchema]) ?_
  refine CWops.done ?_
  refine CW.cond (by simp only [go_sem, simprocAttr]; first | done | exact rfl) (fun ct13 => ?_) (fun ct13 => ?_)
  · have hi : i < s.length := by simpa using ct13
    obtain ⟨x, hx⟩ : ∃ x, s[i]? = some x := ⟨s[i], List.getElem?_eq_getElem hi⟩
    obtain ⟨sm1, sm2⟩ := hsm x (List.mem_of_getElem? hx)
    refine CW.skip ?_
    refine CW.seq ?_
    refine CW.block ?_
    refine CW.seq ?_
    refine CW.rg ?_
    refine CWops.run htt 7 (by simp only [go_sem, simprocAttr, eSchema, hx, eType]; exact rfl) (by simp [go_sem, simprocAttr, eSchema, hx, eType]) ?_
    refine CWops.done ?_
    refine CW.seq ?_
    refine CW.rg ?_
    refine CWops.run htt 2 (by simp only [go_sem, simprocAttr, eType]; exact rfl) (by simp [go_sem, simprocAttr, eType]) ?_
    refine CWops.call (ref05_May up x.Name sm1) (by simp only [go_sem, simprocAttr, eType]) (by simp only [go_sem, simprocAttr, eType]; first | done | exact rfl) (by simp only [go_sem, simprocAttr, eType]) (fun rt23 hrt23 => ?_)
    subst hrt23; refine ⟨rfl, ?_⟩
    refine CWops.run htt 1 (by simp only [go_sem, simprocAttr, eType]; exact rfl) (by simp [go_sem, simprocAttr, eType]) ?_
    refine CWops.done ?_
    refine CW.seq ?_
    refine CW.cut ⟨2, [(1, .lv 0 [] 0), (3, .int .i64 i), (4, .lv 1 [] 0), (39, .bool (!((nameMay x.Name && decide (sFind s x.Name = i)) && decide (x.F.length ≤ 5))))], [(0, ⟨true, eSchema s⟩), (1, ⟨true, eType x⟩)]⟩ ?_ ?_
    · refine CW.rg ?_
      refine CWops.run htt 3 (by simp only [go_sem, simprocAttr, eSchema, eType]; exact rfl) (by simp [go_sem, simprocAttr, eSchema, eType]) ?_
      all_goals (first | refine CWops.guard 26 (by simp only [go_sem, simprocAttr, eSchema, eType]; exact rfl) (fun g26 => ?_) (fun g26 => ?_) | skip)
      all_goals (refine CWops.run htt 3 (by simp only [go_sem, simprocAttr, eSchema, eType]; exact rfl) (by simp [go_sem, simprocAttr, eSchema, eType]) ?_)
      all_goals (first | (refine CWops.skip ?_ ?_; next => (simp only [go_sem, simprocAttr]; done)) | (refine CWops.call (ref06_Find up s x.Name) (by simp only [go_sem, simprocAttr, eSchema, eType]) (by simp only [go_sem, simprocAttr, eSchema, eType]; first | done | exact rfl) (by simp only [go_sem, simprocAttr, eSchema, eType]) (fun rt30 hrt30 => ?_); subst hrt30; refine ⟨rfl, ?_⟩))
      all_goals (refine CWops.run htt 4 (by simp only [go_sem, simprocAttr, eSchema, eType]; exact rfl) (by simp [go_sem, simprocAttr, eSchema, eType]) ?_)
      all_goals (first | refine CWops.guard 34 (by simp only [go_sem, simprocAttr, eSchema, eType]; exact rfl) (fun g34 => ?_) (fun g34 => ?_) | skip)
      all_goals (refine CWops.run htt 5 (by simp only [go_sem, simprocAttr, eSchema, eType]; exact rfl) (by simp [go_sem, simprocAttr, eSchema, eType]) ?_)
      all_goals (refine CWops.done ?_)
      all_goals (
        refine ⟨rfl, Sh.wk0 ?_⟩
        simp_all [Wk, go_sem, simprocAttr, eSchema, eType, sFind] <;> first | done | omega | rfl | (rw [Bool.eq_iff_iff]; done) | (rw [Bool.eq_iff_iff]; simp; done) | (rw [Bool.eq_iff_iff]; simp; omega))
    refine CW.cond (by simp only [go_sem, simprocAttr]; first | done | exact rfl) (fun ct39 => ?_) (fun ct39 => ?_)
    · simp only [Bool.not_eq_true'] at ct39
      refine CW.seq ?_
      refine CW.rg ?_
      refine CWops.rn htt 1 ?_
      refine CWops.done ?_
      refine CW.ret ?_
      refine retQ.ret (by simp only [f49, go_sem, simprocAttr]; exact rfl) (by simp only [go_sem, simprocAttr]; exact rfl) ?_ -- ret1
      refine ⟨_, ?_, rfl⟩
      have : schemaMay s = false := by unfold schemaMay; rw [allI_no hx (by rw [Nat.zero_add]; unfold typeMay; rw [ct39]; rfl)]; simp
      simp [leP, this]
    · simp only [Bool.not_eq_false'] at ct39
      refine CW.skip ?_
      refine CW.seq ?_
      refine CW.rg ?_
      refine CWops.rn htt 1 ?_
      refine CWops.done ?_
      refine CW.block ?_
      refine CW.loop (S := Nat) (fun k => ⟨2, [(1, .lv 0 [] 0), (3, .int .i64 i), (4, .lv 1 [] 0), (6, .int .i64 k)], [(0, ⟨true, eSchema s⟩), (1, ⟨true, eType x⟩)]⟩) (fun k => k ≤ x.F.length ∧ ∀ (j : Nat) (y), j < k → x.F[j]? = some y → (fieldMay s y && decide (fFind x.F y.Name = j)) = true) (fun k => x.F.length - k) (0) ?_ ⟨Nat.zero_le _, fun j y hj => by omega⟩ (fun k ⟨k1, k2⟩ => ?_)
      · refine Sh.wk0 ?_; simp [Wk, go_sem, simprocAttr, eSchema, eType]
      refine CW.seq ?_
      refine CW.seq ?_
      refine CW.rg ?_
      refine CWops.run htt 5 (by simp only [go_sem, simprocAttr, eType]; exact rfl) (by simp [go_sem, simprocAttr, eType]) ?_
      refine CWops.done ?_
      refine CW.cond (by simp only [go_sem, simprocAttr]; first | done | exact rfl) (fun ct44 => ?_) (fun ct44 => ?_)
      · have hk : k < x.F.length := by simpa using ct44
        obtain ⟨f, hf⟩ : ∃ f, x.F[k]? = some f := ⟨x.F[k], List.getElem?_eq_getElem hk⟩
        have sm3 := sm2 f (List.mem_of_getElem? hf)
        refine CW.skip ?_
        refine CW.seq ?_
        refine CW.block ?_
        refine CW.seq ?_
        refine CW.rg ?_
        refine CWops.run htt 7 (by simp only [go_sem, simprocAttr, eType, hf, eField]; exact rfl) (by simp [go_sem, simprocAttr, eType, hf, eField]) ?_
        refine CWops.done ?_
        refine CW.seq ?_
        refine CW.rg ?_
        refine CWops.run htt 2 (by simp only [go_sem, simprocAttr, eField]; exact rfl) (by simp [go_sem, simprocAttr, eField]) ?_
        refine CWops.call (ref05_May up f.Name sm3) (by simp only [go_sem, simprocAttr, eField]) (by simp only [go_sem, simprocAttr, eField]; first | done | exact rfl) (by simp only [go_sem, simprocAttr, eField]) (fun rt54 hrt54 => ?_)
        subst hrt54; refine ⟨rfl, ?_⟩
        refine CWops.run htt 1 (by simp only [go_sem, simprocAttr, eField]; exact rfl) (by simp [go_sem, simprocAttr, eField]) ?_
        refine CWops.done ?_
        refine CW.seq ?_
        refine CW.cut ⟨3, [(1, .lv 0 [] 0), (3, .int .i64 i), (4, .lv 1 [] 0), (6, .int .i64 k), (7, .lv 2 [] 0), (74, .bool (!((nameMay f.Name && decide (fFind x.F f.Name = k)) && (decide (0 ≤ f.Kind) && decide (f.Kind < 6)))))], [(0, ⟨true, eSchema s⟩), (1, ⟨true, eType x⟩), (2, ⟨true, eField f⟩)]⟩ ?_ ?_
        · refine CW.rg ?_
          refine CWops.run htt 3 (by simp only [go_sem, simprocAttr, eType, eField]; exact rfl) (by simp [go_sem, simprocAttr, eType, eField]) ?_
          all_goals (first | refine CWops.guard 57 (by simp only [go_sem, simprocAttr, eType, eField]; exact rfl) (fun g57 => ?_) (fun g57 => ?_) | skip)
          all_goals (refine CWops.run htt 3 (by simp only [go_sem, simprocAttr, eType, eField]; exact rfl) (by simp [go_sem, simprocAttr, eType, eField]) ?_)
          all_goals (first | (refine CWops.skip ?_ ?_; next => (simp only [go_sem, simprocAttr]; done)) | (refine CWops.call (ref06_Field up x f.Name) (by simp only [go_sem, simprocAttr, eType, eField]) (by simp only [go_sem, simprocAttr, eType, eField]; first | done | exact rfl) (by simp only [go_sem, simprocAttr, eType, eField]) (fun rt61 hrt61 => ?_); subst hrt61; refine ⟨rfl, ?_⟩))
          all_goals (refine CWops.run htt 4 (by simp only [go_sem, simprocAttr, eType, eField]; exact rfl) (by simp [go_sem, simprocAttr, eType, eField]) ?_)
          all_goals (first | refine CWops.guard 65 (by simp only [go_sem, simprocAttr, eType, eField]; exact rfl) (fun g65 => ?_) (fun g65 => ?_) | skip)
          all_goals (refine CWops.run htt 5 (by simp only [go_sem, simprocAttr, eType, eField]; exact rfl) (by simp [go_sem, simprocAttr, eType, eField]) ?_)
          all_goals (first | refine CWops.guard 70 (by simp only [go_sem, simprocAttr, eType, eField]; exact rfl) (fun g70 => ?_) (fun g70 => ?_) | skip)
          all_goals (refine CWops.run htt 4 (by simp only [go_sem, simprocAttr, eType, eField]; exact rfl) (by simp [go_sem, simprocAttr, eType, eField]) ?_)
          all_goals (refine CWops.done ?_)
          all_goals (
            refine ⟨rfl, Sh.wk0 ?_⟩
            simp_all [Wk, go_sem, simprocAttr, eSchema, eType, eField, fFind] <;> first | done | omega | rfl | (rw [Bool.eq_iff_iff]; done) | (rw [Bool.eq_iff_iff]; simp; done) | (rw [Bool.eq_iff_iff]; simp; omega))
        refine CW.cond (by simp only [go_sem, simprocAttr]; first | done | exact rfl) (fun ct74 => ?_) (fun ct74 => ?_)
        · simp only [Bool.not_eq_true'] at ct74
          refine CW.seq ?_
          refine CW.rg ?_
          refine CWops.rn htt 1 ?_
          refine CWops.done ?_
          refine CW.ret ?_
          refine retQ.ret (by simp only [f49, go_sem, simprocAttr]; exact rfl) (by simp only [go_sem, simprocAttr]; exact rfl) ?_ -- ret2
          refine ⟨_, ?_, rfl⟩
          have : schemaMay s = false := by unfold schemaMay; rw [allI_no hx (by rw [Nat.zero_add]; unfold typeMay fieldsMay; rw [allI_no hf (by rw [Nat.zero_add]; exact field_no1 ct74)]; simp)]; simp
          simp [leP, this]
        · simp only [Bool.not_eq_false'] at ct74
          refine CW.skip ?_
          refine CW.cut ⟨2, [(1, .lv 0 [] 0), (3, .int .i64 i), (4, .lv 1 [] 0), (6, .int .i64 k), (94, .bool (!(if f.Kind = 5 then decide (0 ≤ sFind s f.To) else decide (f.To = ⟨#[]⟩))))], [(0, ⟨true, eSchema s⟩), (1, ⟨true, eType x⟩)]⟩ ?_ ?_
          · refine CW.rg ?_
            refine CWops.run htt 4 (by simp only [go_sem, simprocAttr, eSchema, eField]; exact rfl) (by simp [go_sem, simprocAttr, eSchema, eField]) ?_
            all_goals (first | refine CWops.guard 78 (by simp only [go_sem, simprocAttr, eSchema, eField]; exact rfl) (fun g78 => ?_) (fun g78 => ?_) | skip)
            all_goals (refine CWops.run htt 3 (by simp only [go_sem, simprocAttr, eSchema, eField]; exact rfl) (by simp [go_sem, simprocAttr, eSchema, eField]) ?_)
            all_goals (first | (refine CWops.skip ?_ ?_; next => (simp only [go_sem, simprocAttr]; done)) | (refine CWops.call (ref06_Find up s f.To) (by simp only [go_sem, simprocAttr, eSchema, eField]) (by simp only [go_sem, simprocAttr, eSchema, eField]; first | done | exact rfl) (by simp only [go_sem, simprocAttr, eSchema, eField]) (fun rt82 hrt82 => ?_); subst hrt82; refine ⟨rfl, ?_⟩))
            all_goals (refine CWops.run htt 3 (by simp only [go_sem, simprocAttr, eSchema, eField]; exact rfl) (by simp [go_sem, simprocAttr, eSchema, eField]) ?_)
            all_goals (first | refine CWops.guard 85 (by simp only [go_sem, simprocAttr, eSchema, eField]; exact rfl) (fun g85 => ?_) (fun g85 => ?_) | skip)
            all_goals (refine CWops.run htt 4 (by simp only [go_sem, simprocAttr, eSchema, eField]; exact rfl) (by simp [go_sem, simprocAttr, eSchema, eField]) ?_)
            all_goals (first | refine CWops.guard 89 (by simp only [go_sem, simprocAttr, eSchema, eField]; exact rfl) (fun g89 => ?_) (fun g89 => ?_) | skip)
            all_goals (refine CWops.run htt 5 (by simp only [go_sem, simprocAttr, eSchema, eField]; exact rfl) (by simp [go_sem, simprocAttr, eSchema, eField]) ?_)
            all_goals (refine CWops.done ?_)
            all_goals (
              by_cases hk5 : f.Kind = 5
              · by_cases hj : sFind s f.To < 0
                · have hj2 : ¬ 0 ≤ sFind s f.To := by omega
                  clear hsm hS hF hb hl hL h2 k2; unfold sFind at hj hj2
                  have e : (if f.Kind = 5 then decide (0 ≤ sFind s f.To) else decide (f.To = ⟨#[]⟩)) = false := by rw [if_pos hk5]; unfold sFind; exact decide_eq_false hj2
                  rw [e]
                  refine ⟨rfl, Sh.wk0 ?_⟩; first | (simp [Wk, go_sem, simprocAttr, eSchema, eType]; done) | (exfalso; simp at g85; omega) | (exfalso; simp at g78; omega) | (simp_all [Wk, go_sem, simprocAttr, eSchema, eType, eField, sFind]; done) | skip
                · have hj2 : 0 ≤ sFind s f.To := by omega
                  clear hsm hS hF hb hl hL h2 k2; unfold sFind at hj hj2
                  have e : (if f.Kind = 5 then decide (0 ≤ sFind s f.To) else decide (f.To = ⟨#[]⟩)) = true := by rw [if_pos hk5]; unfold sFind; exact decide_eq_true hj2
                  rw [e]
                  refine ⟨rfl, Sh.wk0 ?_⟩; first | (simp [Wk, go_sem, simprocAttr, eSchema, eType]; done) | (exfalso; simp at g85; omega) | (exfalso; simp at g78; omega) | (simp_all [Wk, go_sem, simprocAttr, eSchema, eType, eField, sFind]; done) | skip
              · clear hsm hS hF hb hl hL h2 k2
                refine ⟨rfl, Sh.wk0 ?_⟩; first | (simp_all [Wk, go_sem, simprocAttr, eSchema, eType, eField, sFind]; done) | skip)
          refine CW.cond (by simp only [go_sem, simprocAttr]; first | done | exact rfl) (fun ct94 => ?_) (fun ct94 => ?_)
          · simp only [Bool.not_eq_true'] at ct94
            refine CW.seq ?_
            refine CW.rg ?_
            refine CWops.rn htt 1 ?_
            refine CWops.done ?_
            refine CW.ret ?_
            refine retQ.ret (by simp only [f49, go_sem, simprocAttr]; exact rfl) (by simp only [go_sem, simprocAttr]; exact rfl) ?_ -- ret3
            refine ⟨_, ?_, rfl⟩
            have : schemaMay s = false := by unfold schemaMay; rw [allI_no hx (by rw [Nat.zero_add]; unfold typeMay fieldsMay; rw [allI_no hf (by rw [Nat.zero_add]; exact field_no2 ct94)]; simp)]; simp
            simp [leP, this]
          · simp only [Bool.not_eq_false'] at ct94
            refine CW.skip ?_
            refine CW.rg ?_
            refine CWops.run htt 3 (by simp only [go_sem, simprocAttr, wrap_succ (Nat.lt_of_lt_of_le hk (hF x (List.mem_of_getElem? hx)))]; exact rfl) (by simp [go_sem, simprocAttr, wrap_succ (Nat.lt_of_lt_of_le hk (hF x (List.mem_of_getElem? hx)))]) ?_
            refine CWops.done ?_
            refine ⟨k + 1, ?_, ?_, ?_⟩
            · refine Sh.wk0 ?_; simp [Wk, go_sem, simprocAttr, eSchema, eType]
            · exact ⟨hk, belowI_succ (p := fun j y => fieldMay s y && decide (fFind x.F y.Name = j)) k2 hf (field_yes ct74 ct94)⟩
            · simp only; omega
      · have hk : k = x.F.length := by simp at ct44; omega
        refine CW.exit ?_
        refine CW.rg ?_
        refine CWops.run htt 3 (by simp only [go_sem, simprocAttr, wrap_succ (Nat.lt_of_lt_of_le hi hb)]; exact rfl) (by simp [go_sem, simprocAttr, wrap_succ (Nat.lt_of_lt_of_le hi hb)]) ?_
        refine CWops.done ?_
        refine ⟨i + 1, ?_, ?_, ?_⟩
        · refine Sh.wk0 ?_; simp [Wk, go_sem, simprocAttr, eSchema]
        · exact ⟨hi, belowI_succ h2 hx (by unfold typeMay fieldsMay; rw [ct39, belowI_all (by rw [← hk]; exact k2)]; rfl)⟩
        · simp only; omega
  · have hi : i = s.length := by simp at ct13; omega
    refine CW.exit ?_
    refine CW.seq ?_
    refine CW.rg ?_
    refine CWops.run htt 5 (by simp only [go_sem, simprocAttr, eSchema]; exact rfl) (by simp [go_sem, simprocAttr, eSchema]) ?_
    all_goals (first | refine CWops.guard 99 (by simp only [go_sem, simprocAttr, eSchema]; exact rfl) (fun g99 => ?_) (fun g99 => ?_) | skip)
    all_goals (refine CWops.run htt 6 (by simp only [go_sem, simprocAttr, eSchema]; exact rfl) (by simp [go_sem, simprocAttr, eSchema]) ?_)
    all_goals (refine CWops.done ?_)
    all_goals (
      refine CW.ret ?_
      refine retQ.ret (by simp only [f49, go_sem, simprocAttr]; exact rfl) (by simp only [go_sem, simprocAttr]; exact rfl) ?_ -- ret4
      refine ⟨_, ?_, rfl⟩
      have : schemaMay s = (decide (0 < s.length) && decide (s.length ≤ 4)) := by unfold schemaMay; rw [belowI_all (by rw [← hi]; exact h2)]; simp
      rw [this]
      clear this hsm hl
      simp_all [leP] <;> first | done | omega | rfl | (rw [Bool.eq_iff_iff]; simp; omega))
theorem ref07_Fits (up : Bool) (f : GField) (v : GVal) (hn : -9223372036854775808 ≤ v.N ∧ v.N < 9223372036854775808) : PCall prog up 121 [.agg (eField f), .agg (eVal v)] (· = .bool (valFits f v)) := by
  refine PCall.intro htt func121 (by kernel_rfl) rfl (Nat.le_of_ble_eq_true rfl) fun hl => ?_
  clear hl
  simp only [tmps0, Nat.reduceAdd]
  refine CW.seq ?_
  refine CW.rg ?_
  refine CWops.run htt 3 (by simp only [go_sem, simprocAttr, eField, eVal]; exact rfl) (by simp [go_sem, simprocAttr, eField, eVal]) ?_
  refine CWops.done ?_
  refine CW.cut ⟨2, [(2, .lv 0 [] 0), (3, .lv 1 [] 0), (5, .bool (decide (v.S = ⟨#[]⟩) && decide (v.R = 0)))], [(0, ⟨true, eField f⟩), (1, ⟨true, eVal v⟩)]⟩ ?_ ?_
  · refine CW.rg ?_
    refine CWops.run htt 4 (by simp only [go_sem, simprocAttr, eVal]; exact rfl) (by simp [go_sem, simprocAttr, eVal]) ?_
    all_goals (first | refine CWops.guard 9 (by simp only [go_sem, simprocAttr, eVal]; exact rfl) (fun g9 => ?_) (fun g9 => ?_) | skip)
    all_goals (refine CWops.run htt 5 (by simp only [go_sem, simprocAttr, eVal]; exact rfl) (by simp [go_sem, simprocAttr, eVal]) ?_)
    all_goals (refine CWops.done ?_)
    all_goals (
      refine ⟨rfl, Sh.wk0 ?_⟩
      simp_all [Wk, go_sem, simprocAttr, eField, eVal] <;> first | done | omega | rfl | (rw [Bool.eq_iff_iff]; done) | (rw [Bool.eq_iff_iff]; simp; done) | (rw [Bool.eq_iff_iff]; simp; omega))
  refine CW.seq ?_
  refine CW.seq ?_
  refine CW.rg ?_
  refine CWops.run htt 2 (by simp only [go_sem, simprocAttr, eField]; exact rfl) (by simp [go_sem, simprocAttr, eField]) ?_
  refine CWops.done ?_
  refine CW.block ?_
  refine CW.seq ?_
  refine CW.rg ?_
  refine CWops.rn htt 2 ?_
  refine CWops.done ?_
  refine CW.cond (by simp only [go_sem, simprocAttr]; first | done | exact rfl) (fun ct16 => ?_) (fun ct16 => ?_)
  · refine CW.seq ?_
    refine CW.rg ?_
    refine CWops.run htt 2 (by simp only [go_sem, simprocAttr, eVal]; exact rfl) (by simp [go_sem, simprocAttr, eVal]) ?_
    all_goals (first | refine CWops.guard 19 (by simp only [go_sem, simprocAttr, eVal]; exact rfl) (fun g19 => ?_) (fun g19 => ?_) | skip)
    all_goals (refine CWops.run htt 5 (by simp only [go_sem, simprocAttr, eVal]; exact rfl) (by simp [go_sem, simprocAttr, eVal]) ?_)
    all_goals (first | refine CWops.guard 24 (by simp only [go_sem, simprocAttr, eVal]; exact rfl) (fun g24 => ?_) (fun g24 => ?_) | skip)
    all_goals (refine CWops.run htt 5 (by simp only [go_sem, simprocAttr, eVal]; exact rfl) (by simp [go_sem, simprocAttr, eVal]) ?_)
    all_goals (refine CWops.done ?_)
    all_goals (
      refine CW.ret ?_
      refine retQ.ret (by simp only [f121, go_sem, simprocAttr]; exact rfl) (by simp only [go_sem, simprocAttr]; exact rfl) ?_ -- ret1
      refine ⟨_, ?_, rfl⟩
      simp_all [leP, valFits, numFits] <;> first | done | omega | rfl | (rw [Bool.eq_iff_iff]; simp; omega) | skip)
  · refine CW.seq ?_
    refine CW.rg ?_
    refine CWops.rn htt 2 ?_
    refine CWops.done ?_
    refine CW.cond (by simp only [go_sem, simprocAttr]; first | done | exact rfl) (fun ct29 => ?_) (fun ct29 => ?_)
    · refine CW.seq ?_
      refine CW.rg ?_
      refine CWops.run htt 2 (by simp only [go_sem, simprocAttr, eVal]; exact rfl) (by simp [go_sem, simprocAttr, eVal]) ?_
      all_goals (first | refine CWops.guard 32 (by simp only [go_sem, simprocAttr, eVal]; exact rfl) (fun g32 => ?_) (fun g32 => ?_) | skip)
      all_goals (refine CWops.run htt 5 (by simp only [go_sem, simprocAttr, eVal]; exact rfl) (by simp [go_sem, simprocAttr, eVal]) ?_)
      all_goals (first | refine CWops.guard 37 (by simp only [go_sem, simprocAttr, eVal]; exact rfl) (fun g37 => ?_) (fun g37 => ?_) | skip)
      all_goals (refine CWops.run htt 5 (by simp only [go_sem, simprocAttr, eVal]; exact rfl) (by simp [go_sem, simprocAttr, eVal]) ?_)
      all_goals (refine CWops.done ?_)
      all_goals (
        refine CW.ret ?_
        refine retQ.ret (by simp only [f121, go_sem, simprocAttr]; exact rfl) (by simp only [go_sem, simprocAttr]; exact rfl) ?_ -- ret2
        refine ⟨_, ?_, rfl⟩
        simp_all [leP, valFits, numFits] <;> first | done | omega | rfl | (rw [Bool.eq_iff_iff]; simp; omega) | skip)
    · refine CW.seq ?_
      refine CW.rg ?_
      refine CWops.rn htt 2 ?_
      refine CWops.done ?_
      refine CW.cond (by simp only [go_sem, simprocAttr]; first | done | exact rfl) (fun ct42 => ?_) (fun ct42 => ?_)
      · refine CW.seq ?_
        refine CW.rg ?_
        refine CWops.run htt 2 (by simp only [go_sem, simprocAttr, eVal]; exact rfl) (by simp [go_sem, simprocAttr, eVal]) ?_
        all_goals (first | refine CWops.guard 45 (by simp only [go_sem, simprocAttr, eVal]; exact rfl) (fun g45 => ?_) (fun g45 => ?_) | skip)
        all_goals (refine CWops.run htt 5 (by simp only [go_sem, simprocAttr, eVal]; exact rfl) (by simp [go_sem, simprocAttr, eVal]) ?_)
        all_goals (first | refine CWops.guard 50 (by simp only [go_sem, simprocAttr, eVal]; exact rfl) (fun g50 => ?_) (fun g50 => ?_) | skip)
        all_goals (refine CWops.run htt 5 (by simp only [go_sem, simprocAttr, eVal]; exact rfl) (by simp [go_sem, simprocAttr, eVal]) ?_)
        all_goals (refine CWops.done ?_)
        all_goals (
          refine CW.ret ?_
          refine retQ.ret (by simp only [f121, go_sem, simprocAttr]; exact rfl) (by simp only [go_sem, simprocAttr]; exact rfl) ?_ -- ret3
          refine ⟨_, ?_, rfl⟩
          simp_all [leP, valFits, numFits] <;> first | done | omega | rfl | (rw [Bool.eq_iff_iff]; simp; omega) | skip)
      · refine CW.seq ?_
        refine CW.rg ?_
        refine CWops.rn htt 2 ?_
        refine CWops.done ?_
        refine CW.cond (by simp only [go_sem, simprocAttr]; first | done | exact rfl) (fun ct55 => ?_) (fun ct55 => ?_)
        · refine CW.seq ?_
          refine CW.rg ?_
          refine CWops.rn htt 2 ?_
          refine CWops.done ?_
          refine CW.ret ?_
          refine retQ.ret (by simp only [f121, go_sem, simprocAttr]; exact rfl) (by simp only [go_sem, simprocAttr]; exact rfl) ?_ -- ret4
          refine ⟨_, ?_, rfl⟩
          simp_all [leP, valFits, numFits] <;> first | done | omega | rfl | (rw [Bool.eq_iff_iff]; simp; omega) | skip
        · refine CW.seq ?_
          refine CW.rg ?_
          refine CWops.rn htt 2 ?_
          refine CWops.done ?_
          refine CW.cond (by simp only [go_sem, simprocAttr]; first | done | exact rfl) (fun ct58 => ?_) (fun ct58 => ?_)
          · refine CW.seq ?_
            refine CW.rg ?_
            refine CWops.run htt 5 (by simp only [go_sem, simprocAttr, eVal]; exact rfl) (by simp [go_sem, simprocAttr, eVal]) ?_
            all_goals (first | refine CWops.guard 64 (by simp only [go_sem, simprocAttr, eVal]; exact rfl) (fun g64 => ?_) (fun g64 => ?_) | skip)
            all_goals (refine CWops.run htt 5 (by simp only [go_sem, simprocAttr, eVal]; exact rfl) (by simp [go_sem, simprocAttr, eVal]) ?_)
            all_goals (first | refine CWops.guard 69 (by simp only [go_sem, simprocAttr, eVal]; exact rfl) (fun g69 => ?_) (fun g69 => ?_) | skip)
            all_goals (refine CWops.run htt 5 (by simp only [go_sem, simprocAttr, eVal]; exact rfl) (by simp [go_sem, simprocAttr, eVal]) ?_)
            all_goals (refine CWops.done ?_)
            all_goals (
              refine CW.ret ?_
              refine retQ.ret (by simp only [f121, go_sem, simprocAttr]; exact rfl) (by simp only [go_sem, simprocAttr]; exact rfl) ?_ -- ret5
              refine ⟨_, ?_, rfl⟩
              simp_all [leP, valFits, numFits] <;> first | done | omega | rfl | (rw [Bool.eq_iff_iff]; simp; omega) | skip)
          · refine CW.seq ?_
            refine CW.rg ?_
            refine CWops.rn htt 2 ?_
            refine CWops.done ?_
            refine CW.cond (by simp only [go_sem, simprocAttr]; first | done | exact rfl) (fun ct74 => ?_) (fun ct74 => ?_)
            · refine CW.seq ?_
              refine CW.rg ?_
              refine CWops.run htt 4 (by simp only [go_sem, simprocAttr, eVal]; exact rfl) (by simp [go_sem, simprocAttr, eVal]) ?_
              all_goals (first | refine CWops.guard 79 (by simp only [go_sem, simprocAttr, eVal]; exact rfl) (fun g79 => ?_) (fun g79 => ?_) | skip)
              all_goals (refine CWops.run htt 5 (by simp only [go_sem, simprocAttr, eVal]; exact rfl) (by simp [go_sem, simprocAttr, eVal]) ?_)
              all_goals (first | refine CWops.guard 84 (by simp only [go_sem, simprocAttr, eVal]; exact rfl) (fun g84 => ?_) (fun g84 => ?_) | skip)
              all_goals (refine CWops.run htt 5 (by simp only [go_sem, simprocAttr, eVal]; exact rfl) (by simp [go_sem, simprocAttr, eVal]) ?_)
              all_goals (first | refine CWops.guard 89 (by simp only [go_sem, simprocAttr, eVal]; exact rfl) (fun g89 => ?_) (fun g89 => ?_) | skip)
              all_goals (refine CWops.run htt 5 (by simp only [go_sem, simprocAttr, eVal]; exact rfl) (by simp [go_sem, simprocAttr, eVal]) ?_)
              all_goals (refine CWops.done ?_)
              all_goals (
                refine CW.ret ?_
                refine retQ.ret (by simp only [f121, go_sem, simprocAttr]; exact rfl) (by simp only [go_sem, simprocAttr]; exact rfl) ?_ -- ret6
                refine ⟨_, ?_, rfl⟩
                simp_all [leP, valFits, numFits] <;> first | done | omega | rfl | (rw [Bool.eq_iff_iff]; simp; omega) | skip)
            · refine CW.skip ?_
              refine CW.seq ?_
              refine CW.rg ?_
              refine CWops.rn htt 1 ?_
              refine CWops.done ?_
              refine CW.ret ?_
              refine retQ.ret (by simp only [f121, go_sem, simprocAttr]; exact rfl) (by simp only [go_sem, simprocAttr]; exact rfl) ?_ -- ret7
              refine ⟨_, ?_, rfl⟩
              simp_all [leP, valFits, numFits] <;> first | done | omega | rfl | (rw [Bool.eq_iff_iff]; simp; omega) | skip
end Go.Ab
namespace Go.Ab
open Go Go.Proofs.Try
open Nat (reduceEqDiff reduceAdd reduceLT reduceLeDiff reduceBEq reduceSub reduceMul)
open Int (reduceToNat)
set_option maxRecDepth 100000
set_option linter.unusedSimpArgs false
set_option linter.unusedVariables false
set_option maxHeartbeats 1000000
theorem ref08_object (up : Bool) (g : Graph) (i : Nat) (o : GObj) (ho : g.O[i]? = some o) (hi : i < 1000000) : PCall prog up 95 [.agg (eGraph g), .int .i64 i] (· = .bool (objectR g i o)) := by
  refine PCall.intro htt func95 (by kernel_rfl) rfl (Nat.le_of_ble_eq_true rfl) fun hl => ?_
  have hpc := prev_cases g ho hi
  clear hl
  simp only [tmps0, Nat.reduceAdd]
  refine CW.seq ?_
  refine CW.rg ?_
  refine CWops.run htt 2 (by simp only [go_sem, simprocAttr, eGraph]; exact rfl) (by simp [go_sem, simprocAttr, eGraph]) ?_
  refine CWops.done ?_
  refine CW.seq ?_
  refine CW.rg ?_
  refine CWops.run htt 7 (by simp only [go_sem, simprocAttr, eGraph, ho, eObj]; exact rfl) (by simp [go_sem, simprocAttr, eGraph, ho, eObj]) ?_
  refine CWops.done ?_
  refine CW.seq ?_
  refine CW.cut ⟨2, [(2, .lv 0 [] 0), (5, .lv 1 [] 0), (48, .bool (!(((decide (0 ≤ o.Id) && decide (o.Id ≤ 1073741824)) && (decide (i = 0) || decide (prevId g.O i < o.Id))) && (decide (0 ≤ o.T) && decide (o.T < g.S.length)))))], [(0, ⟨true, eGraph g⟩), (1, ⟨true, eObj o⟩)]⟩ ?_ ?_
  · rcases hpc with ⟨hd, hz, hw, hi0⟩ | ⟨j, z, hd, hz, hw, hpv, hi0⟩
    all_goals (refine CW.drawn mixed 36 (by decide) (by kernel_rfl) (by kernel_rfl) (by kernel_rfl) ?_)
    all_goals (refine Seg.run htt 4 (by simp only [go_sem, simprocAttr, eGraph, eSchema, hd, hz, hw, eObj]; exact rfl) ?_)
    all_goals (first | refine Seg.guard 14 (by simp only [go_sem, simprocAttr, eGraph, eSchema, hd, hz, hw, eObj]; exact rfl) (fun g14 => ?_) (fun g14 => ?_) | skip)
    all_goals (try (simp only [Bool.true_eq_false, Bool.false_eq_true] at g14; done))
    all_goals (refine Seg.run htt 5 (by simp only [go_sem, simprocAttr, eGraph, eSchema, hd, hz, hw, eObj]; exact rfl) ?_)
    all_goals (first | refine Seg.guard 19 (by simp only [go_sem, simprocAttr, eGraph, eSchema, hd, hz, hw, eObj]; exact rfl) (fun g19 => ?_) (fun g19 => ?_) | skip)
    all_goals (try (simp only [Bool.true_eq_false, Bool.false_eq_true] at g19; done))
    all_goals (refine Seg.run htt 3 (by simp only [go_sem, simprocAttr, eGraph, eSchema, hd, hz, hw, eObj]; exact rfl) ?_)
    all_goals (first | refine Seg.guard 22 (by simp only [go_sem, simprocAttr, eGraph, eSchema, hd, hz, hw, eObj]; exact rfl) (fun g22 => ?_) (fun g22 => ?_) | skip)
    all_goals (try (simp only [Bool.true_eq_false, Bool.false_eq_true] at g22; done))
    all_goals (refine Seg.run htt 13 (by simp only [go_sem, simprocAttr, eGraph, eSchema, hd, hz, hw, eObj]; exact rfl) ?_)
    all_goals (first | refine Seg.guard 35 (by simp only [go_sem, simprocAttr, eGraph, eSchema, hd, hz, hw, eObj]; exact rfl) (fun g35 => ?_) (fun g35 => ?_) | skip)
    all_goals (try (simp only [Bool.true_eq_false, Bool.false_eq_true] at g35; done))
    all_goals (refine Seg.run htt 5 (by simp only [go_sem, simprocAttr, eGraph, eSchema, hd, hz, hw, eObj]; exact rfl) ?_)
    all_goals (first | refine Seg.guard 40 (by simp only [go_sem, simprocAttr, eGraph, eSchema, hd, hz, hw, eObj]; exact rfl) (fun g40 => ?_) (fun g40 => ?_) | skip)
    all_goals (try (simp only [Bool.true_eq_false, Bool.false_eq_true] at g40; done))
    all_goals (refine Seg.run htt 6 (by simp only [go_sem, simprocAttr, eGraph, eSchema, hd, hz, hw, eObj]; exact rfl) ?_)
    all_goals (refine Seg.done ?_)
    all_goals (refine CWops.run htt 2 (by simp only [go_sem, simprocAttr, eGraph, eSchema, hd, hz, hw, eObj]; exact rfl) (by simp [go_sem, simprocAttr, eGraph, eSchema, hd, hz, hw, eObj]) ?_)
    all_goals (refine CWops.done ?_)
    all_goals (
      refine ⟨rfl, Sh.wk0 ?_⟩
      clear ho hi hz hw
      simp [Wk, go_sem, simprocAttr, eGraph, eObj] <;> (simp only [decide_eq_true_eq, decide_eq_false_iff_not] at * <;> first | omega | (rw [Bool.eq_iff_iff]; simp; omega)))
  refine CW.cond (by simp only [go_sem, simprocAttr]; first | done | exact rfl) (fun ct48 => ?_) (fun ct48 => ?_)
  · simp only [Bool.not_eq_true'] at ct48
    refine CW.seq ?_
    refine CW.rg ?_
    refine CWops.rn htt 1 ?_
    refine CWops.done ?_
    refine CW.ret ?_
    refine retQ.ret (by simp only [f95, go_sem, simprocAttr]; exact rfl) (by simp only [go_sem, simprocAttr]; exact rfl) ?_ -- ret1
    refine ⟨_, ?_, rfl⟩
    have : objectR g i o = false := by
      unfold objectR
      cases e : typeAt g.S o.T with
      | none => simp
      | some t =>
        have h5 : (decide (0 ≤ o.T) && decide (o.T < g.S.length)) = true := by
          unfold typeAt at e; split at e
          · have := (List.getElem?_eq_some_iff.1 e).1; simp; omega
          · cases e
        rw [h5, Bool.and_true] at ct48; simp only; rw [ct48]; rfl
    simp [leP, this]
  · simp only [Bool.not_eq_false', Bool.and_eq_true] at ct48
    obtain ⟨hA, h3, h4⟩ := ct48
    simp only [decide_eq_true_eq] at h3 h4
    obtain ⟨oi, oT, oF⟩ := o
    simp only at h3 h4 hA
    obtain ⟨q, rfl⟩ := Int.eq_ofNat_of_zero_le h3
    obtain ⟨t, ht⟩ : ∃ t, g.S[q]? = some t := ⟨g.S[q], List.getElem?_eq_getElem (by omega)⟩
    have hT : typeAt g.S q = some t := by unfold typeAt; rw [if_pos h3]; simpa using ht
    refine CW.skip ?_
    refine CW.seq ?_
    refine CW.drawn mixed 12 (by decide) (by kernel_rfl) (by kernel_rfl) (by kernel_rfl) ?_
    refine Seg.run htt 12 (by simp only [go_sem, simprocAttr, eGraph, eSchema, ht, eType, eObj]; exact rfl) ?_
    refine Seg.done ?_
    refine CWops.run htt 2 (by simp only [go_sem, simprocAttr, eGraph, eSchema, ht, eType, eObj]; exact rfl) (by simp [go_sem, simprocAttr, eGraph, eSchema, ht, eType, eObj]) ?_
    refine CWops.done ?_
    refine CW.ret ?_
    refine retQ.ret (by simp only [f95, go_sem, simprocAttr]; exact rfl) (by simp only [go_sem, simprocAttr]; exact rfl) ?_ -- ret2
    refine ⟨_, ?_, rfl⟩
    have h6 : objectR g i ⟨oi, q, oF⟩ = decide (oF.length = t.F.length) := by unfold objectR; simp only [Bool.and_eq_true] at *; rw [hT]; simp only; rw [hA.1.1, hA.1.2, hA.2]; rfl
    rw [h6]
    simp [leP]; omega
theorem ref08_leads_none (up : Bool) (g : Graph) (f : GField) (v : GVal) (hn : -9223372036854775808 ≤ v.N ∧ v.N < 9223372036854775808) (ho : objAt g v.R = none) (hF : fnd (fun o => decide (o.Id = v.R)) g.O = -1) : PCall prog up 96 [.agg (eGraph g), .agg (eField f), .agg (eVal v)] (· = .bool (leadsR g f v)) := by
  refine PCall.intro htt func96 (by kernel_rfl) rfl (Nat.le_of_ble_eq_true rfl) fun hl => ?_

  simp only [tmps0, Nat.reduceAdd]
  refine CW.seq ?_
  refine CW.rg ?_
  refine CWops.run htt 4 (by simp only [go_sem, simprocAttr, eGraph, eField, eVal]; exact rfl) (by simp [go_sem, simprocAttr, eGraph, eField, eVal]) ?_
  refine CWops.done ?_
  refine CW.seq ?_
  refine CW.rg ?_
  refine CWops.run htt 2 (by simp only [go_sem, simprocAttr, eField, eVal]; exact rfl) (by simp [go_sem, simprocAttr, eField, eVal]) ?_
  refine CWops.call (ref07_Fits up f v hn) (by simp only [go_sem, simprocAttr, eField, eVal]) (by simp only [go_sem, simprocAttr, eField, eVal]; first | done | exact rfl) (by simp only [go_sem, simprocAttr, eField, eVal]) (fun rt11 hrt11 => ?_)
  subst hrt11; refine ⟨rfl, ?_⟩
  refine CWops.run htt 1 (by simp only [go_sem, simprocAttr, eField, eVal]; exact rfl) (by simp [go_sem, simprocAttr, eField, eVal]) ?_
  refine CWops.done ?_
  refine CW.seq ?_
  refine CW.seq ?_
  refine CW.rg ?_
  refine CWops.rn htt 2 ?_
  refine CWops.done ?_
  refine CW.cond (by simp only [go_sem, simprocAttr]; first | done | exact rfl) (fun ct13 => ?_) (fun ct13 => ?_)
  · simp only [Bool.not_eq_true'] at ct13
    refine CW.seq ?_
    refine CW.rg ?_
    refine CWops.rn htt 1 ?_
    refine CWops.done ?_
    refine CW.ret ?_
    refine retQ.ret (by simp only [f96, go_sem, simprocAttr]; exact rfl) (by simp only [go_sem, simprocAttr]; exact rfl) ?_ -- ret1
    refine ⟨_, ?_, rfl⟩
    simp [leP, leadsR, ct13]
  · simp only [Bool.not_eq_false'] at ct13
    refine CW.skip ?_
    refine CW.seq ?_
    refine CW.cut ⟨3, [(3, .lv 0 [] 0), (4, .lv 1 [] 0), (5, .lv 2 [] 0), (21, .bool (!decide (f.Kind = 5) || decide (v.R = -1)))], [(0, ⟨true, eGraph g⟩), (1, ⟨true, eField f⟩), (2, ⟨true, eVal v⟩)]⟩ ?_ ?_
    · refine CW.rg ?_
      refine CWops.run htt 4 (by simp only [go_sem, simprocAttr, eField, eVal]; exact rfl) (by simp [go_sem, simprocAttr, eField, eVal]) ?_
      all_goals (first | refine CWops.guard 17 (by simp only [go_sem, simprocAttr, eField, eVal]; exact rfl) (fun g17 => ?_) (fun g17 => ?_) | skip)
      all_goals (refine CWops.run htt 4 (by simp only [go_sem, simprocAttr, eField, eVal]; exact rfl) (by simp [go_sem, simprocAttr, eField, eVal]) ?_)
      all_goals (refine CWops.done ?_)
      all_goals (
        refine ⟨rfl, Sh.wk0 ?_⟩
        clear hl ho hF
        first | (simp_all [Wk, go_sem, simprocAttr, eGraph, eField, eVal]; done) | skip)
    refine CW.cond (by simp only [go_sem, simprocAttr]; first | done | exact rfl) (fun ct21 => ?_) (fun ct21 => ?_)
    · refine CW.seq ?_
      refine CW.rg ?_
      refine CWops.rn htt 1 ?_
      refine CWops.done ?_
      refine CW.ret ?_
      refine retQ.ret (by simp only [f96, go_sem, simprocAttr]; exact rfl) (by simp only [go_sem, simprocAttr]; exact rfl) ?_ -- ret2
      refine ⟨_, ?_, rfl⟩
      have : leadsR g f v = true := by
        unfold leadsR; rw [ct13]
        simp only [Bool.or_eq_true, Bool.not_eq_true', decide_eq_false_iff_not, decide_eq_true_eq] at ct21
        rcases ct21 with h | h <;> simp [h]
      simp [leP, this]
    · refine CW.skip ?_
      refine CW.cut ⟨3, [(3, .lv 0 [] 0), (4, .lv 1 [] 0), (5, .lv 2 [] 0), (8, .int .i64 (fnd (fun o => decide (o.Id = v.R)) g.O))], [(0, ⟨true, eGraph g⟩), (1, ⟨true, eField f⟩), (2, ⟨true, eVal v⟩)]⟩ ?_ ?_
      · refine CW.rg ?_
        refine CWops.run htt 3 (by simp only [go_sem, simprocAttr, eGraph, eVal, hF]; exact rfl) (by simp [go_sem, simprocAttr, eGraph, eVal, hF]) ?_
        refine CWops.call (ref08_Find up g v.R) (by simp only [go_sem, simprocAttr, eGraph, eVal, hF]) (by simp only [go_sem, simprocAttr, eGraph, eVal, hF]; first | done | exact rfl) (by simp only [go_sem, simprocAttr, eGraph, eVal, hF]) (fun rt25 hrt25 => ?_)
        subst hrt25; refine ⟨rfl, ?_⟩
        refine CWops.run htt 1 (by simp only [go_sem, simprocAttr, eGraph, eVal, hF]; exact rfl) (by simp [go_sem, simprocAttr, eGraph, eVal, hF]) ?_
        refine CWops.done ?_
        refine ⟨rfl, Sh.wk0 ?_⟩
        simp [Wk, go_sem, simprocAttr, eGraph, eField, eVal, hF]
      refine CW.seq ?_
      refine CW.drawn mixed 14 (by decide) (by kernel_rfl) (by kernel_rfl) (by kernel_rfl) ?_
      refine Seg.run htt 3 (by simp only [go_sem, simprocAttr, eGraph, eObj, eField, eSchema, hF]; exact rfl) ?_
      all_goals (first | refine Seg.guard 28 (by simp only [go_sem, simprocAttr, eGraph, eObj, eField, eSchema, hF]; exact rfl) (fun g28 => ?_) (fun g28 => ?_) | skip)
      all_goals (first | (exfalso; simp at g28; done) | (exfalso; simp at g28; omega) | skip)
      all_goals (refine Seg.run htt 10 (by simp only [go_sem, simprocAttr, eGraph, eObj, eField, eSchema, hF]; exact rfl) ?_)
      all_goals (first | (refine Seg.skip ?_ ?_; next => (simp only [go_sem, simprocAttr]; done)) | (refine Seg.call (ref06_Find up g.S f.To) (by simp only [go_sem, simprocAttr, eGraph, eObj, eField, eSchema, hF]) (by simp only [go_sem, simprocAttr, eGraph, eObj, eField, eSchema, hF]; first | done | exact rfl) (by simp only [go_sem, simprocAttr, eGraph, eObj, eField, eSchema, hF]) (by simp only [go_sem, simprocAttr, eGraph, eObj, eField, eSchema, hF]) rfl ?_))
      all_goals (refine Seg.done ?_)
      all_goals (refine CWops.run htt 3 (by simp only [go_sem, simprocAttr, eGraph, eObj, eField, eSchema, hF]; exact rfl) (by simp [go_sem, simprocAttr, eGraph, eObj, eField, eSchema, hF]) ?_)
      all_goals (refine CWops.done ?_)
      all_goals (
        refine CW.ret ?_
        refine retQ.ret (by simp only [f96, go_sem, simprocAttr]; exact rfl) (by simp only [go_sem, simprocAttr]; exact rfl) ?_ -- ret3
        refine ⟨_, ?_, rfl⟩
        have : leadsR g f v = false := by
          unfold leadsR; rw [ho, ct13]
          simp only [Bool.or_eq_false_iff] at ct21
          simp [ct21.1, ct21.2]
        simp [leP, this])
theorem ref08_leads_some (up : Bool) (g : Graph) (f : GField) (v : GVal) (hn : -9223372036854775808 ≤ v.N ∧ v.N < 9223372036854775808) (p : Nat) (o : GObj) (ho : objAt g v.R = some o) (hF : fnd (fun o => decide (o.Id = v.R)) g.O = p) (hp : g.O[p]? = some o) : PCall prog up 96 [.agg (eGraph g), .agg (eField f), .agg (eVal v)] (· = .bool (leadsR g f v)) := by
  refine PCall.intro htt func96 (by kernel_rfl) rfl (Nat.le_of_ble_eq_true rfl) fun hl => ?_

  simp only [tmps0, Nat.reduceAdd]
  refine CW.seq ?_
  refine CW.rg ?_
  refine CWops.run htt 4 (by simp only [go_sem, simprocAttr, eGraph, eField, eVal]; exact rfl) (by simp [go_sem, simprocAttr, eGraph, eField, eVal]) ?_
  refine CWops.done ?_
  refine CW.seq ?_
  refine CW.rg ?_
  refine CWops.run htt 2 (by simp only [go_sem, simprocAttr, eField, eVal]; exact rfl) (by simp [go_sem, simprocAttr, eField, eVal]) ?_
  refine CWops.call (ref07_Fits up f v hn) (by simp only [go_sem, simprocAttr, eField, eVal]) (by simp only [go_sem, simprocAttr, eField, eVal]; first | done | exact rfl) (by simp only [go_sem, simprocAttr, eField, eVal]) (fun rt11 hrt11 => ?_)
  subst hrt11; refine ⟨rfl, ?_⟩
  refine CWops.run htt 1 (by simp only [go_sem, simprocAttr, eField, eVal]; exact rfl) (by simp [go_sem, simprocAttr, eField, eVal]) ?_
  refine CWops.done ?_
  refine CW.seq ?_
  refine CW.seq ?_
  refine CW.rg ?_
  refine CWops.rn htt 2 ?_
  refine CWops.done ?_
  refine CW.cond (by simp only [go_sem, simprocAttr]; first | done | exact rfl) (fun ct13 => ?_) (fun ct13 => ?_)
  · simp only [Bool.not_eq_true'] at ct13
    refine CW.seq ?_
    refine CW.rg ?_
    refine CWops.rn htt 1 ?_
    refine CWops.done ?_
    refine CW.ret ?_
    refine retQ.ret (by simp only [f96, go_sem, simprocAttr]; exact rfl) (by simp only [go_sem, simprocAttr]; exact rfl) ?_ -- ret1
    refine ⟨_, ?_, rfl⟩
    simp [leP, leadsR, ct13]
  · simp only [Bool.not_eq_false'] at ct13
    refine CW.skip ?_
    refine CW.seq ?_
    refine CW.cut ⟨3, [(3, .lv 0 [] 0), (4, .lv 1 [] 0), (5, .lv 2 [] 0), (21, .bool (!decide (f.Kind = 5) || decide (v.R = -1)))], [(0, ⟨true, eGraph g⟩), (1, ⟨true, eField f⟩), (2, ⟨true, eVal v⟩)]⟩ ?_ ?_
    · refine CW.rg ?_
      refine CWops.run htt 4 (by simp only [go_sem, simprocAttr, eField, eVal]; exact rfl) (by simp [go_sem, simprocAttr, eField, eVal]) ?_
      all_goals (first | refine CWops.guard 17 (by simp only [go_sem, simprocAttr, eField, eVal]; exact rfl) (fun g17 => ?_) (fun g17 => ?_) | skip)
      all_goals (refine CWops.run htt 4 (by simp only [go_sem, simprocAttr, eField, eVal]; exact rfl) (by simp [go_sem, simprocAttr, eField, eVal]) ?_)
      all_goals (refine CWops.done ?_)
      all_goals (
        refine ⟨rfl, Sh.wk0 ?_⟩
        clear hl ho hF
        first | (simp_all [Wk, go_sem, simprocAttr, eGraph, eField, eVal]; done) | skip)
    refine CW.cond (by simp only [go_sem, simprocAttr]; first | done | exact rfl) (fun ct21 => ?_) (fun ct21 => ?_)
    · refine CW.seq ?_
      refine CW.rg ?_
      refine CWops.rn htt 1 ?_
      refine CWops.done ?_
      refine CW.ret ?_
      refine retQ.ret (by simp only [f96, go_sem, simprocAttr]; exact rfl) (by simp only [go_sem, simprocAttr]; exact rfl) ?_ -- ret2
      refine ⟨_, ?_, rfl⟩
      have : leadsR g f v = true := by
        unfold leadsR; rw [ct13]
        simp only [Bool.or_eq_true, Bool.not_eq_true', decide_eq_false_iff_not, decide_eq_true_eq] at ct21
        rcases ct21 with h | h <;> simp [h]
      simp [leP, this]
    · refine CW.skip ?_
      refine CW.cut ⟨3, [(3, .lv 0 [] 0), (4, .lv 1 [] 0), (5, .lv 2 [] 0), (8, .int .i64 (fnd (fun o => decide (o.Id = v.R)) g.O))], [(0, ⟨true, eGraph g⟩), (1, ⟨true, eField f⟩), (2, ⟨true, eVal v⟩)]⟩ ?_ ?_
      · refine CW.rg ?_
        refine CWops.run htt 3 (by simp only [go_sem, simprocAttr, eGraph, eVal, hF]; exact rfl) (by simp [go_sem, simprocAttr, eGraph, eVal, hF]) ?_
        refine CWops.call (ref08_Find up g v.R) (by simp only [go_sem, simprocAttr, eGraph, eVal, hF]) (by simp only [go_sem, simprocAttr, eGraph, eVal, hF]; first | done | exact rfl) (by simp only [go_sem, simprocAttr, eGraph, eVal, hF]) (fun rt25 hrt25 => ?_)
        subst hrt25; refine ⟨rfl, ?_⟩
        refine CWops.run htt 1 (by simp only [go_sem, simprocAttr, eGraph, eVal, hF]; exact rfl) (by simp [go_sem, simprocAttr, eGraph, eVal, hF]) ?_
        refine CWops.done ?_
        refine ⟨rfl, Sh.wk0 ?_⟩
        simp [Wk, go_sem, simprocAttr, eGraph, eField, eVal, hF]
      refine CW.seq ?_
      refine CW.drawn mixed 14 (by decide) (by kernel_rfl) (by kernel_rfl) (by kernel_rfl) ?_
      refine Seg.run htt 3 (by simp only [go_sem, simprocAttr, eGraph, eObj, eField, eSchema, hF, hp]; exact rfl) ?_
      all_goals (first | refine Seg.guard 28 (by simp only [go_sem, simprocAttr, eGraph, eObj, eField, eSchema, hF, hp]; exact rfl) (fun g28 => ?_) (fun g28 => ?_) | skip)
      all_goals (first | (exfalso; simp at g28; done) | (exfalso; simp at g28; omega) | skip)
      all_goals (refine Seg.run htt 10 (by simp only [go_sem, simprocAttr, eGraph, eObj, eField, eSchema, hF, hp]; exact rfl) ?_)
      all_goals (first | (refine Seg.skip ?_ ?_; next => (simp only [go_sem, simprocAttr]; done)) | (refine Seg.call (ref06_Find up g.S f.To) (by simp only [go_sem, simprocAttr, eGraph, eObj, eField, eSchema, hF, hp]) (by simp only [go_sem, simprocAttr, eGraph, eObj, eField, eSchema, hF, hp]; first | done | exact rfl) (by simp only [go_sem, simprocAttr, eGraph, eObj, eField, eSchema, hF, hp]) (by simp only [go_sem, simprocAttr, eGraph, eObj, eField, eSchema, hF, hp]) rfl ?_))
      all_goals (refine Seg.done ?_)
      all_goals (refine CWops.run htt 3 (by simp only [go_sem, simprocAttr, eGraph, eObj, eField, eSchema, hF, hp]; exact rfl) (by simp [go_sem, simprocAttr, eGraph, eObj, eField, eSchema, hF, hp]) ?_)
      all_goals (refine CWops.done ?_)
      all_goals (
        refine CW.ret ?_
        refine retQ.ret (by simp only [f96, go_sem, simprocAttr]; exact rfl) (by simp only [go_sem, simprocAttr]; exact rfl) ?_ -- ret3
        refine ⟨_, ?_, rfl⟩
        have : leadsR g f v = decide (o.T = sFind g.S f.To) := by
          unfold leadsR; rw [ho, ct13]
          simp only [Bool.or_eq_false_iff] at ct21
          simp [ct21.1, ct21.2]
        rw [this]
        simp [leP, sFind] <;> first | done | rfl | congr)
theorem ref08_leads (up : Bool) (g : Graph) (f : GField) (v : GVal) (hn : -9223372036854775808 ≤ v.N ∧ v.N < 9223372036854775808) : PCall prog up 96 [.agg (eGraph g), .agg (eField f), .agg (eVal v)] (· = .bool (leadsR g f v)) := by
  rcases obj_cases g v.R with ⟨h1, h2⟩ | ⟨p, o, h1, h2, h3⟩
  · exact ref08_leads_none up g f v hn h1 h2
  · exact ref08_leads_some up g f v hn p o h1 h2 h3
theorem ref08_May (up : Bool) (g : Graph) (hsm : smallS g.S) (hN : ∀ o ∈ g.O, ∀ v ∈ o.F, -9223372036854775808 ≤ v.N ∧ v.N < 9223372036854775808) : PCall prog up 55 [.agg (eGraph g)] (· = .bool (gMay g)) := by
  refine PCall.intro htt func55 (by kernel_rfl) rfl (Nat.le_of_ble_eq_true rfl) fun hl => ?_
  rw [← rMay_eq]
  have hL := (hl (.agg (eGraph g)) (by simp)).agg
  have hb := (hL (.sl 3 (g.O.map eObj)) (by simp [eGraph])).sl
  have hF : ∀ x ∈ g.O, x.F.length ≤ MX := fun x hx => by
    have h1 := (hb.2 (eObj x) (List.mem_map_of_mem hx)).2 (.sl 3 (x.F.map eVal)) (by simp [eObj])
    simpa using h1.sl.1
  clear hb hL hl
  simp only [tmps0, Nat.reduceAdd]
  refine CW.seq ?_
  refine CW.rg ?_
  refine CWops.run htt 2 (by simp only [go_sem, simprocAttr, eGraph]; exact rfl) (by simp [go_sem, simprocAttr, eGraph]) ?_
  refine CWops.done ?_
  refine CW.seq ?_
  refine CW.rg ?_
  refine CWops.run htt 2 (by simp only [go_sem, simprocAttr, eGraph, eSchema]; exact rfl) (by simp [go_sem, simprocAttr, eGraph, eSchema]) ?_
  refine CWops.call (ref06_May up g.S hsm) (by simp only [go_sem, simprocAttr, eGraph, eSchema]) (by simp only [go_sem, simprocAttr, eGraph, eSchema]; first | done | exact rfl) (by simp only [go_sem, simprocAttr, eGraph, eSchema]) (fun rt12 hrt12 => ?_)
  subst hrt12; refine ⟨rfl, ?_⟩
  refine CWops.run htt 1 (by simp only [go_sem, simprocAttr, eGraph, eSchema]; exact rfl) (by simp [go_sem, simprocAttr, eGraph, eSchema]) ?_
  refine CWops.done ?_
  refine CW.seq ?_
  refine CW.cut ⟨1, [(1, .lv 0 [] 0), (26, .bool (!((schemaMay g.S && decide (g.O.length ≤ 8)) && decide (g.Roots.length ≤ 3))))], [(0, ⟨true, eGraph g⟩)]⟩ ?_ ?_
  · refine CW.rg ?_
    refine CWops.run htt 3 (by simp only [go_sem, simprocAttr, eGraph]; exact rfl) (by simp [go_sem, simprocAttr, eGraph]) ?_
    all_goals (first | refine CWops.guard 15 (by simp only [go_sem, simprocAttr, eGraph]; exact rfl) (fun g15 => ?_) (fun g15 => ?_) | skip)
    all_goals (refine CWops.run htt 6 (by simp only [go_sem, simprocAttr, eGraph]; exact rfl) (by simp [go_sem, simprocAttr, eGraph]) ?_)
    all_goals (first | refine CWops.guard 21 (by simp only [go_sem, simprocAttr, eGraph]; exact rfl) (fun g21 => ?_) (fun g21 => ?_) | skip)
    all_goals (refine CWops.run htt 5 (by simp only [go_sem, simprocAttr, eGraph]; exact rfl) (by simp [go_sem, simprocAttr, eGraph]) ?_)
    all_goals (refine CWops.done ?_)
    all_goals (
      refine ⟨rfl, Sh.wk0 ?_⟩
      simp_all [Wk, go_sem, simprocAttr, eGraph] <;> first | done | omega | rfl | (rw [Bool.eq_iff_iff]; done) | (rw [Bool.eq_iff_iff]; simp; done) | (rw [Bool.eq_iff_iff]; simp; omega))
  refine CW.cond (by simp only [go_sem, simprocAttr]; first | done | exact rfl) (fun ct26 => ?_) (fun ct26 => ?_)
  · simp only [Bool.not_eq_true'] at ct26
    refine CW.seq ?_
    refine CW.rg ?_
    refine CWops.rn htt 1 ?_
    refine CWops.done ?_
    refine CW.ret ?_
    refine retQ.ret (by simp only [f55, go_sem, simprocAttr]; exact rfl) (by simp only [go_sem, simprocAttr]; exact rfl) ?_ -- ret1
    refine ⟨_, ?_, rfl⟩
    have : rMay g = false := by unfold rMay; rw [ct26]; rfl
    simp [leP, this]
  · simp only [Bool.not_eq_false'] at ct26
    have h8 : g.O.length ≤ 8 := by simp only [Bool.and_eq_true, decide_eq_true_eq] at ct26; exact ct26.1.2
    have h3 : g.Roots.length ≤ 3 := by simp only [Bool.and_eq_true, decide_eq_true_eq] at ct26; exact ct26.2
    refine CW.skip ?_
    refine CW.seq ?_
    refine CW.seq ?_
    refine CW.rg ?_
    refine CWops.rn htt 1 ?_
    refine CWops.done ?_
    refine CW.block ?_
    refine CW.loop (S := Nat) (fun i => ⟨1, [(1, .lv 0 [] 0), (4, .int .i64 i)], [(0, ⟨true, eGraph g⟩)]⟩) (fun i => i ≤ g.O.length ∧ ∀ (j : Nat) (y), j < i → g.O[j]? = some y → objectR g j y = true) (fun i => g.O.length - i) (0) ?_ ⟨Nat.zero_le _, fun j y hj => by omega⟩ (fun i ⟨h1, h2⟩ => ?_)
    · refine Sh.wk0 ?_; simp [Wk, go_sem, simprocAttr, eGraph]
    refine CW.seq ?_
    refine CW.seq ?_
    refine CW.rg ?_
    refine CWops.run htt 5 (by simp only [go_sem, simprocAttr, eGraph]; exact rfl) (by simp [go_sem, simprocAttr, eGraph]) ?_
    refine CWops.done ?_
    refine CW.cond (by simp only [go_sem, simprocAttr]; first | done | exact rfl) (fun ct31 => ?_) (fun ct31 => ?_)
    · have hi : i < g.O.length := by simpa using ct31
      obtain ⟨x, hx⟩ : ∃ x, g.O[i]? = some x := ⟨g.O[i], List.getElem?_eq_getElem hi⟩
      refine CW.skip ?_
      refine CW.seq ?_
      refine CW.block ?_
      refine CW.seq ?_
      refine CW.rg ?_
      refine CWops.run htt 2 (by simp only [go_sem, simprocAttr, eGraph]; exact rfl) (by simp [go_sem, simprocAttr, eGraph]) ?_
      refine CWops.call (ref08_object up g i x hx (by omega)) (by simp only [go_sem, simprocAttr, eGraph]) (by simp only [go_sem, simprocAttr, eGraph]; first | done | exact rfl) (by simp only [go_sem, simprocAttr, eGraph]) (fun rt36 hrt36 => ?_)
      subst hrt36; refine ⟨rfl, ?_⟩
      refine CWops.run htt 1 (by simp only [go_sem, simprocAttr, eGraph]; exact rfl) (by simp [go_sem, simprocAttr, eGraph]) ?_
      refine CWops.done ?_
      refine CW.seq ?_
      refine CW.rg ?_
      refine CWops.rn htt 2 ?_
      refine CWops.done ?_
      refine CW.cond (by simp only [go_sem, simprocAttr]; first | done | exact rfl) (fun ct38 => ?_) (fun ct38 => ?_)
      · simp only [Bool.not_eq_true'] at ct38
        refine CW.seq ?_
        refine CW.rg ?_
        refine CWops.rn htt 1 ?_
        refine CWops.done ?_
        refine CW.ret ?_
        refine retQ.ret (by simp only [f55, go_sem, simprocAttr]; exact rfl) (by simp only [go_sem, simprocAttr]; exact rfl) ?_ -- ret2
        refine ⟨_, ?_, rfl⟩
        have : rMay g = false := by unfold rMay; rw [allI_no hx (by rw [Nat.zero_add]; exact ct38)]; simp
        simp [leP, this]
      · simp only [Bool.not_eq_false'] at ct38
        refine CW.skip ?_
        refine CW.rg ?_
        refine CWops.run htt 3 (by simp only [go_sem, simprocAttr, wrap_succ (show i < MX by unfold MX; omega)]; exact rfl) (by simp [go_sem, simprocAttr, wrap_succ (show i < MX by unfold MX; omega)]) ?_
        refine CWops.done ?_
        refine ⟨i + 1, ?_, ?_, ?_⟩
        · refine Sh.wk0 ?_; simp [Wk, go_sem, simprocAttr, eGraph]
        · exact ⟨hi, belowI_succ (p := objectR g) h2 hx ct38⟩
        · simp only; omega
    · have hi : i = g.O.length := by simp at ct31; omega
      have hA : allI (objectR g) 0 g.O = true := belowI_all (by rw [← hi]; exact h2)
      refine CW.exit ?_
      refine CW.seq ?_
      refine CW.seq ?_
      refine CW.rg ?_
      refine CWops.rn htt 1 ?_
      refine CWops.done ?_
      refine CW.block ?_
      refine CW.loop (S := Nat) (fun i => ⟨1, [(1, .lv 0 [] 0), (6, .int .i64 i)], [(0, ⟨true, eGraph g⟩)]⟩) (fun i => i ≤ g.O.length ∧ ∀ (j : Nat) (y), j < i → g.O[j]? = some y → leadsO g j y = true) (fun i => g.O.length - i) (0) ?_ ⟨Nat.zero_le _, fun j y hj => by omega⟩ (fun i ⟨h1, h2⟩ => ?_)
      · refine Sh.wk0 ?_; simp [Wk, go_sem, simprocAttr, eGraph]
      refine CW.seq ?_
      refine CW.seq ?_
      refine CW.rg ?_
      refine CWops.run htt 5 (by simp only [go_sem, simprocAttr, eGraph]; exact rfl) (by simp [go_sem, simprocAttr, eGraph]) ?_
      refine CWops.done ?_
      refine CW.cond (by simp only [go_sem, simprocAttr]; first | done | exact rfl) (fun ct43 => ?_) (fun ct43 => ?_)
      · have hi : i < g.O.length := by simpa using ct43
        obtain ⟨⟨oi, oT, oF⟩, hp⟩ : ∃ x, g.O[i]? = some x := ⟨g.O[i], List.getElem?_eq_getElem hi⟩
        have hob := allI_at hA hp
        unfold objectR at hob
        simp only [Bool.and_eq_true] at hob
        obtain ⟨t, hT⟩ : ∃ t, typeAt g.S oT = some t := by
          cases e : typeAt g.S oT with
          | none => rw [e] at hob; cases hob.2
          | some t => exact ⟨t, rfl⟩
        have h0 : 0 ≤ oT := by
          unfold typeAt at hT; split at hT
          · assumption
          · cases hT
        obtain ⟨q, rfl⟩ := Int.eq_ofNat_of_zero_le h0
        have ht : g.S[q]? = some t := by unfold typeAt at hT; rw [if_pos h0] at hT; simpa using hT
        have hlen : oF.length = t.F.length := by have := hob.2; rw [hT] at this; simpa using this
        refine CW.skip ?_
        refine CW.seq ?_
        refine CW.block ?_
        refine CW.seq ?_
        refine CW.rg ?_
        refine CWops.rn htt 1 ?_
        refine CWops.done ?_
        refine CW.block ?_
        refine CW.loop (S := Nat) (fun k => ⟨1, [(1, .lv 0 [] 0), (6, .int .i64 i), (7, .int .i64 k)], [(0, ⟨true, eGraph g⟩)]⟩) (fun k => k ≤ oF.length ∧ ∀ (j : Nat) (y), j < k → oF[j]? = some y → leadsAtR g t.F j y = true) (fun k => oF.length - k) (0) ?_ ⟨Nat.zero_le _, fun j y hj => by omega⟩ (fun k ⟨k1, k2⟩ => ?_)
        · refine Sh.wk0 ?_; simp [Wk, go_sem, simprocAttr, eGraph]
        refine CW.seq ?_
        refine CW.seq ?_
        refine CW.rg ?_
        refine CWops.run htt 9 (by simp only [go_sem, simprocAttr, eGraph, hp, eObj]; exact rfl) (by simp [go_sem, simprocAttr, eGraph, hp, eObj]) ?_
        refine CWops.done ?_
        refine CW.cond (by simp only [go_sem, simprocAttr]; first | done | exact rfl) (fun ct54 => ?_) (fun ct54 => ?_)
        · have hk : k < oF.length := by simpa using ct54
          obtain ⟨v, hv⟩ : ∃ v, oF[k]? = some v := ⟨oF[k], List.getElem?_eq_getElem hk⟩
          obtain ⟨f, hf⟩ : ∃ f, t.F[k]? = some f := ⟨t.F[k], List.getElem?_eq_getElem (by omega)⟩
          refine CW.skip ?_
          refine CW.seq ?_
          refine CW.block ?_
          refine CW.seq ?_
          refine CW.drawn mixed 25 (by decide) (by kernel_rfl) (by kernel_rfl) (by kernel_rfl) ?_
          refine Seg.run htt 25 (by simp only [go_sem, simprocAttr, eGraph, eSchema, hp, eObj, ht, eType, hf, eField, hv, eVal]; exact rfl) ?_
          refine Seg.done ?_
          refine CWops.call (ref08_leads up g f v (hN _ (List.mem_of_getElem? hp) v (List.mem_of_getElem? hv))) (by simp only [go_sem, simprocAttr, eGraph, eSchema, hp, eObj, ht, eType, hf, eField, hv, eVal]) (by simp only [go_sem, simprocAttr, eGraph, eSchema, hp, eObj, ht, eType, hf, eField, hv, eVal]; first | done | exact rfl) (by simp only [go_sem, simprocAttr, eGraph, eSchema, hp, eObj, ht, eType, hf, eField, hv, eVal]) (fun rt82 hrt82 => ?_)
          subst hrt82; refine ⟨rfl, ?_⟩
          refine CWops.run htt 1 (by simp only [go_sem, simprocAttr, eGraph, eSchema, hp, eObj, ht, eType, hf, eField, hv, eVal]; exact rfl) (by simp [go_sem, simprocAttr, eGraph, eSchema, hp, eObj, ht, eType, hf, eField, hv, eVal]) ?_
          refine CWops.done ?_
          refine CW.seq ?_
          refine CW.rg ?_
          refine CWops.rn htt 2 ?_
          refine CWops.done ?_
          refine CW.cond (by simp only [go_sem, simprocAttr]; first | done | exact rfl) (fun ct84 => ?_) (fun ct84 => ?_)
          · simp only [Bool.not_eq_true'] at ct84
            refine CW.seq ?_
            refine CW.rg ?_
            refine CWops.rn htt 1 ?_
            refine CWops.done ?_
            refine CW.ret ?_
            refine retQ.ret (by simp only [f55, go_sem, simprocAttr]; exact rfl) (by simp only [go_sem, simprocAttr]; exact rfl) ?_ -- ret3
            refine ⟨_, ?_, rfl⟩
            have : rMay g = false := by unfold rMay; rw [allI_no (p := leadsO g) hp (by rw [Nat.zero_add]; unfold leadsO; rw [hT]; exact allI_no hv (by rw [Nat.zero_add]; unfold leadsAtR; rw [hf]; exact ct84))]; simp
            simp [leP, this]
          · simp only [Bool.not_eq_false'] at ct84
            refine CW.skip ?_
            refine CW.rg ?_
            refine CWops.run htt 3 (by simp only [go_sem, simprocAttr, wrap_succ (Nat.lt_of_lt_of_le hk (hF _ (List.mem_of_getElem? hp)))]; exact rfl) (by simp [go_sem, simprocAttr, wrap_succ (Nat.lt_of_lt_of_le hk (hF _ (List.mem_of_getElem? hp)))]) ?_
            refine CWops.done ?_
            refine ⟨k + 1, ?_, ?_, ?_⟩
            · refine Sh.wk0 ?_; simp [Wk, go_sem, simprocAttr, eGraph]
            · exact ⟨hk, belowI_succ (p := leadsAtR g t.F) k2 hv (by unfold leadsAtR; rw [hf]; exact ct84)⟩
            · simp only; omega
        · have hk : k = oF.length := by simp at ct54; omega
          refine CW.exit ?_
          refine CW.rg ?_
          refine CWops.run htt 3 (by simp only [go_sem, simprocAttr, wrap_succ (show i < MX by unfold MX; omega)]; exact rfl) (by simp [go_sem, simprocAttr, wrap_succ (show i < MX by unfold MX; omega)]) ?_
          refine CWops.done ?_
          refine ⟨i + 1, ?_, ?_, ?_⟩
          · refine Sh.wk0 ?_; simp [Wk, go_sem, simprocAttr, eGraph]
          · exact ⟨hi, belowI_succ (p := leadsO g) h2 hp (by unfold leadsO; rw [hT]; exact belowI_all (by rw [← hk]; exact k2))⟩
          · simp only; omega
      · have hi : i = g.O.length := by simp at ct43; omega
        have hB : allI (leadsO g) 0 g.O = true := belowI_all (by rw [← hi]; exact h2)
        refine CW.exit ?_
        refine CW.seq ?_
        refine CW.seq ?_
        refine CW.rg ?_
        refine CWops.rn htt 1 ?_
        refine CWops.done ?_
        refine CW.block ?_
        refine CW.loop (S := Nat) (fun i => ⟨1, [(1, .lv 0 [] 0), (9, .int .i64 i)], [(0, ⟨true, eGraph g⟩)]⟩) (fun i => i ≤ g.Roots.length ∧ ∀ (j : Nat) (y), j < i → g.Roots[j]? = some y → rootR g y = true) (fun i => g.Roots.length - i) (0) ?_ ⟨Nat.zero_le _, fun j y hj => by omega⟩ (fun i ⟨h1, h2⟩ => ?_)
        · refine Sh.wk0 ?_; simp [Wk, go_sem, simprocAttr, eGraph]
        refine CW.seq ?_
        refine CW.seq ?_
        refine CW.rg ?_
        refine CWops.run htt 5 (by simp only [go_sem, simprocAttr, eGraph]; exact rfl) (by simp [go_sem, simprocAttr, eGraph]) ?_
        refine CWops.done ?_
        refine CW.cond (by simp only [go_sem, simprocAttr]; first | done | exact rfl) (fun ct89 => ?_) (fun ct89 => ?_)
        · have hi : i < g.Roots.length := by simpa using ct89
          obtain ⟨x, hx⟩ : ∃ x, g.Roots[i]? = some x := ⟨g.Roots[i], List.getElem?_eq_getElem hi⟩
          refine CW.skip ?_
          refine CW.seq ?_
          refine CW.block ?_
          refine CW.cut ⟨1, [(1, .lv 0 [] 0), (9, .int .i64 i), (107, .bool (!rootR g x))], [(0, ⟨true, eGraph g⟩)]⟩ ?_ ?_
          · rcases obj_cases g x with ⟨hO2, hFF⟩ | ⟨p, o, hO2, hFF, hp⟩
            all_goals (refine CW.drawn mixed 13 (by decide) (by kernel_rfl) (by kernel_rfl) (by kernel_rfl) ?_)
            all_goals (refine Seg.run htt 7 (by simp only [go_sem, simprocAttr, eGraph, hx, eI, hFF]; exact rfl) ?_)
            all_goals (first | refine Seg.guard 98 (by simp only [go_sem, simprocAttr, eGraph, hx, eI, hFF]; exact rfl) (fun g98 => ?_) (fun g98 => ?_) | skip)
            all_goals (skip)
            all_goals (refine Seg.run htt 6 (by simp only [go_sem, simprocAttr, eGraph, hx, eI, hFF]; exact rfl) ?_)
            all_goals (refine Seg.done ?_)
            all_goals (first | (refine CWops.skip ?_ ?_; next => (simp only [go_sem, simprocAttr]; done)) | (refine CWops.call (ref08_Find up g x) (by simp only [go_sem, simprocAttr, eGraph, hx, eI, hFF]) (by simp only [go_sem, simprocAttr, eGraph, hx, eI, hFF]; first | done | exact rfl) (by simp only [go_sem, simprocAttr, eGraph, hx, eI, hFF]) (fun rt105 hrt105 => ?_); subst hrt105; refine ⟨rfl, ?_⟩))
            all_goals (refine CWops.run htt 2 (by simp only [go_sem, simprocAttr, eGraph, hx, eI, hFF]; exact rfl) (by simp [go_sem, simprocAttr, eGraph, hx, eI, hFF]) ?_)
            all_goals (refine CWops.done ?_)
            all_goals (
              refine ⟨rfl, Sh.wk0 ?_⟩
              clear hN hsm ct26 hA hB h2 hF
              first | (simp [Wk, go_sem, simprocAttr, eGraph, rootR, hO2]; done) | (simp at g98; simp [Wk, go_sem, simprocAttr, eGraph, rootR, hO2, g98]; done) | (simp_all [Wk, go_sem, simprocAttr, eGraph, rootR]; done) | skip)
          refine CW.cond (by simp only [go_sem, simprocAttr]; first | done | exact rfl) (fun ct107 => ?_) (fun ct107 => ?_)
          · simp only [Bool.not_eq_true'] at ct107
            refine CW.seq ?_
            refine CW.rg ?_
            refine CWops.rn htt 1 ?_
            refine CWops.done ?_
            refine CW.ret ?_
            refine retQ.ret (by simp only [f55, go_sem, simprocAttr]; exact rfl) (by simp only [go_sem, simprocAttr]; exact rfl) ?_ -- ret4
            refine ⟨_, ?_, rfl⟩
            have : rMay g = false := by unfold rMay; rw [allI_no (p := fun _ r => rootR g r) hx ct107]; simp
            simp [leP, this]
          · simp only [Bool.not_eq_false'] at ct107
            refine CW.skip ?_
            refine CW.rg ?_
            refine CWops.run htt 3 (by simp only [go_sem, simprocAttr, wrap_succ (show i < MX by unfold MX; omega)]; exact rfl) (by simp [go_sem, simprocAttr, wrap_succ (show i < MX by unfold MX; omega)]) ?_
            refine CWops.done ?_
            refine ⟨i + 1, ?_, ?_, ?_⟩
            · refine Sh.wk0 ?_; simp [Wk, go_sem, simprocAttr, eGraph]
            · exact ⟨hi, belowI_succ (p := fun _ r => rootR g r) h2 hx ct107⟩
            · simp only; omega
        · have hi : i = g.Roots.length := by simp at ct89; omega
          refine CW.exit ?_
          refine CW.seq ?_
          refine CW.rg ?_
          refine CWops.rn htt 1 ?_
          refine CWops.done ?_
          refine CW.ret ?_
          refine retQ.ret (by simp only [f55, go_sem, simprocAttr]; exact rfl) (by simp only [go_sem, simprocAttr]; exact rfl) ?_ -- ret5
          refine ⟨_, ?_, rfl⟩
          have : rMay g = true := by unfold rMay; rw [ct26, hA, hB, belowI_all (p := fun _ r => rootR g r) (by rw [← hi]; exact h2)]; rfl
          simp [leP, this]
theorem ref08_objects (up : Bool) (a b : GObj) : PCall prog up 61 [.agg (eObj a), .agg (eObj b)] (· = .bool (decide (a = b))) := by
  refine PCall.intro htt func61 (by kernel_rfl) rfl (Nat.le_of_ble_eq_true rfl) fun hl => ?_
  have hL := (hl (.agg (eObj a)) (by simp)).agg
  have hba := (hL (.sl 3 (a.F.map eVal)) (by simp [eObj])).sl.1
  simp only [List.length_map] at hba
  clear hl hL
  simp only [tmps0, Nat.reduceAdd]
  refine CW.seq ?_
  refine CW.rg ?_
  refine CWops.run htt 3 (by simp only [go_sem, simprocAttr, eObj]; exact rfl) (by simp [go_sem, simprocAttr, eObj]) ?_
  refine CWops.done ?_
  refine CW.seq ?_
  refine CW.cut ⟨2, [(2, .lv 0 [] 0), (3, .lv 1 [] 0), (26, .bool (!((decide (a.Id = b.Id) && decide (a.T = b.T)) && decide (a.F.length = b.F.length))))], [(0, ⟨true, eObj a⟩), (1, ⟨true, eObj b⟩)]⟩ ?_ ?_
  · refine CW.rg ?_
    refine CWops.run htt 6 (by simp only [go_sem, simprocAttr, eObj]; exact rfl) (by simp [go_sem, simprocAttr, eObj]) ?_
    all_goals (first | refine CWops.guard 11 (by simp only [go_sem, simprocAttr, eObj]; exact rfl) (fun g11 => ?_) (fun g11 => ?_) | skip)
    all_goals (refine CWops.run htt 7 (by simp only [go_sem, simprocAttr, eObj]; exact rfl) (by simp [go_sem, simprocAttr, eObj]) ?_)
    all_goals (first | refine CWops.guard 18 (by simp only [go_sem, simprocAttr, eObj]; exact rfl) (fun g18 => ?_) (fun g18 => ?_) | skip)
    all_goals (refine CWops.run htt 8 (by simp only [go_sem, simprocAttr, eObj]; exact rfl) (by simp [go_sem, simprocAttr, eObj]) ?_)
    all_goals (refine CWops.done ?_)
    all_goals (
      refine ⟨rfl, Sh.wk0 ?_⟩
      simp_all [Wk, go_sem, simprocAttr, eObj] <;> first | done | omega | rfl | (rw [Bool.eq_iff_iff]; done) | (rw [Bool.eq_iff_iff]; simp; done) | (rw [Bool.eq_iff_iff]; simp; omega))
  refine CW.cond (by simp only [go_sem, simprocAttr]; first | done | exact rfl) (fun ct26 => ?_) (fun ct26 => ?_)
  · have hne : a ≠ b := by
      intro e; subst e; simp at ct26
    refine CW.seq ?_
    refine CW.rg ?_
    refine CWops.rn htt 1 ?_
    refine CWops.done ?_
    refine CW.ret ?_
    refine retQ.ret (by simp only [f61, go_sem, simprocAttr]; exact rfl) (by simp only [go_sem, simprocAttr]; exact rfl) ?_ -- ret1
    refine ⟨_, ?_, rfl⟩
    simp [leP, hne]
  · simp only [Bool.not_eq_false', Bool.and_eq_true, decide_eq_true_eq] at ct26
    obtain ⟨⟨hid, hT⟩, heq⟩ := ct26
    refine CW.skip ?_
    refine CW.seq ?_
    refine CW.seq ?_
    refine CW.rg ?_
    refine CWops.rn htt 1 ?_
    refine CWops.done ?_
    refine CW.block ?_
    refine CW.loop (S := Nat) (fun i => ⟨2, [(2, .lv 0 [] 0), (3, .lv 1 [] 0), (5, .int .i64 i)], [(0, ⟨true, eObj a⟩), (1, ⟨true, eObj b⟩)]⟩) (fun i => i ≤ a.F.length ∧ a.F.take i = b.F.take i) (fun i => a.F.length - i) (0) ?_ ⟨Nat.zero_le _, rfl⟩ (fun i ⟨h1, h2⟩ => ?_)
    · refine Sh.wk0 ?_; simp [Wk, go_sem, simprocAttr, eObj]
    refine CW.seq ?_
    refine CW.seq ?_
    refine CW.rg ?_
    refine CWops.run htt 5 (by simp only [go_sem, simprocAttr, eObj]; exact rfl) (by simp [go_sem, simprocAttr, eObj]) ?_
    refine CWops.done ?_
    refine CW.cond (by simp only [go_sem, simprocAttr]; first | done | exact rfl) (fun ct31 => ?_) (fun ct31 => ?_)
    · have hi : i < a.F.length := by simpa using ct31
      obtain ⟨x, e1⟩ : ∃ x, a.F[i]? = some x := ⟨a.F[i], List.getElem?_eq_getElem hi⟩
      obtain ⟨y, e2⟩ : ∃ y, b.F[i]? = some y := ⟨b.F[i], List.getElem?_eq_getElem (by omega)⟩
      refine CW.skip ?_
      refine CW.seq ?_
      refine CW.block ?_
      refine CW.seq ?_
      refine CW.drawn mixed 10 (by decide) (by kernel_rfl) (by kernel_rfl) (by kernel_rfl) ?_
      refine Seg.run htt 10 (by simp only [go_sem, simprocAttr, eObj, e1, e2, eVal]; exact rfl) ?_
      refine Seg.done ?_
      refine CWops.run htt 1 (by simp only [go_sem, simprocAttr, eObj, e1, e2, eVal]; exact rfl) (by simp [go_sem, simprocAttr, eObj, e1, e2, eVal]) ?_
      refine CWops.done ?_
      refine CW.cond (by simp only [go_sem, simprocAttr]; first | done | exact rfl) (fun ct44 => ?_) (fun ct44 => ?_)
      · have hp : x ≠ y := by
          intro e; subst e; simp at ct44
        refine CW.seq ?_
        refine CW.rg ?_
        refine CWops.rn htt 1 ?_
        refine CWops.done ?_
        refine CW.ret ?_
        refine retQ.ret (by simp only [f61, go_sem, simprocAttr]; exact rfl) (by simp only [go_sem, simprocAttr]; exact rfl) ?_ -- ret2
        refine ⟨_, ?_, rfl⟩
        have : ¬ a = b := fun e => hp (by rw [e, e2] at e1; cases e1; rfl)
        simp [leP, this]
      · have hp : x = y := by
          simp at ct44
          first | exact ct44 | simpa [GVal.ext_iff'] using ct44
        subst hp
        refine CW.skip ?_
        refine CW.rg ?_
        refine CWops.run htt 3 (by simp only [go_sem, simprocAttr, wrap_succ (Nat.lt_of_lt_of_le hi hba)]; exact rfl) (by simp [go_sem, simprocAttr, wrap_succ (Nat.lt_of_lt_of_le hi hba)]) ?_
        refine CWops.done ?_
        refine ⟨i + 1, ?_, ?_, ?_⟩
        · refine Sh.wk0 ?_; simp [Wk, go_sem, simprocAttr, eObj]
        · exact ⟨hi, take_same h2 e1 e2⟩
        · simp only; omega
    · have hi : i = a.F.length := by simp at ct31; omega
      refine CW.exit ?_
      refine CW.seq ?_
      refine CW.rg ?_
      refine CWops.rn htt 1 ?_
      refine CWops.done ?_
      refine CW.ret ?_
      refine retQ.ret (by simp only [f61, go_sem, simprocAttr]; exact rfl) (by simp only [go_sem, simprocAttr]; exact rfl) ?_ -- ret3
      refine ⟨_, ?_, rfl⟩
      have : a = b := by rw [GObj.ext_iff']; exact ⟨hid, hT, all_same h2 hi heq⟩
      simp [leP, this]
theorem ref08_Same (up : Bool) (a b : Graph) : PCall prog up 25 [.agg (eGraph a), .agg (eGraph b)] (· = .bool (decide (a = b))) := by
  refine PCall.intro htt func25 (by kernel_rfl) rfl (Nat.le_of_ble_eq_true rfl) fun hl => ?_
  have hL := (hl (.agg (eGraph a)) (by simp)).agg
  have hba := (hL (.sl 3 (a.O.map eObj)) (by simp [eGraph])).sl.1
  simp only [List.length_map] at hba
  clear hl hL
  simp only [tmps0, Nat.reduceAdd]
  refine CW.seq ?_
  refine CW.rg ?_
  refine CWops.run htt 3 (by simp only [go_sem, simprocAttr, eGraph]; exact rfl) (by simp [go_sem, simprocAttr, eGraph]) ?_
  refine CWops.done ?_
  refine CW.seq ?_
  refine CW.rg ?_
  refine CWops.run htt 4 (by simp only [go_sem, simprocAttr, eGraph, eSchema]; exact rfl) (by simp [go_sem, simprocAttr, eGraph, eSchema]) ?_
  refine CWops.call (ref06_Same up a.S b.S) (by simp only [go_sem, simprocAttr, eGraph, eSchema]) (by simp only [go_sem, simprocAttr, eGraph, eSchema]; first | done | exact rfl) (by simp only [go_sem, simprocAttr, eGraph, eSchema]) (fun rt13 hrt13 => ?_)
  subst hrt13; refine ⟨rfl, ?_⟩
  refine CWops.run htt 1 (by simp only [go_sem, simprocAttr, eGraph, eSchema]; exact rfl) (by simp [go_sem, simprocAttr, eGraph, eSchema]) ?_
  refine CWops.done ?_
  refine CW.seq ?_
  refine CW.rg ?_
  refine CWops.run htt 4 (by simp only [go_sem, simprocAttr, eGraph]; exact rfl) (by simp [go_sem, simprocAttr, eGraph]) ?_
  refine CWops.call (ref08_Ints up a.Roots b.Roots) (by simp only [go_sem, simprocAttr, eGraph]) (by simp only [go_sem, simprocAttr, eGraph]; first | done | exact rfl) (by simp only [go_sem, simprocAttr, eGraph]) (fun rt18 hrt18 => ?_)
  subst hrt18; refine ⟨rfl, ?_⟩
  refine CWops.run htt 1 (by simp only [go_sem, simprocAttr, eGraph]; exact rfl) (by simp [go_sem, simprocAttr, eGraph]) ?_
  refine CWops.done ?_
  refine CW.seq ?_
  refine CW.cut ⟨2, [(2, .lv 0 [] 0), (3, .lv 1 [] 0), (33, .bool (!((decide (a.S = b.S) && decide (a.Roots = b.Roots)) && decide (a.O.length = b.O.length))))], [(0, ⟨true, eGraph a⟩), (1, ⟨true, eGraph b⟩)]⟩ ?_ ?_
  · refine CW.rg ?_
    refine CWops.run htt 3 (by simp only [go_sem, simprocAttr, eGraph]; exact rfl) (by simp [go_sem, simprocAttr, eGraph]) ?_
    all_goals (first | refine CWops.guard 21 (by simp only [go_sem, simprocAttr, eGraph]; exact rfl) (fun g21 => ?_) (fun g21 => ?_) | skip)
    all_goals (refine CWops.run htt 4 (by simp only [go_sem, simprocAttr, eGraph]; exact rfl) (by simp [go_sem, simprocAttr, eGraph]) ?_)
    all_goals (first | refine CWops.guard 25 (by simp only [go_sem, simprocAttr, eGraph]; exact rfl) (fun g25 => ?_) (fun g25 => ?_) | skip)
    all_goals (refine CWops.run htt 8 (by simp only [go_sem, simprocAttr, eGraph]; exact rfl) (by simp [go_sem, simprocAttr, eGraph]) ?_)
    all_goals (refine CWops.done ?_)
    all_goals (
      refine ⟨rfl, Sh.wk0 ?_⟩
      simp_all [Wk, go_sem, simprocAttr, eGraph] <;> first | done | omega | rfl | (rw [Bool.eq_iff_iff]; done) | (rw [Bool.eq_iff_iff]; simp; done) | (rw [Bool.eq_iff_iff]; simp; omega))
  refine CW.cond (by simp only [go_sem, simprocAttr]; first | done | exact rfl) (fun ct33 => ?_) (fun ct33 => ?_)
  · have hne : a ≠ b := by
      intro e; subst e; simp at ct33
    refine CW.seq ?_
    refine CW.rg ?_
    refine CWops.rn htt 1 ?_
    refine CWops.done ?_
    refine CW.ret ?_
    refine retQ.ret (by simp only [f25, go_sem, simprocAttr]; exact rfl) (by simp only [go_sem, simprocAttr]; exact rfl) ?_ -- ret1
    refine ⟨_, ?_, rfl⟩
    simp [leP, hne]
  · simp only [Bool.not_eq_false', Bool.and_eq_true, decide_eq_true_eq] at ct33
    obtain ⟨⟨hS, hR⟩, heq⟩ := ct33
    refine CW.skip ?_
    refine CW.seq ?_
    refine CW.seq ?_
    refine CW.rg ?_
    refine CWops.rn htt 1 ?_
    refine CWops.done ?_
    refine CW.block ?_
    refine CW.loop (S := Nat) (fun i => ⟨2, [(2, .lv 0 [] 0), (3, .lv 1 [] 0), (7, .int .i64 i)], [(0, ⟨true, eGraph a⟩), (1, ⟨true, eGraph b⟩)]⟩) (fun i => i ≤ a.O.length ∧ a.O.take i = b.O.take i) (fun i => a.O.length - i) (0) ?_ ⟨Nat.zero_le _, rfl⟩ (fun i ⟨h1, h2⟩ => ?_)
    · refine Sh.wk0 ?_; simp [Wk, go_sem, simprocAttr, eGraph]
    refine CW.seq ?_
    refine CW.seq ?_
    refine CW.rg ?_
    refine CWops.run htt 5 (by simp only [go_sem, simprocAttr, eGraph]; exact rfl) (by simp [go_sem, simprocAttr, eGraph]) ?_
    refine CWops.done ?_
    refine CW.cond (by simp only [go_sem, simprocAttr]; first | done | exact rfl) (fun ct38 => ?_) (fun ct38 => ?_)
    · have hi : i < a.O.length := by simpa using ct38
      obtain ⟨x, e1⟩ : ∃ x, a.O[i]? = some x := ⟨a.O[i], List.getElem?_eq_getElem hi⟩
      obtain ⟨y, e2⟩ : ∃ y, b.O[i]? = some y := ⟨b.O[i], List.getElem?_eq_getElem (by omega)⟩
      refine CW.skip ?_
      refine CW.seq ?_
      refine CW.block ?_
      refine CW.seq ?_
      refine CW.drawn mixed 10 (by decide) (by kernel_rfl) (by kernel_rfl) (by kernel_rfl) ?_
      refine Seg.run htt 10 (by simp only [go_sem, simprocAttr, eGraph, e1, e2, eObj]; exact rfl) ?_
      refine Seg.done ?_
      refine CWops.call (ref08_objects up x y) (by simp only [go_sem, simprocAttr, eGraph, e1, e2, eObj]) (by simp only [go_sem, simprocAttr, eGraph, e1, e2, eObj]; first | done | exact rfl) (by simp only [go_sem, simprocAttr, eGraph, e1, e2, eObj]) (fun rt51 hrt51 => ?_)
      subst hrt51; refine ⟨rfl, ?_⟩
      refine CWops.run htt 1 (by simp only [go_sem, simprocAttr, eGraph, e1, e2, eObj]; exact rfl) (by simp [go_sem, simprocAttr, eGraph, e1, e2, eObj]) ?_
      refine CWops.done ?_
      refine CW.seq ?_
      refine CW.rg ?_
      refine CWops.rn htt 2 ?_
      refine CWops.done ?_
      refine CW.cond (by simp only [go_sem, simprocAttr]; first | done | exact rfl) (fun ct53 => ?_) (fun ct53 => ?_)
      · have hp : x ≠ y := by
          intro e; subst e; simp at ct53
        refine CW.seq ?_
        refine CW.rg ?_
        refine CWops.rn htt 1 ?_
        refine CWops.done ?_
        refine CW.ret ?_
        refine retQ.ret (by simp only [f25, go_sem, simprocAttr]; exact rfl) (by simp only [go_sem, simprocAttr]; exact rfl) ?_ -- ret2
        refine ⟨_, ?_, rfl⟩
        have : ¬ a = b := fun e => hp (by rw [e, e2] at e1; cases e1; rfl)
        simp [leP, this]
      · have hp : x = y := by simpa using ct53
        subst hp
        refine CW.skip ?_
        refine CW.rg ?_
        refine CWops.run htt 3 (by simp only [go_sem, simprocAttr, wrap_succ (Nat.lt_of_lt_of_le hi hba)]; exact rfl) (by simp [go_sem, simprocAttr, wrap_succ (Nat.lt_of_lt_of_le hi hba)]) ?_
        refine CWops.done ?_
        refine ⟨i + 1, ?_, ?_, ?_⟩
        · refine Sh.wk0 ?_; simp [Wk, go_sem, simprocAttr, eGraph]
        · exact ⟨hi, take_same h2 e1 e2⟩
        · simp only; omega
    · have hi : i = a.O.length := by simp at ct38; omega
      refine CW.exit ?_
      refine CW.seq ?_
      refine CW.rg ?_
      refine CWops.rn htt 1 ?_
      refine CWops.done ?_
      refine CW.ret ?_
      refine retQ.ret (by simp only [f25, go_sem, simprocAttr]; exact rfl) (by simp only [go_sem, simprocAttr]; exact rfl) ?_ -- ret3
      refine ⟨_, ?_, rfl⟩
      have : a = b := by rw [Graph.ext_iff']; exact ⟨hS, all_same h2 hi heq, hR⟩
      simp [leP, this]
end Go.Ab
namespace Go.Ab
open Go Go.Proofs.Try
open Nat (reduceEqDiff reduceAdd reduceLT reduceLeDiff reduceBEq reduceSub reduceMul)
open Int (reduceToNat)
set_option maxRecDepth 100000
set_option maxHeartbeats 3200000
set_option linter.unusedSimpArgs false
set_option linter.unusedVariables false
theorem GStep.ext_iff' (a b : GStep) : a = b ↔ a.Do = b.Do ∧ a.Ty = b.Ty ∧ a.F = b.F := by
  cases a; cases b; simp
instance : DecidableEq GStep := fun a b => decidable_of_iff _ (GStep.ext_iff' a b).symm
theorem ref13_with (up : Bool) (s : List GType) (t : Nat) (ty : GType) (F : List GField) (ht : s[t]? = some ty) (h4 : s.length ≤ 4) : PCall prog up 52 [.agg (eSchema s), .int .i64 t, .sl 3 (F.map eField)] (· = .agg (eSchema (s.set t ⟨ty.Name, F⟩))) := by
  refine PCall.intro htt func52 (by kernel_rfl) rfl (Nat.le_of_ble_eq_true rfl) fun hl => ?_
  have htl := (List.getElem?_eq_some_iff.1 ht).1
  have hset : (s.map eType).set t [.str ty.Name, .sl 3 (F.map eField)] = (s.set t ⟨ty.Name, F⟩).map eType := by rw [List.map_set]; rfl
  simp only [tmps0, Nat.reduceAdd]
  refine CW.seq ?_
  refine CW.rg ?_
  refine CWops.run htt 2 (by simp only [go_sem, simprocAttr, eSchema]; exact rfl) (by simp [go_sem, simprocAttr, eSchema]) ?_
  refine CWops.done ?_
  refine CW.seq ?_
  refine CW.rg ?_
  refine CWops.run htt 5 (by simp only [go_sem, simprocAttr, eSchema]; exact rfl) (by refine ⟨?_, ?_, ?_⟩ <;> first | (simp [eType, AV.cell]; done) | (simp [MX]; omega)) ?_
  refine CWops.done ?_
  refine CW.seq ?_
  refine CW.rg ?_
  refine CWops.run htt 7 (by simp only [go_sem, simprocAttr, ht, htl, eType]; exact rfl) (by simp [go_sem, simprocAttr, ht, htl, eType]) ?_
  refine CWops.done ?_
  rw [hset]
  refine CW.seq ?_
  refine CW.rg ?_
  refine CWops.rn htt 2 ?_
  refine CWops.done ?_
  refine CW.ret ?_
  refine retQ.ret (by simp only [f52, go_sem, simprocAttr]; exact rfl) (by simp only [go_sem, simprocAttr]; exact rfl) ?_ -- ret1
  refine ⟨_, ?_, rfl⟩
  simp [leP, leL, eSchema, frz_Type]
theorem ref13_wider (up : Bool) (k than : Int) : PCall prog up 54 [.int .i64 k, .int .i64 than] (· = .bool (wider k than)) := by
  refine PCall.intro htt func54 (by kernel_rfl) rfl (Nat.le_of_ble_eq_true rfl) fun hl => ?_

  simp only [tmps0, Nat.reduceAdd]
  refine CW.seq ?_
  refine CW.rg ?_
  refine CWops.rn htt 1 ?_
  refine CWops.done ?_
  refine CW.seq ?_
  refine CW.rg ?_
  refine CWops.rn htt 3 ?_
  all_goals (first | refine CWops.guard 7 (by simp only [go_sem, simprocAttr]; exact rfl) (fun g7 => ?_) (fun g7 => ?_) | skip)
  all_goals (refine CWops.rn htt 5 ?_)
  all_goals (first | refine CWops.guard 12 (by simp only [go_sem, simprocAttr]; exact rfl) (fun g12 => ?_) (fun g12 => ?_) | skip)
  all_goals (refine CWops.rn htt 4 ?_)
  all_goals (refine CWops.done ?_)
  all_goals (
    refine CW.ret ?_
    refine retQ.ret (by simp only [f54, go_sem, simprocAttr]; exact rfl) (by simp only [go_sem, simprocAttr]; exact rfl) ?_ -- ret1
    refine ⟨_, ?_, rfl⟩
    first | (simp_all [leP, wider]; done) | (simp_all [leP, wider]; omega))
theorem ref07_Zero (up : Bool) (f : GField) : PCall prog up 56 [.agg (eField f)] (· = .agg (eVal (zeroV f))) := by
  refine PCall.intro htt func56 (by kernel_rfl) rfl (Nat.le_of_ble_eq_true rfl) fun hl => ?_

  simp only [tmps0, Nat.reduceAdd]
  refine CW.seq ?_
  refine CW.rg ?_
  refine CWops.run htt 2 (by simp only [go_sem, simprocAttr, eField]; exact rfl) (by simp [go_sem, simprocAttr, eField]) ?_
  refine CWops.done ?_
  refine CW.seq ?_
  refine CW.seq ?_
  refine CW.rg ?_
  refine CWops.run htt 3 (by simp only [go_sem, simprocAttr, eField]; exact rfl) (by simp [go_sem, simprocAttr, eField]) ?_
  refine CWops.done ?_
  refine CW.cond (by simp only [go_sem, simprocAttr]; first | done | exact rfl) (fun ct5 => ?_) (fun ct5 => ?_)
  · refine CW.seq ?_
    refine CW.rg ?_
    refine CWops.rn htt 2 ?_
    refine CWops.done ?_
    refine CW.ret ?_
    refine retQ.ret (by simp only [f56, go_sem, simprocAttr]; exact rfl) (by simp only [go_sem, simprocAttr]; exact rfl) ?_ -- ret1
    refine ⟨_, ?_, rfl⟩
    simp_all [leP, leL, zeroV, eVal]
  · refine CW.skip ?_
    refine CW.seq ?_
    refine CW.rg ?_
    refine CWops.rn htt 2 ?_
    refine CWops.done ?_
    refine CW.ret ?_
    refine retQ.ret (by simp only [f56, go_sem, simprocAttr]; exact rfl) (by simp only [go_sem, simprocAttr]; exact rfl) ?_ -- ret2
    refine ⟨_, ?_, rfl⟩
    simp_all [leP, leL, zeroV, eVal]
theorem ref13_may (up : Bool) (s : List GType) (t : GType) (f : GField) (hs : f.Name.size ≤ 1048576) : PCall prog up 51 [.agg (eSchema s), .agg (eType t), .agg (eField f)] (· = .bool (fieldMay s f && decide (fFind t.F f.Name = -1))) := by
  refine PCall.intro htt func51 (by kernel_rfl) rfl (Nat.le_of_ble_eq_true rfl) fun hl => ?_

  simp only [tmps0, Nat.reduceAdd]
  refine CW.seq ?_
  refine CW.rg ?_
  refine CWops.run htt 4 (by simp only [go_sem, simprocAttr, eSchema, eType, eField]; exact rfl) (by simp [go_sem, simprocAttr, eSchema, eType, eField]) ?_
  refine CWops.done ?_
  refine CW.seq ?_
  refine CW.rg ?_
  refine CWops.run htt 2 (by simp only [go_sem, simprocAttr, eField]; exact rfl) (by simp [go_sem, simprocAttr, eField]) ?_
  refine CWops.call (ref05_May up f.Name hs) (by simp only [go_sem, simprocAttr, eField]) (by simp only [go_sem, simprocAttr, eField]; first | done | exact rfl) (by simp only [go_sem, simprocAttr, eField]) (fun rt10 hrt10 => ?_)
  subst hrt10; refine ⟨rfl, ?_⟩
  refine CWops.run htt 1 (by simp only [go_sem, simprocAttr, eField]; exact rfl) (by simp [go_sem, simprocAttr, eField]) ?_
  refine CWops.done ?_
  refine CW.seq ?_
  refine CW.cut ⟨3, [(3, .lv 0 [] 0), (5, .lv 2 [] 0), (6, .bool false), (29, .bool (!((nameMay f.Name && decide (fFind t.F f.Name = -1)) && (decide (0 ≤ f.Kind) && decide (f.Kind < 6)))))], [(0, ⟨true, eSchema s⟩), (2, ⟨true, eField f⟩)]⟩ ?_ ?_
  · rcases find_cases (fun o : GField => decide (o.Name = f.Name)) t.F with ⟨hfn, -⟩ | ⟨kn, yy, hfn, -⟩
    all_goals (refine CW.rg ?_)
    all_goals (refine CWops.run htt 3 (by simp only [go_sem, simprocAttr, eType, eField, hfn]; exact rfl) (by simp [go_sem, simprocAttr, eType, eField, hfn]) ?_)
    all_goals (first | refine CWops.guard 13 (by simp only [go_sem, simprocAttr, eType, eField, hfn]; exact rfl) (fun g13 => ?_) (fun g13 => ?_) | skip)
    all_goals (refine CWops.run htt 3 (by simp only [go_sem, simprocAttr, eType, eField, hfn]; exact rfl) (by simp [go_sem, simprocAttr, eType, eField, hfn]) ?_)
    all_goals (first | (refine CWops.skip ?_ ?_; next => (simp only [go_sem, simprocAttr]; done)) | (refine CWops.call ((by have := ref06_Field up t f.Name; rw [hfn] at this; exact this)) (by simp only [go_sem, simprocAttr, eType, eField, hfn]) (by simp only [go_sem, simprocAttr, eType, eField, hfn]; first | done | exact rfl) (by simp only [go_sem, simprocAttr, eType, eField, hfn]) (fun rt17 hrt17 => ?_); subst hrt17; refine ⟨rfl, ?_⟩))
    all_goals (refine CWops.run htt 3 (by simp only [go_sem, simprocAttr, eType, eField, hfn]; exact rfl) (by simp [go_sem, simprocAttr, eType, eField, hfn]) ?_)
    all_goals (first | refine CWops.guard 20 (by simp only [go_sem, simprocAttr, eType, eField, hfn]; exact rfl) (fun g20 => ?_) (fun g20 => ?_) | skip)
    all_goals (refine CWops.run htt 5 (by simp only [go_sem, simprocAttr, eType, eField, hfn]; exact rfl) (by simp [go_sem, simprocAttr, eType, eField, hfn]) ?_)
    all_goals (first | refine CWops.guard 25 (by simp only [go_sem, simprocAttr, eType, eField, hfn]; exact rfl) (fun g25 => ?_) (fun g25 => ?_) | skip)
    all_goals (refine CWops.run htt 4 (by simp only [go_sem, simprocAttr, eType, eField, hfn]; exact rfl) (by simp [go_sem, simprocAttr, eType, eField, hfn]) ?_)
    all_goals (refine CWops.done ?_)
    all_goals (
      first | refine ⟨rfl, Sh.wk0 ?_⟩ | refine Sh.wk0 ?_
      have hff : fFind t.F f.Name = fnd (fun o => decide (o.Name = f.Name)) t.F := rfl
      rw [hff, hfn]
      clear hl hs hff hfn
      cases hnm : nameMay f.Name <;> by_cases hk0 : 0 ≤ f.Kind <;> by_cases hk6 : f.Kind < 6
      all_goals (try simp only [decide_true, decide_false, hk0, hk6, hnm, Bool.not_true, Bool.not_false, Bool.and_true, Bool.and_false, Bool.true_and, Bool.false_and])
      all_goals first | (simp [Wk, go_sem, simprocAttr, eSchema, eField, hnm, hk0, hk6]; done) | (simp [Wk, go_sem, simprocAttr, eSchema, eField, hnm, hk0, hk6]; omega) | (exfalso; simp [hnm] at g13; done) | (exfalso; simp at g20; done) | (exfalso; simp at g20; omega) | (exfalso; simp at g25; done) | (exfalso; simp at g25; omega) | skip)
  refine CW.cond (by simp only [go_sem, simprocAttr]; first | done | exact rfl) (fun ct29 => ?_) (fun ct29 => ?_)
  · have hb : ((nameMay f.Name && decide (fFind t.F f.Name = -1)) && (decide (0 ≤ f.Kind) && decide (f.Kind < 6))) = false := by simpa only [Bool.not_eq_true'] using ct29
    refine CW.seq ?_
    refine CW.rg ?_
    refine CWops.rn htt 1 ?_
    refine CWops.done ?_
    refine CW.ret ?_
    refine retQ.ret (by simp only [f51, go_sem, simprocAttr]; exact rfl) (by simp only [go_sem, simprocAttr]; exact rfl) ?_ -- ret1
    refine ⟨_, ?_, rfl⟩
    have : (fieldMay s f && decide (fFind t.F f.Name = -1)) = false := by
      unfold fieldMay
      cases h1 : nameMay f.Name <;> cases h2 : decide (fFind t.F f.Name = -1) <;> simp_all
    simp [leP, this]
  · have hb : ((nameMay f.Name && decide (fFind t.F f.Name = -1)) && (decide (0 ≤ f.Kind) && decide (f.Kind < 6))) = true := by simpa only [Bool.not_eq_false'] using ct29
    refine CW.skip ?_
    refine CW.seq ?_
    refine CW.seq ?_
    refine CW.rg ?_
    refine CWops.run htt 3 (by simp only [go_sem, simprocAttr, eField]; exact rfl) (by simp [go_sem, simprocAttr, eField]) ?_
    refine CWops.done ?_
    refine CW.cond (by simp only [go_sem, simprocAttr]; first | done | exact rfl) (fun ct32 => ?_) (fun ct32 => ?_)
    · have hk : f.Kind = 5 := by simpa using ct32
      refine CW.seq ?_
      refine CW.rg ?_
      refine CWops.run htt 3 (by simp only [go_sem, simprocAttr, eSchema, eField]; exact rfl) (by simp [go_sem, simprocAttr, eSchema, eField]) ?_
      refine CWops.call (ref06_Find up s f.To) (by simp only [go_sem, simprocAttr, eSchema, eField]) (by simp only [go_sem, simprocAttr, eSchema, eField]; first | done | exact rfl) (by simp only [go_sem, simprocAttr, eSchema, eField]) (fun rt36 hrt36 => ?_)
      subst hrt36; refine ⟨rfl, ?_⟩
      refine CWops.run htt 2 (by simp only [go_sem, simprocAttr, eSchema, eField]; exact rfl) (by simp [go_sem, simprocAttr, eSchema, eField]) ?_
      refine CWops.done ?_
      refine CW.ret ?_
      refine retQ.ret (by simp only [f51, go_sem, simprocAttr]; exact rfl) (by simp only [go_sem, simprocAttr]; exact rfl) ?_ -- ret2
      refine ⟨_, ?_, rfl⟩
      simp only [Bool.and_eq_true, decide_eq_true_eq] at hb
      have : (fieldMay s f && decide (fFind t.F f.Name = -1)) = decide (0 ≤ fnd (fun o => decide (o.Name = f.To)) s) := by
        unfold fieldMay sFind
        rw [if_pos hk, hb.1.1]
        simp only [hb.1.2, hb.2.1, hb.2.2, decide_true, Bool.and_true]
        rcases find_cases (fun o : GType => decide (o.Name = f.To)) s with ⟨h, _⟩ | ⟨k, _, h, _⟩ <;> rw [h] <;> simp <;> omega
      simp [leP, this]
    · have hk : ¬ f.Kind = 5 := by simpa using ct32
      refine CW.skip ?_
      refine CW.seq ?_
      refine CW.rg ?_
      refine CWops.run htt 4 (by simp only [go_sem, simprocAttr, eField]; exact rfl) (by simp [go_sem, simprocAttr, eField]) ?_
      refine CWops.done ?_
      refine CW.ret ?_
      refine retQ.ret (by simp only [f51, go_sem, simprocAttr]; exact rfl) (by simp only [go_sem, simprocAttr]; exact rfl) ?_ -- ret3
      refine ⟨_, ?_, rfl⟩
      simp only [Bool.and_eq_true, decide_eq_true_eq] at hb
      have : (fieldMay s f && decide (fFind t.F f.Name = -1)) = decide (f.To = ⟨#[]⟩) := by
        unfold fieldMay
        rw [if_neg hk, hb.1.1]
        simp [hb.1.2, hb.2.1, hb.2.2]
      simp [leP, this]
theorem ref13_Same (up : Bool) (a b : List GStep) : PCall prog up 26 [.sl 5 (a.map eStep), .sl 5 (b.map eStep)] (· = .bool (decide (a = b))) := by
  refine PCall.intro htt func26 (by kernel_rfl) rfl (Nat.le_of_ble_eq_true rfl) fun hl => ?_
  have ha := (hl (.sl 5 (a.map eStep)) (by simp)).sl.1
  have hb := (hl (.sl 5 (b.map eStep)) (by simp)).sl.1
  simp only [List.length_map] at ha hb
  simp only [tmps0, Nat.reduceAdd]
  refine CW.seq ?_
  refine CW.rg ?_
  refine CWops.rn htt 1 ?_
  refine CWops.done ?_
  refine CW.seq ?_
  refine CW.seq ?_
  refine CW.rg ?_
  refine CWops.rn htt 5 ?_
  refine CWops.done ?_
  refine CW.cond (by simp only [go_sem, simprocAttr]; first | done | exact rfl) (fun ct10 => ?_) (fun ct10 => ?_)
  · have hne : a.length ≠ b.length := by simp at ct10; omega
    refine CW.seq ?_
    refine CW.rg ?_
    refine CWops.rn htt 1 ?_
    refine CWops.done ?_
    refine CW.ret ?_
    refine retQ.ret (by simp only [f26, go_sem, simprocAttr]; exact rfl) (by simp only [go_sem, simprocAttr]; exact rfl) ?_ -- ret1
    refine ⟨_, ?_, rfl⟩
    simp only [leP, AV.bool.injEq]; symm; apply decide_eq_false; intro h; exact hne (by rw [h])
  · have heq : a.length = b.length := by simp at ct10; omega
    refine CW.skip ?_
    refine CW.seq ?_
    refine CW.seq ?_
    refine CW.rg ?_
    refine CWops.rn htt 1 ?_
    refine CWops.done ?_
    refine CW.block ?_
    refine CW.loop (S := Nat) (fun i => ⟨0, [(0, .sl 5 (a.map eStep)), (1, .sl 5 (b.map eStep)), (5, .int .i64 i)], []⟩) (fun i => i ≤ a.length ∧ a.take i = b.take i) (fun i => a.length - i) (0) ?_ ⟨Nat.zero_le _, rfl⟩ (fun i ⟨h1, h2⟩ => ?_)
    · refine Sh.wk0 ?_; simp [Wk, go_sem, simprocAttr]
    refine CW.seq ?_
    refine CW.seq ?_
    refine CW.rg ?_
    refine CWops.rn htt 4 ?_
    refine CWops.done ?_
    refine CW.cond (by simp only [go_sem, simprocAttr]; first | done | exact rfl) (fun ct14 => ?_) (fun ct14 => ?_)
    · have hi : i < a.length := by simpa using ct14
      obtain ⟨x, e1⟩ : ∃ x, a[i]? = some x := ⟨a[i], List.getElem?_eq_getElem hi⟩
      obtain ⟨y, e2⟩ : ∃ y, b[i]? = some y := ⟨b[i], List.getElem?_eq_getElem (by omega)⟩
      have hib : i < b.length := by omega
      refine CW.skip ?_
      refine CW.seq ?_
      refine CW.block ?_
      refine CW.seq ?_
      refine CW.drawn mixed 8 (by decide) (by kernel_rfl) (by kernel_rfl) (by kernel_rfl) ?_
      refine Seg.run htt 8 (by simp only [go_sem, simprocAttr, e1, e2, hi, hib, eStep]; exact rfl) ?_
      refine Seg.done ?_
      refine CWops.run htt 1 (by simp only [go_sem, simprocAttr, e1, e2, hi, hib, eStep]; exact rfl) (by simp [go_sem, simprocAttr, e1, e2, hi, hib, eStep]) ?_
      refine CWops.done ?_
      refine CW.cond (by simp only [go_sem, simprocAttr]; first | done | exact rfl) (fun ct25 => ?_) (fun ct25 => ?_)
      · have hp : x ≠ y := by
          intro e; subst e; simp at ct25
        refine CW.seq ?_
        refine CW.rg ?_
        refine CWops.rn htt 1 ?_
        refine CWops.done ?_
        refine CW.ret ?_
        refine retQ.ret (by simp only [f26, go_sem, simprocAttr]; exact rfl) (by simp only [go_sem, simprocAttr]; exact rfl) ?_ -- ret2
        refine ⟨_, ?_, rfl⟩
        simp only [leP, AV.bool.injEq]; symm; apply decide_eq_false; intro h; subst h; rw [e1] at e2; cases e2; exact hp rfl
      · have hp : x = y := by
          obtain ⟨d1, t1, n1, k1, o1⟩ := x; obtain ⟨d2, t2, n2, k2, o2⟩ := y
          simpa [and_assoc] using ct25
        subst hp
        refine CW.skip ?_
        refine CW.rg ?_
        refine CWops.run htt 3 (by simp only [go_sem, simprocAttr, wrap_succ (Nat.lt_of_lt_of_le hi ha)]; exact rfl) (by simp [go_sem, simprocAttr, wrap_succ (Nat.lt_of_lt_of_le hi ha)]) ?_
        refine CWops.done ?_
        refine ⟨i + 1, ?_, ?_, ?_⟩
        · refine Sh.wk0 ?_; simp [Wk, go_sem, simprocAttr]
        · exact ⟨hi, take_same h2 e1 e2⟩
        · simp only; omega
    · have hi : i = a.length := by simp at ct14; omega
      refine CW.exit ?_
      refine CW.seq ?_
      refine CW.rg ?_
      refine CWops.rn htt 1 ?_
      refine CWops.done ?_
      refine CW.ret ?_
      refine retQ.ret (by simp only [f26, go_sem, simprocAttr]; exact rfl) (by simp only [go_sem, simprocAttr]; exact rfl) ?_ -- ret3
      refine ⟨_, ?_, rfl⟩
      simp only [leP, AV.bool.injEq]; symm; apply decide_eq_true; exact all_same h2 hi heq
end Go.Ab
namespace Go.Ab
open Go Go.Proofs.Try
open Nat (reduceEqDiff reduceAdd reduceLT reduceLeDiff reduceBEq reduceSub reduceMul)
open Int (reduceToNat)
set_option maxRecDepth 100000
set_option maxHeartbeats 3200000
set_option linter.unusedSimpArgs false
set_option linter.unusedVariables false
theorem ref13_Schema (up : Bool) (s : List GType) (x : GStep) (hsm : smallS s) (hx : x.F.Name.size ≤ 1048576) : PCall prog up 18 [.agg (eSchema s), .agg (eStep x)] (· = .tup [.agg (eSchema (gSchema s x).1), .int .i64 (gSchema s x).2]) := by
  refine PCall.intro htt func18 (by kernel_rfl) rfl (Nat.le_of_ble_eq_true rfl) fun hl => ?_

  simp only [tmps0, Nat.reduceAdd]
  refine CW.seq ?_
  refine CW.rg ?_
  refine CWops.run htt 4 (by simp only [go_sem, simprocAttr, eSchema, eStep]; exact rfl) (by simp [go_sem, simprocAttr, eSchema, eStep]) ?_
  refine CWops.done ?_
  refine CW.seq ?_
  refine CW.rg ?_
  refine CWops.run htt 1 (by simp only [go_sem, simprocAttr, eSchema]; exact rfl) (by simp [go_sem, simprocAttr, eSchema]) ?_
  refine CWops.call (ref06_May up s hsm) (by simp only [go_sem, simprocAttr, eSchema]) (by simp only [go_sem, simprocAttr, eSchema]; first | done | exact rfl) (by simp only [go_sem, simprocAttr, eSchema]) (fun rt13 hrt13 => ?_)
  subst hrt13; refine ⟨rfl, ?_⟩
  refine CWops.run htt 1 (by simp only [go_sem, simprocAttr, eSchema]; exact rfl) (by simp [go_sem, simprocAttr, eSchema]) ?_
  refine CWops.done ?_
  refine CW.seq ?_
  refine CW.cut ⟨3, [(2, .lv 0 [] 0), (3, .lv 1 [] 0), (4, .lv 2 [] 0), (5, .int .i64 0), (25, .bool (!(schemaMay s && (decide (0 ≤ x.Do) && decide (x.Do < 3)))))], [(0, ⟨true, eSchema s⟩), (1, ⟨true, eStep x⟩), (2, ⟨true, [.nilsl]⟩)]⟩ ?_ ?_
  · refine CW.rg ?_
    refine CWops.run htt 3 (by simp only [go_sem, simprocAttr, eStep]; exact rfl) (by simp [go_sem, simprocAttr, eStep]) ?_
    all_goals (first | refine CWops.guard 16 (by simp only [go_sem, simprocAttr, eStep]; exact rfl) (fun g16 => ?_) (fun g16 => ?_) | skip)
    all_goals (refine CWops.run htt 5 (by simp only [go_sem, simprocAttr, eStep]; exact rfl) (by simp [go_sem, simprocAttr, eStep]) ?_)
    all_goals (first | refine CWops.guard 21 (by simp only [go_sem, simprocAttr, eStep]; exact rfl) (fun g21 => ?_) (fun g21 => ?_) | skip)
    all_goals (refine CWops.run htt 4 (by simp only [go_sem, simprocAttr, eStep]; exact rfl) (by simp [go_sem, simprocAttr, eStep]) ?_)
    all_goals (refine CWops.done ?_)
    all_goals (
      first | refine ⟨rfl, Sh.wk0 ?_⟩ | refine Sh.wk0 ?_
      simp_all [Wk, go_sem, simprocAttr, eSchema, eStep] <;> first | done | rfl | omega | (intro h; omega) | (rw [Bool.eq_iff_iff]; simp; omega))
  refine CW.cond (by simp only [go_sem, simprocAttr]; first | done | exact rfl) (fun ct25 => ?_) (fun ct25 => ?_)
  · have hb : (schemaMay s && (decide (0 ≤ x.Do) && decide (x.Do < 3))) = false := by simpa only [Bool.not_eq_true'] using ct25
    have hres : gDo s x = (1, [], 0, -1) := by unfold gDo; rw [if_neg (by rw [hb]; simp)]
    refine CW.seq ?_
    refine CW.rg ?_
    refine CWops.rn htt 3 ?_
    refine CWops.done ?_
    refine CW.ret ?_
    refine retQ.ret (by simp only [f18, go_sem, simprocAttr]; exact rfl) (by simp only [go_sem, simprocAttr]; exact rfl) ?_ -- ret1
    refine ⟨_, ?_, rfl⟩
    simp [leP, leL, gSchema, hres, eSchema]
  · have hb : (schemaMay s && (decide (0 ≤ x.Do) && decide (x.Do < 3))) = true := by simpa only [Bool.not_eq_false'] using ct25
    have hb2 := hb
    simp only [Bool.and_eq_true, decide_eq_true_eq] at hb2
    obtain ⟨hs, hD0, hD3⟩ := hb2
    have hSM := (smay_iff s).1 hs
    refine CW.skip ?_
    refine CW.seq ?_
    refine CW.rg ?_
    refine CWops.run htt 3 (by simp only [go_sem, simprocAttr, eSchema, eStep]; exact rfl) (by simp [go_sem, simprocAttr, eSchema, eStep]) ?_
    refine CWops.call (ref06_Find up s x.Ty) (by simp only [go_sem, simprocAttr, eSchema, eStep]) (by simp only [go_sem, simprocAttr, eSchema, eStep]; first | done | exact rfl) (by simp only [go_sem, simprocAttr, eSchema, eStep]) (fun rt30 hrt30 => ?_)
    subst hrt30; refine ⟨rfl, ?_⟩
    refine CWops.run htt 1 (by simp only [go_sem, simprocAttr, eSchema, eStep]; exact rfl) (by simp [go_sem, simprocAttr, eSchema, eStep]) ?_
    refine CWops.done ?_
    refine CW.seq ?_
    refine CW.seq ?_
    refine CW.rg ?_
    refine CWops.rn htt 2 ?_
    refine CWops.done ?_
    refine CW.cond (by simp only [go_sem, simprocAttr]; first | done | exact rfl) (fun ct32 => ?_) (fun ct32 => ?_)
    · have hfi : s.findIdx? (fun t => decide (t.Name = x.Ty)) = none := by
        rcases find_cases (fun o : GType => decide (o.Name = x.Ty)) s with ⟨_, _, h⟩ | ⟨i, _, h, _⟩
        · exact h
        · exfalso; rw [h] at ct32; simp at ct32; omega
      have hres : gDo s x = (11, [], 0, -1) := by unfold gDo; rw [if_pos hb, hfi]
      refine CW.seq ?_
      refine CW.rg ?_
      refine CWops.rn htt 3 ?_
      refine CWops.done ?_
      refine CW.ret ?_
      refine retQ.ret (by simp only [f18, go_sem, simprocAttr]; exact rfl) (by simp only [go_sem, simprocAttr]; exact rfl) ?_ -- ret2
      refine ⟨_, ?_, rfl⟩
      simp [leP, leL, gSchema, hres, eSchema]
    · obtain ⟨t, ty, hft, hty, hfi⟩ : ∃ (t : Nat) (ty : GType), fnd (fun o : GType => decide (o.Name = x.Ty)) s = t ∧ s[t]? = some ty ∧ s.findIdx? (fun t => decide (t.Name = x.Ty)) = some t := by
        rcases find_cases (fun o : GType => decide (o.Name = x.Ty)) s with ⟨h, _, _⟩ | ⟨i, y, h1, h2, _, h4, _⟩
        · exfalso; rw [h] at ct32; simp at ct32
        · exact ⟨i, y, h1, h2, h4⟩
      simp only [hft]
      have htl := (List.getElem?_eq_some_iff.1 hty).1
      have h5 := hSM.flen t ty hty
      have hgo : gDo s x = if (gStepF s x ty.F).1 = 0 then (0, s.set t ⟨ty.Name, (gStepF s x ty.F).2⟩, t, fFind ty.F x.F.Name) else ((gStepF s x ty.F).1, [], 0, -1) := by unfold gDo; rw [if_pos hb, hfi]; simp only [hty]
      refine CW.skip ?_
      refine CW.seq ?_
      refine CW.rg ?_
      refine CWops.run htt 8 (by simp only [go_sem, simprocAttr, eSchema, hty, htl, eType]; exact rfl) (by refine ⟨?_, ?_, ?_⟩ <;> first | (simp [eField, AV.cell]; done) | (simp [MX]; omega)) ?_
      refine CWops.done ?_
      refine CW.seq ?_
      refine CW.seq ?_
      refine CW.rg ?_
      refine CWops.run htt 3 (by simp only [go_sem, simprocAttr, eStep]; exact rfl) (by simp [go_sem, simprocAttr, eStep]) ?_
      refine CWops.done ?_
      refine CW.cond (by simp only [go_sem, simprocAttr]; first | done | exact rfl) (fun ct43 => ?_) (fun ct43 => ?_)
      · have hd0 : x.Do = 0 := by simpa using ct43
        refine CW.seq ?_
        refine CW.drawn mixed 8 (by decide) (by kernel_rfl) (by kernel_rfl) (by kernel_rfl) ?_
        refine Seg.run htt 8 (by simp only [go_sem, simprocAttr, eSchema, hty, htl, eType, eStep, eField]; exact rfl) ?_
        refine Seg.done ?_
        refine CWops.callA (ref13_may up s ty x.F hx) (by simp only [go_sem, simprocAttr, eSchema, hty, htl, eType, eStep, eField]) (by simp only [go_sem, simprocAttr, eSchema, hty, htl, eType, eStep, eField]; first | done | exact rfl) (by simp only [go_sem, simprocAttr, eSchema, hty, htl, eType, eStep, eField]) (by simp only [go_sem, simprocAttr, eSchema, hty, htl, eType, eStep, eField]) (fun rt52 hrt52 => ?_)
        subst hrt52
        refine CWops.run htt 1 (by simp only [go_sem, simprocAttr, eSchema, hty, htl, eType, eStep, eField]; exact rfl) (by simp [go_sem, simprocAttr, eSchema, hty, htl, eType, eStep, eField]) ?_
        refine CWops.done ?_
        refine CW.seq ?_
        refine CW.seq ?_
        refine CW.rg ?_
        refine CWops.rn htt 2 ?_
        refine CWops.done ?_
        refine CW.cond (by simp only [go_sem, simprocAttr]; first | done | exact rfl) (fun ct54 => ?_) (fun ct54 => ?_)
        · have hm : (fieldMay s x.F && decide (fFind ty.F x.F.Name = -1)) = false := by simpa only [Bool.not_eq_true'] using ct54
          have hst : gStepF s x ty.F = (6, []) := by unfold gStepF; rw [if_pos hd0, if_neg (by rw [hm]; simp)]
          have hres : gDo s x = (6, [], 0, -1) := by rw [hgo, hst]; simp
          refine CW.seq ?_
          refine CW.rg ?_
          refine CWops.rn htt 3 ?_
          refine CWops.done ?_
          refine CW.ret ?_
          refine retQ.ret (by simp only [f18, go_sem, simprocAttr]; exact rfl) (by simp only [go_sem, simprocAttr]; exact rfl) ?_ -- ret3
          refine ⟨_, ?_, rfl⟩
          simp [leP, leL, gSchema, hres, eSchema]
        · have hm : (fieldMay s x.F && decide (fFind ty.F x.F.Name = -1)) = true := by simpa only [Bool.not_eq_false'] using ct54
          refine CW.skip ?_
          refine CW.seq ?_
          refine CW.seq ?_
          refine CW.rg ?_
          refine CWops.rn htt 3 ?_
          refine CWops.done ?_
          refine CW.cond (by simp only [go_sem, simprocAttr]; first | done | exact rfl) (fun ct58 => ?_) (fun ct58 => ?_)
          · have hl5 : ty.F.length = 5 := by simp at ct58; omega
            have hst : gStepF s x ty.F = (5, []) := by unfold gStepF; rw [if_pos hd0, if_pos hm, if_pos hl5]
            have hres : gDo s x = (5, [], 0, -1) := by rw [hgo, hst]; simp
            refine CW.seq ?_
            refine CW.rg ?_
            refine CWops.rn htt 3 ?_
            refine CWops.done ?_
            refine CW.ret ?_
            refine retQ.ret (by simp only [f18, go_sem, simprocAttr]; exact rfl) (by simp only [go_sem, simprocAttr]; exact rfl) ?_ -- ret4
            refine ⟨_, ?_, rfl⟩
            simp [leP, leL, gSchema, hres, eSchema]
          · have hl5 : ¬ ty.F.length = 5 := by simp at ct58; omega
            have hst : gStepF s x ty.F = (0, ty.F ++ [x.F]) := by unfold gStepF; rw [if_pos hd0, if_pos hm, if_neg hl5]
            have hres : gDo s x = (0, s.set t ⟨ty.Name, ty.F ++ [x.F]⟩, t, fFind ty.F x.F.Name) := by rw [hgo, hst]; simp
            refine CW.skip ?_
            refine CW.seq ?_
            refine CW.rg ?_
            refine CWops.run htt 6 (by simp only [go_sem, simprocAttr, eStep, eField, List.replicate]; exact rfl) (by simp [AV.cell, AV.tree, MX] <;> omega) ?_
            refine CWops.done ?_
            rw [show (List.map eField ty.F ++ [[.str x.F.Name, .int .i64 x.F.Kind, .str x.F.To]]) = List.map eField (ty.F ++ [x.F]) by simp [eField]]
            refine CW.seq ?_
            first | refine CW.sh (Sh.frzT 8 5 rfl rfl rfl) ?_ | refine CW.sh (Sh.frzT 8 4 rfl rfl rfl) ?_ | refine CW.sh (Sh.frzT 8 6 rfl rfl rfl) ?_
            simp only [go_sem, simprocAttr]
            refine CW.rg ?_
            refine CWops.run htt 3 (by simp only [go_sem, simprocAttr, eSchema]; exact rfl) (by simp [go_sem, simprocAttr, eSchema]) ?_
            refine CWops.callA (ref13_with up s t ty (ty.F ++ [x.F]) hty hSM.len) (by simp only [go_sem, simprocAttr, eSchema]) (by simp only [go_sem, simprocAttr, eSchema]; first | done | exact rfl) (by simp only [go_sem, simprocAttr, eSchema]) (by simp only [go_sem, simprocAttr, eSchema]) (fun rt68 hrt68 => ?_)
            subst hrt68
            refine CWops.run htt 2 (by simp only [go_sem, simprocAttr, eSchema]; exact rfl) (by simp [go_sem, simprocAttr, eSchema]) ?_
            refine CWops.done ?_
            refine CW.ret ?_
            refine retQ.ret (by simp only [f18, go_sem, simprocAttr]; exact rfl) (by simp only [go_sem, simprocAttr]; exact rfl) ?_ -- ret5
            refine ⟨_, ?_, rfl⟩
            simp [leP, leL, gSchema, hres, eSchema]
      · have hd0 : ¬ x.Do = 0 := by simpa using ct43
        refine CW.skip ?_
        refine CW.seq ?_
        refine CW.drawn mixed 8 (by decide) (by kernel_rfl) (by kernel_rfl) (by kernel_rfl) ?_
        refine Seg.run htt 8 (by simp only [go_sem, simprocAttr, eSchema, hty, htl, eType, eStep]; exact rfl) ?_
        refine Seg.done ?_
        refine CWops.call (ref06_Field up ty x.F.Name) (by simp only [go_sem, simprocAttr, eSchema, hty, htl, eType, eStep]) (by simp only [go_sem, simprocAttr, eSchema, hty, htl, eType, eStep]; first | done | exact rfl) (by simp only [go_sem, simprocAttr, eSchema, hty, htl, eType, eStep]) (fun rt77 hrt77 => ?_)
        subst hrt77; refine ⟨rfl, ?_⟩
        refine CWops.run htt 1 (by simp only [go_sem, simprocAttr, eSchema, hty, htl, eType, eStep]; exact rfl) (by simp [go_sem, simprocAttr, eSchema, hty, htl, eType, eStep]) ?_
        refine CWops.done ?_
        refine CW.seq ?_
        refine CW.seq ?_
        refine CW.rg ?_
        refine CWops.rn htt 2 ?_
        refine CWops.done ?_
        refine CW.cond (by simp only [go_sem, simprocAttr]; first | done | exact rfl) (fun ct79 => ?_) (fun ct79 => ?_)
        · have hqn : ty.F.findIdx? (fun f => decide (f.Name = x.F.Name)) = none := by
            rcases find_cases (fun o : GField => decide (o.Name = x.F.Name)) ty.F with ⟨_, _, h⟩ | ⟨i, _, h, _⟩
            · exact h
            · exfalso; rw [h] at ct79; simp at ct79; omega
          have hst : gStepF s x ty.F = (11, []) := by unfold gStepF; rw [if_neg hd0, hqn]
          have hres : gDo s x = (11, [], 0, -1) := by rw [hgo, hst]; simp
          refine CW.seq ?_
          refine CW.rg ?_
          refine CWops.rn htt 3 ?_
          refine CWops.done ?_
          refine CW.ret ?_
          refine retQ.ret (by simp only [f18, go_sem, simprocAttr]; exact rfl) (by simp only [go_sem, simprocAttr]; exact rfl) ?_ -- ret6
          refine ⟨_, ?_, rfl⟩
          simp [leP, leL, gSchema, hres, eSchema]
        · obtain ⟨q, f, hfq, hf, hqi⟩ : ∃ (q : Nat) (f : GField), fnd (fun o : GField => decide (o.Name = x.F.Name)) ty.F = q ∧ ty.F[q]? = some f ∧ ty.F.findIdx? (fun f => decide (f.Name = x.F.Name)) = some q := by
            rcases find_cases (fun o : GField => decide (o.Name = x.F.Name)) ty.F with ⟨h, _, _⟩ | ⟨i, y, h1, h2, _, h4, _⟩
            · exfalso; rw [h] at ct79; simp at ct79
            · exact ⟨i, y, h1, h2, h4⟩
          simp only [hfq]
          have hql := (List.getElem?_eq_some_iff.1 hf).1
          have hw1 : IntKind.i64.wrap ((q : Int) + 1) = ((q + 1 : Nat) : Int) := by rw [wrap_succ (by unfold MX; omega)]
          refine CW.skip ?_
          refine CW.seq ?_
          refine CW.seq ?_
          refine CW.rg ?_
          refine CWops.run htt 3 (by simp only [go_sem, simprocAttr, eStep]; exact rfl) (by simp [go_sem, simprocAttr, eStep]) ?_
          refine CWops.done ?_
          refine CW.cond (by simp only [go_sem, simprocAttr]; first | done | exact rfl) (fun ct83 => ?_) (fun ct83 => ?_)
          · have hd1 : x.Do = 1 := by simpa using ct83
            have hst : gStepF s x ty.F = (0, ty.F.eraseIdx q) := by unfold gStepF; rw [if_neg hd0, hqi]; simp only; rw [if_pos hd1]
            have hres : gDo s x = (0, s.set t ⟨ty.Name, ty.F.eraseIdx q⟩, t, fFind ty.F x.F.Name) := by rw [hgo, hst]; simp
            have her : (ty.F.map eField).take q ++ (ty.F.map eField).drop (q + 1) = (ty.F.eraseIdx q).map eField := by rw [List.eraseIdx_eq_take_drop_succ, List.map_append, List.map_take, List.map_drop]
            refine CW.seq ?_
            refine CW.sh (Sh.frzT 8 3 rfl rfl rfl) ?_
            simp only [go_sem, simprocAttr]
            refine CW.drawnP mixed [0, 1, 2, 3, 4, 6, 7, 8, 9, 5, 10, 11, 12, 13] 9 11 [0, 1, 5, 6, 7, 8] (D := [84, 85, 90, 91, 92, 93]) (by simp only [permL_mk, nthO_zero, nthO_succ, renO_mk, List.map_cons, List.map_nil, go_sem, simprocAttr]; exact rfl) (by kernel_rfl) (by decide) (by decide) (by kernel_rfl) (by kernel_rfl) rfl (by kernel_rfl) (by kernel_rfl) ?_
            refine Seg.run htt 4 (by simp only [go_sem, simprocAttr, eSchema, hw1]; exact rfl) ?_
            refine Seg.slTo (q := q) (k := .i64) (l := ty.F.map eField) htt tt_41 rfl tt_30 (by simp only [go_sem, simprocAttr]; first | done | exact rfl) (by simp only [go_sem, simprocAttr]; first | done | exact rfl) (by simp; omega) ?_
            simp only [go_sem, simprocAttr]
            refine Seg.run htt 3 (by simp only [go_sem, simprocAttr, eSchema, hw1]; exact rfl) ?_
            refine Seg.slFrom (q := q + 1) (k := .i64) (l := ty.F.map eField) htt tt_41 rfl tt_30 (by simp only [go_sem, simprocAttr]; first | done | exact rfl) (by simp only [go_sem, simprocAttr]; first | done | exact rfl) (by simp; omega) ?_
            simp only [go_sem, simprocAttr]
            refine Seg.done ?_
            refine Mid.eop htt [84, 85, 90, 91, 92, 93] (Flo.cons htt rfl rfl (by simp only [go_sem, simprocAttr, eSchema, hw1]; first | done | exact rfl) (Flo.cons htt rfl rfl (by simp only [go_sem, simprocAttr, eSchema, hw1]; first | done | exact rfl) (Flo.cons htt rfl rfl (by simp only [go_sem, simprocAttr, eSchema, hw1]; first | done | exact rfl) (Flo.cons htt rfl rfl (by simp only [go_sem, simprocAttr, eSchema, hw1]; first | done | exact rfl) (Flo.cons htt rfl rfl (by simp only [go_sem, simprocAttr, eSchema, hw1]; first | done | exact rfl) (Flo.st rfl (stab_slFrom (q := q + 1) (k := .i64) (l := ty.F.map eField) htt tt_41 rfl tt_30 (by simp only [go_sem, simprocAttr]; first | done | exact rfl) (by simp only [go_sem, simprocAttr]; first | done | exact rfl) (by simp; omega)) (Flo.nil))))))) (by decide) ?_ (by kernel_rfl) (by kernel_rfl) (fun u => by simp only [go_sem, simprocAttr, eSchema, hw1]; exact rfl) ?_
            · refine ⟨fun r hr a ha => ?_, ?_, ?_⟩ <;> first | (have h9 := List.mem_of_mem_take hr; obtain ⟨f9, _, rfl⟩ := List.mem_map.1 h9; simp [eField] at ha; rcases ha with rfl | rfl | rfl <;> rfl) | (have h9 := List.mem_of_mem_drop hr; obtain ⟨f9, _, rfl⟩ := List.mem_map.1 h9; simp [eField] at ha; rcases ha with rfl | rfl | rfl <;> rfl) | (simp [MX]; omega)
            refine Mid.eop htt [84, 85, 90, 91, 92] (Flo.cons htt rfl rfl (by simp only [go_sem, simprocAttr, eSchema, hw1]; first | done | exact rfl) (Flo.cons htt rfl rfl (by simp only [go_sem, simprocAttr, eSchema, hw1]; first | done | exact rfl) (Flo.cons htt rfl rfl (by simp only [go_sem, simprocAttr, eSchema, hw1]; first | done | exact rfl) (Flo.cons htt rfl rfl (by simp only [go_sem, simprocAttr, eSchema, hw1]; first | done | exact rfl) (Flo.cons htt rfl rfl (by simp only [go_sem, simprocAttr, eSchema, hw1]; first | done | exact rfl) (Flo.st rfl (stab_slFrom (q := q + 1) (k := .i64) (l := ty.F.map eField) htt tt_41 rfl tt_30 (by simp only [go_sem, simprocAttr]; first | done | exact rfl) (by simp only [go_sem, simprocAttr]; first | done | exact rfl) (by simp; omega)) (Flo.nil))))))) (by decide) ?_ (by kernel_rfl) (by kernel_rfl) (fun u => by simp only [go_sem, simprocAttr, eSchema, hw1]; exact rfl) ?_
            · refine ⟨fun r hr a ha => ?_, ?_, ?_⟩ <;> first | (have h9 := List.mem_of_mem_take hr; obtain ⟨f9, _, rfl⟩ := List.mem_map.1 h9; simp [eField] at ha; rcases ha with rfl | rfl | rfl <;> rfl) | (have h9 := List.mem_of_mem_drop hr; obtain ⟨f9, _, rfl⟩ := List.mem_map.1 h9; simp [eField] at ha; rcases ha with rfl | rfl | rfl <;> rfl) | (simp [MX]; omega)
            refine Mid.done (Flo.cons htt rfl rfl (by simp only [go_sem, simprocAttr, eSchema, hw1]; first | done | exact rfl) (Flo.cons htt rfl rfl (by simp only [go_sem, simprocAttr, eSchema, hw1]; first | done | exact rfl) (Flo.cons htt rfl rfl (by simp only [go_sem, simprocAttr, eSchema, hw1]; first | done | exact rfl) (Flo.cons htt rfl rfl (by simp only [go_sem, simprocAttr, eSchema, hw1]; first | done | exact rfl) (Flo.cons htt rfl rfl (by simp only [go_sem, simprocAttr, eSchema, hw1]; first | done | exact rfl) (Flo.st rfl (stab_slFrom (q := q + 1) (k := .i64) (l := ty.F.map eField) htt tt_41 rfl tt_30 (by simp only [go_sem, simprocAttr]; first | done | exact rfl) (by simp only [go_sem, simprocAttr]; first | done | exact rfl) (by simp; omega)) (Flo.nil))))))) ?_
            first | refine CWops.sh (Sh.frzT 94 5 rfl rfl rfl) ?_ | refine CWops.sh (Sh.frzT 94 4 rfl rfl rfl) ?_ | refine CWops.sh (Sh.frzT 94 6 rfl rfl rfl) ?_
            simp only [go_sem, simprocAttr, her]
            refine CWops.callA (ref13_with up s t ty (ty.F.eraseIdx q) hty hSM.len) (by simp only [go_sem, simprocAttr, eSchema, hw1]) (by simp only [go_sem, simprocAttr, eSchema, hw1]; first | done | exact rfl) (by simp only [go_sem, simprocAttr, eSchema, hw1]) (by simp only [go_sem, simprocAttr, eSchema, hw1]) (fun rt95 hrt95 => ?_)
            subst hrt95
            refine CWops.run htt 2 (by simp only [go_sem, simprocAttr, eSchema, hw1]; exact rfl) (by simp [AV.cell, AV.tree, MX] <;> omega) ?_
            refine CWops.done ?_
            refine CW.ret ?_
            refine retQ.ret (by simp only [f18, go_sem, simprocAttr]; exact rfl) (by simp only [go_sem, simprocAttr]; exact rfl) ?_ -- ret7
            refine ⟨_, ?_, rfl⟩
            simp [leP, leL, gSchema, hres, eSchema]
          · have hd1 : ¬ x.Do = 1 := by simpa using ct83
            refine CW.skip ?_
            refine CW.seq ?_
            refine CW.drawn mixed 8 (by decide) (by kernel_rfl) (by kernel_rfl) (by kernel_rfl) ?_
            refine Seg.run htt 8 (by simp only [go_sem, simprocAttr, eStep, hf, hql, eField]; exact rfl) ?_
            refine Seg.done ?_
            refine CWops.callA (ref13_wider up x.F.Kind f.Kind) (by simp only [go_sem, simprocAttr, eStep, hf, hql, eField]) (by simp only [go_sem, simprocAttr, eStep, hf, hql, eField]; first | done | exact rfl) (by simp only [go_sem, simprocAttr, eStep, hf, hql, eField]) (by simp only [go_sem, simprocAttr, eStep, hf, hql, eField]) (fun rt104 hrt104 => ?_)
            subst hrt104
            refine CWops.run htt 1 (by simp only [go_sem, simprocAttr, eStep, hf, hql, eField]; exact rfl) (by simp [go_sem, simprocAttr, eStep, hf, hql, eField]) ?_
            refine CWops.done ?_
            refine CW.seq ?_
            refine CW.seq ?_
            refine CW.rg ?_
            refine CWops.rn htt 2 ?_
            refine CWops.done ?_
            refine CW.cond (by simp only [go_sem, simprocAttr]; first | done | exact rfl) (fun ct106 => ?_) (fun ct106 => ?_)
            · have hw : wider x.F.Kind f.Kind = false := by simpa using ct106
              have hst : gStepF s x ty.F = (6, []) := by unfold gStepF; rw [if_neg hd0, hqi]; simp only; rw [if_neg hd1, hf]; simp only; rw [if_neg (by rw [hw]; simp)]
              have hres : gDo s x = (6, [], 0, -1) := by rw [hgo, hst]; simp
              refine CW.seq ?_
              refine CW.rg ?_
              refine CWops.rn htt 3 ?_
              refine CWops.done ?_
              refine CW.ret ?_
              refine retQ.ret (by simp only [f18, go_sem, simprocAttr]; exact rfl) (by simp only [go_sem, simprocAttr]; exact rfl) ?_ -- ret8
              refine ⟨_, ?_, rfl⟩
              simp [leP, leL, gSchema, hres, eSchema]
            · have hw : wider x.F.Kind f.Kind = true := by simpa using ct106
              have hst : gStepF s x ty.F = (0, ty.F.set q ⟨f.Name, x.F.Kind, f.To⟩) := by unfold gStepF; rw [if_neg hd0, hqi]; simp only; rw [if_neg hd1, hf]; simp only; rw [if_pos hw]
              have hres : gDo s x = (0, s.set t ⟨ty.Name, ty.F.set q ⟨f.Name, x.F.Kind, f.To⟩⟩, t, fFind ty.F x.F.Name) := by rw [hgo, hst]; simp
              have hset : (ty.F.map eField).set q [.str f.Name, .int .i64 x.F.Kind, .str f.To] = (ty.F.set q ⟨f.Name, x.F.Kind, f.To⟩).map eField := by rw [List.map_set]; rfl
              refine CW.skip ?_
              refine CW.seq ?_
              refine CW.rg ?_
              refine CWops.run htt 8 (by simp only [go_sem, simprocAttr, eStep, hf, hql, eField]; exact rfl) (by simp [go_sem, simprocAttr, eStep, hf, hql, eField]) ?_
              refine CWops.done ?_
              rw [hset]
              refine CW.seq ?_
              refine CW.sh (Sh.frzT 8 3 rfl rfl rfl) ?_
              simp only [go_sem, simprocAttr]
              refine CW.rg ?_
              refine CWops.run htt 3 (by simp only [go_sem, simprocAttr, eSchema]; exact rfl) (by simp [go_sem, simprocAttr, eSchema]) ?_
              refine CWops.callA (ref13_with up s t ty (ty.F.set q ⟨f.Name, x.F.Kind, f.To⟩) hty hSM.len) (by simp only [go_sem, simprocAttr, eSchema]) (by simp only [go_sem, simprocAttr, eSchema]; first | done | exact rfl) (by simp only [go_sem, simprocAttr, eSchema]) (by simp only [go_sem, simprocAttr, eSchema]) (fun rt118 hrt118 => ?_)
              subst hrt118
              refine CWops.run htt 2 (by simp only [go_sem, simprocAttr, eSchema]; exact rfl) (by simp [go_sem, simprocAttr, eSchema]) ?_
              refine CWops.done ?_
              refine CW.ret ?_
              refine retQ.ret (by simp only [f18, go_sem, simprocAttr]; exact rfl) (by simp only [go_sem, simprocAttr]; exact rfl) ?_ -- ret9
              refine ⟨_, ?_, rfl⟩
              simp [leP, leL, gSchema, hres, eSchema]
end Go.Ab
namespace Go.Ab
open Go Go.Proofs.Try
open Nat (reduceEqDiff reduceAdd reduceLT reduceLeDiff reduceBEq reduceSub reduceMul)
open Int (reduceToNat)
set_option maxRecDepth 100000
set_option maxHeartbeats 3200000
set_option linter.unusedSimpArgs false
set_option linter.unusedVariables false
theorem ref13_Graph (up : Bool) (g : Graph) (x : GStep) (hsm : smallS g.S) (hN : ∀ o ∈ g.O, ∀ v ∈ o.F, -9223372036854775808 ≤ v.N ∧ v.N < 9223372036854775808) (hx : x.F.Name.size ≤ 1048576) : PCall prog up 19 [.agg (eGraph g), .agg (eStep x)] (· = .tup [.agg (eGraph (gGrade g x).1), .int .i64 (gGrade g x).2]) := by
  refine PCall.intro htt func19 (by kernel_rfl) rfl (Nat.le_of_ble_eq_true rfl) fun hl => ?_
  obtain ⟨⟨S2, e⟩, hS2⟩ : ∃ p, gSchema g.S x = p := ⟨_, rfl⟩
  simp only [tmps0, Nat.reduceAdd]
  refine CW.seq ?_
  refine CW.rg ?_
  refine CWops.run htt 4 (by simp only [go_sem, simprocAttr, eGraph, eStep]; exact rfl) (by simp [go_sem, simprocAttr, eGraph, eStep]) ?_
  refine CWops.done ?_
  refine CW.seq ?_
  refine CW.rg ?_
  refine CWops.run htt 1 (by simp only [go_sem, simprocAttr, eGraph]; exact rfl) (by simp [go_sem, simprocAttr, eGraph]) ?_
  refine CWops.call (ref08_May up g hsm hN) (by simp only [go_sem, simprocAttr, eGraph]) (by simp only [go_sem, simprocAttr, eGraph]; first | done | exact rfl) (by simp only [go_sem, simprocAttr, eGraph]) (fun rt15 hrt15 => ?_)
  subst hrt15; refine ⟨rfl, ?_⟩
  refine CWops.run htt 1 (by simp only [go_sem, simprocAttr, eGraph]; exact rfl) (by simp [go_sem, simprocAttr, eGraph]) ?_
  refine CWops.done ?_
  refine CW.seq ?_
  refine CW.seq ?_
  refine CW.rg ?_
  refine CWops.rn htt 2 ?_
  refine CWops.done ?_
  refine CW.cond (by simp only [go_sem, simprocAttr]; first | done | exact rfl) (fun ct17 => ?_) (fun ct17 => ?_)
  · have hm : gMay g = false := by simpa using ct17
    refine CW.seq ?_
    refine CW.rg ?_
    refine CWops.rn htt 3 ?_
    refine CWops.done ?_
    refine CW.ret ?_
    refine retQ.ret (by simp only [f19, go_sem, simprocAttr]; exact rfl) (by simp only [go_sem, simprocAttr]; exact rfl) ?_ -- ret1
    refine ⟨_, ?_, rfl⟩
    have : gGrade g x = (⟨[], [], []⟩, 1) := by unfold gGrade; rw [if_pos hm]
    simp [leP, leL, this, eGraph]
  · have hm : gMay g = true := by simpa using ct17
    have hM := (may_iff g).1 hm
    have hsm8 := hM.small
    have ho8 := hM.o
    have hr3 := hM.r
    refine CW.skip ?_
    refine CW.seq ?_
    refine CW.rg ?_
    refine CWops.run htt 3 (by simp only [go_sem, simprocAttr, eGraph, eSchema, eStep]; exact rfl) (by simp [go_sem, simprocAttr, eGraph, eSchema, eStep]) ?_
    refine CWops.callA ((by have := ref13_Schema up g.S x hsm hx; rw [hS2] at this; exact this)) (by simp only [go_sem, simprocAttr, eGraph, eSchema, eStep]) (by simp only [go_sem, simprocAttr, eGraph, eSchema, eStep]; first | done | exact rfl) (by simp only [go_sem, simprocAttr, eGraph, eSchema, eStep]) (by simp only [go_sem, simprocAttr, eGraph, eSchema, eStep]) (fun rt23 hrt23 => ?_)
    subst hrt23
    refine CWops.run htt 6 (by simp only [go_sem, simprocAttr, eGraph, eSchema, eStep]; exact rfl) (by simp [go_sem, simprocAttr, eGraph, eSchema, eStep]) ?_
    refine CWops.done ?_
    refine CW.seq ?_
    refine CW.seq ?_
    refine CW.rg ?_
    refine CWops.rn htt 2 ?_
    refine CWops.done ?_
    refine CW.cond (by simp only [go_sem, simprocAttr]; first | done | exact rfl) (fun ct27 => ?_) (fun ct27 => ?_)
    · have he : ¬ e = 0 := by simpa using ct27
      have hd1 : (gDo g.S x).1 = e := congrArg Prod.snd hS2
      have hG : gGrade g x = (⟨[], [], []⟩, e) := by unfold gGrade; rw [if_neg (by rw [hm]; decide), if_neg (by rw [hd1]; exact he), hd1]
      refine CW.seq ?_
      refine CW.rg ?_
      refine CWops.rn htt 4 ?_
      refine CWops.done ?_
      refine CW.ret ?_
      refine retQ.ret (by simp only [f19, go_sem, simprocAttr]; exact rfl) (by simp only [go_sem, simprocAttr]; exact rfl) ?_ -- ret2
      refine ⟨_, ?_, rfl⟩
      simp [leP, leL, hG, eGraph]
    · have he : e = 0 := by simpa using ct27
      subst he
      have hd1 : (gDo g.S x).1 = 0 := congrArg Prod.snd hS2
      have hd2 : (gDo g.S x).2.1 = S2 := congrArg Prod.fst hS2
      have hdrop := grade_drop hm hd1
      obtain ⟨_, _, _, t, ty, hfi, hty, hn, _, eD⟩ := do_ok hd1
      obtain ⟨at_, hat⟩ : ∃ a, a = fFind ty.F x.F.Name := ⟨_, rfl⟩
      rw [← hat] at eD
      have hG : gGrade g x = (⟨S2, g.O.map (gradeO x t at_), g.Roots⟩, 0) := by unfold gGrade; rw [if_neg (by rw [hm]; decide), if_pos hd1, hd2, eD]
      rw [eD] at hdrop
      simp only at hdrop
      have htl := (List.getElem?_eq_some_iff.1 hty).1
      have hft : fnd (fun o : GType => decide (o.Name = x.Ty)) g.S = (t : Int) := by unfold fnd; rw [hfi]
      have hfa : fnd (fun o : GField => decide (o.Name = x.F.Name)) ty.F = at_ := hat.symm
      rw [hG]
      clear hd2 eD hS2 hat
      refine CW.skip ?_
      refine CW.seq ?_
      refine CW.rg ?_
      refine CWops.run htt 4 (by simp only [go_sem, simprocAttr, eGraph, eSchema, eStep]; exact rfl) (by simp [go_sem, simprocAttr, eGraph, eSchema, eStep]) ?_
      refine CWops.call (ref06_Find up g.S x.Ty) (by simp only [go_sem, simprocAttr, eGraph, eSchema, eStep]) (by simp only [go_sem, simprocAttr, eGraph, eSchema, eStep]; first | done | exact rfl) (by simp only [go_sem, simprocAttr, eGraph, eSchema, eStep]) (fun rt34 hrt34 => ?_)
      subst hrt34; refine ⟨rfl, ?_⟩
      refine CWops.run htt 1 (by simp only [go_sem, simprocAttr, eGraph, eSchema, eStep]; exact rfl) (by simp [go_sem, simprocAttr, eGraph, eSchema, eStep]) ?_
      refine CWops.done ?_
      simp only [hft]
      refine CW.seq ?_
      refine CW.drawn mixed 9 (by decide) (by kernel_rfl) (by kernel_rfl) (by kernel_rfl) ?_
      refine Seg.run htt 9 (by simp only [go_sem, simprocAttr, eGraph, eSchema, hty, htl, eType, eStep, eField]; exact rfl) ?_
      refine Seg.done ?_
      refine CWops.call (ref06_Field up ty x.F.Name) (by simp only [go_sem, simprocAttr, eGraph, eSchema, hty, htl, eType, eStep, eField]) (by simp only [go_sem, simprocAttr, eGraph, eSchema, hty, htl, eType, eStep, eField]; first | done | exact rfl) (by simp only [go_sem, simprocAttr, eGraph, eSchema, hty, htl, eType, eStep, eField]) (fun rt44 hrt44 => ?_)
      subst hrt44; refine ⟨rfl, ?_⟩
      refine CWops.run htt 1 (by simp only [go_sem, simprocAttr, eGraph, eSchema, hty, htl, eType, eStep, eField]; exact rfl) (by simp [go_sem, simprocAttr, eGraph, eSchema, hty, htl, eType, eStep, eField]) ?_
      refine CWops.done ?_
      simp only [hfa]
      refine CW.seq ?_
      refine CW.rg ?_
      refine CWops.run htt 6 (by simp only [go_sem, simprocAttr, eGraph, eSchema]; exact rfl) (by simp [go_sem, simprocAttr, eGraph, eSchema]) ?_
      refine CWops.done ?_
      refine CW.seq ?_
      refine CW.seq ?_
      refine CW.rg ?_
      refine CWops.rn htt 1 ?_
      refine CWops.done ?_
      refine CW.block ?_
      refine CW.loop (S := Nat) (fun i => ⟨5, [(2, .lv 0 [] 0), (3, .lv 1 [] 0), (4, .lv 2 [] 0), (5, .int .i64 0), (9, .int .i64 t), (10, .int .i64 at_), (11, .lv 4 [] 0), (12, .int .i64 i)], [(0, ⟨true, eGraph g⟩), (1, ⟨true, eStep x⟩), (2, ⟨true, [.nilsl, .nilsl, .nilsl]⟩), (3, ⟨true, eSchema S2⟩), (4, ⟨true, [.sl 2 (S2.map eType), .own 3 ((List.map (gradeO x t at_) (g.O.take i)).map eObj), .sl 1 (g.Roots.map eI)]⟩)]⟩) (fun i => i ≤ g.O.length) (fun i => g.O.length - i) (0) ?_ (Nat.zero_le _) (fun i h3 => ?_)
      · refine Sh.trans (Sh.nilCell 4 [] 1 3 (by simp [go_sem, simprocAttr]) rfl) (Sh.wk0 ?_); simp [Wk, go_sem, simprocAttr, eGraph, eStep, eSchema]
      refine CW.seq ?_
      refine CW.seq ?_
      refine CW.rg ?_
      refine CWops.run htt 5 (by simp only [go_sem, simprocAttr, eGraph]; exact rfl) (by simp [go_sem, simprocAttr, eGraph]) ?_
      refine CWops.done ?_
      refine CW.cond (by simp only [go_sem, simprocAttr]; first | done | exact rfl) (fun ct53 => ?_) (fun ct53 => ?_)
      · have hi : i < g.O.length := by simpa using ct53
        obtain ⟨o, ho⟩ : ∃ x, g.O[i]? = some x := ⟨g.O[i], List.getElem?_eq_getElem hi⟩
        have ho5 := hsm8.2.2 o (List.mem_of_getElem? ho)
        obtain ⟨F1, hF1⟩ : ∃ l, l = if o.T = t ∧ x.Do = 0 then o.F ++ [zeroV x.F] else o.F := ⟨_, rfl⟩
        obtain ⟨F2, hF2⟩ : ∃ l, l = (gradeO x t at_ o).F := ⟨_, rfl⟩
        have hF2o : gradeO x t at_ o = ⟨o.Id, o.T, F2⟩ := by rw [hF2]; unfold gradeO; split <;> rfl
        refine CW.skip ?_
        refine CW.seq ?_
        refine CW.block ?_
        refine CW.seq ?_
        refine CW.rg ?_
        refine CWops.run htt 7 (by simp only [go_sem, simprocAttr, eGraph, ho, hi, eObj]; exact rfl) (by simp [go_sem, simprocAttr, eGraph, ho, hi, eObj]) ?_
        refine CWops.done ?_
        refine CW.cut ⟨6, [(2, .lv 0 [] 0), (3, .lv 1 [] 0), (4, .lv 2 [] 0), (5, .int .i64 0), (9, .int .i64 t), (10, .int .i64 at_), (11, .lv 4 [] 0), (12, .int .i64 i), (13, .lv 5 [] 0)], [(0, ⟨true, eGraph g⟩), (1, ⟨true, eStep x⟩), (2, ⟨true, [.nilsl, .nilsl, .nilsl]⟩), (3, ⟨true, eSchema S2⟩), (4, ⟨true, [.sl 2 (S2.map eType), .own 3 ((List.map (gradeO x t at_) (g.O.take i)).map eObj), .sl 1 (g.Roots.map eI)]⟩), (5, ⟨true, eObj ⟨o.Id, o.T, F1⟩⟩)]⟩ ?_ ?_
        · refine CW.cut ⟨6, [(2, .lv 0 [] 0), (3, .lv 1 [] 0), (4, .lv 2 [] 0), (5, .int .i64 0), (9, .int .i64 t), (10, .int .i64 at_), (11, .lv 4 [] 0), (12, .int .i64 i), (13, .lv 5 [] 0), (69, .bool (decide (o.T = (t : Int)) && decide (x.Do = 0)))], [(0, ⟨true, eGraph g⟩), (1, ⟨true, eStep x⟩), (2, ⟨true, [.nilsl, .nilsl, .nilsl]⟩), (3, ⟨true, eSchema S2⟩), (4, ⟨true, [.sl 2 (S2.map eType), .own 3 ((List.map (gradeO x t at_) (g.O.take i)).map eObj), .sl 1 (g.Roots.map eI)]⟩), (5, ⟨true, eObj ⟨o.Id, o.T, o.F⟩⟩)]⟩ ?_ ?_
          · refine CW.rg ?_
            refine CWops.run htt 5 (by simp only [go_sem, simprocAttr, eObj, eStep]; exact rfl) (by simp [go_sem, simprocAttr, eObj, eStep]) ?_
            all_goals (first | refine CWops.guard 65 (by simp only [go_sem, simprocAttr, eObj, eStep]; exact rfl) (fun g65 => ?_) (fun g65 => ?_) | skip)
            all_goals (skip)
            all_goals (refine CWops.run htt 4 (by simp only [go_sem, simprocAttr, eObj, eStep]; exact rfl) (by simp [go_sem, simprocAttr, eObj, eStep]) ?_)
            all_goals (refine CWops.done ?_)
            all_goals (
              first | refine ⟨rfl, Sh.wk0 ?_⟩ | refine Sh.wk0 ?_
              first | (simp [Wk, go_sem, simprocAttr, eGraph, eStep, eSchema, eObj]; done) | (simp_all [Wk, go_sem, simprocAttr, eGraph, eStep, eSchema, eObj]; done))
          refine CW.cond (by simp only [go_sem, simprocAttr]; first | done | exact rfl) (fun ct69 => ?_) (fun ct69 => ?_)
          · have ha : o.T = t ∧ x.Do = 0 := by simpa using ct69
            have hF1a : F1 = o.F ++ [zeroV x.F] := by rw [hF1, if_pos ha]
            refine CW.drawnP mixed [0, 1, 3, 4, 2, 5, 6, 7, 8, 9] 4 5 [2, 3] (D := [73, 74]) (by simp only [permL_mk, nthO_zero, nthO_succ, renO_mk, List.map_cons, List.map_nil, go_sem, simprocAttr]; exact rfl) (by kernel_rfl) (by decide) (by decide) (by kernel_rfl) (by kernel_rfl) rfl (by kernel_rfl) (by kernel_rfl) ?_
            refine Seg.run htt 4 (by simp only [go_sem, simprocAttr, eGraph, eSchema, eObj, eStep, eField, eVal, List.replicate]; exact rfl) ?_
            refine Seg.done ?_
            refine Mid.eop htt [73, 74] (Flo.cons htt rfl rfl (by simp only [go_sem, simprocAttr, eGraph, eSchema, eObj, eStep, eField, eVal, List.replicate]; first | done | exact rfl) (Flo.cons htt rfl rfl (by simp only [go_sem, simprocAttr, eGraph, eSchema, eObj, eStep, eField, eVal, List.replicate]; first | done | exact rfl) (Flo.nil))) (by decide) ?_ (by kernel_rfl) (by kernel_rfl) (fun u => by simp only [go_sem, simprocAttr, eGraph, eSchema, eObj, eStep, eField, eVal, List.replicate]; exact rfl) ?_
            · refine ⟨?_, ?_, ?_⟩ <;> first | (simp [eVal, AV.cell]; done) | (simp [MX]; omega)
            refine Mid.done (Flo.cons htt rfl rfl (by simp only [go_sem, simprocAttr, eGraph, eSchema, eObj, eStep, eField, eVal, List.replicate]; first | done | exact rfl) (Flo.cons htt rfl rfl (by simp only [go_sem, simprocAttr, eGraph, eSchema, eObj, eStep, eField, eVal, List.replicate]; first | done | exact rfl) (Flo.nil))) ?_
            refine CWops.callA (ref07_Zero up x.F) (by simp only [go_sem, simprocAttr, eGraph, eSchema, eObj, eStep, eField, eVal, List.replicate]) (by simp only [go_sem, simprocAttr, eGraph, eSchema, eObj, eStep, eField, eVal, List.replicate]; first | done | exact rfl) (by simp only [go_sem, simprocAttr, eGraph, eSchema, eObj, eStep, eField, eVal, List.replicate]) (by simp only [go_sem, simprocAttr, eGraph, eSchema, eObj, eStep, eField, eVal, List.replicate]) (fun rt75 hrt75 => ?_)
            subst hrt75
            refine CWops.run htt 4 (by simp only [go_sem, simprocAttr, eGraph, eSchema, eObj, eStep, eField, eVal, List.replicate]; exact rfl) (by unfold zeroV; split <;> simp [AV.cell, AV.tree, eVal, MX] <;> omega) ?_
            refine CWops.done ?_
            rw [show (List.map eVal o.F ++ [[AV.int .i64 (zeroV x.F).N, .str (zeroV x.F).S, .int .i64 (zeroV x.F).R]]) = List.map eVal F1 by rw [hF1a]; simp [eVal]]
            first | (refine ⟨rfl, Sh.trans (Sh.frz 5 2 rfl rfl) (Sh.wk0 ?_)⟩; simp [Wk, go_sem, simprocAttr, eGraph, eStep, eSchema, eObj]; done) | (refine Sh.trans (Sh.frz 5 2 rfl rfl) (Sh.wk0 ?_); simp [Wk, go_sem, simprocAttr, eGraph, eStep, eSchema, eObj]; done) | (refine ⟨rfl, Sh.wk0 ?_⟩; rw [hF1a]; simp [Wk, go_sem, simprocAttr, eGraph, eStep, eSchema, eObj]; done) | (refine Sh.wk0 ?_; rw [hF1a]; simp [Wk, go_sem, simprocAttr, eGraph, eStep, eSchema, eObj]; done)
          · have ha : ¬ (o.T = t ∧ x.Do = 0) := by
              intro h
              simp [h.1, h.2] at ct69
            have hF1a : F1 = o.F := by rw [hF1, if_neg ha]
            refine CW.skip ?_
            first | (refine ⟨rfl, Sh.trans (Sh.frz 5 2 rfl rfl) (Sh.wk0 ?_)⟩; simp [Wk, go_sem, simprocAttr, eGraph, eStep, eSchema, eObj]; done) | (refine Sh.trans (Sh.frz 5 2 rfl rfl) (Sh.wk0 ?_); simp [Wk, go_sem, simprocAttr, eGraph, eStep, eSchema, eObj]; done) | (refine ⟨rfl, Sh.wk0 ?_⟩; rw [hF1a]; simp [Wk, go_sem, simprocAttr, eGraph, eStep, eSchema, eObj]; done) | (refine Sh.wk0 ?_; rw [hF1a]; simp [Wk, go_sem, simprocAttr, eGraph, eStep, eSchema, eObj]; done)
        refine CW.cut ⟨6, [(2, .lv 0 [] 0), (3, .lv 1 [] 0), (4, .lv 2 [] 0), (5, .int .i64 0), (9, .int .i64 t), (10, .int .i64 at_), (11, .lv 4 [] 0), (12, .int .i64 i), (13, .lv 5 [] 0)], [(0, ⟨true, eGraph g⟩), (1, ⟨true, eStep x⟩), (2, ⟨true, [.nilsl, .nilsl, .nilsl]⟩), (3, ⟨true, eSchema S2⟩), (4, ⟨true, [.sl 2 (S2.map eType), .own 3 ((List.map (gradeO x t at_) (g.O.take i)).map eObj), .sl 1 (g.Roots.map eI)]⟩), (5, ⟨true, eObj ⟨o.Id, o.T, F2⟩⟩)]⟩ ?_ ?_
        · refine CW.cut ⟨6, [(2, .lv 0 [] 0), (3, .lv 1 [] 0), (4, .lv 2 [] 0), (5, .int .i64 0), (9, .int .i64 t), (10, .int .i64 at_), (11, .lv 4 [] 0), (12, .int .i64 i), (13, .lv 5 [] 0), (87, .bool (decide (o.T = (t : Int)) && decide (x.Do = 1)))], [(0, ⟨true, eGraph g⟩), (1, ⟨true, eStep x⟩), (2, ⟨true, [.nilsl, .nilsl, .nilsl]⟩), (3, ⟨true, eSchema S2⟩), (4, ⟨true, [.sl 2 (S2.map eType), .own 3 ((List.map (gradeO x t at_) (g.O.take i)).map eObj), .sl 1 (g.Roots.map eI)]⟩), (5, ⟨true, eObj ⟨o.Id, o.T, F1⟩⟩)]⟩ ?_ ?_
          · refine CW.rg ?_
            refine CWops.run htt 5 (by simp only [go_sem, simprocAttr, eObj, eStep]; exact rfl) (by simp [go_sem, simprocAttr, eObj, eStep]) ?_
            all_goals (first | refine CWops.guard 83 (by simp only [go_sem, simprocAttr, eObj, eStep]; exact rfl) (fun g83 => ?_) (fun g83 => ?_) | skip)
            all_goals (skip)
            all_goals (refine CWops.run htt 4 (by simp only [go_sem, simprocAttr, eObj, eStep]; exact rfl) (by simp [go_sem, simprocAttr, eObj, eStep]) ?_)
            all_goals (refine CWops.done ?_)
            all_goals (
              first | refine ⟨rfl, Sh.wk0 ?_⟩ | refine Sh.wk0 ?_
              first | (simp [Wk, go_sem, simprocAttr, eGraph, eStep, eSchema, eObj]; done) | (simp_all [Wk, go_sem, simprocAttr, eGraph, eStep, eSchema, eObj]; done))
          refine CW.cond (by simp only [go_sem, simprocAttr]; first | done | exact rfl) (fun ct87 => ?_) (fun ct87 => ?_)
          · have hb : o.T = t ∧ x.Do = 1 := by simpa using ct87
            obtain ⟨hT, hd1'⟩ := hb
            obtain ⟨q, hqa, hqo⟩ := hdrop hd1' o (List.mem_of_getElem? ho) hT
            subst hqa
            have hw1 : IntKind.i64.wrap ((q : Int) + 1) = ((q + 1 : Nat) : Int) := by rw [wrap_succ (by unfold MX; omega)]
            have hF1a : F1 = o.F := by rw [hF1, if_neg (fun h => by omega)]
            rw [hF1a]
            have hF2a : F2 = o.F.eraseIdx q := by rw [hF2]; unfold gradeO gradeF; rw [if_pos hT, if_neg (by omega), if_pos hd1']; simp
            have her : (o.F.map eVal).take q ++ (o.F.map eVal).drop (q + 1) = (o.F.eraseIdx q).map eVal := by rw [List.eraseIdx_eq_take_drop_succ, List.map_append, List.map_take, List.map_drop]
            refine CW.drawnP mixed [0, 1, 2, 3, 5, 6, 7, 8, 9, 4, 10, 11, 12] 9 10 [4, 5, 6, 7, 8] (D := [93, 94, 95, 96, 97]) (by simp only [permL_mk, nthO_zero, nthO_succ, renO_mk, List.map_cons, List.map_nil, go_sem, simprocAttr]; exact rfl) (by kernel_rfl) (by decide) (by decide) (by kernel_rfl) (by kernel_rfl) rfl (by kernel_rfl) (by kernel_rfl) ?_
            refine Seg.run htt 3 (by simp only [go_sem, simprocAttr, eGraph, eSchema, eStep, eObj, hw1]; exact rfl) ?_
            refine Seg.slTo (q := q) (k := .i64) (l := o.F.map eVal) htt tt_38 rfl tt_46 (by simp only [go_sem, simprocAttr]; first | done | exact rfl) (by simp only [go_sem, simprocAttr]; first | done | exact rfl) (by simp; omega) ?_
            simp only [go_sem, simprocAttr]
            refine Seg.run htt 4 (by simp only [go_sem, simprocAttr, eGraph, eSchema, eStep, eObj, hw1]; exact rfl) ?_
            refine Seg.slFrom (q := q + 1) (k := .i64) (l := o.F.map eVal) htt tt_38 rfl tt_46 (by simp only [go_sem, simprocAttr]; first | done | exact rfl) (by simp only [go_sem, simprocAttr]; first | done | exact rfl) (by simp; omega) ?_
            simp only [go_sem, simprocAttr]
            refine Seg.done ?_
            refine Mid.eop htt [93, 94, 95, 96, 97] (Flo.cons htt rfl rfl (by simp only [go_sem, simprocAttr, eGraph, eSchema, eStep, eObj, hw1]; first | done | exact rfl) (Flo.cons htt rfl rfl (by simp only [go_sem, simprocAttr, eGraph, eSchema, eStep, eObj, hw1]; first | done | exact rfl) (Flo.cons htt rfl rfl (by simp only [go_sem, simprocAttr, eGraph, eSchema, eStep, eObj, hw1]; first | done | exact rfl) (Flo.cons htt rfl rfl (by simp only [go_sem, simprocAttr, eGraph, eSchema, eStep, eObj, hw1]; first | done | exact rfl) (Flo.st rfl (stab_slFrom (q := q + 1) (k := .i64) (l := o.F.map eVal) htt tt_38 rfl tt_46 (by simp only [go_sem, simprocAttr]; first | done | exact rfl) (by simp only [go_sem, simprocAttr]; first | done | exact rfl) (by simp; omega)) (Flo.nil)))))) (by decide) ?_ (by kernel_rfl) (by kernel_rfl) (fun u => by simp only [go_sem, simprocAttr, eGraph, eSchema, eStep, eObj, hw1]; exact rfl) ?_
            · refine ⟨fun r hr a ha => ?_, ?_, ?_⟩ <;> first | (have h9 := List.mem_of_mem_take hr; obtain ⟨f9, _, rfl⟩ := List.mem_map.1 h9; simp [eVal] at ha; rcases ha with rfl | rfl | rfl <;> rfl) | (have h9 := List.mem_of_mem_drop hr; obtain ⟨f9, _, rfl⟩ := List.mem_map.1 h9; simp [eVal] at ha; rcases ha with rfl | rfl | rfl <;> rfl) | (simp [MX]; omega)
            refine Mid.done (Flo.cons htt rfl rfl (by simp only [go_sem, simprocAttr, eGraph, eSchema, eStep, eObj, hw1]; first | done | exact rfl) (Flo.cons htt rfl rfl (by simp only [go_sem, simprocAttr, eGraph, eSchema, eStep, eObj, hw1]; first | done | exact rfl) (Flo.cons htt rfl rfl (by simp only [go_sem, simprocAttr, eGraph, eSchema, eStep, eObj, hw1]; first | done | exact rfl) (Flo.cons htt rfl rfl (by simp only [go_sem, simprocAttr, eGraph, eSchema, eStep, eObj, hw1]; first | done | exact rfl) (Flo.st rfl (stab_slFrom (q := q + 1) (k := .i64) (l := o.F.map eVal) htt tt_38 rfl tt_46 (by simp only [go_sem, simprocAttr]; first | done | exact rfl) (by simp only [go_sem, simprocAttr]; first | done | exact rfl) (by simp; omega)) (Flo.nil)))))) ?_
            refine CWops.run htt 3 (by simp only [go_sem, simprocAttr, eGraph, eSchema, eStep, eObj, hw1]; exact rfl) (by refine ⟨fun r hr a ha => ?_, ?_, ?_⟩ <;> first | (have h9 := List.mem_of_mem_take hr; obtain ⟨f9, _, rfl⟩ := List.mem_map.1 h9; simp [eVal] at ha; rcases ha with rfl | rfl | rfl <;> rfl) | (have h9 := List.mem_of_mem_drop hr; obtain ⟨f9, _, rfl⟩ := List.mem_map.1 h9; simp [eVal] at ha; rcases ha with rfl | rfl | rfl <;> rfl) | (simp [MX]; omega)) ?_
            refine CWops.done ?_
            rw [her, ← hF2a]
            first | (refine ⟨rfl, Sh.trans (Sh.frz 5 2 rfl rfl) (Sh.wk0 ?_)⟩; simp [Wk, go_sem, simprocAttr, eGraph, eStep, eSchema, eObj]; done) | (refine Sh.trans (Sh.frz 5 2 rfl rfl) (Sh.wk0 ?_); simp [Wk, go_sem, simprocAttr, eGraph, eStep, eSchema, eObj]; done) | (refine ⟨rfl, Sh.wk0 ?_⟩; rw [hF2a]; simp [Wk, go_sem, simprocAttr, eGraph, eStep, eSchema, eObj]; done) | (refine Sh.wk0 ?_; rw [hF2a]; simp [Wk, go_sem, simprocAttr, eGraph, eStep, eSchema, eObj]; done)
          · have hb : ¬ (o.T = t ∧ x.Do = 1) := by
              intro h
              simp [h.1, h.2] at ct87
            have hF2a : F2 = F1 := by
              rw [hF1, hF2]; unfold gradeO gradeF
              by_cases hT : o.T = t
              · by_cases h0 : x.Do = 0
                · rw [if_pos hT, if_pos h0, if_pos ⟨hT, h0⟩]
                · rw [if_pos hT, if_neg h0, if_neg (fun h => hb ⟨hT, h⟩), if_neg (fun h => h0 h.2)]
              · rw [if_neg hT, if_neg (fun h => hT h.1)]
            refine CW.skip ?_
            first | (refine ⟨rfl, Sh.trans (Sh.frz 5 2 rfl rfl) (Sh.wk0 ?_)⟩; simp [Wk, go_sem, simprocAttr, eGraph, eStep, eSchema, eObj]; done) | (refine Sh.trans (Sh.frz 5 2 rfl rfl) (Sh.wk0 ?_); simp [Wk, go_sem, simprocAttr, eGraph, eStep, eSchema, eObj]; done) | (refine ⟨rfl, Sh.wk0 ?_⟩; rw [hF2a]; simp [Wk, go_sem, simprocAttr, eGraph, eStep, eSchema, eObj]; done) | (refine Sh.wk0 ?_; rw [hF2a]; simp [Wk, go_sem, simprocAttr, eGraph, eStep, eSchema, eObj]; done)
        refine CW.rg ?_
        refine CWops.run htt 7 (by simp only [go_sem, simprocAttr, eObj, List.replicate]; exact rfl) (by simp [AV.cell, AV.tree, eObj, MX] <;> omega) ?_
        refine CWops.done ?_
        refine CW.rg ?_
        refine CWops.run htt 3 (by simp only [go_sem, simprocAttr, wrap_succ (show i < MX by unfold MX; omega)]; exact rfl) (by simp [go_sem, simprocAttr, wrap_succ (show i < MX by unfold MX; omega)]) ?_
        refine CWops.done ?_
        refine ⟨i + 1, ?_, ?_, ?_⟩
        · refine Sh.wk0 ?_
          dsimp only
          simp [Wk, go_sem, simprocAttr, List.take_add_one, ho, hF2o, eObj, eGraph, eStep, eSchema]
        · exact hi
        · simp only; omega
      · have hi : i = g.O.length := by simp at ct53; omega
        rw [hi, List.take_length]
        refine CW.exit ?_
        refine CW.seq ?_
        refine CW.rg ?_
        refine CWops.rn htt 3 ?_
        refine CWops.done ?_
        refine CW.ret ?_
        refine retQ.ret (by simp only [f19, go_sem, simprocAttr]; exact rfl) (by simp only [go_sem, simprocAttr]; exact rfl) ?_ -- ret3
        refine ⟨_, ?_, rfl⟩
        simp [leP, leL, eGraph]
end Go.Ab
namespace Go.Ab
open Go Go.Proofs.Try
open Nat (reduceEqDiff reduceAdd reduceLT reduceLeDiff reduceBEq reduceSub reduceMul)
open Int (reduceToNat)
set_option maxRecDepth 100000
set_option maxHeartbeats 3200000
set_option linter.unusedSimpArgs false
set_option linter.unusedVariables false
theorem ref13_All (up : Bool) (g : Graph) (l : List GStep) (hsm : smallS g.S) (hN : nOK g) (hx : ∀ x ∈ l, x.F.Name.size ≤ 1048576) : PCall prog up 21 [.agg (eGraph g), .sl 5 (l.map eStep)] (· = .tup [.agg (eGraph (gAll g l).1), .int .i64 (gAll g l).2]) := by
  refine PCall.intro htt func21 (by kernel_rfl) rfl (Nat.le_of_ble_eq_true rfl) fun hl => ?_

  simp only [tmps0, Nat.reduceAdd]
  refine CW.seq ?_
  refine CW.rg ?_
  refine CWops.run htt 3 (by simp only [go_sem, simprocAttr, eGraph]; exact rfl) (by simp [go_sem, simprocAttr, eGraph]) ?_
  refine CWops.done ?_
  refine CW.seq ?_
  refine CW.rg ?_
  refine CWops.run htt 1 (by simp only [go_sem, simprocAttr, eGraph]; exact rfl) (by simp [go_sem, simprocAttr, eGraph]) ?_
  refine CWops.call (ref08_May up g hsm hN) (by simp only [go_sem, simprocAttr, eGraph]) (by simp only [go_sem, simprocAttr, eGraph]; first | done | exact rfl) (by simp only [go_sem, simprocAttr, eGraph]) (fun rt11 hrt11 => ?_)
  subst hrt11; refine ⟨rfl, ?_⟩
  refine CWops.run htt 1 (by simp only [go_sem, simprocAttr, eGraph]; exact rfl) (by simp [go_sem, simprocAttr, eGraph]) ?_
  refine CWops.done ?_
  refine CW.seq ?_
  refine CW.seq ?_
  refine CW.rg ?_
  refine CWops.rn htt 2 ?_
  refine CWops.done ?_
  refine CW.cond (by simp only [go_sem, simprocAttr]; first | done | exact rfl) (fun ct13 => ?_) (fun ct13 => ?_)
  · have hm : gMay g = false := by simpa using ct13
    refine CW.seq ?_
    refine CW.rg ?_
    refine CWops.rn htt 3 ?_
    refine CWops.done ?_
    refine CW.ret ?_
    refine retQ.ret (by simp only [f21, go_sem, simprocAttr]; exact rfl) (by simp only [go_sem, simprocAttr]; exact rfl) ?_ -- ret1
    refine ⟨_, ?_, rfl⟩
    simp [leP, leL, gAll, hm, eGraph]
  · have hm : gMay g = true := by simpa using ct13
    refine CW.skip ?_
    refine CW.seq ?_
    refine CW.seq ?_
    refine CW.rg ?_
    refine CWops.rn htt 3 ?_
    refine CWops.done ?_
    refine CW.cond (by simp only [go_sem, simprocAttr]; first | done | exact rfl) (fun ct17 => ?_) (fun ct17 => ?_)
    · have h8 : 8 < l.length := by simp at ct17; omega
      refine CW.seq ?_
      refine CW.rg ?_
      refine CWops.rn htt 3 ?_
      refine CWops.done ?_
      refine CW.ret ?_
      refine retQ.ret (by simp only [f21, go_sem, simprocAttr]; exact rfl) (by simp only [go_sem, simprocAttr]; exact rfl) ?_ -- ret2
      refine ⟨_, ?_, rfl⟩
      simp [leP, leL, gAll, hm, h8, eGraph]
    · have h8 : l.length ≤ 8 := by simp at ct17; omega
      refine CW.skip ?_
      refine CW.seq ?_
      refine CW.seq ?_
      refine CW.rg ?_
      refine CWops.rn htt 1 ?_
      refine CWops.done ?_
      refine CW.block ?_
      refine CW.loop (S := Nat × Graph) (fun p => ⟨2, [(1, .sl 5 (l.map eStep)), (2, .lv 0 [] 0), (4, .lv 1 [] 0), (5, .int .i64 0), (7, .int .i64 p.1)], [(0, ⟨true, eGraph p.2⟩), (1, ⟨true, [.nilsl, .nilsl, .nilsl]⟩)]⟩) (fun p => p.1 ≤ l.length ∧ gAllF (l.drop p.1) p.2 = gAllF l g ∧ smallS p.2.S ∧ nOK p.2) (fun p => l.length - p.1) ((0, g)) ?_ ⟨Nat.zero_le _, rfl, hsm, hN⟩ (fun ⟨i, r⟩ hI => ?_)
      · refine Sh.wk0 ?_; simp [Wk, go_sem, simprocAttr, eGraph]
      simp only at hI
      refine CW.seq ?_
      refine CW.seq ?_
      refine CW.rg ?_
      refine CWops.rn htt 4 ?_
      refine CWops.done ?_
      refine CW.cond (by simp only [go_sem, simprocAttr]; first | done | exact rfl) (fun ct22 => ?_) (fun ct22 => ?_)
      · have hi : i < l.length := by simpa using ct22
        obtain ⟨x, hxi⟩ : ∃ x, l[i]? = some x := ⟨l[i], List.getElem?_eq_getElem hi⟩
        have hx2 := hx x (List.mem_of_getElem? hxi)
        have hdr : l.drop i = x :: l.drop (i + 1) := by
          rw [List.drop_eq_getElem_cons hi]; congr 1; exact (List.getElem?_eq_some_iff.1 hxi).2
        have hst := hI.2.1
        have hsm2 := hI.2.2.1
        have hN2 := hI.2.2.2
        rw [hdr] at hst
        obtain ⟨⟨h, e⟩, hG⟩ : ∃ p, gGrade r x = p := ⟨_, rfl⟩
        simp only [gAllF, hG] at hst
        have hsm3 : smallS h.S := by have := grade_small hsm2 hx2; rw [hG] at this; exact this
        have hN3 : nOK h := by have := grade_nOK x hN2; rw [hG] at this; exact this
        refine CW.skip ?_
        refine CW.seq ?_
        refine CW.block ?_
        refine CW.seq ?_
        refine CW.drawnF mixed 10 11 [8] (D := [33]) (by decide) (by decide) (by kernel_rfl) (by kernel_rfl) rfl (by kernel_rfl) (by kernel_rfl) ?_
        refine Seg.run htt 5 (by simp only [go_sem, simprocAttr, hi, hxi, eGraph, eStep]; exact rfl) ?_
        refine Seg.callA ((by have := ref13_Graph up r x hsm2 hN2 hx2; rw [hG] at this; exact this)) (by simp only [go_sem, simprocAttr, hi, hxi, eGraph, eStep]) (by simp only [go_sem, simprocAttr, hi, hxi, eGraph, eStep]; first | done | exact rfl) (by simp only [go_sem, simprocAttr, hi, hxi, eGraph, eStep]) (by simp only [go_sem, simprocAttr, hi, hxi, eGraph, eStep]) ?_
        refine Seg.run htt 4 (by simp only [go_sem, simprocAttr, hi, hxi, eGraph, eStep]; exact rfl) ?_
        refine Seg.done ?_
        refine Mid.sto htt (Flo.cons htt rfl rfl (by simp only [go_sem, simprocAttr, hi, hxi, eGraph, eStep]; first | done | exact rfl) (Flo.nil)) (fun u => by simp only [go_sem, simprocAttr, hi, hxi, eGraph, eStep]; exact rfl) ?_
        refine Mid.done (Flo.cons htt rfl rfl (by simp only [go_sem, simprocAttr, hi, hxi, eGraph, eStep]; first | done | exact rfl) (Flo.nil)) ?_
        refine CWops.run htt 1 (by simp only [go_sem, simprocAttr, hi, hxi, eGraph, eStep]; exact rfl) (by simp [go_sem, simprocAttr, hi, hxi, eGraph, eStep]) ?_
        refine CWops.done ?_
        refine CW.seq ?_
        refine CW.seq ?_
        refine CW.rg ?_
        refine CWops.rn htt 2 ?_
        refine CWops.done ?_
        refine CW.cond (by simp only [go_sem, simprocAttr]; first | done | exact rfl) (fun ct35 => ?_) (fun ct35 => ?_)
        · have he : ¬ e = 0 := by simpa using ct35
          rw [if_neg he] at hst
          refine CW.seq ?_
          refine CW.rg ?_
          refine CWops.rn htt 4 ?_
          refine CWops.done ?_
          refine CW.ret ?_
          refine retQ.ret (by simp only [f21, go_sem, simprocAttr]; exact rfl) (by simp only [go_sem, simprocAttr]; exact rfl) ?_ -- ret3
          refine ⟨_, ?_, rfl⟩
          have e2 : gAll g l = (⟨[], [], []⟩, e) := by unfold gAll; rw [if_neg (by rw [hm]; decide), if_neg (by omega), ← hst]
          simp [leP, leL, e2, eGraph]
        · have he : e = 0 := by simpa using ct35
          rw [if_pos he] at hst
          refine CW.skip ?_
          refine CW.rg ?_
          refine CWops.run htt 2 (by simp only [go_sem, simprocAttr, eGraph]; exact rfl) (by simp [go_sem, simprocAttr, eGraph]) ?_
          refine CWops.done ?_
          refine CW.rg ?_
          refine CWops.run htt 3 (by simp only [go_sem, simprocAttr, wrap_succ (show i < MX by unfold MX; omega)]; exact rfl) (by simp [go_sem, simprocAttr, wrap_succ (show i < MX by unfold MX; omega)]) ?_
          refine CWops.done ?_
          refine ⟨(i + 1, h), ?_, ?_, ?_⟩
          · refine Sh.wk0 ?_; simp [Wk, go_sem, simprocAttr, eGraph]
          · exact ⟨hi, hst, hsm3, hN3⟩
          · simp only; omega
      · have hi : i = l.length := by have := hI.1; simp at ct22; omega
        have hst := hI.2.1
        rw [hi, List.drop_length] at hst
        simp only [gAllF] at hst
        refine CW.exit ?_
        refine CW.seq ?_
        refine CW.rg ?_
        refine CWops.run htt 3 (by simp only [go_sem, simprocAttr, eGraph]; exact rfl) (by simp [go_sem, simprocAttr, eGraph]) ?_
        refine CWops.done ?_
        refine CW.ret ?_
        refine retQ.ret (by simp only [f21, go_sem, simprocAttr]; exact rfl) (by simp only [go_sem, simprocAttr]; exact rfl) ?_ -- ret4
        refine ⟨_, ?_, rfl⟩
        have e2 : gAll g l = (r, 0) := by unfold gAll; rw [if_neg (by rw [hm]; decide), if_neg (by omega), ← hst]
        simp [leP, leL, e2, eGraph]
theorem ref13_between (up : Bool) (a b : GType) (ha : a.F.length ≤ 5) (hb5 : b.F.length ≤ 5) : PCall prog up 59 [.agg (eType a), .agg (eType b)] (· = .tup [.sl 5 ((betw a b).1.map eStep), .bool (betw a b).2]) := by
  refine PCall.intro htt func59 (by kernel_rfl) rfl (Nat.le_of_ble_eq_true rfl) fun hl => ?_

  simp only [tmps0, Nat.reduceAdd]
  refine CW.seq ?_
  refine CW.rg ?_
  refine CWops.run htt 4 (by simp only [go_sem, simprocAttr, eType]; exact rfl) (by simp [go_sem, simprocAttr, eType]) ?_
  refine CWops.done ?_
  refine CW.seq ?_
  refine CW.rg ?_
  refine CWops.rn htt 1 ?_
  refine CWops.done ?_
  refine CW.seq ?_
  refine CW.rg ?_
  refine CWops.rn htt 1 ?_
  refine CWops.done ?_
  refine CW.seq ?_
  refine CW.rg ?_
  refine CWops.rn htt 1 ?_
  refine CWops.done ?_
  refine CW.seq ?_
  refine CW.seq ?_
  refine CW.rg ?_
  refine CWops.rn htt 1 ?_
  refine CWops.done ?_
  refine CW.block ?_
  refine CW.loop (S := Nat × Nat × List GStep × List GStep) (fun p => ⟨4, [(2, .lv 0 [] 0), (3, .lv 1 [] 0), (4, .nilsl), (5, .bool false), (6, .ref 2 [] 0), (7, .ref 3 [] 0), (8, .int .i64 p.2.1), (9, .int .i64 p.1)], [(0, ⟨true, eType a⟩), (1, ⟨true, eType b⟩), (2, ⟨false, [.own 5 (p.2.2.1.map eStep)]⟩), (3, ⟨false, [.own 5 (p.2.2.2.map eStep)]⟩)]⟩) (fun p => BI a b p.1 p.2.1 p.2.2.1 p.2.2.2) (fun p => a.F.length - p.1) ((0, 0, [], [])) ?_ (BI.start a b) (fun ⟨i, kept, d, w⟩ hB => ?_)
  · refine Sh.trans (Sh.nilRoot 6 5 (by simp only [go_sem, simprocAttr]) rfl) (Sh.trans (Sh.nilRoot 7 5 (by simp only [go_sem, simprocAttr]) rfl) (Sh.wk0 ?_)); simp [Wk, go_sem, simprocAttr, eType, ex_func, SubL, Sub]
  simp only at hB
  refine CW.seq ?_
  refine CW.seq ?_
  refine CW.rg ?_
  refine CWops.run htt 5 (by simp only [go_sem, simprocAttr, eType]; exact rfl) (by simp [go_sem, simprocAttr, eType]) ?_
  refine CWops.done ?_
  refine CW.cond (by simp only [go_sem, simprocAttr]; first | done | exact rfl) (fun ct18 => ?_) (fun ct18 => ?_)
  · have hi : i < a.F.length := by simpa using ct18
    obtain ⟨f, hf⟩ : ∃ x, a.F[i]? = some x := ⟨a.F[i], List.getElem?_eq_getElem hi⟩
    have hld := hB.ld
    have hlw := hB.lw
    have hlk := hB.lk
    refine CW.skip ?_
    refine CW.seq ?_
    refine CW.block ?_
    refine CW.seq ?_
    refine CW.drawn mixed 7 (by decide) (by kernel_rfl) (by kernel_rfl) (by kernel_rfl) ?_
    refine Seg.run htt 7 (by simp only [go_sem, simprocAttr, eType, hf, hi, eField]; exact rfl) ?_
    refine Seg.done ?_
    refine CWops.call (ref06_Field up b f.Name) (by simp only [go_sem, simprocAttr, eType, hf, hi, eField]) (by simp only [go_sem, simprocAttr, eType, hf, hi, eField]; first | done | exact rfl) (by simp only [go_sem, simprocAttr, eType, hf, hi, eField]) (fun rt28 hrt28 => ?_)
    subst hrt28; refine ⟨rfl, ?_⟩
    refine CWops.run htt 1 (by simp only [go_sem, simprocAttr, eType, hf, hi, eField]; exact rfl) (by simp [go_sem, simprocAttr, eType, hf, hi, eField]) ?_
    refine CWops.done ?_
    refine CW.seq ?_
    refine CW.seq ?_
    refine CW.rg ?_
    refine CWops.rn htt 2 ?_
    refine CWops.done ?_
    refine CW.cond (by simp only [go_sem, simprocAttr]; first | done | exact rfl) (fun ct30 => ?_) (fun ct30 => ?_)
    · have hn : b.F.findIdx? (fun g => decide (g.Name = f.Name)) = none := by
        rcases find_cases (fun o : GField => decide (o.Name = f.Name)) b.F with ⟨_, _, h⟩ | ⟨k, g, h1, _⟩
        · exact h
        · exfalso; rw [h1] at ct30; simp at ct30; omega
      obtain ⟨p', hp'⟩ : ∃ p' : Nat × Nat × List GStep × List GStep, p' = (i + 1, kept, d ++ [⟨1, a.Name, f⟩], w) := ⟨_, rfl⟩
      refine CW.seq ?_
      refine CW.drawn mixed 10 (by decide) (by kernel_rfl) (by kernel_rfl) (by kernel_rfl) ?_
      refine Seg.run htt 10 (by simp only [go_sem, simprocAttr, eType, hf, hi, eField, eStep, List.replicate]; exact rfl) ?_
      refine Seg.done ?_
      refine CWops.run htt 2 (by simp only [go_sem, simprocAttr, eType, hf, hi, eField, eStep, List.replicate]; exact rfl) (by simp [AV.cell, AV.tree, eStep, MX] <;> omega) ?_
      refine CWops.done ?_
      refine CW.exit ?_
      refine CW.rg ?_
      refine CWops.run htt 3 (by simp only [go_sem, simprocAttr, wrap_succ (show i < MX by unfold MX; omega)]; exact rfl) (by simp [go_sem, simprocAttr, wrap_succ (show i < MX by unfold MX; omega)]) ?_
      refine CWops.done ?_
      refine ⟨p', ?_, ?_, ?_⟩
      · subst hp'; first | (refine Sh.wk (fun x => if x = 2 then 5 else x) ?_; simp [Wk, go_sem, simprocAttr, eType, eStep, ex_func, SubL, Sub]; done) | (refine Sh.wk (fun x => if x = 3 then 5 else x) ?_; simp [Wk, go_sem, simprocAttr, eType, eStep, ex_func, SubL, Sub]; done) | (refine Sh.wk0 ?_; simp [Wk, go_sem, simprocAttr, eType, eStep, ex_func, SubL, Sub]; done)
      · subst hp'; first | exact hB.drop hf hn | exact hB.wide hf hn hg hw | exact hB.same hf hn hg hw
      · subst hp'; simp only; omega
    · obtain ⟨k, g, hk1, hg, hn⟩ : ∃ (k : Nat) (g : GField), fnd (fun o : GField => decide (o.Name = f.Name)) b.F = k ∧ b.F[k]? = some g ∧ b.F.findIdx? (fun g => decide (g.Name = f.Name)) = some k := by
        rcases find_cases (fun o : GField => decide (o.Name = f.Name)) b.F with ⟨h, _, _⟩ | ⟨k, g, h1, h2, _, h4, _⟩
        · exfalso; rw [h] at ct30; simp at ct30
        · exact ⟨k, g, h1, h2, h4⟩
      simp only [hk1]
      have hkl := (List.getElem?_eq_some_iff.1 hg).1
      refine CW.skip ?_
      refine CW.seq ?_
      refine CW.drawn mixed 12 (by decide) (by kernel_rfl) (by kernel_rfl) (by kernel_rfl) ?_
      refine Seg.run htt 12 (by simp only [go_sem, simprocAttr, eType, hf, hi, eField, hkl, hg]; exact rfl) ?_
      refine Seg.done ?_
      refine CWops.callA (ref13_wider up g.Kind f.Kind) (by simp only [go_sem, simprocAttr, eType, hf, hi, eField, hkl, hg]) (by simp only [go_sem, simprocAttr, eType, hf, hi, eField, hkl, hg]; first | done | exact rfl) (by simp only [go_sem, simprocAttr, eType, hf, hi, eField, hkl, hg]) (by simp only [go_sem, simprocAttr, eType, hf, hi, eField, hkl, hg]) (fun rt54 hrt54 => ?_)
      subst hrt54
      refine CWops.run htt 1 (by simp only [go_sem, simprocAttr, eType, hf, hi, eField, hkl, hg]; exact rfl) (by simp [go_sem, simprocAttr, eType, hf, hi, eField, hkl, hg]) ?_
      refine CWops.done ?_
      refine CW.seq ?_
      refine CW.cut ⟨4, [(2, .lv 0 [] 0), (3, .lv 1 [] 0), (4, .nilsl), (5, .bool false), (6, .ref 2 [] 0), (7, .ref 3 [] 0), (8, .int .i64 kept), (9, .int .i64 i), (10, .int .i64 k), (11, .bool (wider g.Kind f.Kind)), (74, .bool (!(decide (k = kept) && (decide (g = f) || wider g.Kind f.Kind))))], [(0, ⟨true, eType a⟩), (1, ⟨true, eType b⟩), (2, ⟨false, [.own 5 (d.map eStep)]⟩), (3, ⟨false, [.own 5 (w.map eStep)]⟩)]⟩ ?_ ?_
      · refine CW.drawn mixed 14 (by decide) (by kernel_rfl) (by kernel_rfl) (by kernel_rfl) ?_
        refine Seg.run htt 4 (by simp only [go_sem, simprocAttr, eType, hf, hi, eField, hkl, hg]; exact rfl) ?_
        all_goals (first | refine Seg.guard 58 (by simp only [go_sem, simprocAttr, eType, hf, hi, eField, hkl, hg]; exact rfl) (fun g58 => ?_) (fun g58 => ?_) | skip)
        all_goals (skip)
        all_goals (refine Seg.run htt 10 (by simp only [go_sem, simprocAttr, eType, hf, hi, eField, hkl, hg]; exact rfl) ?_)
        all_goals (refine Seg.done ?_)
        all_goals (refine CWops.run htt 2 (by simp only [go_sem, simprocAttr, eType, hf, hi, eField, hkl, hg]; exact rfl) (by simp [go_sem, simprocAttr, eType, hf, hi, eField, hkl, hg]) ?_)
        all_goals (first | refine CWops.guard 70 (by simp only [go_sem, simprocAttr, eType, hf, hi, eField, hkl, hg]; exact rfl) (fun g70 => ?_) (fun g70 => ?_) | skip)
        all_goals (skip)
        all_goals (refine CWops.run htt 4 (by simp only [go_sem, simprocAttr, eType, hf, hi, eField, hkl, hg]; exact rfl) (by simp [go_sem, simprocAttr, eType, hf, hi, eField, hkl, hg]) ?_)
        all_goals (refine CWops.done ?_)
        all_goals (
          first | refine ⟨rfl, Sh.wk0 ?_⟩ | refine Sh.wk0 ?_
          have hgx : decide (g = f) = (decide (g.Name = f.Name) && (decide (g.Kind = f.Kind) && decide (g.To = f.To))) := by rw [Bool.eq_iff_iff]; simp only [decide_eq_true_eq, Bool.and_eq_true, GField.ext_iff']
          rw [hgx]
          clear hl hB hgx hf hg hn
          first | (simp_all [Wk, go_sem, simprocAttr, eType, eStep, ex_func, SubL, Sub]; done) | (by_cases hkk : k = kept <;> cases hw : wider g.Kind f.Kind <;> simp_all [Wk, go_sem, simprocAttr, eType, eStep, ex_func, SubL, Sub] <;> omega))
      refine CW.cond (by simp only [go_sem, simprocAttr]; first | done | exact rfl) (fun ct74 => ?_) (fun ct74 => ?_)
      · have hbad : betw a b = ([], false) := by
          by_cases hkk : k = kept
          · subst hkk
            have hw : wider g.Kind f.Kind = false := by
              cases h : wider g.Kind f.Kind with
              | false => rfl
              | true => exfalso; simp [h] at ct74
            have hne : ¬ g = f := by intro e; subst e; simp at ct74
            exact hB.bad2 hf hn hg hw hne
          · exact hB.bad1 hf hn hkk
        refine CW.seq ?_
        refine CW.rg ?_
        refine CWops.rn htt 2 ?_
        refine CWops.done ?_
        refine CW.ret ?_
        refine retQ.ret (by simp only [f59, go_sem, simprocAttr]; exact rfl) (by simp only [go_sem, simprocAttr]; exact rfl) ?_ -- ret1
        refine ⟨_, ?_, rfl⟩
        first | (rw [hbad]; simp [leP, leL]; done) | (rw [hB.done]; simp [leP, leL]; done)
      · have hkk : k = kept ∧ (g = f ∨ wider g.Kind f.Kind = true) := by
          have h9 := ct74
          simp at h9
          refine ⟨h9.1, ?_⟩
          by_cases h : g = f
          · exact .inl h
          · exact .inr (h9.2 h)
        obtain ⟨rfl, hgw⟩ := hkk
        refine CW.skip ?_
        refine CW.seq ?_
        refine CW.seq ?_
        refine CW.rg ?_
        refine CWops.rn htt 1 ?_
        refine CWops.done ?_
        refine CW.cond (by simp only [go_sem, simprocAttr]; first | done | exact rfl) (fun ct75 => ?_) (fun ct75 => ?_)
        · have hw : wider g.Kind f.Kind = true := by simpa using ct75
          obtain ⟨p', hp'⟩ : ∃ p' : Nat × Nat × List GStep × List GStep, p' = (i + 1, k + 1, d, w ++ [⟨2, a.Name, g⟩]) := ⟨_, rfl⟩
          refine CW.drawn mixed 10 (by decide) (by kernel_rfl) (by kernel_rfl) (by kernel_rfl) ?_
          refine Seg.run htt 10 (by simp only [go_sem, simprocAttr, eType, eField, hkl, hg, eStep, List.replicate]; exact rfl) ?_
          refine Seg.done ?_
          refine CWops.run htt 2 (by simp only [go_sem, simprocAttr, eType, eField, hkl, hg, eStep, List.replicate]; exact rfl) (by simp [AV.cell, AV.tree, eStep, MX] <;> omega) ?_
          refine CWops.done ?_
          refine CW.rg ?_
          refine CWops.run htt 3 (by simp only [go_sem, simprocAttr, wrap_succ (show k < MX by unfold MX; omega)]; exact rfl) (by simp [go_sem, simprocAttr, wrap_succ (show k < MX by unfold MX; omega)]) ?_
          refine CWops.done ?_
          refine CW.rg ?_
          refine CWops.run htt 3 (by simp only [go_sem, simprocAttr, wrap_succ (show i < MX by unfold MX; omega)]; exact rfl) (by simp [go_sem, simprocAttr, wrap_succ (show i < MX by unfold MX; omega)]) ?_
          refine CWops.done ?_
          refine ⟨p', ?_, ?_, ?_⟩
          · subst hp'; first | (refine Sh.wk (fun x => if x = 2 then 5 else x) ?_; simp [Wk, go_sem, simprocAttr, eType, eStep, ex_func, SubL, Sub]; done) | (refine Sh.wk (fun x => if x = 3 then 5 else x) ?_; simp [Wk, go_sem, simprocAttr, eType, eStep, ex_func, SubL, Sub]; done) | (refine Sh.wk0 ?_; simp [Wk, go_sem, simprocAttr, eType, eStep, ex_func, SubL, Sub]; done)
          · subst hp'; first | exact hB.drop hf hn | exact hB.wide hf hn hg hw | exact hB.same hf hn hg hw
          · subst hp'; simp only; omega
        · have hw : wider g.Kind f.Kind = false := by simpa using ct75
          have hgf : g = f := hgw.resolve_right (by rw [hw]; simp)
          subst hgf
          obtain ⟨p', hp'⟩ : ∃ p' : Nat × Nat × List GStep × List GStep, p' = (i + 1, k + 1, d, w) := ⟨_, rfl⟩
          refine CW.skip ?_
          refine CW.rg ?_
          refine CWops.run htt 3 (by simp only [go_sem, simprocAttr, wrap_succ (show k < MX by unfold MX; omega)]; exact rfl) (by simp [go_sem, simprocAttr, wrap_succ (show k < MX by unfold MX; omega)]) ?_
          refine CWops.done ?_
          refine CW.rg ?_
          refine CWops.run htt 3 (by simp only [go_sem, simprocAttr, wrap_succ (show i < MX by unfold MX; omega)]; exact rfl) (by simp [go_sem, simprocAttr, wrap_succ (show i < MX by unfold MX; omega)]) ?_
          refine CWops.done ?_
          refine ⟨p', ?_, ?_, ?_⟩
          · subst hp'; first | (refine Sh.wk (fun x => if x = 2 then 5 else x) ?_; simp [Wk, go_sem, simprocAttr, eType, eStep, ex_func, SubL, Sub]; done) | (refine Sh.wk (fun x => if x = 3 then 5 else x) ?_; simp [Wk, go_sem, simprocAttr, eType, eStep, ex_func, SubL, Sub]; done) | (refine Sh.wk0 ?_; simp [Wk, go_sem, simprocAttr, eType, eStep, ex_func, SubL, Sub]; done)
          · subst hp'; first | exact hB.drop hf hn | exact hB.wide hf hn hg hw | exact hB.same hf hn hg hw
          · subst hp'; simp only; omega
  · have hi : i = a.F.length := by have := hB.li; simp at ct18; omega
    subst hi
    have hlk := hB.lk
    have hld := hB.ld
    have hlw := hB.lw
    refine CW.exit ?_
    refine CW.seq ?_
    refine CW.rg ?_
    refine CWops.run htt 5 (by simp only [go_sem, simprocAttr]; exact rfl) (by refine ⟨⟨fun r hr c hc => ?_, ?_, ?_⟩, fun r hr c hc => ?_, ?_, ?_⟩ <;> first | (obtain ⟨f9, _, rfl⟩ := List.mem_map.1 hr; simp [eStep] at hc; rcases hc with rfl | rfl | rfl | rfl | rfl <;> rfl) | (simp [MX]; omega)) ?_
    refine CWops.done ?_
    refine CW.seq ?_
    refine CW.seq ?_
    refine CW.rg ?_
    refine CWops.rn htt 2 ?_
    refine CWops.done ?_
    refine CW.block ?_
    refine CW.loop (S := Nat) (fun j => ⟨3, [(2, .lv 0 [] 0), (3, .lv 1 [] 0), (4, .nilsl), (5, .bool false), (12, .ref 2 [] 0), (13, .int .i64 ((kept + j : Nat) : Int))], [(0, ⟨true, eType a⟩), (1, ⟨true, eType b⟩), (2, ⟨false, [.own 5 ((d ++ w ++ ((b.F.drop kept).take j).map fun f => (⟨0, a.Name, f⟩ : GStep)).map eStep)]⟩)]⟩) (fun j => j ≤ (b.F.drop kept).length) (fun j => (b.F.drop kept).length - j) (0) ?_ (Nat.zero_le _) (fun j h3 => ?_)
    · first | (refine Sh.wk (fun x => if x = 2 then 5 else x) ?_; simp [Wk, go_sem, simprocAttr, eType, ex_func, SubL, Sub]; done) | (refine Sh.wk (fun x => if x = 2 then 4 else x) ?_; simp [Wk, go_sem, simprocAttr, eType, ex_func, SubL, Sub]; done)
    refine CW.seq ?_
    refine CW.seq ?_
    refine CW.rg ?_
    refine CWops.run htt 5 (by simp only [go_sem, simprocAttr, eType]; exact rfl) (by simp [go_sem, simprocAttr, eType]) ?_
    refine CWops.done ?_
    refine CW.cond (by simp only [go_sem, simprocAttr]; first | done | exact rfl) (fun ct98 => ?_) (fun ct98 => ?_)
    · have hj : j < (b.F.drop kept).length := by simp at ct98 ⊢; omega
      obtain ⟨fj, hfj0⟩ : ∃ x, (b.F.drop kept)[j]? = some x := ⟨_, List.getElem?_eq_getElem hj⟩
      have hfj : b.F[kept + j]? = some fj := by rw [List.getElem?_drop] at hfj0; exact hfj0
      have hjl := (List.getElem?_eq_some_iff.1 hfj).1
      refine CW.skip ?_
      refine CW.seq ?_
      refine CW.block ?_
      refine CW.drawn mixed 10 (by decide) (by kernel_rfl) (by kernel_rfl) (by kernel_rfl) ?_
      refine Seg.run htt 10 (by simp only [go_sem, simprocAttr, eType, hfj, hjl, eField, eStep, List.replicate]; exact rfl) ?_
      refine Seg.done ?_
      refine CWops.run htt 2 (by simp only [go_sem, simprocAttr, eType, hfj, hjl, eField, eStep, List.replicate]; exact rfl) (by simp [AV.cell, AV.tree, eStep, MX] <;> omega) ?_
      refine CWops.done ?_
      refine CW.rg ?_
      refine CWops.run htt 3 (by simp only [go_sem, simprocAttr, wrap_succ (show kept + j < MX by unfold MX; omega)]; exact rfl) (by simp [go_sem, simprocAttr, wrap_succ (show kept + j < MX by unfold MX; omega)]) ?_
      refine CWops.done ?_
      refine ⟨j + 1, ?_, ?_, ?_⟩
      · refine Sh.wk (fun x => if x = 2 then 4 else x) ?_
        dsimp only
        simp [Wk, go_sem, simprocAttr, eType, List.take_add_one, hfj0, eStep, Nat.add_assoc, ex_func, SubL, Sub]
      · exact hj
      · simp only; omega
    · have hj : j = (b.F.drop kept).length := by have h9 := h3; simp at ct98 h9 ⊢; omega
      rw [hj, List.take_length]
      refine CW.exit ?_
      refine CW.seq ?_
      refine CW.sh (Sh.frzT 12 2 rfl rfl rfl) ?_
      simp only [go_sem, simprocAttr]
      refine CW.rg ?_
      refine CWops.rn htt 3 ?_
      refine CWops.done ?_
      refine CW.ret ?_
      refine retQ.ret (by simp only [f59, go_sem, simprocAttr]; exact rfl) (by simp only [go_sem, simprocAttr]; exact rfl) ?_ -- ret2
      refine ⟨_, ?_, rfl⟩
      first | (rw [hbad]; simp [leP, leL]; done) | (rw [hB.done]; simp [leP, leL]; done)
end Go.Ab
namespace Go.Ab
open Go Go.Proofs.Try
open Nat (reduceEqDiff reduceAdd reduceLT reduceLeDiff reduceBEq reduceSub reduceMul)
open Int (reduceToNat)
set_option maxRecDepth 100000
set_option maxHeartbeats 3200000
set_option linter.unusedSimpArgs false
set_option linter.unusedVariables false
theorem ref13_Between (up : Bool) (s t : List GType) (hss : smallS s) (hst : smallS t) : PCall prog up 23 [.agg (eSchema s), .agg (eSchema t)] (· = .tup [.sl 5 ((gBetween s t).1.map eStep), .bool (gBetween s t).2]) := by
  refine PCall.intro htt func23 (by kernel_rfl) rfl (Nat.le_of_ble_eq_true rfl) fun hl => ?_

  simp only [tmps0, Nat.reduceAdd]
  refine CW.seq ?_
  refine CW.rg ?_
  refine CWops.run htt 4 (by simp only [go_sem, simprocAttr, eSchema]; exact rfl) (by simp [go_sem, simprocAttr, eSchema]) ?_
  refine CWops.done ?_
  refine CW.seq ?_
  refine CW.rg ?_
  refine CWops.run htt 1 (by simp only [go_sem, simprocAttr, eSchema]; exact rfl) (by simp [go_sem, simprocAttr, eSchema]) ?_
  refine CWops.call (ref06_May up s hss) (by simp only [go_sem, simprocAttr, eSchema]) (by simp only [go_sem, simprocAttr, eSchema]; first | done | exact rfl) (by simp only [go_sem, simprocAttr, eSchema]) (fun rt13 hrt13 => ?_)
  subst hrt13; refine ⟨rfl, ?_⟩
  refine CWops.run htt 1 (by simp only [go_sem, simprocAttr, eSchema]; exact rfl) (by simp [go_sem, simprocAttr, eSchema]) ?_
  refine CWops.done ?_
  refine CW.seq ?_
  refine CW.rg ?_
  refine CWops.run htt 1 (by simp only [go_sem, simprocAttr, eSchema]; exact rfl) (by simp [go_sem, simprocAttr, eSchema]) ?_
  refine CWops.call (ref06_May up t hst) (by simp only [go_sem, simprocAttr, eSchema]) (by simp only [go_sem, simprocAttr, eSchema]; first | done | exact rfl) (by simp only [go_sem, simprocAttr, eSchema]) (fun rt15 hrt15 => ?_)
  subst hrt15; refine ⟨rfl, ?_⟩
  refine CWops.run htt 1 (by simp only [go_sem, simprocAttr, eSchema]; exact rfl) (by simp [go_sem, simprocAttr, eSchema]) ?_
  refine CWops.done ?_
  refine CW.seq ?_
  refine CW.cut ⟨2, [(2, .lv 0 [] 0), (3, .lv 1 [] 0), (4, .nilsl), (5, .bool false), (30, .bool (!((schemaMay s && schemaMay t) && decide (s.length = t.length))))], [(0, ⟨true, eSchema s⟩), (1, ⟨true, eSchema t⟩)]⟩ ?_ ?_
  · refine CW.rg ?_
    refine CWops.run htt 3 (by simp only [go_sem, simprocAttr, eSchema]; exact rfl) (by simp [go_sem, simprocAttr, eSchema]) ?_
    all_goals (first | refine CWops.guard 18 (by simp only [go_sem, simprocAttr, eSchema]; exact rfl) (fun g18 => ?_) (fun g18 => ?_) | skip)
    all_goals (refine CWops.run htt 4 (by simp only [go_sem, simprocAttr, eSchema]; exact rfl) (by simp [go_sem, simprocAttr, eSchema]) ?_)
    all_goals (first | refine CWops.guard 22 (by simp only [go_sem, simprocAttr, eSchema]; exact rfl) (fun g22 => ?_) (fun g22 => ?_) | skip)
    all_goals (refine CWops.run htt 8 (by simp only [go_sem, simprocAttr, eSchema]; exact rfl) (by simp [go_sem, simprocAttr, eSchema]) ?_)
    all_goals (refine CWops.done ?_)
    all_goals (
      first | refine ⟨rfl, Sh.wk0 ?_⟩ | refine Sh.wk0 ?_
      by_cases b1 : s.length = t.length <;> cases hs1 : schemaMay s <;> cases hs2 : schemaMay t <;> simp_all [Wk, go_sem, simprocAttr, eSchema] <;> first | done | omega)
  refine CW.cond (by simp only [go_sem, simprocAttr]; first | done | exact rfl) (fun ct30 => ?_) (fun ct30 => ?_)
  · have hbad : gBetween s t = ([], false) := by
      have h0 : ((schemaMay s && schemaMay t) && decide (s.length = t.length)) = false := by simp only [Bool.not_eq_true'] at ct30; exact ct30
      unfold gBetween; rw [h0]; rfl
    refine CW.seq ?_
    refine CW.rg ?_
    refine CWops.rn htt 2 ?_
    refine CWops.done ?_
    refine CW.ret ?_
    refine retQ.ret (by simp only [f23, go_sem, simprocAttr]; exact rfl) (by simp only [go_sem, simprocAttr]; exact rfl) ?_ -- ret1
    refine ⟨_, ?_, rfl⟩
    first | (rw [hbad]; simp [leP, leL]; done) | (rw [hdone]; simp [leP, leL]; done)
  · have hok : ((schemaMay s && schemaMay t) && decide (s.length = t.length)) = true := by simp only [Bool.not_eq_false'] at ct30; exact ct30
    have hok2 := hok
    simp only [Bool.and_eq_true, decide_eq_true_eq] at hok2
    obtain ⟨⟨hms, hmt⟩, hlen⟩ := hok2
    have hS := (smay_iff s).1 hms
    have hT := (smay_iff t).1 hmt
    have hs4 := hS.len
    refine CW.skip ?_
    refine CW.seq ?_
    refine CW.rg ?_
    refine CWops.rn htt 1 ?_
    refine CWops.done ?_
    refine CW.seq ?_
    refine CW.seq ?_
    refine CW.rg ?_
    refine CWops.rn htt 1 ?_
    refine CWops.done ?_
    refine CW.block ?_
    refine CW.loop (S := Nat × List GStep) (fun p => ⟨3, [(2, .lv 0 [] 0), (3, .lv 1 [] 0), (4, .nilsl), (5, .bool false), (8, .ref 2 [] 0), (9, .int .i64 p.1)], [(0, ⟨true, eSchema s⟩), (1, ⟨true, eSchema t⟩), (2, ⟨false, [.own 5 (p.2.map eStep)]⟩)]⟩) (fun p => p.1 ≤ s.length ∧ bwFold s t p.1 = some p.2 ∧ p.2.length ≤ 15 * p.1) (fun p => s.length - p.1) ((0, [])) ?_ ⟨Nat.zero_le _, rfl, Nat.le_refl _⟩ (fun ⟨i, l⟩ hB => ?_)
    · refine Sh.trans (Sh.nilRoot 8 5 (by simp only [go_sem, simprocAttr]) rfl) (Sh.wk0 ?_); simp [Wk, go_sem, simprocAttr, eSchema]
    simp only at hB
    refine CW.seq ?_
    refine CW.seq ?_
    refine CW.rg ?_
    refine CWops.run htt 5 (by simp only [go_sem, simprocAttr, eSchema]; exact rfl) (by simp [go_sem, simprocAttr, eSchema]) ?_
    refine CWops.done ?_
    refine CW.cond (by simp only [go_sem, simprocAttr]; first | done | exact rfl) (fun ct35 => ?_) (fun ct35 => ?_)
    · have hi : i < s.length := by simpa using ct35
      obtain ⟨a, ha⟩ : ∃ x, s[i]? = some x := ⟨s[i], List.getElem?_eq_getElem hi⟩
      have hit : i < t.length := by omega
      obtain ⟨b, hbt⟩ : ∃ x, t[i]? = some x := ⟨t[i], List.getElem?_eq_getElem hit⟩
      have hF5 := hS.flen i a ha
      have hG5 := hT.flen i b hbt
      have hll := betw_len hF5 hG5
      have hsucc := bwFold_succ ha hbt
      rw [hB.2.1] at hsucc
      have hB2 := hB.2.2
      refine CW.skip ?_
      refine CW.seq ?_
      refine CW.block ?_
      refine CW.seq ?_
      refine CW.drawn mixed 15 (by decide) (by kernel_rfl) (by kernel_rfl) (by kernel_rfl) ?_
      refine Seg.run htt 10 (by simp only [go_sem, simprocAttr, hi, ha, hit, hbt, eSchema, eType]; exact rfl) ?_
      refine Seg.callA (ref13_between up a b hF5 hG5) (by simp only [go_sem, simprocAttr, hi, ha, hit, hbt, eSchema, eType]) (by simp only [go_sem, simprocAttr, hi, ha, hit, hbt, eSchema, eType]; first | done | exact rfl) (by simp only [go_sem, simprocAttr, hi, ha, hit, hbt, eSchema, eType]) (by simp only [go_sem, simprocAttr, hi, ha, hit, hbt, eSchema, eType]) ?_
      refine Seg.run htt 4 (by simp only [go_sem, simprocAttr, hi, ha, hit, hbt, eSchema, eType]; exact rfl) ?_
      refine Seg.done ?_
      refine CWops.run htt 1 (by simp only [go_sem, simprocAttr, hi, ha, hit, hbt, eSchema, eType]; exact rfl) (by simp [go_sem, simprocAttr, hi, ha, hit, hbt, eSchema, eType]) ?_
      refine CWops.done ?_
      refine CW.seq ?_
      refine CW.seq ?_
      refine CW.drawn mixed 15 (by decide) (by kernel_rfl) (by kernel_rfl) (by kernel_rfl) ?_
      refine Seg.run htt 3 (by simp only [go_sem, simprocAttr, hi, ha, hit, hbt, eSchema, eType]; exact rfl) ?_
      all_goals (first | refine Seg.guard 54 (by simp only [go_sem, simprocAttr, hi, ha, hit, hbt, eSchema, eType]; exact rfl) (fun g54 => ?_) (fun g54 => ?_) | skip)
      all_goals (skip)
      all_goals (refine Seg.run htt 12 (by simp only [go_sem, simprocAttr, hi, ha, hit, hbt, eSchema, eType]; exact rfl) ?_)
      all_goals (refine Seg.done ?_)
      all_goals (refine CWops.run htt 2 (by simp only [go_sem, simprocAttr, hi, ha, hit, hbt, eSchema, eType]; exact rfl) (by simp [go_sem, simprocAttr, hi, ha, hit, hbt, eSchema, eType]) ?_)
      all_goals (refine CWops.done ?_)
      all_goals (
        refine CW.cond (by simp only [go_sem, simprocAttr]; first | done | exact rfl) (fun ct68 => ?_) (fun ct68 => ?_)
        · have hbad : gBetween s t = ([], false) := by
            have h0 : ((betw a b).2 && decide (a.Name = b.Name)) = false := by
              cases h1 : (betw a b).2 <;> by_cases h2 : a.Name = b.Name <;> simp_all
            have : bwFold s t (i + 1) = none := by rw [hsucc]; simp only [bwStep]; rw [h0]; rfl
            unfold gBetween; rw [if_pos hok, bwFold_dead this hlen]
          refine CW.seq ?_
          refine CW.rg ?_
          refine CWops.rn htt 2 ?_
          refine CWops.done ?_
          refine CW.ret ?_
          refine retQ.ret (by simp only [f23, go_sem, simprocAttr]; exact rfl) (by simp only [go_sem, simprocAttr]; exact rfl) ?_ -- ret2
          refine ⟨_, ?_, rfl⟩
          first | (rw [hbad]; simp [leP, leL]; done) | (rw [hdone]; simp [leP, leL]; done)
        · have hgo : bwFold s t (i + 1) = some (l ++ (betw a b).1) := by
            have h0 : ((betw a b).2 && decide (a.Name = b.Name)) = true := by
              cases h1 : (betw a b).2 <;> by_cases h2 : a.Name = b.Name <;> simp_all
            rw [hsucc]; simp only [bwStep]; rw [if_pos h0]
          refine CW.skip ?_
          refine CW.rg ?_
          refine CWops.run htt 4 (by simp only [go_sem, simprocAttr]; exact rfl) (by refine ⟨?_, ?_, ?_⟩ <;> first | (simp [eStep, AV.cell]; done) | (simp [MX]; omega)) ?_
          refine CWops.done ?_
          refine CW.rg ?_
          refine CWops.run htt 3 (by simp only [go_sem, simprocAttr, wrap_succ (show i < MX by unfold MX; omega)]; exact rfl) (by simp [go_sem, simprocAttr, wrap_succ (show i < MX by unfold MX; omega)]) ?_
          refine CWops.done ?_
          refine ⟨(i + 1, l ++ (betw a b).1), ?_, ?_, ?_⟩
          · refine Sh.wk (fun x => if x = 2 then 3 else x) ?_; simp [Wk, go_sem, simprocAttr, eSchema]
          · exact ⟨hi, hgo, by simp; omega⟩
          · simp only; omega)
    · have hi : i = s.length := by have := hB.1; simp at ct35; omega
      subst hi
      have hdone : gBetween s t = (l, true) := by unfold gBetween; rw [if_pos hok, hB.2.1]
      refine CW.exit ?_
      refine CW.seq ?_
      refine CW.sh (Sh.frzT 8 2 rfl rfl rfl) ?_
      simp only [go_sem, simprocAttr]
      refine CW.rg ?_
      refine CWops.rn htt 3 ?_
      refine CWops.done ?_
      refine CW.ret ?_
      refine retQ.ret (by simp only [f23, go_sem, simprocAttr]; exact rfl) (by simp only [go_sem, simprocAttr]; exact rfl) ?_ -- ret3
      refine ⟨_, ?_, rfl⟩
      first | (rw [hbad]; simp [leP, leL]; done) | (rw [hdone]; simp [leP, leL]; done)
theorem law13_GradeTells (up : Bool) (g : Graph) (t : List GType) (x : GStep) (l : List GStep) (hsm : smallS g.S) (hsmt : smallS t) (hN : nOK g) (hx : x.F.Name.size ≤ 1048576) (hxl : ∀ y ∈ l, y.F.Name.size ≤ 1048576) : PCall prog up 4 [.agg (eGraph g), .agg (eSchema t), .agg (eStep x), .sl 5 (l.map eStep)] (· = .bool true) := by
  refine PCall.intro htt func4 (by kernel_rfl) rfl (Nat.le_of_ble_eq_true rfl) fun hl => ?_
  obtain ⟨⟨A, e⟩, hA⟩ : ∃ p, gSchema g.S x = p := ⟨_, rfl⟩
  obtain ⟨⟨C, i⟩, hC⟩ : ∃ p, gGrade g x = p := ⟨_, rfl⟩
  obtain ⟨⟨P, u⟩, hP⟩ : ∃ p, gAll g l = p := ⟨_, rfl⟩
  obtain ⟨⟨m, is⟩, hMM⟩ : ∃ p, gBetween g.S t = p := ⟨_, rfl⟩
  simp only [tmps0, Nat.reduceAdd]
  refine CW.seq ?_
  refine CW.rg ?_
  refine CWops.run htt 4 (by simp only [go_sem, simprocAttr, eGraph, eSchema, eStep]; exact rfl) (by simp [go_sem, simprocAttr, eGraph, eSchema, eStep]) ?_
  refine CWops.done ?_
  refine CW.seq ?_
  refine CW.rg ?_
  refine CWops.callA (law13_awake up) (by simp only [go_sem, simprocAttr]) (by simp only [go_sem, simprocAttr]; first | done | exact rfl) (by simp only [go_sem, simprocAttr]) (by simp only [go_sem, simprocAttr]) (fun rt32 hrt32 => ?_)
  subst hrt32
  refine CWops.rn htt 1 ?_
  refine CWops.done ?_
  refine CW.seq ?_
  refine CW.rg ?_
  refine CWops.run htt 1 (by simp only [go_sem, simprocAttr, eGraph]; exact rfl) (by simp [go_sem, simprocAttr, eGraph]) ?_
  refine CWops.call (law08_Few up g) (by simp only [go_sem, simprocAttr, eGraph]) (by simp only [go_sem, simprocAttr, eGraph]; first | done | exact rfl) (by simp only [go_sem, simprocAttr, eGraph]) (fun rt34 hrt34 => ?_)
  subst hrt34; refine ⟨rfl, ?_⟩
  refine CWops.run htt 1 (by simp only [go_sem, simprocAttr, eGraph]; exact rfl) (by simp [go_sem, simprocAttr, eGraph]) ?_
  refine CWops.done ?_
  refine CW.seq ?_
  refine CW.rg ?_
  refine CWops.run htt 1 (by simp only [go_sem, simprocAttr, eSchema]; exact rfl) (by simp [go_sem, simprocAttr, eSchema]) ?_
  refine CWops.call (law06_Few up t 10) (by simp only [go_sem, simprocAttr, eSchema]) (by simp only [go_sem, simprocAttr, eSchema]; first | done | exact rfl) (by simp only [go_sem, simprocAttr, eSchema]) (fun rt36 hrt36 => ?_)
  subst hrt36; refine ⟨rfl, ?_⟩
  refine CWops.run htt 1 (by simp only [go_sem, simprocAttr, eSchema]; exact rfl) (by simp [go_sem, simprocAttr, eSchema]) ?_
  refine CWops.done ?_
  refine CW.seq ?_
  refine CW.cut ⟨3, [(3, .sl 5 (l.map eStep)), (4, .lv 0 [] 0), (5, .lv 1 [] 0), (6, .lv 2 [] 0), (9, .bool true), (51, .bool (!((fewG g && few06 t 10) && decide (l.length ≤ 20))))], [(0, ⟨true, eGraph g⟩), (1, ⟨true, eSchema t⟩), (2, ⟨true, eStep x⟩)]⟩ ?_ ?_
  · refine CW.rg ?_
    refine CWops.rn htt 3 ?_
    all_goals (first | refine CWops.guard 39 (by simp only [go_sem, simprocAttr]; exact rfl) (fun g39 => ?_) (fun g39 => ?_) | skip)
    all_goals (refine CWops.rn htt 4 ?_)
    all_goals (first | refine CWops.guard 43 (by simp only [go_sem, simprocAttr]; exact rfl) (fun g43 => ?_) (fun g43 => ?_) | skip)
    all_goals (refine CWops.rn htt 4 ?_)
    all_goals (first | refine CWops.guard 47 (by simp only [go_sem, simprocAttr]; exact rfl) (fun g47 => ?_) (fun g47 => ?_) | skip)
    all_goals (refine CWops.rn htt 4 ?_)
    all_goals (refine CWops.done ?_)
    all_goals (
      first | refine ⟨rfl, Sh.wk0 ?_⟩ | refine Sh.wk0 ?_
      clear hl
      simp_all [Wk, go_sem, simprocAttr, eGraph, eSchema, eStep] <;> first | done | rfl | omega | (intro h; omega) | (rw [Bool.eq_iff_iff]; simp; done) | (rw [Bool.eq_iff_iff]; simp; omega))
  refine CW.cond (by simp only [go_sem, simprocAttr]; first | done | exact rfl) (fun ct51 => ?_) (fun ct51 => ?_)
  · refine CW.seq ?_
    refine CW.rg ?_
    refine CWops.rn htt 2 ?_
    refine CWops.done ?_
    refine CW.ret ?_
    refine retQ.ret (by simp only [f4, go_sem, simprocAttr]; exact rfl) (by simp only [go_sem, simprocAttr]; exact rfl) ?_ -- ret1
    refine ⟨_, ?_, rfl⟩
    first | (simp [leP]; done) | (simp_all [leP]; done)
  · simp only [Bool.not_eq_false', Bool.and_eq_true, decide_eq_true_eq] at ct51
    have hz := fewG_sz ct51.1.1
    refine CW.skip ?_
    refine CW.seq ?_
    refine CW.rg ?_
    refine CWops.run htt 3 (by simp only [go_sem, simprocAttr, eGraph, eSchema, eStep]; exact rfl) (by simp [go_sem, simprocAttr, eGraph, eSchema, eStep]) ?_
    refine CWops.callA ((by have := grade_Schema up g.S x hz.s hz.sf; rw [hA] at this; exact this)) (by simp only [go_sem, simprocAttr, eGraph, eSchema, eStep]) (by simp only [go_sem, simprocAttr, eGraph, eSchema, eStep]; first | done | exact rfl) (by simp only [go_sem, simprocAttr, eGraph, eSchema, eStep]) (by simp only [go_sem, simprocAttr, eGraph, eSchema, eStep]) (fun rt57 hrt57 => ?_)
    subst hrt57
    refine CWops.run htt 6 (by simp only [go_sem, simprocAttr, eGraph, eSchema, eStep]; exact rfl) (by simp [go_sem, simprocAttr, eGraph, eSchema, eStep]) ?_
    refine CWops.done ?_
    refine CW.seq ?_
    refine CW.rg ?_
    refine CWops.run htt 3 (by simp only [go_sem, simprocAttr, eGraph, eSchema, eStep]; exact rfl) (by simp [go_sem, simprocAttr, eGraph, eSchema, eStep]) ?_
    refine CWops.callA ((by have := ref13_Schema up g.S x hsm hx; rw [hA] at this; exact this)) (by simp only [go_sem, simprocAttr, eGraph, eSchema, eStep]) (by simp only [go_sem, simprocAttr, eGraph, eSchema, eStep]; first | done | exact rfl) (by simp only [go_sem, simprocAttr, eGraph, eSchema, eStep]) (by simp only [go_sem, simprocAttr, eGraph, eSchema, eStep]) (fun rt64 hrt64 => ?_)
    subst hrt64
    refine CWops.run htt 6 (by simp only [go_sem, simprocAttr, eGraph, eSchema, eStep]; exact rfl) (by simp [go_sem, simprocAttr, eGraph, eSchema, eStep]) ?_
    refine CWops.done ?_
    refine CW.seq ?_
    refine CW.rg ?_
    refine CWops.run htt 2 (by simp only [go_sem, simprocAttr, eGraph, eStep]; exact rfl) (by simp [go_sem, simprocAttr, eGraph, eStep]) ?_
    refine CWops.callA ((by have := grade_Graph up g x; rw [hC] at this; exact this)) (by simp only [go_sem, simprocAttr, eGraph, eStep]) (by simp only [go_sem, simprocAttr, eGraph, eStep]; first | done | exact rfl) (by simp only [go_sem, simprocAttr, eGraph, eStep]) (by simp only [go_sem, simprocAttr, eGraph, eStep]) (fun rt70 hrt70 => ?_)
    subst hrt70
    refine CWops.run htt 6 (by simp only [go_sem, simprocAttr, eGraph, eStep]; exact rfl) (by simp [go_sem, simprocAttr, eGraph, eStep]) ?_
    refine CWops.done ?_
    refine CW.seq ?_
    refine CW.rg ?_
    refine CWops.run htt 2 (by simp only [go_sem, simprocAttr, eGraph, eStep]; exact rfl) (by simp [go_sem, simprocAttr, eGraph, eStep]) ?_
    refine CWops.callA ((by have := ref13_Graph up g x hsm hN hx; rw [hC] at this; exact this)) (by simp only [go_sem, simprocAttr, eGraph, eStep]) (by simp only [go_sem, simprocAttr, eGraph, eStep]; first | done | exact rfl) (by simp only [go_sem, simprocAttr, eGraph, eStep]) (by simp only [go_sem, simprocAttr, eGraph, eStep]) (fun rt76 hrt76 => ?_)
    subst hrt76
    refine CWops.run htt 6 (by simp only [go_sem, simprocAttr, eGraph, eStep]; exact rfl) (by simp [go_sem, simprocAttr, eGraph, eStep]) ?_
    refine CWops.done ?_
    refine CW.seq ?_
    refine CW.rg ?_
    refine CWops.run htt 2 (by simp only [go_sem, simprocAttr, eGraph]; exact rfl) (by simp [go_sem, simprocAttr, eGraph]) ?_
    refine CWops.callA ((by have := grade_All up g l; rw [hP] at this; exact this)) (by simp only [go_sem, simprocAttr, eGraph]) (by simp only [go_sem, simprocAttr, eGraph]; first | done | exact rfl) (by simp only [go_sem, simprocAttr, eGraph]) (by simp only [go_sem, simprocAttr, eGraph]) (fun rt82 hrt82 => ?_)
    subst hrt82
    refine CWops.run htt 6 (by simp only [go_sem, simprocAttr, eGraph]; exact rfl) (by simp [go_sem, simprocAttr, eGraph]) ?_
    refine CWops.done ?_
    refine CW.seq ?_
    refine CW.rg ?_
    refine CWops.run htt 2 (by simp only [go_sem, simprocAttr, eGraph]; exact rfl) (by simp [go_sem, simprocAttr, eGraph]) ?_
    refine CWops.callA ((by have := ref13_All up g l hsm hN hxl; rw [hP] at this; exact this)) (by simp only [go_sem, simprocAttr, eGraph]) (by simp only [go_sem, simprocAttr, eGraph]; first | done | exact rfl) (by simp only [go_sem, simprocAttr, eGraph]) (by simp only [go_sem, simprocAttr, eGraph]) (fun rt88 hrt88 => ?_)
    subst hrt88
    refine CWops.run htt 6 (by simp only [go_sem, simprocAttr, eGraph]; exact rfl) (by simp [go_sem, simprocAttr, eGraph]) ?_
    refine CWops.done ?_
    refine CW.seq ?_
    refine CW.rg ?_
    refine CWops.run htt 3 (by simp only [go_sem, simprocAttr, eGraph, eSchema]; exact rfl) (by simp [go_sem, simprocAttr, eGraph, eSchema]) ?_
    refine CWops.callA ((by have := grade_Between up g.S t; rw [hMM] at this; exact this)) (by simp only [go_sem, simprocAttr, eGraph, eSchema]) (by simp only [go_sem, simprocAttr, eGraph, eSchema]; first | done | exact rfl) (by simp only [go_sem, simprocAttr, eGraph, eSchema]) (by simp only [go_sem, simprocAttr, eGraph, eSchema]) (fun rt95 hrt95 => ?_)
    subst hrt95
    refine CWops.run htt 5 (by simp only [go_sem, simprocAttr, eGraph, eSchema]; exact rfl) (by simp [go_sem, simprocAttr, eGraph, eSchema]) ?_
    refine CWops.done ?_
    refine CW.seq ?_
    refine CW.rg ?_
    refine CWops.run htt 3 (by simp only [go_sem, simprocAttr, eGraph, eSchema]; exact rfl) (by simp [go_sem, simprocAttr, eGraph, eSchema]) ?_
    refine CWops.callA ((by have := ref13_Between up g.S t hsm hsmt; rw [hMM] at this; exact this)) (by simp only [go_sem, simprocAttr, eGraph, eSchema]) (by simp only [go_sem, simprocAttr, eGraph, eSchema]; first | done | exact rfl) (by simp only [go_sem, simprocAttr, eGraph, eSchema]) (by simp only [go_sem, simprocAttr, eGraph, eSchema]) (fun rt102 hrt102 => ?_)
    subst hrt102
    refine CWops.run htt 5 (by simp only [go_sem, simprocAttr, eGraph, eSchema]; exact rfl) (by simp [go_sem, simprocAttr, eGraph, eSchema]) ?_
    refine CWops.done ?_
    refine CW.seq ?_
    refine CW.rg ?_
    refine CWops.run htt 2 (by simp only [go_sem, simprocAttr, eSchema]; exact rfl) (by simp [go_sem, simprocAttr, eSchema]) ?_
    refine CWops.call (ref06_Same up A A) (by simp only [go_sem, simprocAttr, eSchema]) (by simp only [go_sem, simprocAttr, eSchema]; first | done | exact rfl) (by simp only [go_sem, simprocAttr, eSchema]) (fun rt107 hrt107 => ?_)
    subst hrt107; refine ⟨rfl, ?_⟩
    refine CWops.run htt 1 (by simp only [go_sem, simprocAttr, eSchema]; exact rfl) (by simp [go_sem, simprocAttr, eSchema]) ?_
    refine CWops.done ?_
    refine CW.seq ?_
    refine CW.rg ?_
    refine CWops.run htt 2 (by simp only [go_sem, simprocAttr, eGraph]; exact rfl) (by simp [go_sem, simprocAttr, eGraph]) ?_
    refine CWops.call (ref08_Same up C C) (by simp only [go_sem, simprocAttr, eGraph]) (by simp only [go_sem, simprocAttr, eGraph]; first | done | exact rfl) (by simp only [go_sem, simprocAttr, eGraph]) (fun rt110 hrt110 => ?_)
    subst hrt110; refine ⟨rfl, ?_⟩
    refine CWops.run htt 1 (by simp only [go_sem, simprocAttr, eGraph]; exact rfl) (by simp [go_sem, simprocAttr, eGraph]) ?_
    refine CWops.done ?_
    refine CW.seq ?_
    refine CW.rg ?_
    refine CWops.run htt 2 (by simp only [go_sem, simprocAttr, eGraph]; exact rfl) (by simp [go_sem, simprocAttr, eGraph]) ?_
    refine CWops.call (ref08_Same up P P) (by simp only [go_sem, simprocAttr, eGraph]) (by simp only [go_sem, simprocAttr, eGraph]; first | done | exact rfl) (by simp only [go_sem, simprocAttr, eGraph]) (fun rt113 hrt113 => ?_)
    subst hrt113; refine ⟨rfl, ?_⟩
    refine CWops.run htt 1 (by simp only [go_sem, simprocAttr, eGraph]; exact rfl) (by simp [go_sem, simprocAttr, eGraph]) ?_
    refine CWops.done ?_
    refine CW.seq ?_
    refine CW.rg ?_
    refine CWops.rn htt 2 ?_
    refine CWops.call (ref13_Same up m m) (by simp only [go_sem, simprocAttr]) (by simp only [go_sem, simprocAttr]; first | done | exact rfl) (by simp only [go_sem, simprocAttr]) (fun rt116 hrt116 => ?_)
    subst hrt116; refine ⟨rfl, ?_⟩
    refine CWops.rn htt 1 ?_
    refine CWops.done ?_
    refine CW.seq ?_
    refine CW.rg ?_
    refine CWops.rn htt 2 ?_
    all_goals (first | refine CWops.guard 118 (by simp only [go_sem, simprocAttr]; exact rfl) (fun g118 => ?_) (fun g118 => ?_) | skip)
    all_goals (first | (simp at g118; done) | (cases g118; done) | skip)
    all_goals (refine CWops.rn htt 5 ?_)
    all_goals (first | refine CWops.guard 123 (by simp only [go_sem, simprocAttr]; exact rfl) (fun g123 => ?_) (fun g123 => ?_) | skip)
    all_goals (first | (simp at g123; done) | (cases g123; done) | skip)
    all_goals (refine CWops.rn htt 3 ?_)
    all_goals (first | refine CWops.guard 126 (by simp only [go_sem, simprocAttr]; exact rfl) (fun g126 => ?_) (fun g126 => ?_) | skip)
    all_goals (first | (simp at g126; done) | (cases g126; done) | skip)
    all_goals (refine CWops.rn htt 5 ?_)
    all_goals (first | refine CWops.guard 131 (by simp only [go_sem, simprocAttr]; exact rfl) (fun g131 => ?_) (fun g131 => ?_) | skip)
    all_goals (first | (simp at g131; done) | (cases g131; done) | skip)
    all_goals (refine CWops.rn htt 3 ?_)
    all_goals (first | refine CWops.guard 134 (by simp only [go_sem, simprocAttr]; exact rfl) (fun g134 => ?_) (fun g134 => ?_) | skip)
    all_goals (first | (simp at g134; done) | (cases g134; done) | skip)
    all_goals (refine CWops.rn htt 5 ?_)
    all_goals (first | refine CWops.guard 139 (by simp only [go_sem, simprocAttr]; exact rfl) (fun g139 => ?_) (fun g139 => ?_) | skip)
    all_goals (first | (simp at g139; done) | (cases g139; done) | skip)
    all_goals (refine CWops.rn htt 3 ?_)
    all_goals (first | refine CWops.guard 142 (by simp only [go_sem, simprocAttr]; exact rfl) (fun g142 => ?_) (fun g142 => ?_) | skip)
    all_goals (first | (simp at g142; done) | (cases g142; done) | skip)
    all_goals (refine CWops.rn htt 5 ?_)
    all_goals (refine CWops.done ?_)
    all_goals (
      refine CW.ret ?_
      refine retQ.ret (by simp only [f4, go_sem, simprocAttr]; exact rfl) (by simp only [go_sem, simprocAttr]; exact rfl) ?_ -- ret2
      refine ⟨_, ?_, rfl⟩
      first | (simp [leP]; done) | (simp_all [leP]; done))
end Go.Ab
