/-
  What functions of the program answer: each by its contract. No condition but those of each theorem.
-/
import Derived.WalkKit
import Derived.Below
import Derived.Scope
import Derived.Orders
import Derived.Test.YtgmegmfbedgabaaProg
import Derived.Still
import Derived.Deep.RegionLaw
import Derived.Lib.AppendZerosOnto
import Derived.Lib.Walk
import Derived.Lib.SliceRun
import Derived.WalkSmall
import Derived.Tactics
import Derived.Tactics2
import Derived.Defers
import Derived.Recover
import Derived.Laws.Pointers
import Derived.Lib.AppendStr
import Derived.ArgAppend
import Derived.Lib.ConvBytes
import Derived.Shelf.Strings.OnBuilder
import Derived.Laws.IdiomCopy
import Derived.Test.YtgmegmfbedgabaaFa
import Derived.Test.YtgmegmfbedgabaaFb
import Derived.Test.YtgmegmfbedgabaaFc
import Derived.Test.YtgmegmfbedgabaaFd
import Derived.Test.YtgmegmfbedgabaaFe
import Derived.Test.YtgmegmfbedgabaaFf
import Derived.Test.YtgmegmfbedgabaaDa
import Derived.Test.YtgmegmfbedgabaaVa
import Derived.Test.YtgmegmfbedgabaaVb
set_option linter.unusedVariables false
set_option linter.unusedSimpArgs false
namespace Go.Ab
open Go Go.Proofs.Try
set_option maxRecDepth 100000
set_option maxHeartbeats 3200000
@[go_sem] theorem tt_183 : tiOf prog 183 = some ⟨.func, 1, 8, [.nilfunc], false⟩ := by kernel_rfl
theorem between_step (up : Bool) (k : Int) (f : GField) (a : GType) : PCall prog up 109 [.int .i64 k, .agg (eField f), .fp (eType a)] (· = .agg (eStep ⟨k, a.Name, f⟩)) := by
  refine PCall.intro htt func109 (by kernel_rfl) rfl (Nat.le_of_ble_eq_true rfl) fun hl => ?_

  simp only [tmps0, Nat.reduceAdd]
  refine CW.seq (.rg (.run htt 2 (by simp only [go_sem, simprocAttr, eField]; exact rfl) (by simp [go_sem, simprocAttr, eField]) (.done ?_)))
  refine CW.seq (.rg (.run htt 6 (by simp only [go_sem, simprocAttr, eField, eType]; exact rfl) (by simp [go_sem, simprocAttr, eField, eType]) (.done ?_)))
  refine CW.ret ?_
  refine retQ.rt (by simp only [f109, go_sem, simprocAttr]; exact rfl) ?_
  refine ⟨_, ?_, rfl⟩
  simp [leP, leL, eStep]
theorem grade_between (up : Bool) (a b : GType) (ha : a.F.length ≤ 5) (hb5 : b.F.length ≤ 5) : PCall prog up 85 [.agg (eType a), .agg (eType b)] (· = .tup [.sl 5 ((betw a b).1.map eStep), .bool (betw a b).2]) := by
  refine PCall.intro htt func85 (by kernel_rfl) rfl (Nat.le_of_ble_eq_true rfl) fun hl => ?_

  simp only [tmps0, Nat.reduceAdd]
  refine CW.seq (.rg (.run htt 4 (by simp only [go_sem, simprocAttr, eType]; exact rfl) (by simp [go_sem, simprocAttr, eType]) (.done ?_)))
  refine CW.seq (.rg (.run htt 3 (by simp only [go_sem, simprocAttr, eType]; exact rfl) (by simp [go_sem, simprocAttr, eType]) (.done ?_)))
  refine CW.seq (.rg (.run htt 2 (by simp only [go_sem, simprocAttr, eType]; exact rfl) (by simp [go_sem, simprocAttr, eType]) (.done ?_)))
  refine CW.seq ?_
  refine CW.sh (Sh.frzB 0 rfl rfl rfl) ?_
  simp only [go_sem, simprocAttr, mapT, mapS, frzF, List.map_cons, List.map_nil, delS]
  refine CW.rg (.rn htt 1 (.done ?_))
  refine CW.seq (.seq (.rg (.run htt 4 (by simp only [go_sem, simprocAttr, eType]; exact rfl) (by simp [go_sem, simprocAttr, eType]) (.done ?_))))
  refine CW.block ?_
  refine CW.loop (S := Nat × Nat × List GStep × List GStep) (fun p => ⟨4, [(3, .lv 1 [] 0), (9, .func (.func 109) [] [.fp (eType a)]), (6, .ref 2 [] 0), (7, .ref 3 [] 0), (8, .nilsl), (10, .int .i64 p.2.1), (18, .sl 3 (a.F.map eField)), (19, .int .i64 a.F.length), (20, .int .i64 p.1)], [(1, ⟨true, eType b⟩), (2, ⟨false, [.own 5 (p.2.2.1.map eStep)]⟩), (3, ⟨false, [.own 5 (p.2.2.2.map eStep)]⟩)]⟩) (fun p => BI a b p.1 p.2.1 p.2.2.1 p.2.2.2) (fun p => a.F.length - p.1) ((0, 0, [], [])) ?_ (BI.start a b) (fun ⟨i, kept, d, w⟩ hB => ?_)
  · refine Sh.trans (Sh.nilRoot 6 5 (by simp only [go_sem, simprocAttr]) rfl) (Sh.trans (Sh.nilRoot 7 5 (by simp only [go_sem, simprocAttr]) rfl) (Sh.wk0 ?_)); simp [Wk, go_sem, simprocAttr, eType, ex_func, SubL, Sub]
  simp only at hB
  refine CW.seq (.rg (.rn htt 1 (.done ?_)))
  refine CW.seq ?_
  refine CW.cd (fun ct21 => ?_) (fun ct21 => ?_)
  · have hi : i < a.F.length := by simpa using ct21
    obtain ⟨f, hf⟩ : ∃ x, a.F[i]? = some x := ⟨a.F[i], List.getElem?_eq_getElem hi⟩
    have hld := hB.ld
    have hlw := hB.lw
    have hlk := hB.lk
    refine CW.skip ?_
    refine CW.seq ?_
    refine CW.block ?_
    refine CW.seq (.rg (.run htt 4 (by simp only [go_sem, simprocAttr, hi, hf, eField]; exact rfl) (by simp [go_sem, simprocAttr, hi, hf, eField]) (.done ?_)))
    refine CW.seq (.rg (.run htt 3 (by simp only [go_sem, simprocAttr, eType, eField]; exact rfl) (by simp [go_sem, simprocAttr, eType, eField]) ?_))
    refine CWops.call (schema_Field up b f.Name) (by simp only [go_sem, simprocAttr, eType, eField]) (by simp only [go_sem, simprocAttr, eType, eField] <;> exact rfl) (by simp only [go_sem, simprocAttr, eType, eField]) (fun rt27 hrt27 => ?_)
    subst hrt27; refine ⟨rfl, ?_⟩
    refine CWops.run htt 1 (by simp only [go_sem, simprocAttr, eType, eField]; exact rfl) (by simp [go_sem, simprocAttr, eType, eField]) (.done ?_)
    refine CW.seq ?_
    refine CW.block ?_
    refine CW.seq (.rg (.rn htt 3 (.done ?_)))
    refine CW.cd (fun ct28 => ?_) (fun ct28 => ?_)
    · have hn : b.F.findIdx? (fun g => decide (g.Name = f.Name)) = none := by
        have h0 : fnd (fun o : GField => decide (o.Name = f.Name)) b.F = -1 := by simpa using ct28
        rcases find_cases (fun o : GField => decide (o.Name = f.Name)) b.F with ⟨_, _, h⟩ | ⟨k, g, h1, _⟩
        · exact h
        · omega
      obtain ⟨p', hp'⟩ : ∃ p' : Nat × Nat × List GStep × List GStep, p' = (i + 1, kept, d ++ [⟨1, a.Name, f⟩], w) := ⟨_, rfl⟩
      refine CW.seq (.rg ?_)
      refine CWops.run htt 3 (by simp only [go_sem, simprocAttr, eField, eType, eStep, List.replicate]; exact rfl) (by simp [AV.cell, AV.tree, eStep, MX] <;> omega) ?_
      refine CWops.callA (between_step up 1 f a) (by simp only [go_sem, simprocAttr, eField, eType, eStep, List.replicate]) (by simp only [go_sem, simprocAttr, eField, eType, eStep, List.replicate] <;> exact rfl) (by simp only [go_sem, simprocAttr, eField, eType, eStep, List.replicate]) (by simp only [go_sem, simprocAttr, eField, eType, eStep, List.replicate]) (fun rt34 hrt34 => ?_)
      subst hrt34
      refine CWops.run htt 3 (by simp only [go_sem, simprocAttr, eField, eType, eStep, List.replicate]; exact rfl) (by simp [AV.cell, AV.tree, eStep, MX] <;> omega) ?_
      refine CWops.done ?_
      refine CW.exit ?_
      refine CW.rg (.run htt 2 (by simp only [go_sem, simprocAttr, wrap_succ (show i < MX by unfold MX; omega)]; exact rfl) (by simp [go_sem, simprocAttr, wrap_succ (show i < MX by unfold MX; omega)]) (.done ?_))
      refine ⟨p', ?_, ?_, ?_⟩
      · subst hp'; first | (refine Sh.wk (fun x => if x = 2 then 6 else x) ?_; simp [Wk, go_sem, simprocAttr, eType, eStep, ex_func, SubL, Sub]; done) | (refine Sh.wk (fun x => if x = 3 then 6 else x) ?_; simp [Wk, go_sem, simprocAttr, eType, eStep, ex_func, SubL, Sub]; done) | (refine Sh.wk0 ?_; simp [Wk, go_sem, simprocAttr, eType, eStep, ex_func, SubL, Sub]; done)
      · subst hp'; first | exact hB.drop hf hn | exact hB.wide hf hn hg hw | exact hB.same hf hn hg hw
      · subst hp'; simp only; omega
    · obtain ⟨k, g, hk1, hg, hn⟩ : ∃ (k : Nat) (g : GField), fnd (fun o : GField => decide (o.Name = f.Name)) b.F = k ∧ b.F[k]? = some g ∧ b.F.findIdx? (fun g => decide (g.Name = f.Name)) = some k := by
        have h0 : ¬ fnd (fun o : GField => decide (o.Name = f.Name)) b.F = -1 := by simpa using ct28
        rcases find_cases (fun o : GField => decide (o.Name = f.Name)) b.F with ⟨h, _, _⟩ | ⟨k, g, h1, h2, _, h4, _⟩
        · exact absurd h h0
        · exact ⟨k, g, h1, h2, h4⟩
      simp only [hk1]
      refine CW.seq (.rg (.rn htt 4 (.done ?_)))
      refine CW.cd (fun ct37 => ?_) (fun ct37 => ?_)
      · have hne : ¬ k = kept := by simp at ct37; omega
        have hbad := hB.bad1 hf hn hne
        refine CW.seq (.rg (.rn htt 2 (.done ?_)))
        refine CW.ret ?_
        refine retQ.rt (by simp only [f85, go_sem, simprocAttr]; exact rfl) ?_
        refine ⟨_, ?_, rfl⟩
        first | (rw [hbad]; simp [leP, leL]; done) | (rw [hB.done]; simp [leP, leL]; done)
      · have hke : kept = k := by simp at ct37; omega
        subst hke
        have hkl := (List.getElem?_eq_some_iff.1 hg).1
        refine CW.seq ?_
        refine CW.drawn mixed 8 (by decide) (by kernel_rfl) (by kernel_rfl) (by kernel_rfl) ?_
        refine Seg.run htt 8 (by simp only [go_sem, simprocAttr, eType, eField, hkl, hg]; exact rfl) ?_
        refine Seg.done ?_
        refine CWops.callA (grade_wider up g.Kind f.Kind) (by simp only [go_sem, simprocAttr, eType, eField, hkl, hg]) (by simp only [go_sem, simprocAttr, eType, eField, hkl, hg] <;> exact rfl) (by simp only [go_sem, simprocAttr, eType, eField, hkl, hg]) (by simp only [go_sem, simprocAttr, eType, eField, hkl, hg]) (fun rt50 hrt50 => ?_)
        subst hrt50
        refine CWops.run htt 1 (by simp only [go_sem, simprocAttr, eType, eField, hkl, hg]; exact rfl) (by simp [go_sem, simprocAttr, eType, eField, hkl, hg]) (.done ?_)
        refine CW.cd (fun ct41 => ?_) (fun ct41 => ?_)
        · have hw : wider g.Kind f.Kind = true := by simpa using ct41
          obtain ⟨p', hp'⟩ : ∃ p' : Nat × Nat × List GStep × List GStep, p' = (i + 1, kept + 1, d, w ++ [⟨2, a.Name, g⟩]) := ⟨_, rfl⟩
          refine CW.rg ?_
          refine CWops.run htt 7 (by simp only [go_sem, simprocAttr, eType, eField, eStep, hkl, hg, List.replicate]; exact rfl) (by simp [AV.cell, AV.tree, eStep, MX] <;> omega) ?_
          refine CWops.callA (between_step up 2 g a) (by simp only [go_sem, simprocAttr, eType, eField, eStep, hkl, hg, List.replicate]) (by simp only [go_sem, simprocAttr, eType, eField, eStep, hkl, hg, List.replicate] <;> exact rfl) (by simp only [go_sem, simprocAttr, eType, eField, eStep, hkl, hg, List.replicate]) (by simp only [go_sem, simprocAttr, eType, eField, eStep, hkl, hg, List.replicate]) (fun rt58 hrt58 => ?_)
          subst hrt58
          refine CWops.run htt 3 (by simp only [go_sem, simprocAttr, eType, eField, eStep, hkl, hg, List.replicate]; exact rfl) (by simp [AV.cell, AV.tree, eStep, MX] <;> omega) ?_
          refine CWops.done ?_
          refine CW.rg (.run htt 3 (by simp only [go_sem, simprocAttr, wrap_succ (show kept < MX by unfold MX; omega)]; exact rfl) (by simp [go_sem, simprocAttr, wrap_succ (show kept < MX by unfold MX; omega)]) (.done ?_))
          refine CW.rg (.run htt 2 (by simp only [go_sem, simprocAttr, wrap_succ (show i < MX by unfold MX; omega)]; exact rfl) (by simp [go_sem, simprocAttr, wrap_succ (show i < MX by unfold MX; omega)]) (.done ?_))
          refine ⟨p', ?_, ?_, ?_⟩
          · subst hp'; first | (refine Sh.wk (fun x => if x = 2 then 6 else x) ?_; simp [Wk, go_sem, simprocAttr, eType, eStep, ex_func, SubL, Sub]; done) | (refine Sh.wk (fun x => if x = 3 then 6 else x) ?_; simp [Wk, go_sem, simprocAttr, eType, eStep, ex_func, SubL, Sub]; done) | (refine Sh.wk0 ?_; simp [Wk, go_sem, simprocAttr, eType, eStep, ex_func, SubL, Sub]; done)
          · subst hp'; first | exact hB.drop hf hn | exact hB.wide hf hn hg hw | exact hB.same hf hn hg hw
          · subst hp'; simp only; omega
        · have hw : wider g.Kind f.Kind = false := by simpa using ct41
          refine CW.seq ?_
          refine CW.drawn mixed 6 (by decide) (by kernel_rfl) (by kernel_rfl) (by kernel_rfl) ?_
          refine Seg.run htt 6 (by simp only [go_sem, simprocAttr, eType, eField, hkl, hg]; exact rfl) ?_
          refine Seg.done ?_
          refine CWops.run htt 2 (by simp only [go_sem, simprocAttr, eType, eField, hkl, hg]; exact rfl) (by simp [go_sem, simprocAttr, eType, eField, hkl, hg]) (.done ?_)
          refine CW.cd (fun ct61 => ?_) (fun ct61 => ?_)
          · have hne : ¬ g = f := by
              intro e; subst e; simp at ct61
            have hbad := hB.bad2 hf hn hg hw hne
            refine CW.seq (.rg (.rn htt 2 (.done ?_)))
            refine CW.ret ?_
            refine retQ.rt (by simp only [f85, go_sem, simprocAttr]; exact rfl) ?_
            refine ⟨_, ?_, rfl⟩
            first | (rw [hbad]; simp [leP, leL]; done) | (rw [hB.done]; simp [leP, leL]; done)
          · have hge : g = f := by
              obtain ⟨n1, k1, t1⟩ := g; obtain ⟨n2, k2, t2⟩ := f
              simpa [and_assoc] using ct61
            subst hge
            obtain ⟨p', hp'⟩ : ∃ p' : Nat × Nat × List GStep × List GStep, p' = (i + 1, kept + 1, d, w) := ⟨_, rfl⟩
            refine CW.skip ?_
            refine CW.rg (.run htt 3 (by simp only [go_sem, simprocAttr, wrap_succ (show kept < MX by unfold MX; omega)]; exact rfl) (by simp [go_sem, simprocAttr, wrap_succ (show kept < MX by unfold MX; omega)]) (.done ?_))
            refine CW.rg (.run htt 2 (by simp only [go_sem, simprocAttr, wrap_succ (show i < MX by unfold MX; omega)]; exact rfl) (by simp [go_sem, simprocAttr, wrap_succ (show i < MX by unfold MX; omega)]) (.done ?_))
            refine ⟨p', ?_, ?_, ?_⟩
            · subst hp'; first | (refine Sh.wk (fun x => if x = 2 then 6 else x) ?_; simp [Wk, go_sem, simprocAttr, eType, eStep, ex_func, SubL, Sub]; done) | (refine Sh.wk (fun x => if x = 3 then 6 else x) ?_; simp [Wk, go_sem, simprocAttr, eType, eStep, ex_func, SubL, Sub]; done) | (refine Sh.wk0 ?_; simp [Wk, go_sem, simprocAttr, eType, eStep, ex_func, SubL, Sub]; done)
            · subst hp'; first | exact hB.drop hf hn | exact hB.wide hf hn hg hw | exact hB.same hf hn hg hw
            · subst hp'; simp only; omega
  · have hi : i = a.F.length := by have := hB.li; simp at ct21; omega
    subst hi
    have hlk := hB.lk
    have hld := hB.ld
    have hlw := hB.lw
    refine CW.exit ?_
    refine CW.seq (.seq (.rg (.run htt 3 (by simp only [go_sem, simprocAttr, eType]; exact rfl) (by simp [go_sem, simprocAttr, eType]) ?_)))
    refine CWops.slFrom (q := kept) (k := .i64) (l := b.F.map eField) htt (by simp only [go_sem, simprocAttr]) tt_56 rfl tt_55 (by simp only [go_sem, simprocAttr, eType] <;> exact rfl) (by simp only [go_sem, simprocAttr]) (by simpa using hlk) ?_
    rw [← List.map_drop]
    simp only [go_sem, simprocAttr]
    refine CWops.run htt 2 (by simp only [go_sem, simprocAttr, eType]; exact rfl) (by simp [go_sem, simprocAttr, eType]) (.done ?_)
    refine CW.block ?_
    refine CW.loop (S := Nat) (fun j => ⟨5, [(3, .lv 1 [] 0), (9, .func (.func 109) [] [.fp (eType a)]), (6, .ref 2 [] 0), (7, .ref 3 [] 0), (8, .ref 4 [] 0), (75, .sl 3 ((b.F.drop kept).map eField)), (76, .int .i64 (b.F.drop kept).length), (77, .int .i64 j)], [(1, ⟨true, eType b⟩), (2, ⟨false, [.own 5 (d.map eStep)]⟩), (3, ⟨false, [.own 5 (w.map eStep)]⟩), (4, ⟨false, [.own 5 ((((b.F.drop kept).take j).map fun f => (⟨0, a.Name, f⟩ : GStep)).map eStep)]⟩)]⟩) (fun j => j ≤ (b.F.drop kept).length) (fun j => (b.F.drop kept).length - j) (0) ?_ (Nat.zero_le _) (fun j h3 => ?_)
    · refine Sh.trans (Sh.nilRoot 8 5 (by simp only [go_sem, simprocAttr]) rfl) (Sh.wk0 ?_); simp [Wk, go_sem, simprocAttr, eType, ex_func, SubL, Sub]
    refine CW.seq (.rg (.rn htt 1 (.done ?_)))
    refine CW.seq ?_
    refine CW.cd (fun ct78 => ?_) (fun ct78 => ?_)
    · have hj : j < (b.F.drop kept).length := by simp at ct78 ⊢; omega
      obtain ⟨fj, hfj⟩ : ∃ x, (b.F.drop kept)[j]? = some x := ⟨_, List.getElem?_eq_getElem hj⟩
      have hj5 : j < 5 := by simp at hj; omega
      refine CW.skip ?_
      refine CW.seq ?_
      refine CW.block ?_
      refine CW.seq (.rg (.run htt 4 (by simp only [go_sem, simprocAttr, hj, hfj, eField]; exact rfl) (by simp [go_sem, simprocAttr, hj, hfj, eField]) (.done ?_)))
      refine CW.rg ?_
      refine CWops.run htt 3 (by simp only [go_sem, simprocAttr, eField, eType, eStep, List.replicate]; exact rfl) (by simp [AV.cell, AV.tree, eStep, MX] <;> omega) ?_
      refine CWops.callA (between_step up 0 fj a) (by simp only [go_sem, simprocAttr, eField, eType, eStep, List.replicate]) (by simp only [go_sem, simprocAttr, eField, eType, eStep, List.replicate] <;> exact rfl) (by simp only [go_sem, simprocAttr, eField, eType, eStep, List.replicate]) (by simp only [go_sem, simprocAttr, eField, eType, eStep, List.replicate]) (fun rt84 hrt84 => ?_)
      subst hrt84
      refine CWops.run htt 3 (by simp only [go_sem, simprocAttr, eField, eType, eStep, List.replicate]; exact rfl) (by simp [AV.cell, AV.tree, eStep, MX] <;> omega) ?_
      refine CWops.done ?_
      refine CW.rg (.run htt 2 (by simp only [go_sem, simprocAttr, wrap_succ (show j < MX by unfold MX; omega)]; exact rfl) (by simp [go_sem, simprocAttr, wrap_succ (show j < MX by unfold MX; omega)]) (.done ?_))
      refine ⟨j + 1, ?_, ?_, ?_⟩
      · refine Sh.wk (fun x => if x = 4 then 7 else x) ?_
        dsimp only
        simp [Wk, go_sem, simprocAttr, eType, List.take_add_one, hfj, eStep, ex_func, SubL, Sub]
      · exact hj
      · simp only; omega
    · have hj : j = (b.F.drop kept).length := by have h9 := h3; simp at ct78 h9 ⊢; omega
      rw [hj, List.take_length]
      refine CW.exit ?_
      refine CW.seq ?_
      refine CW.sh (Sh.frzT 6 2 rfl rfl rfl) ?_
      simp only [go_sem, simprocAttr]
      refine CW.sh (Sh.frzT 7 3 rfl rfl rfl) ?_
      simp only [go_sem, simprocAttr]
      refine CW.sh (Sh.frzT 8 4 rfl rfl rfl) ?_
      simp only [go_sem, simprocAttr]
      refine CW.rg ?_
      refine CWops.run htt 4 (by simp only [go_sem, simprocAttr, List.replicate, eSteps, List.map_cons, List.map_nil]; exact rfl) (by simp [AV.cell, AV.tree, MX] <;> omega) ?_
      refine CWops.sh (Sh.frzT 91 5 rfl rfl rfl) ?_
      simp only [go_sem, simprocAttr, List.replicate, List.set_cons_zero, List.set_cons_succ, AV.freeze, List.map_cons, List.map_nil]
      refine CWops.callA (concat_Step up [d, w, (b.F.drop kept).map fun f => ⟨0, a.Name, f⟩] (by simp) (by simp only [List.flatten_cons, List.flatten_nil, List.append_nil, List.length_append, List.length_map, List.length_drop]; unfold MX; omega)) (by simp only [go_sem, simprocAttr, List.replicate, eSteps, List.map_cons, List.map_nil]) (by simp only [go_sem, simprocAttr, List.replicate, eSteps, List.map_cons, List.map_nil] <;> exact rfl) (by simp only [go_sem, simprocAttr, List.replicate, eSteps, List.map_cons, List.map_nil]) (by simp only [go_sem, simprocAttr, List.replicate, eSteps, List.map_cons, List.map_nil]) (fun rt92 hrt92 => ?_)
      subst hrt92
      refine CWops.run htt 2 (by simp only [go_sem, simprocAttr, List.replicate, eSteps, List.map_cons, List.map_nil]; exact rfl) (by simp [AV.cell, AV.tree, MX] <;> omega) ?_
      refine CWops.done ?_
      refine CW.ret ?_
      refine retQ.rt (by simp only [f85, go_sem, simprocAttr]; exact rfl) ?_
      refine ⟨_, ?_, rfl⟩
      first | (rw [hbad]; simp [leP, leL]; done) | (rw [hB.done]; simp [leP, leL]; done)
theorem grade_Between (up : Bool) (s t : List GType) : PCall prog up 52 [.agg (eSchema s), .agg (eSchema t)] (· = .tup [.sl 5 ((gBetween s t).1.map eStep), .bool (gBetween s t).2]) := by
  refine PCall.intro htt func52 (by kernel_rfl) rfl (Nat.le_of_ble_eq_true rfl) fun hl => ?_

  simp only [tmps0, Nat.reduceAdd]
  refine CW.seq (.rg (.run htt 4 (by simp only [go_sem, simprocAttr, eSchema]; exact rfl) (by simp [go_sem, simprocAttr, eSchema]) (.done ?_)))
  refine CW.seq ?_
  refine CW.cut ⟨2, [(2, .lv 0 [] 0), (3, .lv 1 [] 0), (27, .bool (!((schemaMay s && schemaMay t) && decide (s.length = t.length))))], [(0, ⟨true, eSchema s⟩), (1, ⟨true, eSchema t⟩)]⟩ ?_ ?_
  · refine CW.rg (.run htt 1 (by simp only [go_sem, simprocAttr, eSchema]; exact rfl) (by simp [go_sem, simprocAttr, eSchema]) ?_)
    refine CWops.call (schema_May up s) (by simp only [go_sem, simprocAttr, eSchema]) (by simp only [go_sem, simprocAttr, eSchema] <;> exact rfl) (by simp only [go_sem, simprocAttr, eSchema]) (fun rt12 hrt12 => ?_)
    subst hrt12; refine ⟨rfl, ?_⟩
    refine CWops.run htt 2 (by simp only [go_sem, simprocAttr, eSchema]; exact rfl) (by simp [go_sem, simprocAttr, eSchema]) ?_
    all_goals (first | refine CWops.guard 14 (by simp only [go_sem, simprocAttr, eSchema]; exact rfl) (fun g14 => ?_) (fun g14 => ?_) | skip)
    all_goals (refine CWops.run htt 1 (by simp only [go_sem, simprocAttr, eSchema]; exact rfl) (by simp [go_sem, simprocAttr, eSchema]) ?_)
    all_goals (first | (refine CWops.skip ?_ ?_; next => (simp only [go_sem, simprocAttr]; done)) | (refine CWops.call (schema_May up t) (by simp only [go_sem, simprocAttr, eSchema]) (by simp only [go_sem, simprocAttr, eSchema] <;> exact rfl) (by simp only [go_sem, simprocAttr, eSchema]) (fun rt16 hrt16 => ?_); subst hrt16; refine ⟨rfl, ?_⟩))
    all_goals (refine CWops.run htt 3 (by simp only [go_sem, simprocAttr, eSchema]; exact rfl) (by simp [go_sem, simprocAttr, eSchema]) ?_)
    all_goals (first | refine CWops.guard 19 (by simp only [go_sem, simprocAttr, eSchema]; exact rfl) (fun g19 => ?_) (fun g19 => ?_) | skip)
    all_goals (refine CWops.run htt 8 (by simp only [go_sem, simprocAttr, eSchema]; exact rfl) (by simp [go_sem, simprocAttr, eSchema]) ?_)
    all_goals (refine CWops.done ?_)
    all_goals (
      first | refine ⟨rfl, Sh.wk0 ?_⟩ | refine Sh.wk0 ?_
      by_cases b1 : s.length = t.length <;> cases hs1 : schemaMay s <;> cases hs2 : schemaMay t <;> simp_all [Wk, go_sem, simprocAttr, eSchema] <;> first | done | omega)
  refine CW.cd (fun ct27 => ?_) (fun ct27 => ?_)
  · have hbad : gBetween s t = ([], false) := by
      have h0 : ((schemaMay s && schemaMay t) && decide (s.length = t.length)) = false := by simp only [Bool.not_eq_true'] at ct27; exact ct27
      unfold gBetween; rw [h0]; rfl
    refine CW.seq (.rg (.rn htt 2 (.done ?_)))
    refine CW.ret ?_
    refine retQ.rt (by simp only [f52, go_sem, simprocAttr]; exact rfl) ?_
    refine ⟨_, ?_, rfl⟩
    first | (rw [hbad]; simp [leP, leL]; done) | (rw [hdone]; simp [leP, leL]; done)
  · have hok : ((schemaMay s && schemaMay t) && decide (s.length = t.length)) = true := by simp only [Bool.not_eq_false'] at ct27; exact ct27
    have hok2 := hok
    simp only [Bool.and_eq_true, decide_eq_true_eq] at hok2
    obtain ⟨⟨hms, hmt⟩, hlen⟩ := hok2
    have hS := (smay_iff s).1 hms
    have hT := (smay_iff t).1 hmt
    have hs4 := hS.len
    refine CW.skip ?_
    refine CW.seq (.rg (.rn htt 1 (.done ?_)))
    refine CW.seq (.seq (.rg (.run htt 4 (by simp only [go_sem, simprocAttr, eSchema]; exact rfl) (by simp [go_sem, simprocAttr, eSchema]) (.done ?_))))
    refine CW.block ?_
    refine CW.loop (S := Nat × List GStep) (fun p => ⟨3, [(2, .lv 0 [] 0), (3, .lv 1 [] 0), (6, .ref 2 [] 0), (29, .sl 2 (s.map eType)), (30, .int .i64 s.length), (31, .int .i64 p.1)], [(0, ⟨true, eSchema s⟩), (1, ⟨true, eSchema t⟩), (2, ⟨false, [.own 5 (p.2.map eStep)]⟩)]⟩) (fun p => p.1 ≤ s.length ∧ bwFold s t p.1 = some p.2 ∧ p.2.length ≤ 15 * p.1) (fun p => s.length - p.1) ((0, [])) ?_ ⟨Nat.zero_le _, rfl, Nat.le_refl _⟩ (fun ⟨i, l⟩ hB => ?_)
    · refine Sh.trans (Sh.nilRoot 6 5 (by simp only [go_sem, simprocAttr]) rfl) (Sh.wk0 ?_); simp [Wk, go_sem, simprocAttr, eSchema]
    simp only at hB
    refine CW.seq (.rg (.rn htt 1 (.done ?_)))
    refine CW.seq ?_
    refine CW.cd (fun ct32 => ?_) (fun ct32 => ?_)
    · have hi : i < s.length := by simpa using ct32
      obtain ⟨a, ha⟩ : ∃ x, s[i]? = some x := ⟨s[i], List.getElem?_eq_getElem hi⟩
      have hit : i < t.length := by omega
      obtain ⟨b, hbt⟩ : ∃ x, t[i]? = some x := ⟨t[i], List.getElem?_eq_getElem hit⟩
      have hF5 := hS.flen i a ha
      have hG5 := hT.flen i b hbt
      have hll := betw_len hF5 hG5
      have hsucc := bwFold_succ ha hbt
      rw [hB.2.1] at hsucc
      have hB2 := hB.2.2
      refine CW.skip ?_
      refine CW.seq ?_
      refine CW.block ?_
      refine CW.seq (.rg (.run htt 6 (by simp only [go_sem, simprocAttr, hi, ha, eType]; exact rfl) (by simp [go_sem, simprocAttr, hi, ha, eType]) (.done ?_)))
      refine CW.seq ?_
      refine CW.drawn mixed 11 (by decide) (by kernel_rfl) (by kernel_rfl) (by kernel_rfl) ?_
      refine Seg.run htt 6 (by simp only [go_sem, simprocAttr, eType, eSchema, hit, hbt]; exact rfl) ?_
      refine Seg.callA (grade_between up a b hF5 hG5) (by simp only [go_sem, simprocAttr, eType, eSchema, hit, hbt]) (by simp only [go_sem, simprocAttr, eType, eSchema, hit, hbt] <;> exact rfl) (by simp only [go_sem, simprocAttr, eType, eSchema, hit, hbt]) (by simp only [go_sem, simprocAttr, eType, eSchema, hit, hbt]) ?_
      refine Seg.run htt 4 (by simp only [go_sem, simprocAttr, eType, eSchema, hit, hbt]; exact rfl) ?_
      refine Seg.done ?_
      refine CWops.run htt 1 (by simp only [go_sem, simprocAttr, eType, eSchema, hit, hbt]; exact rfl) (by simp [go_sem, simprocAttr, eType, eSchema, hit, hbt]) (.done ?_)
      refine CW.seq (.seq ?_)
      refine CW.drawn mixed 11 (by decide) (by kernel_rfl) (by kernel_rfl) (by kernel_rfl) ?_
      refine Seg.run htt 3 (by simp only [go_sem, simprocAttr, eType, eSchema, hit, hbt]; exact rfl) ?_
      all_goals (first | refine Seg.guard 48 (by simp only [go_sem, simprocAttr, eType, eSchema, hit, hbt]; exact rfl) (fun g48 => ?_) (fun g48 => ?_) | skip)
      all_goals (refine Seg.run htt 8 (by simp only [go_sem, simprocAttr, eType, eSchema, hit, hbt]; exact rfl) ?_)
      all_goals (refine Seg.done ?_)
      all_goals (refine CWops.run htt 2 (by simp only [go_sem, simprocAttr, eType, eSchema, hit, hbt]; exact rfl) (by simp [go_sem, simprocAttr, eType, eSchema, hit, hbt]) ?_)
      all_goals (refine CWops.done ?_)
      all_goals (
        refine CW.cd (fun ct58 => ?_) (fun ct58 => ?_)
        · have hbad : gBetween s t = ([], false) := by
            have h0 : ((betw a b).2 && decide (a.Name = b.Name)) = false := by
              cases h1 : (betw a b).2 <;> by_cases h2 : a.Name = b.Name <;> simp_all
            have : bwFold s t (i + 1) = none := by rw [hsucc]; simp only [bwStep]; rw [h0]; rfl
            unfold gBetween; rw [if_pos hok, bwFold_dead this hlen]
          refine CW.seq (.rg (.rn htt 2 (.done ?_)))
          refine CW.ret ?_
          refine retQ.rt (by simp only [f52, go_sem, simprocAttr]; exact rfl) ?_
          refine ⟨_, ?_, rfl⟩
          first | (rw [hbad]; simp [leP, leL]; done) | (rw [hdone]; simp [leP, leL]; done)
        · have hgo : bwFold s t (i + 1) = some (l ++ (betw a b).1) := by
            have h0 : ((betw a b).2 && decide (a.Name = b.Name)) = true := by
              cases h1 : (betw a b).2 <;> by_cases h2 : a.Name = b.Name <;> simp_all
            rw [hsucc]; simp only [bwStep]; rw [if_pos h0]
          refine CW.skip ?_
          refine CW.rg ?_
          refine CWops.run htt 4 (by simp only [go_sem, simprocAttr]; exact rfl) (by refine ⟨?_, ?_, ?_⟩ <;> first | (simp [eStep, AV.cell]; done) | (simp [MX]; omega)) ?_
          refine CWops.done ?_
          refine CW.rg (.run htt 2 (by simp only [go_sem, simprocAttr, wrap_succ (show i < MX by unfold MX; omega)]; exact rfl) (by simp [go_sem, simprocAttr, wrap_succ (show i < MX by unfold MX; omega)]) (.done ?_))
          refine ⟨(i + 1, l ++ (betw a b).1), ?_, ?_, ?_⟩
          · refine Sh.wk (fun x => if x = 2 then 4 else x) ?_; simp [Wk, go_sem, simprocAttr, eSchema]
          · exact ⟨hi, hgo, by simp; omega⟩
          · simp only; omega)
    · have hi : i = s.length := by have := hB.1; simp at ct32; omega
      subst hi
      have hdone : gBetween s t = (l, true) := by unfold gBetween; rw [if_pos hok, hB.2.1]
      refine CW.exit ?_
      refine CW.seq (.rg (.rn htt 3 (.done ?_)))
      refine CW.ret ?_
      refine retQ.rt (by simp only [f52, go_sem, simprocAttr]; exact rfl) ?_
      refine ⟨_, ?_, rfl⟩
      first | (rw [hbad]; simp [leP, leL]; done) | (rw [hdone]; simp [leP, leL]; done)
theorem nil_MX : (Array.size (#[] : Array UInt8) ≤ MX) = True := eq_true (Nat.zero_le _)
theorem grade_Graph (up : Bool) (g : Graph) (x : GStep) : PCall prog up 20 [.agg (eGraph g), .agg (eStep x)] (· = .tup [.agg (eGraph (gGrade g x).1), .int .i64 (gGrade g x).2]) := by
  cases hm : gMay g with
  | false => exact grade_Graph_bad up g x hm
  | true =>
    by_cases h0 : (gDo g.S x).1 = 0
    · exact grade_Graph_ok up g x hm h0
    · exact grade_Graph_err up g x hm h0
theorem aw13Graph (up : Bool) : PCall prog up 20 [.agg (eGraph aG), .agg (eStep aX)] (· = .tup [.agg (eGraph aG2), .int .i64 0]) := by
  have h := grade_Graph up aG aX
  rw [aG_grade] at h
  exact h
theorem aw13Between (up : Bool) : ∃ l : List GStep, l.length = 1 ∧ PCall prog up 52 [.agg (eSchema aS), .agg (eSchema aS2)] (· = .tup [.sl 5 (l.map eStep), .bool true]) := by
  have h := grade_Between up aS aS2
  rw [aS_btw.1] at h
  exact ⟨_, aS_btw.2, h⟩
theorem law13_awake (up : Bool) : PCall prog up 19 [] (· = .bool true) := by
  refine PCall.intro htt func19 (by kernel_rfl) rfl (Nat.le_of_ble_eq_true rfl) fun hl => ?_
  obtain ⟨l, hl1, hbt⟩ := aw13Between up
  simp only [tmps0, Nat.reduceAdd]
  refine CW.seq (.rg (.rn htt 1 (.done ?_)))
  refine CW.seq (.rg (.run htt 1 (by simp only [go_sem, simprocAttr, one_MX, nil_MX]; exact rfl) (by simp [go_sem, simprocAttr, one_MX, nil_MX]) (.run htt 1 (by simp only [go_sem, simprocAttr, List.replicate, one_MX, nil_MX]; exact rfl) (by simp [go_sem, simprocAttr]) ?_)))
  refine CWops.sh (Sh.frzT 8 0 (by simp only [go_sem, simprocAttr]) (by simp only [go_sem, simprocAttr] <;> exact rfl) rfl) ?_
  simp only [go_sem, simprocAttr, AV.freeze]
  refine CWops.run htt 1 (by simp only [go_sem, simprocAttr, one_MX, nil_MX]; exact rfl) (by simp [go_sem, simprocAttr, one_MX, nil_MX]) (.run htt 1 (by simp only [go_sem, simprocAttr, List.replicate, one_MX, nil_MX]; exact rfl) (by simp [go_sem, simprocAttr]) ?_)
  refine CWops.sh (Sh.frzT 10 1 (by simp only [go_sem, simprocAttr]) (by simp only [go_sem, simprocAttr] <;> exact rfl) rfl) ?_
  simp only [go_sem, simprocAttr, AV.freeze]
  refine CWops.run htt 3 (by simp only [go_sem, simprocAttr, one_MX, nil_MX]; exact rfl) (by simp [go_sem, simprocAttr, one_MX, nil_MX]) (.done ?_)
  refine CW.seq (.rg (.run htt 2 (by simp only [go_sem, simprocAttr, one_MX, nil_MX]; exact rfl) (by simp [go_sem, simprocAttr, one_MX, nil_MX]) (.run htt 1 (by simp only [go_sem, simprocAttr, List.replicate, one_MX, nil_MX]; exact rfl) (by simp [go_sem, simprocAttr]) ?_)))
  refine CWops.sh (Sh.frzT 14 3 (by simp only [go_sem, simprocAttr]) (by simp only [go_sem, simprocAttr] <;> exact rfl) rfl) ?_
  simp only [go_sem, simprocAttr, AV.freeze]
  refine CWops.run htt 1 (by simp only [go_sem, simprocAttr, one_MX, nil_MX]; exact rfl) (by simp [go_sem, simprocAttr, one_MX, nil_MX]) (.run htt 1 (by simp only [go_sem, simprocAttr, List.replicate, one_MX, nil_MX]; exact rfl) (by simp [go_sem, simprocAttr]) ?_)
  refine CWops.sh (Sh.frzT 16 4 (by simp only [go_sem, simprocAttr]) (by simp only [go_sem, simprocAttr] <;> exact rfl) rfl) ?_
  simp only [go_sem, simprocAttr, AV.freeze]
  refine CWops.run htt 3 (by simp only [go_sem, simprocAttr, one_MX, nil_MX]; exact rfl) (by simp [go_sem, simprocAttr, one_MX, nil_MX]) (.done ?_)
  refine CW.seq (.rg (.run htt 3 (by simp only [go_sem, simprocAttr, one_MX, nil_MX, aG, aS, aX, aG2, aS2, eGraph, eSchema, eType, eField, eObj, eVal, eStep, List.map_cons, List.map_nil]; exact rfl) (by simp [go_sem, simprocAttr, one_MX, nil_MX, aG, aS, aX, aG2, aS2, eGraph, eSchema, eType, eField, eObj, eVal, eStep, List.map_cons, List.map_nil]) ?_))
  refine CWops.callA (aw13Graph up) (by simp only [go_sem, simprocAttr, one_MX, nil_MX, aG, aS, aX, aG2, aS2, eGraph, eSchema, eType, eField, eObj, eVal, eStep, List.map_cons, List.map_nil]) (by simp only [go_sem, simprocAttr, one_MX, nil_MX, aG, aS, aX, aG2, aS2, eGraph, eSchema, eType, eField, eObj, eVal, eStep, List.map_cons, List.map_nil] <;> exact rfl) (by simp only [go_sem, simprocAttr, one_MX, nil_MX, aG, aS, aX, aG2, aS2, eGraph, eSchema, eType, eField, eObj, eVal, eStep, List.map_cons, List.map_nil]) (by simp only [go_sem, simprocAttr, one_MX, nil_MX, aG, aS, aX, aG2, aS2, eGraph, eSchema, eType, eField, eObj, eVal, eStep, List.map_cons, List.map_nil]) (fun rt22 hrt22 => ?_)
  subst hrt22
  refine CWops.run htt 6 (by simp only [go_sem, simprocAttr, one_MX, nil_MX, aG, aS, aX, aG2, aS2, eGraph, eSchema, eType, eField, eObj, eVal, eStep, List.map_cons, List.map_nil]; exact rfl) (by simp [go_sem, simprocAttr, one_MX, nil_MX, aG, aS, aX, aG2, aS2, eGraph, eSchema, eType, eField, eObj, eVal, eStep, List.map_cons, List.map_nil]) (.done ?_)
  refine CW.seq (.rg (.run htt 3 (by simp only [go_sem, simprocAttr, one_MX, nil_MX, aG, aS, aX, aG2, aS2, eGraph, eSchema, eType, eField, eObj, eVal, eStep, List.map_cons, List.map_nil]; exact rfl) (by simp [go_sem, simprocAttr, one_MX, nil_MX, aG, aS, aX, aG2, aS2, eGraph, eSchema, eType, eField, eObj, eVal, eStep, List.map_cons, List.map_nil]) ?_))
  refine CWops.callA (hbt) (by simp only [go_sem, simprocAttr, one_MX, nil_MX, aG, aS, aX, aG2, aS2, eGraph, eSchema, eType, eField, eObj, eVal, eStep, List.map_cons, List.map_nil]) (by simp only [go_sem, simprocAttr, one_MX, nil_MX, aG, aS, aX, aG2, aS2, eGraph, eSchema, eType, eField, eObj, eVal, eStep, List.map_cons, List.map_nil] <;> exact rfl) (by simp only [go_sem, simprocAttr, one_MX, nil_MX, aG, aS, aX, aG2, aS2, eGraph, eSchema, eType, eField, eObj, eVal, eStep, List.map_cons, List.map_nil]) (by simp only [go_sem, simprocAttr, one_MX, nil_MX, aG, aS, aX, aG2, aS2, eGraph, eSchema, eType, eField, eObj, eVal, eStep, List.map_cons, List.map_nil]) (fun rt29 hrt29 => ?_)
  subst hrt29
  refine CWops.run htt 5 (by simp only [go_sem, simprocAttr, one_MX, nil_MX, aG, aS, aX, aG2, aS2, eGraph, eSchema, eType, eField, eObj, eVal, eStep, List.map_cons, List.map_nil]; exact rfl) (by simp [go_sem, simprocAttr, one_MX, nil_MX, aG, aS, aX, aG2, aS2, eGraph, eSchema, eType, eField, eObj, eVal, eStep, List.map_cons, List.map_nil]) (.done ?_)
  refine CW.seq (.rg (.run htt 3 (by simp only [go_sem, simprocAttr, one_MX, nil_MX, aG, aS, aX, aG2, aS2, eGraph, eSchema, eType, eField, eObj, eVal, eStep, List.map_cons, List.map_nil, hl1, List.getElem?_cons_zero, List.length_cons, List.length_nil]; exact rfl) (by simp [go_sem, simprocAttr, one_MX, nil_MX, aG, aS, aX, aG2, aS2, eGraph, eSchema, eType, eField, eObj, eVal, eStep, List.map_cons, List.map_nil, hl1, List.getElem?_cons_zero, List.length_cons, List.length_nil]) ?_))
  all_goals (first | refine CWops.guard 34 (by simp only [go_sem, simprocAttr, one_MX, nil_MX, aG, aS, aX, aG2, aS2, eGraph, eSchema, eType, eField, eObj, eVal, eStep, List.map_cons, List.map_nil, hl1, List.getElem?_cons_zero, List.length_cons, List.length_nil]; exact rfl) (fun g34 => ?_) (fun g34 => ?_) | skip)
  all_goals (first | (simp at g34; done) | (cases g34; done) | skip)
  all_goals (refine CWops.run htt 6 (by simp only [go_sem, simprocAttr, one_MX, nil_MX, aG, aS, aX, aG2, aS2, eGraph, eSchema, eType, eField, eObj, eVal, eStep, List.map_cons, List.map_nil, hl1, List.getElem?_cons_zero, List.length_cons, List.length_nil]; exact rfl) (by simp [go_sem, simprocAttr, one_MX, nil_MX, aG, aS, aX, aG2, aS2, eGraph, eSchema, eType, eField, eObj, eVal, eStep, List.map_cons, List.map_nil, hl1, List.getElem?_cons_zero, List.length_cons, List.length_nil]) ?_)
  all_goals (first | refine CWops.guard 40 (by simp only [go_sem, simprocAttr, one_MX, nil_MX, aG, aS, aX, aG2, aS2, eGraph, eSchema, eType, eField, eObj, eVal, eStep, List.map_cons, List.map_nil, hl1, List.getElem?_cons_zero, List.length_cons, List.length_nil]; exact rfl) (fun g40 => ?_) (fun g40 => ?_) | skip)
  all_goals (first | (simp at g40; done) | (cases g40; done) | skip)
  all_goals (refine CWops.run htt 11 (by simp only [go_sem, simprocAttr, one_MX, nil_MX, aG, aS, aX, aG2, aS2, eGraph, eSchema, eType, eField, eObj, eVal, eStep, List.map_cons, List.map_nil, hl1, List.getElem?_cons_zero, List.length_cons, List.length_nil]; exact rfl) (by simp [go_sem, simprocAttr, one_MX, nil_MX, aG, aS, aX, aG2, aS2, eGraph, eSchema, eType, eField, eObj, eVal, eStep, List.map_cons, List.map_nil, hl1, List.getElem?_cons_zero, List.length_cons, List.length_nil]) ?_)
  all_goals (first | refine CWops.guard 51 (by simp only [go_sem, simprocAttr, one_MX, nil_MX, aG, aS, aX, aG2, aS2, eGraph, eSchema, eType, eField, eObj, eVal, eStep, List.map_cons, List.map_nil, hl1, List.getElem?_cons_zero, List.length_cons, List.length_nil]; exact rfl) (fun g51 => ?_) (fun g51 => ?_) | skip)
  all_goals (first | (simp at g51; done) | (cases g51; done) | skip)
  all_goals (refine CWops.run htt 12 (by simp only [go_sem, simprocAttr, one_MX, nil_MX, aG, aS, aX, aG2, aS2, eGraph, eSchema, eType, eField, eObj, eVal, eStep, List.map_cons, List.map_nil, hl1, List.getElem?_cons_zero, List.length_cons, List.length_nil]; exact rfl) (by simp [go_sem, simprocAttr, one_MX, nil_MX, aG, aS, aX, aG2, aS2, eGraph, eSchema, eType, eField, eObj, eVal, eStep, List.map_cons, List.map_nil, hl1, List.getElem?_cons_zero, List.length_cons, List.length_nil]) ?_)
  all_goals (first | refine CWops.guard 63 (by simp only [go_sem, simprocAttr, one_MX, nil_MX, aG, aS, aX, aG2, aS2, eGraph, eSchema, eType, eField, eObj, eVal, eStep, List.map_cons, List.map_nil, hl1, List.getElem?_cons_zero, List.length_cons, List.length_nil]; exact rfl) (fun g63 => ?_) (fun g63 => ?_) | skip)
  all_goals (first | (simp at g63; done) | (cases g63; done) | skip)
  all_goals (refine CWops.run htt 3 (by simp only [go_sem, simprocAttr, one_MX, nil_MX, aG, aS, aX, aG2, aS2, eGraph, eSchema, eType, eField, eObj, eVal, eStep, List.map_cons, List.map_nil, hl1, List.getElem?_cons_zero, List.length_cons, List.length_nil]; exact rfl) (by simp [go_sem, simprocAttr, one_MX, nil_MX, aG, aS, aX, aG2, aS2, eGraph, eSchema, eType, eField, eObj, eVal, eStep, List.map_cons, List.map_nil, hl1, List.getElem?_cons_zero, List.length_cons, List.length_nil]) ?_)
  all_goals (first | refine CWops.guard 66 (by simp only [go_sem, simprocAttr, one_MX, nil_MX, aG, aS, aX, aG2, aS2, eGraph, eSchema, eType, eField, eObj, eVal, eStep, List.map_cons, List.map_nil, hl1, List.getElem?_cons_zero, List.length_cons, List.length_nil]; exact rfl) (fun g66 => ?_) (fun g66 => ?_) | skip)
  all_goals (first | (simp at g66; done) | (cases g66; done) | skip)
  all_goals (refine CWops.run htt 5 (by simp only [go_sem, simprocAttr, one_MX, nil_MX, aG, aS, aX, aG2, aS2, eGraph, eSchema, eType, eField, eObj, eVal, eStep, List.map_cons, List.map_nil, hl1, List.getElem?_cons_zero, List.length_cons, List.length_nil]; exact rfl) (by simp [go_sem, simprocAttr, one_MX, nil_MX, aG, aS, aX, aG2, aS2, eGraph, eSchema, eType, eField, eObj, eVal, eStep, List.map_cons, List.map_nil, hl1, List.getElem?_cons_zero, List.length_cons, List.length_nil]) ?_)
  all_goals (refine CWops.done ?_)
  all_goals (
    refine CW.ret ?_
    refine retQ.rt (by simp only [f19, go_sem, simprocAttr]; exact rfl) ?_
    refine ⟨_, ?_, rfl⟩
    first | (simp [leP]; done) | (simp_all [leP]; done))
end Go.Ab
namespace Go.Ab
open Go Go.Proofs.Try Go.RowKit
set_option maxRecDepth 100000
set_option maxHeartbeats 6400000
theorem law13_GradeWide (up : Bool) (g : Graph) (t f : ByteArray) (k l : Int) (hz : GSz g) : PCall prog up 7 [.agg (eGraph g), .str t, .str f, .int .i64 k, .int .i64 l] (· = .bool true) := by
  refine PCall.intro htt func7 (by kernel_rfl) rfl (Nat.le_of_ble_eq_true rfl) fun hl => ?_

  simp only [tmps0, Nat.reduceAdd]
  refine CW.seq (.rg (.run htt 2 (by simp only [go_sem, simprocAttr, eGraph]; exact rfl) (by simp [go_sem, simprocAttr, eGraph]) (.done ?_)))
  refine CW.seq (.rg ?_)
  refine CWops.callA (law13_awake up) (by simp only [go_sem, simprocAttr]) (by simp only [go_sem, simprocAttr] <;> exact rfl) (by simp only [go_sem, simprocAttr]) (by simp only [go_sem, simprocAttr]) (fun rt23 hrt23 => ?_)
  subst hrt23
  refine CWops.rn htt 1 (.done ?_)
  refine CW.seq (.rg (.run htt 1 (by simp only [go_sem, simprocAttr, eGraph]; exact rfl) (by simp [go_sem, simprocAttr, eGraph]) ?_))
  refine CWops.callA (law08_Few up g) (by simp only [go_sem, simprocAttr, eGraph]) (by simp only [go_sem, simprocAttr, eGraph] <;> exact rfl) (by simp only [go_sem, simprocAttr, eGraph]) (by simp only [go_sem, simprocAttr, eGraph]) (fun rt25 hrt25 => ?_)
  subst hrt25
  refine CWops.run htt 1 (by simp only [go_sem, simprocAttr, eGraph]; exact rfl) (by simp [go_sem, simprocAttr, eGraph]) (.done ?_)
  refine CW.seq ?_
  refine CW.cut ⟨1, [(1, .str t), (2, .str f), (3, .int .i64 k), (4, .int .i64 l), (5, .lv 0 [] 0), (11, .bool true), (31, .bool (!fewG g))], [(0, ⟨true, eGraph g⟩)]⟩ ?_ ?_
  · refine CW.rg (.rn htt 3 ?_)
    all_goals (first | refine CWops.guard 28 (by simp only [go_sem, simprocAttr]; exact rfl) (fun g28 => ?_) (fun g28 => ?_) | skip)
    all_goals (first | (simp at g28; done) | (cases g28; done) | (exfalso; simp_all; done) | (exfalso; simp_all; omega) | skip)
    all_goals (refine CWops.rn htt 3 ?_)
    all_goals (refine CWops.done ?_)
    all_goals (
      first | refine ⟨rfl, Sh.wk0 ?_⟩ | refine Sh.wk0 ?_
      first | (simp [Wk, go_sem, simprocAttr, eGraph]; done) | (simp_all [Wk, go_sem, simprocAttr, eGraph] <;> first | done | rfl | omega | (rw [Bool.eq_iff_iff]; simp; done) | (rw [Bool.eq_iff_iff]; simp; omega)))
  refine CW.cd (fun ct31 => ?_) (fun ct31 => ?_)
  · refine CW.seq (.rg (.rn htt 2 (.done ?_)))
    refine CW.ret ?_
    refine retQ.rt (by simp only [f7, go_sem, simprocAttr]; exact rfl) ?_
    refine ⟨_, ?_, rfl⟩
    first | (simp [leP]; done) | (simp_all [leP]; done) | (simp_all [leP]; omega)
  · obtain ⟨⟨⟨sS, sO, sR⟩, e⟩, hG⟩ : ∃ p, gGrade g ⟨2, t, ⟨f, k, ⟨#[]⟩⟩⟩ = p := ⟨_, rfl⟩
    obtain ⟨⟨h2, e2⟩, hH⟩ : ∃ p, gGrade ⟨sS, sO, sR⟩ ⟨2, t, ⟨f, l, ⟨#[]⟩⟩⟩ = p := ⟨_, rfl⟩
    obtain ⟨w1, w2⟩ := wide_facts (l := l) hG
    rw [hH] at w2
    refine CW.skip ?_
    refine CW.seq (.rg (.run htt 6 (by simp only [go_sem, simprocAttr, eGraph, eStep, nil_MX]; exact rfl) (by simp [go_sem, simprocAttr, eGraph, eStep, nil_MX]) ?_))
    refine CWops.callA ((by have q := grade_Graph up g ⟨2, t, ⟨f, k, ⟨#[]⟩⟩⟩; rw [hG] at q; exact q)) (by simp only [go_sem, simprocAttr, eGraph, eStep, nil_MX]) (by simp only [go_sem, simprocAttr, eGraph, eStep, nil_MX] <;> exact rfl) (by simp only [go_sem, simprocAttr, eGraph, eStep, nil_MX]) (by simp only [go_sem, simprocAttr, eGraph, eStep, nil_MX]) (fun rt40 hrt40 => ?_)
    subst hrt40
    refine CWops.run htt 6 (by simp only [go_sem, simprocAttr, eGraph, eStep, nil_MX]; exact rfl) (by simp [go_sem, simprocAttr, eGraph, eStep, nil_MX]) (.done ?_)
    refine CW.seq (.seq (.rg (.rn htt 2 (.done ?_))))
    refine CW.cd (fun ct44 => ?_) (fun ct44 => ?_)
    · have he : e ≠ 0 := by simpa using ct44
      have hO := w1 he
      simp only at hO
      subst hO
      refine CW.seq (.rg (.run htt 5 (by simp only [go_sem, simprocAttr, eGraph, List.map_nil, List.length_nil]; exact rfl) (by simp [go_sem, simprocAttr, eGraph, List.map_nil, List.length_nil]) (.done ?_)))
      refine CW.ret ?_
      refine retQ.rt (by simp only [f7, go_sem, simprocAttr]; exact rfl) ?_
      refine ⟨_, ?_, rfl⟩
      first | (simp [leP]; done) | (simp_all [leP]; done) | (simp_all [leP]; omega)
    · have he : e = 0 := by simpa using ct44
      subst he
      obtain ⟨hO, hm, hiff⟩ := w2 rfl
      simp only at hO hiff
      subst hO
      have hpe := parts_err hm
      have hzo := hz.o
      refine CW.skip ?_
      refine CW.seq (.seq (.rg (.run htt 7 (by simp only [go_sem, simprocAttr, eGraph]; exact rfl) (by simp [go_sem, simprocAttr, eGraph]) (.done ?_))))
      refine CW.cd (fun ct55 => ?_) (fun ct55 => ?_)
      · exfalso; simp at ct55 
      · refine CW.skip ?_
        refine CW.seq (.seq (.rg (.rn htt 1 (.done ?_))))
        refine CW.block ?_
        refine CW.loop (S := Nat) (fun i => ⟨2, [(1, .str t), (2, .str f), (3, .int .i64 k), (4, .int .i64 l), (5, .lv 0 [] 0), (13, .lv 1 [] 0), (15, .int .i64 i)], [(0, ⟨true, eGraph g⟩), (1, ⟨true, eGraph ⟨sS, g.O, sR⟩⟩)]⟩) (fun i => i ≤ g.O.length) (fun i => g.O.length - i) (0) ?_ (Nat.zero_le _) (fun i h1 => ?_)
        · refine Sh.wk0 ?_; simp [Wk, go_sem, simprocAttr, eGraph]
        refine CW.seq (.seq (.rg (.run htt 5 (by simp only [go_sem, simprocAttr, eGraph]; exact rfl) (by simp [go_sem, simprocAttr, eGraph]) (.done ?_))))
        refine CW.cd (fun ct60 => ?_) (fun ct60 => ?_)
        · have hil : i < g.O.length := by simpa using ct60
          obtain ⟨o, ho⟩ : ∃ o, g.O[i]? = some o := ⟨g.O[i], List.getElem?_eq_getElem hil⟩
          have hzf := hz.of_ o (List.mem_of_getElem? ho)
          refine CW.skip ?_
          refine CW.seq ?_
          refine CW.block ?_
          refine CW.seq (.seq ?_)
          refine CW.drawn mixed 14 (by decide) (by kernel_rfl) (by kernel_rfl) (by kernel_rfl) ?_
          refine Seg.run htt 14 (by simp only [go_sem, simprocAttr, eGraph, ho, hil, eObj, List.length_map]; exact rfl) ?_
          refine Seg.done ?_
          refine CWops.run htt 1 (by simp only [go_sem, simprocAttr, eGraph, ho, hil, eObj, List.length_map]; exact rfl) (by simp [go_sem, simprocAttr, eGraph, ho, hil, eObj, List.length_map]) (.done ?_)
          refine CW.cd (fun ct77 => ?_) (fun ct77 => ?_)
          · exfalso; simp at ct77 
          · refine CW.skip ?_
            refine CW.seq (.rg (.rn htt 1 (.done ?_)))
            refine CW.block ?_
            refine CW.loop (S := Nat) (fun j => ⟨2, [(1, .str t), (2, .str f), (3, .int .i64 k), (4, .int .i64 l), (5, .lv 0 [] 0), (13, .lv 1 [] 0), (15, .int .i64 i), (16, .int .i64 j)], [(0, ⟨true, eGraph g⟩), (1, ⟨true, eGraph ⟨sS, g.O, sR⟩⟩)]⟩) (fun j => j ≤ o.F.length) (fun j => o.F.length - j) (0) ?_ (Nat.zero_le _) (fun j h2 => ?_)
            · refine Sh.wk0 ?_; simp [Wk, go_sem, simprocAttr, eGraph]
            refine CW.seq (.seq (.rg (.run htt 9 (by simp only [go_sem, simprocAttr, eGraph, ho, hil, eObj, List.length_map]; exact rfl) (by simp [go_sem, simprocAttr, eGraph, ho, hil, eObj, List.length_map]) (.done ?_))))
            refine CW.cd (fun ct86 => ?_) (fun ct86 => ?_)
            · have hjl : j < o.F.length := by simpa using ct86
              obtain ⟨v, hv⟩ : ∃ v, o.F[j]? = some v := ⟨o.F[j], List.getElem?_eq_getElem hjl⟩
              refine CW.skip ?_
              refine CW.seq ?_
              refine CW.block ?_
              refine CW.seq ?_
              refine CW.drawn mixed 18 (by decide) (by kernel_rfl) (by kernel_rfl) (by kernel_rfl) ?_
              refine Seg.run htt 18 (by simp only [go_sem, simprocAttr, eGraph, ho, hil, eObj, hv, hjl, eVal]; exact rfl) ?_
              refine Seg.done ?_
              refine CWops.run htt 1 (by simp only [go_sem, simprocAttr, eGraph, ho, hil, eObj, hv, hjl, eVal]; exact rfl) (by simp [go_sem, simprocAttr, eGraph, ho, hil, eObj, hv, hjl, eVal]) (.done ?_)
              refine CW.cd (fun ct107 => ?_) (fun ct107 => ?_)
              · exfalso; simp at ct107 
              · refine CW.skip ?_
                refine CW.rg (.run htt 3 (by simp only [go_sem, simprocAttr, wrap_succ (show j < MX by omega)]; exact rfl) (by simp [go_sem, simprocAttr, wrap_succ (show j < MX by omega)]) (.done ?_))
                refine ⟨j + 1, ?_, ?_, ?_⟩
                · refine Sh.wk0 ?_; simp [Wk, go_sem, simprocAttr, eGraph]
                · exact hjl
                · simp only; omega
            · refine CW.exit ?_
              refine CW.rg (.run htt 3 (by simp only [go_sem, simprocAttr, wrap_succ (show i < MX by omega)]; exact rfl) (by simp [go_sem, simprocAttr, wrap_succ (show i < MX by omega)]) (.done ?_))
              refine ⟨i + 1, ?_, ?_, ?_⟩
              · refine Sh.wk0 ?_; simp [Wk, go_sem, simprocAttr, eGraph]
              · exact hil
              · simp only; omega
        · refine CW.exit ?_
          refine CW.seq (.rg (.run htt 6 (by simp only [go_sem, simprocAttr, eGraph, eStep, nil_MX]; exact rfl) (by simp [go_sem, simprocAttr, eGraph, eStep, nil_MX]) ?_))
          refine CWops.callA ((by have q := grade_Graph up ⟨sS, g.O, sR⟩ ⟨2, t, ⟨f, l, ⟨#[]⟩⟩⟩; rw [hH] at q; exact q)) (by simp only [go_sem, simprocAttr, eGraph, eStep, nil_MX]) (by simp only [go_sem, simprocAttr, eGraph, eStep, nil_MX] <;> exact rfl) (by simp only [go_sem, simprocAttr, eGraph, eStep, nil_MX]) (by simp only [go_sem, simprocAttr, eGraph, eStep, nil_MX]) (fun rt115 hrt115 => ?_)
          subst hrt115
          refine CWops.run htt 6 (by simp only [go_sem, simprocAttr, eGraph, eStep, nil_MX]; exact rfl) (by simp [go_sem, simprocAttr, eGraph, eStep, nil_MX]) (.done ?_)
          refine CW.seq (.rg (.run htt 1 (by simp only [go_sem, simprocAttr, eGraph]; exact rfl) (by simp [go_sem, simprocAttr, eGraph]) ?_))
          refine CWops.callA (code_Put up g) (by simp only [go_sem, simprocAttr, eGraph]) (by simp only [go_sem, simprocAttr, eGraph] <;> exact rfl) (by simp only [go_sem, simprocAttr, eGraph]) (by simp only [go_sem, simprocAttr, eGraph]) (fun rt120 hrt120 => ?_)
          subst hrt120
          refine CWops.run htt 5 (by simp only [go_sem, simprocAttr, eGraph]; exact rfl) (by simp [go_sem, simprocAttr, eGraph]) (.done ?_)
          refine CW.seq (.rg (.run htt 1 (by simp only [go_sem, simprocAttr, eGraph]; exact rfl) (by simp [go_sem, simprocAttr, eGraph]) ?_))
          refine CWops.callA (code_Put up ⟨sS, g.O, sR⟩) (by simp only [go_sem, simprocAttr, eGraph]) (by simp only [go_sem, simprocAttr, eGraph] <;> exact rfl) (by simp only [go_sem, simprocAttr, eGraph]) (by simp only [go_sem, simprocAttr, eGraph]) (fun rt125 hrt125 => ?_)
          subst hrt125
          refine CWops.run htt 5 (by simp only [go_sem, simprocAttr, eGraph]; exact rfl) (by simp [go_sem, simprocAttr, eGraph]) (.done ?_)
          refine CW.seq ?_
          rcases hpe with hp | hp <;> by_cases hw : k < l ∧ l ≤ 3
          all_goals (refine CW.rg ?_)
          all_goals (refine CWops.run htt 6 (by simp only [go_sem, simprocAttr, eGraph]; exact rfl) (by simp [go_sem, simprocAttr, eGraph]) ?_)
          all_goals (first | refine CWops.guard 133 (by simp only [go_sem, simprocAttr, eGraph]; exact rfl) (fun g133 => ?_) (fun g133 => ?_) | skip)
          all_goals (first | (simp at g133; done) | (cases g133; done) | (exfalso; simp_all; done) | (exfalso; simp_all; omega) | skip)
          all_goals (refine CWops.run htt 5 (by simp only [go_sem, simprocAttr, eGraph]; exact rfl) (by simp [go_sem, simprocAttr, eGraph]) ?_)
          all_goals (first | refine CWops.guard 138 (by simp only [go_sem, simprocAttr, eGraph]; exact rfl) (fun g138 => ?_) (fun g138 => ?_) | skip)
          all_goals (first | (simp at g138; done) | (cases g138; done) | (exfalso; simp_all; done) | (exfalso; simp_all; omega) | skip)
          all_goals (refine CWops.run htt 1 (by simp only [go_sem, simprocAttr, eGraph]; exact rfl) (by simp [go_sem, simprocAttr, eGraph]) ?_)
          all_goals (first | (refine CWops.skip ?_ ?_; next => (simp only [go_sem, simprocAttr]; done)) | (refine CWops.call ((by have q := graph_May up ⟨sS, g.O, sR⟩; rw [hm] at q; exact q)) (by simp only [go_sem, simprocAttr, eGraph]) (by simp only [go_sem, simprocAttr, eGraph] <;> exact rfl) (by simp only [go_sem, simprocAttr, eGraph]) (fun rt140 hrt140 => ?_); subst hrt140; refine ⟨rfl, ?_⟩))
          all_goals (refine CWops.run htt 2 (by simp only [go_sem, simprocAttr, eGraph]; exact rfl) (by simp [go_sem, simprocAttr, eGraph]) ?_)
          all_goals (first | refine CWops.guard 142 (by simp only [go_sem, simprocAttr, eGraph]; exact rfl) (fun g142 => ?_) (fun g142 => ?_) | skip)
          all_goals (first | (simp at g142; done) | (cases g142; done) | (exfalso; simp_all; done) | (exfalso; simp_all; omega) | skip)
          all_goals (refine CWops.run htt 3 (by simp only [go_sem, simprocAttr, eGraph]; exact rfl) (by simp [go_sem, simprocAttr, eGraph]) ?_)
          all_goals (first | refine CWops.guard 145 (by simp only [go_sem, simprocAttr, eGraph]; exact rfl) (fun g145 => ?_) (fun g145 => ?_) | skip)
          all_goals (first | (simp at g145; done) | (cases g145; done) | (exfalso; simp_all; done) | (exfalso; simp_all; omega) | skip)
          all_goals (refine CWops.run htt 4 (by simp only [go_sem, simprocAttr, eGraph]; exact rfl) (by simp [go_sem, simprocAttr, eGraph]) ?_)
          all_goals (first | refine CWops.guard 149 (by simp only [go_sem, simprocAttr, eGraph]; exact rfl) (fun g149 => ?_) (fun g149 => ?_) | skip)
          all_goals (first | (simp at g149; done) | (cases g149; done) | (exfalso; simp_all; done) | (exfalso; simp_all; omega) | skip)
          all_goals (refine CWops.run htt 5 (by simp only [go_sem, simprocAttr, eGraph]; exact rfl) (by simp [go_sem, simprocAttr, eGraph]) ?_)
          all_goals (refine CWops.done ?_)
          all_goals (
            refine CW.ret ?_
            refine retQ.rt (by simp only [f7, go_sem, simprocAttr]; exact rfl) ?_
            refine ⟨_, ?_, rfl⟩
            first | (simp [leP]; done) | (simp_all [leP]; done) | (simp_all [leP]; omega))
end Go.Ab
