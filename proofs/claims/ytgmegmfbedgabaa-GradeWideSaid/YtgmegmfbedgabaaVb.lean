/-
  What functions of the program answer: each by its contract. No condition but those of each theorem.
-/
import Derived.WalkKit
import Derived.Below
import Derived.Scope
import Derived.Orders
import Derived.Test.YtgmegmfbedgabaaProg
import Derived.Still
import Derived.WalkSmall
import Derived.Tactics
import Derived.Tactics2
import Derived.Defers
import Derived.Recover
import Derived.Laws.Pointers
import Derived.Lib.AppendStr
import Derived.ArgAppend
import Derived.Lib.ConvBytes
import Derived.Shelf.Strings.OnBuilder
import Derived.Laws.IdiomCopy
import Derived.Lib.AppendZerosOnto
import Derived.Lib.Walk
import Derived.Lib.SliceRun
import Derived.Deep.RegionLaw
import Derived.Test.YtgmegmfbedgabaaFa
import Derived.Test.YtgmegmfbedgabaaFb
import Derived.Test.YtgmegmfbedgabaaFc
import Derived.Test.YtgmegmfbedgabaaFd
import Derived.Test.YtgmegmfbedgabaaFe
import Derived.Test.YtgmegmfbedgabaaFf
import Derived.Test.YtgmegmfbedgabaaDa
import Derived.Test.YtgmegmfbedgabaaVa
set_option linter.unusedVariables false
set_option linter.unusedSimpArgs false
namespace Go.Ab
open Go Go.Proofs.Try
set_option maxRecDepth 100000
theorem ordF_end (g : Graph) (n : Nat) (l : List Int) : ordF g n l.length l = l := by
  cases n with
  | zero => rfl
  | succ n => simp [ordF]
theorem canon_of (up : Bool) (g : Graph) (hm : May g) : PCall prog up 38 [.agg (eGraph g)] (· = .fp [.sl 1 ((order g).map eI), .fmap (atMap (order g))]) := by
  refine PCall.intro htt func38 (by kernel_rfl) rfl (Nat.le_of_ble_eq_true rfl) fun hl => ?_
  have hL := (hl (.agg (eGraph g)) (by simp)).agg
  have hb := (hL (.sl 3 (g.O.map eObj)) (by simp [eGraph])).sl
  have hF : ∀ x ∈ g.O, x.F.length ≤ MX := fun x hx => by
    have h1 := (hb.2 (eObj x) (List.mem_map_of_mem hx)).2 (.sl 3 (x.F.map eVal)) (by simp [eObj])
    simpa using h1.sl.1
  have hr : g.Roots.length ≤ MX := Nat.le_trans hm.r (by decide)
  have ho := hm.o
  clear hb hL hl
  simp only [tmps0, Nat.reduceAdd]
  refine CW.seq (.rg (.run htt 2 (by simp only [go_sem, simprocAttr, eGraph]; exact rfl) (by simp [go_sem, simprocAttr, eGraph]) (.done ?_)))
  refine CW.scope ?_
  refine CW.seq (.rg ?_)
  refine CWops.run htt 6 (by simp only [go_sem, simprocAttr]; exact rfl) (by unfold MX; decide) ?_
  refine CWops.done ?_
  refine CW.seq (.seq (.rg (.run htt 4 (by simp only [go_sem, simprocAttr, eGraph]; exact rfl) (by simp [go_sem, simprocAttr, eGraph]) (.done ?_))))
  refine CW.block ?_
  refine CW.loop (S := Nat) (fun i => ⟨3, [(1, .lv 0 [] 0), (3, .lv 2 [] 0), (15, .sl 1 (g.Roots.map eI)), (16, .int .i64 g.Roots.length), (17, .int .i64 i)], [(0, ⟨true, eGraph g⟩), (2, ⟨true, [.own 1 ((mets [] (g.Roots.take i)).map eI), .omap (atMap (mets [] (g.Roots.take i)))]⟩)]⟩) (fun i => i ≤ g.Roots.length ∧ Good g (mets [] (g.Roots.take i))) (fun i => g.Roots.length - i) (0) ?_ ⟨Nat.zero_le _, Good.nil g⟩ (fun i ⟨h1, hg⟩ => ?_)
  · refine Sh.trans (Sh.nilCell 2 [] 0 1 (by simp [go_sem, simprocAttr]) rfl) (Sh.wk0 ?_); simp [Wk, go_sem, simprocAttr, atMap, ats, mets, eGraph]
  refine CW.seq (.rg (.rn htt 1 (.done ?_)))
  refine CW.seq ?_
  refine CW.cd (fun ct18 => ?_) (fun ct18 => ?_)
  · have hi : i < g.Roots.length := by simpa using ct18
    obtain ⟨x, hx⟩ : ∃ x, g.Roots[i]? = some x := ⟨g.Roots[i], List.getElem?_eq_getElem hi⟩
    refine CW.skip ?_
    refine CW.seq ?_
    refine CW.block ?_
    refine CW.seq (.rg (.run htt 3 (by simp only [go_sem, simprocAttr, hx, eI]; exact rfl) (by simp [go_sem, simprocAttr, hx, eI]) (.done ?_)))
    refine CW.rg (.rn htt 2 ?_)
    refine CWops.callG [2] rfl (walk_meet up (mets [] (g.Roots.take i)) x (by have := hg.len; omega)) (by simp only [go_sem, simprocAttr]) (by simp only [go_sem, simprocAttr] <;> exact rfl) (by decide) (by simp [go_sem, simprocAttr, mName, memB]) (by simp [go_sem, simprocAttr, mName]) (by simp [go_sem, simprocAttr]) (by simp [go_sem, simprocAttr]) (by simp [go_sem, simprocAttr, mName]) (fun r σ' hσ => ?_)
    obtain ⟨t', rfl⟩ := hσ
    simp only [aftS, renS, delAll, memB, mName, List.getD_nil, killH, kref, ren, Nat.beq_eq, go_sem, simprocAttr]
    refine CWops.done ?_
    refine CW.rg (.run htt 2 (by simp only [go_sem, simprocAttr, wrap_succ (Nat.lt_of_lt_of_le hi hr)]; exact rfl) (by simp [go_sem, simprocAttr, wrap_succ (Nat.lt_of_lt_of_le hi hr)]) (.done ?_))
    refine ⟨i + 1, ?_, ?_, ?_⟩
    · refine Sh.wk0 ?_; simp [Wk, go_sem, simprocAttr, mets_take _ hx, eGraph]
    · exact ⟨hi, by rw [mets_take _ hx]; exact hg.meet (hm.root x (List.mem_of_getElem? hx))⟩
    · simp only; omega
  · have hi : i = g.Roots.length := by simp at ct18; omega
    refine CW.exit ?_
    refine CW.seq (.rg (.rn htt 1 (.done ?_)))
    refine CW.seq ?_
    refine CW.label ?_
    refine CW.seq ?_
    refine CW.block ?_
    refine CW.loop (S := Nat × List Int) (fun p => ⟨3, [(1, .lv 0 [] 0), (3, .lv 2 [] 0), (6, .int .i64 p.1)], [(0, ⟨true, eGraph g⟩), (2, ⟨true, [.own 1 ((p.2).map eI), .omap (atMap (p.2))]⟩)]⟩) (fun p => Good g p.2 ∧ p.1 ≤ p.2.length ∧ ∃ n, n + p.1 = g.O.length ∧ ordF g n p.1 p.2 = order g) (fun p => g.O.length - p.1) ((0, mets [] g.Roots)) ?_ ⟨(Good.nil g).mets hm.root, Nat.zero_le _, g.O.length, rfl, rfl⟩ (fun ⟨i, l⟩ ⟨h1, h2, n, h3, h4⟩ => ?_)
    · refine Sh.wk0 ?_; simp [Wk, go_sem, simprocAttr, hi, eGraph]
    refine CW.seq (.seq (.rg (.rn htt 7 (.done ?_))))
    refine CW.cd (fun ct31 => ?_) (fun ct31 => ?_)
    · simp only at h1 h2 h3 h4
      have hi : i < l.length := by simpa using ct31
      obtain ⟨id, hid⟩ : ∃ x, l[i]? = some x := ⟨l[i], List.getElem?_eq_getElem hi⟩
      obtain ⟨p, ⟨oi, oT, oF⟩, hp, e1, hF1, hA, _⟩ := hm.find (h1.ids id (List.mem_of_getElem? hid))
      unfold gFind at hF1
      obtain ⟨_, t, hT, hmo⟩ := hm.objT hp
      obtain ⟨q, rfl⟩ := Int.eq_ofNat_of_zero_le (show 0 ≤ oT from hmo.t0)
      have ht : g.S[q]? = some t := by simpa using hmo.at_
      have hlen : oF.length = t.F.length := hmo.len
      have hll := h1.len
      obtain ⟨m, rfl⟩ : ∃ m, n = m + 1 := ⟨n - 1, by omega⟩
      have h5 : ordF g m (i + 1) (mets l (refsZ (t.F.zip oF))) = order g := by
        rw [← h4]
        conv => rhs; unfold ordF
        rw [hid]
        simp only [refsOf, hA, refsO, hT]
      refine CW.skip ?_
      refine CW.block ?_
      refine CW.seq ?_
      refine CW.drawn mixed 14 (by decide) (by kernel_rfl) (by kernel_rfl) (by kernel_rfl) ?_
      refine Seg.run htt 10 (by simp only [go_sem, simprocAttr, hi, hid, eI, eGraph, hF1, hp, eObj]; exact rfl) ?_
      refine Seg.call (graph_Find up g id) (by simp only [go_sem, simprocAttr, hi, hid, eI, eGraph, hF1, hp, eObj]) (by simp only [go_sem, simprocAttr, hi, hid, eI, eGraph, hF1, hp, eObj] <;> exact rfl) (by simp only [go_sem, simprocAttr, hi, hid, eI, eGraph, hF1, hp, eObj]) (by simp only [go_sem, simprocAttr, hi, hid, eI, eGraph, hF1, hp, eObj]) rfl ?_
      refine Seg.run htt 3 (by simp only [go_sem, simprocAttr, hi, hid, eI, eGraph, hF1, hp, eObj]; exact rfl) ?_
      refine Seg.done ?_
      refine CWops.run htt 1 (by simp only [go_sem, simprocAttr, hi, hid, eI, eGraph, hF1, hp, eObj]; exact rfl) (by simp [go_sem, simprocAttr, hi, hid, eI, eGraph, hF1, hp, eObj]) (.done ?_)
      refine CW.seq (.rg (.run htt 3 (by simp only [go_sem, simprocAttr, wrap_succ (show i < MX by unfold MX; omega)]; exact rfl) (by simp [go_sem, simprocAttr, wrap_succ (show i < MX by unfold MX; omega)]) (.done ?_)))
      refine CW.seq (.rg (.run htt 4 (by simp only [go_sem, simprocAttr, eObj]; exact rfl) (by simp [go_sem, simprocAttr, eObj]) (.done ?_)))
      refine CW.block ?_
      refine CW.loop (S := Nat) (fun k => ⟨4, [(1, .lv 0 [] 0), (3, .lv 2 [] 0), (6, .int .i64 ((i + 1 : Nat) : Int)), (7, .lv 3 [] 0), (48, .sl 3 (oF.map eVal)), (49, .int .i64 oF.length), (50, .int .i64 k)], [(0, ⟨true, eGraph g⟩), (2, ⟨true, [.own 1 ((mets l (refsZ ((t.F.zip oF).take k))).map eI), .omap (atMap (mets l (refsZ ((t.F.zip oF).take k))))]⟩), (3, ⟨true, eObj ⟨oi, q, oF⟩⟩)]⟩) (fun k => k ≤ oF.length ∧ Good g (mets l (refsZ ((t.F.zip oF).take k)))) (fun k => oF.length - k) (0) ?_ ⟨Nat.zero_le _, h1⟩ (fun k ⟨k1, k2⟩ => ?_)
      · refine Sh.wk0 ?_; simp [Wk, go_sem, simprocAttr, eGraph, eObj, mets, refsZ]
      refine CW.seq (.rg (.rn htt 1 (.done ?_)))
      refine CW.seq ?_
      refine CW.cd (fun ct51 => ?_) (fun ct51 => ?_)
      · have hk : k < oF.length := by simpa using ct51
        obtain ⟨v, hv⟩ : ∃ v, oF[k]? = some v := ⟨oF[k], List.getElem?_eq_getElem hk⟩
        obtain ⟨f, hf⟩ : ∃ f, t.F[k]? = some f := ⟨t.F[k], List.getElem?_eq_getElem (by omega)⟩
        have hz : (t.F.zip oF)[k]? = some (f, v) := List.getElem?_zip_eq_some.2 ⟨hf, hv⟩
        refine CW.skip ?_
        refine CW.seq ?_
        refine CW.block ?_
        refine CW.seq (.rg (.run htt 6 (by simp only [go_sem, simprocAttr, hv, eVal]; exact rfl) (by simp [go_sem, simprocAttr, hv, eVal]) (.done ?_)))
        refine CW.seq (.seq (.rg (.run htt 11 (by simp only [go_sem, simprocAttr, eGraph, eSchema, eObj, eType, ht]; exact rfl) (by simp [go_sem, simprocAttr, eGraph, eSchema, eObj, eType, ht]) (.done ?_))))
        refine CW.cd (fun ct65 => ?_) (fun ct65 => ?_)
        · exfalso; simp at ct65; omega 
        · refine CW.skip ?_
          refine CW.seq (.rg (.run htt 13 (by simp only [go_sem, simprocAttr, eGraph, eSchema, eObj, eType, ht, hf, eField]; exact rfl) (by simp [go_sem, simprocAttr, eGraph, eSchema, eObj, eType, ht, hf, eField]) (.done ?_)))
          refine CW.cd (fun ct78 => ?_) (fun ct78 => ?_)
          · have hk5 : f.Kind = 5 := by simpa using ct78
            refine CW.rg (.rn htt 3 ?_)
            refine CWops.callG [2] rfl (walk_meet up (mets l (refsZ ((t.F.zip oF).take k))) v.R (by have := k2.len; omega)) (by simp only [go_sem, simprocAttr]) (by simp only [go_sem, simprocAttr] <;> exact rfl) (by decide) (by simp [go_sem, simprocAttr, mName, memB]) (by simp [go_sem, simprocAttr, mName]) (by simp [go_sem, simprocAttr]) (by simp [go_sem, simprocAttr]) (by simp [go_sem, simprocAttr, mName]) (fun r σ' hσ => ?_)
            obtain ⟨t', rfl⟩ := hσ
            simp only [aftS, renS, delAll, memB, mName, List.getD_nil, killH, kref, ren, Nat.beq_eq, go_sem, simprocAttr]
            refine CWops.done ?_
            refine CW.rg (.run htt 2 (by simp only [go_sem, simprocAttr, wrap_succ (Nat.lt_of_lt_of_le hk (hF _ (List.mem_of_getElem? hp)))]; exact rfl) (by simp [go_sem, simprocAttr, wrap_succ (Nat.lt_of_lt_of_le hk (hF _ (List.mem_of_getElem? hp)))]) (.done ?_))
            refine ⟨k + 1, ?_, ?_, ?_⟩
            · refine Sh.wk0 ?_
              first | (simp [Wk, go_sem, simprocAttr, eGraph, eObj, refsZ_ref hz hk5]; done) | (simp [Wk, go_sem, simprocAttr, eGraph, eObj, refsZ_no hz hk5]; done) | skip
            · refine ⟨hk, ?_⟩
              first | (rw [refsZ_ref hz hk5]; exact k2.meet (hmo.ref hf hv hk5)) | (rw [refsZ_no hz hk5]; exact k2)
            · simp only; omega
          · have hk5 : f.Kind ≠ 5 := by simpa using ct78
            refine CW.skip ?_
            refine CW.rg (.run htt 2 (by simp only [go_sem, simprocAttr, wrap_succ (Nat.lt_of_lt_of_le hk (hF _ (List.mem_of_getElem? hp)))]; exact rfl) (by simp [go_sem, simprocAttr, wrap_succ (Nat.lt_of_lt_of_le hk (hF _ (List.mem_of_getElem? hp)))]) (.done ?_))
            refine ⟨k + 1, ?_, ?_, ?_⟩
            · refine Sh.wk0 ?_
              first | (simp [Wk, go_sem, simprocAttr, eGraph, eObj, refsZ_ref hz hk5]; done) | (simp [Wk, go_sem, simprocAttr, eGraph, eObj, refsZ_no hz hk5]; done) | skip
            · refine ⟨hk, ?_⟩
              first | (rw [refsZ_ref hz hk5]; exact k2.meet (hmo.ref hf hv hk5)) | (rw [refsZ_no hz hk5]; exact k2)
            · simp only; omega
      · have hk : k = oF.length := by simp at ct51; omega
        refine CW.exit ?_
        refine ⟨(i + 1, mets l (refsZ (t.F.zip oF))), ?_, ?_, ?_⟩
        · refine Sh.wk0 ?_; simp [Wk, go_sem, simprocAttr, eGraph, show (t.F.zip oF).take k = t.F.zip oF from List.take_of_length_le (by rw [List.length_zip]; omega)]
        · have hz : (t.F.zip oF).take k = t.F.zip oF := List.take_of_length_le (by rw [List.length_zip]; omega)
          exact ⟨by rw [← hz]; exact k2, by have := mets_len l (refsZ (t.F.zip oF)); simp only; omega, m, by simp only at h3 ⊢; omega, h5⟩
        · simp only at h3 ⊢; omega
    · simp only at h1 h2 h3 h4
      have hi : i = l.length := by simp at ct31; omega
      refine CW.exit ?_
      refine CW.seq (.rg (.rn htt 2 (.done ?_)))
      refine CW.ret ?_
      refine retQ.rt (by simp only [f38, go_sem, simprocAttr]; exact rfl) ?_
      refine ⟨_, ?_, rfl⟩
      have e : order g = l := by rw [← h4, hi, ordF_end]
      rw [e]
      simp [leP, leL, AV.freeze, frz_I]
theorem canon_schema (up : Bool) (s : List GType) (h1 : s.length * 40 ≤ MX) (h2 : ∀ x ∈ s, x.F.length * 40 ≤ MX) : PCall prog up 39 [.agg (eSchema s)] (· = .agg (eSchema s)) := by
  refine PCall.intro htt func39 (by kernel_rfl) rfl (Nat.le_of_ble_eq_true rfl) fun hl => ?_
  have hb : s.length ≤ MX := by omega
  simp only [tmps0, Nat.reduceAdd]
  refine CW.seq (.rg (.run htt 2 (by simp only [go_sem, simprocAttr, eSchema]; exact rfl) (by simp [go_sem, simprocAttr, eSchema]) (.done ?_)))
  refine CW.seq (.rg (.run htt 2 (by simp only [go_sem, simprocAttr, eSchema]; exact rfl) (by simp [go_sem, simprocAttr, eSchema]) ?_))
  refine CWops.callG [] rfl (clone_TypeG up s h1) (by simp only [go_sem, simprocAttr]) (by simp only [go_sem, simprocAttr] <;> exact rfl) (by decide) (by simp [go_sem, simprocAttr, mName, memB]) (by simp [go_sem, simprocAttr, mName]) (by simp [go_sem, simprocAttr]) (by simp [go_sem, simprocAttr]) (by simp [go_sem, simprocAttr, mName]) (fun r σ' hσ => ?_)
  obtain ⟨σn, σt, σs⟩ := σ'
  simp only at hσ
  obtain ⟨rfl, rfl, rfl⟩ := hσ
  simp only [aftS, renS, delAll, memB, mName, List.getD_nil, killH, kref, ren, Nat.beq_eq, go_sem, simprocAttr]
  refine CWops.run htt 2 (by simp only [go_sem, simprocAttr, eSchema]; exact rfl) (by simp [go_sem, simprocAttr, eSchema]) (.done ?_)
  refine CW.seq (.seq (.rg (.rn htt 4 (.done ?_))))
  refine CW.block ?_
  refine CW.loop (S := Nat) (fun i => ⟨2, [(1, .lv 0 [] 0), (2, .lv 1 [] 0), (10, .ref 0 [] 0), (11, .int .i64 s.length), (12, .int .i64 i)], [(0, ⟨true, [.own 2 (s.map eType)]⟩), (1, ⟨true, [.nilsl]⟩)]⟩) (fun i => i ≤ s.length) (fun i => s.length - i) (0) ?_ (Nat.zero_le _) (fun i h3 => ?_)
  · refine Sh.wk0 ?_; simp [Wk, go_sem, simprocAttr]
  refine CW.seq (.rg (.rn htt 1 (.done ?_)))
  refine CW.seq ?_
  refine CW.cd (fun ct13 => ?_) (fun ct13 => ?_)
  · have hi : i < s.length := by simpa using ct13
    obtain ⟨x, hx⟩ : ∃ x, s[i]? = some x := ⟨s[i], List.getElem?_eq_getElem hi⟩
    refine CW.skip ?_
    refine CW.seq ?_
    refine CW.block ?_
    refine CW.seq (.rg (.run htt 6 (by simp only [go_sem, simprocAttr, hi, hx, eType]; exact rfl) (by simp [go_sem, simprocAttr, hi, hx, eType]) (.done ?_)))
    refine CW.drawn mixed 6 (by decide) (by kernel_rfl) (by kernel_rfl) (by kernel_rfl) ?_
    refine Seg.run htt 5 (by simp only [go_sem, simprocAttr, hi, hx, eType]; exact rfl) ?_
    refine Seg.callA (clone_Field up x.F (h2 x (List.mem_of_getElem? hx))) (by simp only [go_sem, simprocAttr, hi, hx, eType]) (by simp only [go_sem, simprocAttr, hi, hx, eType] <;> exact rfl) (by simp only [go_sem, simprocAttr, hi, hx, eType]) (by simp only [go_sem, simprocAttr, hi, hx, eType]) ?_
    refine Seg.done ?_
    refine CWops.run htt 3 (by simp only [go_sem, simprocAttr, hi, hx, eType]; exact rfl) (by simp [go_sem, simprocAttr, hi, hx, eType]) (.done ?_)
    refine CW.rg (.run htt 2 (by simp only [go_sem, simprocAttr, wrap_succ (Nat.lt_of_lt_of_le hi hb)]; exact rfl) (by simp [go_sem, simprocAttr, wrap_succ (Nat.lt_of_lt_of_le hi hb)]) (.done ?_))
    refine ⟨i + 1, ?_, ?_, ?_⟩
    · refine Sh.wk0 ?_
      have hss : (s.map eType).set i [.str x.Name, .sl 3 (x.F.map eField)] = s.map eType := set_same (by rw [List.getElem?_map, hx]; rfl)
      simp [Wk, go_sem, simprocAttr, hss]
    · exact hi
    · simp only; omega
  · have hi : i = s.length := by simp at ct13; omega
    refine CW.exit ?_
    refine CW.seq (.rg (.rn htt 2 (.done ?_)))
    refine CW.ret ?_
    refine retQ.rt (by simp only [f39, go_sem, simprocAttr]; exact rfl) ?_
    refine ⟨_, ?_, rfl⟩
    simp [leP, leL, eSchema, frz_Type]
theorem canon_Canon (up : Bool) (g : Graph) : PCall prog up 14 [.agg (eGraph g)] (· = .agg (eGraph (gCanon g))) := by
  refine PCall.intro htt func14 (by kernel_rfl) rfl (Nat.le_of_ble_eq_true rfl) fun hl => ?_

  simp only [tmps0, Nat.reduceAdd]
  refine CW.seq (.rg (.run htt 2 (by simp only [go_sem, simprocAttr, eGraph]; exact rfl) (by simp [go_sem, simprocAttr, eGraph]) (.done ?_)))
  refine CW.seq (.seq (.rg (.run htt 1 (by simp only [go_sem, simprocAttr, eGraph]; exact rfl) (by simp [go_sem, simprocAttr, eGraph]) ?_)))
  refine CWops.call (graph_May up g) (by simp only [go_sem, simprocAttr, eGraph]) (by simp only [go_sem, simprocAttr, eGraph] <;> exact rfl) (by simp only [go_sem, simprocAttr, eGraph]) (fun rt13 hrt13 => ?_)
  subst hrt13; refine ⟨rfl, ?_⟩
  refine CWops.run htt 1 (by simp only [go_sem, simprocAttr, eGraph]; exact rfl) (by simp [go_sem, simprocAttr, eGraph]) (.done ?_)
  refine CW.cd (fun ct14 => ?_) (fun ct14 => ?_)
  · simp only [Bool.not_eq_true'] at ct14
    refine CW.seq (.rg (.rn htt 2 (.done ?_)))
    refine CW.ret ?_
    refine retQ.rt (by simp only [f14, go_sem, simprocAttr]; exact rfl) ?_
    refine ⟨_, ?_, rfl⟩
    simp [leP, leL, gCanon, ct14, eGraph]
  · simp only [Bool.not_eq_false'] at ct14
    have hm := (may_iff g).1 ct14
    have hG := hm.order
    have ho := hm.o
    have hr := hm.r
    have hml : g.S.length ≤ 4 := by have := hm.s; unfold schemaMay at this; simp at this; omega
    have hmb : ∀ x ∈ g.S, x.F.length ≤ 5 := fun x hx => by
      have := hm.s; unfold schemaMay at this
      obtain ⟨j, hj⟩ := List.getElem?_of_mem hx
      simp only [Bool.and_eq_true] at this
      have := allI_at this.2 hj; unfold typeMay at this; simp at this; omega
    refine CW.skip ?_
    refine CW.seq (.rg (.run htt 1 (by simp only [go_sem, simprocAttr, eGraph]; exact rfl) (by simp [go_sem, simprocAttr, eGraph]) ?_))
    refine CWops.callA (canon_of up g hm) (by simp only [go_sem, simprocAttr, eGraph]) (by simp only [go_sem, simprocAttr, eGraph] <;> exact rfl) (by simp only [go_sem, simprocAttr, eGraph]) (by simp only [go_sem, simprocAttr, eGraph]) (fun rt17 hrt17 => ?_)
    subst hrt17
    refine CWops.run htt 1 (by simp only [go_sem, simprocAttr, eGraph]; exact rfl) (by simp [go_sem, simprocAttr, eGraph]) (.done ?_)
    refine CW.seq (.rg (.run htt 2 (by simp only [go_sem, simprocAttr, eGraph, eSchema]; exact rfl) (by simp [go_sem, simprocAttr, eGraph, eSchema]) ?_))
    refine CWops.callA (canon_schema up g.S (by unfold MX; omega) (fun x hx => by have := hmb x hx; unfold MX; omega)) (by simp only [go_sem, simprocAttr, eGraph, eSchema]) (by simp only [go_sem, simprocAttr, eGraph, eSchema] <;> exact rfl) (by simp only [go_sem, simprocAttr, eGraph, eSchema]) (by simp only [go_sem, simprocAttr, eGraph, eSchema]) (fun rt20 hrt20 => ?_)
    subst hrt20
    refine CWops.run htt 3 (by simp only [go_sem, simprocAttr, eGraph, eSchema]; exact rfl) (by simp [go_sem, simprocAttr, eGraph, eSchema]) (.done ?_)
    refine CW.seq (.seq (.rg (.rn htt 6 (.done ?_))))
    refine CW.block ?_
    refine CW.loop (S := Nat) (fun i => ⟨3, [(1, .lv 0 [] 0), (2, .lv 1 [] 0), (3, .fp [.sl 1 ((order g).map eI), .fmap (atMap (order g))]), (4, .lv 2 [] 0), (25, .sl 1 ((order g).map eI)), (26, .int .i64 (order g).length), (27, .int .i64 i)], [(0, ⟨true, eGraph g⟩), (1, ⟨true, [.nilsl, .nilsl, .nilsl]⟩), (2, ⟨true, [.sl 2 (g.S.map eType), .own 3 ((canonL g (order g) 0 ((order g).take i)).map eObj), .nilsl]⟩)]⟩) (fun i => i ≤ (order g).length) (fun i => (order g).length - i) (0) ?_ (Nat.zero_le _) (fun i h1 => ?_)
    · refine Sh.trans (Sh.nilCell 2 [] 1 3 (by simp [go_sem, simprocAttr]) rfl) (Sh.wk0 ?_); simp [Wk, go_sem, simprocAttr, canonL, eGraph, eSchema]
    refine CW.seq (.rg (.rn htt 1 (.done ?_)))
    refine CW.seq ?_
    refine CW.cd (fun ct28 => ?_) (fun ct28 => ?_)
    · have hi : i < (order g).length := by simpa using ct28
      obtain ⟨id, hid⟩ : ∃ x, (order g)[i]? = some x := ⟨(order g)[i], List.getElem?_eq_getElem hi⟩
      obtain ⟨p, ⟨oi, oT, oF⟩, hp, e1, hF1, hA, _⟩ := hm.find (hG.ids id (List.mem_of_getElem? hid))
      unfold gFind at hF1
      obtain ⟨_, t, hT, hmo⟩ := hm.objT hp
      obtain ⟨q, rfl⟩ := Int.eq_ofNat_of_zero_le (show 0 ≤ oT from hmo.t0)
      have ht : g.S[q]? = some t := by simpa using hmo.at_
      have hlen : oF.length = t.F.length := hmo.len
      have hll := hG.len
      have hfl := (hmb t (List.mem_of_getElem? ht))
      have hco : canonO g (order g) i id = ⟨i, q, List.zipWith (canonV (order g)) t.F oF⟩ := by unfold canonO; rw [hA]; simp only [hT]
      refine CW.skip ?_
      refine CW.seq ?_
      refine CW.block ?_
      refine CW.seq (.rg (.run htt 5 (by simp only [go_sem, simprocAttr, hid, eI]; exact rfl) (by simp [go_sem, simprocAttr, hid, eI]) (.done ?_)))
      refine CW.seq ?_
      refine CW.drawn mixed 8 (by decide) (by kernel_rfl) (by kernel_rfl) (by kernel_rfl) ?_
      refine Seg.run htt 4 (by simp only [go_sem, simprocAttr, hid, eI, eGraph, hF1, hp, eObj]; exact rfl) ?_
      refine Seg.call (graph_Find up g id) (by simp only [go_sem, simprocAttr, hid, eI, eGraph, hF1, hp, eObj]) (by simp only [go_sem, simprocAttr, hid, eI, eGraph, hF1, hp, eObj] <;> exact rfl) (by simp only [go_sem, simprocAttr, hid, eI, eGraph, hF1, hp, eObj]) (by simp only [go_sem, simprocAttr, hid, eI, eGraph, hF1, hp, eObj]) rfl ?_
      refine Seg.run htt 3 (by simp only [go_sem, simprocAttr, hid, eI, eGraph, hF1, hp, eObj]; exact rfl) ?_
      refine Seg.done ?_
      refine CWops.run htt 1 (by simp only [go_sem, simprocAttr, hid, eI, eGraph, hF1, hp, eObj]; exact rfl) (by simp [go_sem, simprocAttr, hid, eI, eGraph, hF1, hp, eObj]) (.done ?_)
      refine CW.seq (.rg (.run htt 3 (by simp only [go_sem, simprocAttr, eObj]; exact rfl) (by simp [go_sem, simprocAttr, eObj]) ?_))
      refine CWops.callG [] rfl (clone_ValG up oF (by unfold MX; omega)) (by simp only [go_sem, simprocAttr]) (by simp only [go_sem, simprocAttr] <;> exact rfl) (by decide) (by simp [go_sem, simprocAttr, mName, memB]) (by simp [go_sem, simprocAttr, mName]) (by simp [go_sem, simprocAttr]) (by simp [go_sem, simprocAttr]) (by simp [go_sem, simprocAttr, mName]) (fun r σ' hσ => ?_)
      obtain ⟨σn, σt, σs⟩ := σ'
      simp only at hσ
      obtain ⟨rfl, rfl, rfl⟩ := hσ
      simp only [aftS, renS, delAll, memB, mName, List.getD_nil, killH, kref, ren, Nat.beq_eq, go_sem, simprocAttr]
      refine CWops.run htt 4 (by simp only [go_sem, simprocAttr, eObj]; exact rfl) (by simp [go_sem, simprocAttr, eObj]) (.done ?_)
      refine CW.seq (.seq (.rg (.run htt 10 (by simp only [go_sem, simprocAttr, eGraph, eSchema, eType, ht]; exact rfl) (by simp [go_sem, simprocAttr, eGraph, eSchema, eType, ht]) (.done ?_))))
      refine CW.block ?_
      refine CW.loop (S := Nat) (fun k => ⟨4, [(1, .lv 0 [] 0), (2, .lv 1 [] 0), (3, .fp [.sl 1 ((order g).map eI), .fmap (atMap (order g))]), (4, .lv 2 [] 0), (25, .sl 1 ((order g).map eI)), (26, .int .i64 (order g).length), (27, .int .i64 i), (7, .lv 3 [] 0), (52, .sl 3 (t.F.map eField)), (53, .int .i64 t.F.length), (54, .int .i64 k)], [(0, ⟨true, eGraph g⟩), (1, ⟨true, [.nilsl, .nilsl, .nilsl]⟩), (2, ⟨true, [.sl 2 (g.S.map eType), .own 3 ((canonL g (order g) 0 ((order g).take i)).map eObj), .nilsl]⟩), (3, ⟨true, [.int .i64 i, .int .i64 q, .own 3 ((mixV (order g) t.F oF k).map eVal)]⟩)]⟩) (fun k => k ≤ t.F.length) (fun k => t.F.length - k) (0) ?_ (Nat.zero_le _) (fun k k1 => ?_)
      · refine Sh.wk0 ?_; simp [Wk, go_sem, simprocAttr, eGraph, mixV_zero]
      refine CW.seq (.rg (.rn htt 1 (.done ?_)))
      refine CW.seq ?_
      refine CW.cd (fun ct55 => ?_) (fun ct55 => ?_)
      · have hk : k < t.F.length := by simpa using ct55
        obtain ⟨v, hv⟩ : ∃ v, oF[k]? = some v := ⟨oF[k], List.getElem?_eq_getElem (by omega)⟩
        obtain ⟨f, hf⟩ : ∃ f, t.F[k]? = some f := ⟨t.F[k], List.getElem?_eq_getElem hk⟩
        have hgv := mixV_get (l := (order g)) hlen hv
        have hgl : k < (mixV (order g) t.F oF k).length := (List.getElem?_eq_some_iff.1 hgv).1
        refine CW.skip ?_
        refine CW.seq ?_
        refine CW.block ?_
        refine CW.seq (.rg (.run htt 6 (by simp only [go_sem, simprocAttr, hf, eField]; exact rfl) (by simp [go_sem, simprocAttr, hf, eField]) (.done ?_)))
        refine CW.seq (.rg (.rn htt 3 (.done ?_)))
        refine CW.cd (fun ct61 => ?_) (fun ct61 => ?_)
        · have hk5 : f.Kind = 5 := by simpa using ct61
          obtain ⟨rp, hat⟩ := atL_mem (hm.refIn (List.mem_of_getElem? hid) hA hT hf hv hk5)
          refine CW.drawn mixed 14 (by decide) (by kernel_rfl) (by kernel_rfl) (by kernel_rfl) ?_
          refine Seg.run htt 14 (by simp only [go_sem, simprocAttr, hgv, maplk_atMap, hat, eVal, List.length_map, hgl]; exact rfl) ?_
          refine Seg.done ?_
          refine CWops.run htt 3 (by simp only [go_sem, simprocAttr, hgv, maplk_atMap, hat, eVal, List.length_map, hgl]; exact rfl) (by simp [go_sem, simprocAttr, hgv, maplk_atMap, hat, eVal, List.length_map, hgl]) (.done ?_)
          refine CW.rg (.run htt 2 (by simp only [go_sem, simprocAttr, wrap_succ (show k < MX by unfold MX; omega)]; exact rfl) (by simp [go_sem, simprocAttr, wrap_succ (show k < MX by unfold MX; omega)]) (.done ?_))
          refine ⟨k + 1, ?_, ?_, ?_⟩
          · refine Sh.wk0 ?_
            dsimp only
            first | (rw [mixV_succ hf hv, show canonV (order g) f v = ⟨v.N, v.S, rp⟩ by simp [canonV, hk5, atD_of hat]]; simp [Wk, go_sem, simprocAttr, eGraph, List.map_set, eVal]; done) | (rw [mixV_no hlen hf hv hk5]; simp [Wk, go_sem, simprocAttr, eGraph]; done) | skip
          · exact hk
          · simp only; omega
        · have hk5 : f.Kind ≠ 5 := by simpa using ct61
          refine CW.skip ?_
          refine CW.rg (.run htt 2 (by simp only [go_sem, simprocAttr, wrap_succ (show k < MX by unfold MX; omega)]; exact rfl) (by simp [go_sem, simprocAttr, wrap_succ (show k < MX by unfold MX; omega)]) (.done ?_))
          refine ⟨k + 1, ?_, ?_, ?_⟩
          · refine Sh.wk0 ?_
            dsimp only
            first | (rw [mixV_succ hf hv, show canonV (order g) f v = ⟨v.N, v.S, rp⟩ by simp [canonV, hk5, atD_of hat]]; simp [Wk, go_sem, simprocAttr, eGraph, List.map_set, eVal]; done) | (rw [mixV_no hlen hf hv hk5]; simp [Wk, go_sem, simprocAttr, eGraph]; done) | skip
          · exact hk
          · simp only; omega
      · have hk : k = t.F.length := by simp at ct55; omega
        refine CW.exit ?_
        refine CW.sh (Sh.frz 3 2 (by simp only [go_sem, simprocAttr] <;> exact rfl) rfl) ?_
        simp only [go_sem, simprocAttr]
        refine CW.rg ?_
        refine CWops.run htt 7 (by simp only [go_sem, simprocAttr, List.replicate]; exact rfl) (by simp [AV.cell, AV.tree, eObj, MX, canonL_len]; omega) ?_
        refine CWops.done ?_
        refine CW.rg (.run htt 2 (by simp only [go_sem, simprocAttr, wrap_succ (show i < MX by unfold MX; omega)]; exact rfl) (by simp [go_sem, simprocAttr, wrap_succ (show i < MX by unfold MX; omega)]) (.done ?_))
        refine ⟨i + 1, ?_, ?_, ?_⟩
        · refine Sh.wk0 ?_
          dsimp only
          rw [canonL_take g (order g) hid, hco]
          simp [Wk, go_sem, simprocAttr, eGraph, eObj, hk, mixV_all _ _ _ hlen]
        · exact hi
        · simp only; omega
    · have hi : i = (order g).length := by simp at ct28; omega
      refine CW.exit ?_
      refine CW.seq (.seq (.rg (.run htt 4 (by simp only [go_sem, simprocAttr, eGraph]; exact rfl) (by simp [go_sem, simprocAttr, eGraph]) (.done ?_))))
      refine CW.block ?_
      refine CW.loop (S := Nat) (fun i => ⟨3, [(1, .lv 0 [] 0), (2, .lv 1 [] 0), (3, .fp [.sl 1 ((order g).map eI), .fmap (atMap (order g))]), (4, .lv 2 [] 0), (87, .sl 1 (g.Roots.map eI)), (88, .int .i64 g.Roots.length), (89, .int .i64 i)], [(0, ⟨true, eGraph g⟩), (1, ⟨true, [.nilsl, .nilsl, .nilsl]⟩), (2, ⟨true, [.sl 2 (g.S.map eType), .own 3 ((canonL g (order g) 0 (order g)).map eObj), .own 1 (((g.Roots.take i).map (atD (order g))).map eI)]⟩)]⟩) (fun i => i ≤ g.Roots.length) (fun i => g.Roots.length - i) (0) ?_ (Nat.zero_le _) (fun i h1 => ?_)
      · rw [hi, List.take_length]; refine Sh.trans (Sh.nilCell 2 [] 2 1 (by simp [go_sem, simprocAttr]) rfl) (Sh.wk0 ?_); simp [Wk, go_sem, simprocAttr, eGraph]
      refine CW.seq (.rg (.rn htt 1 (.done ?_)))
      refine CW.seq ?_
      refine CW.cd (fun ct90 => ?_) (fun ct90 => ?_)
      · have hi : i < g.Roots.length := by simpa using ct90
        obtain ⟨x, hx⟩ : ∃ x, g.Roots[i]? = some x := ⟨g.Roots[i], List.getElem?_eq_getElem hi⟩
        obtain ⟨rp, hat⟩ := atL_mem (hm.rootIn (List.mem_of_getElem? hx))
        refine CW.skip ?_
        refine CW.seq ?_
        refine CW.block ?_
        refine CW.seq (.rg (.run htt 3 (by simp only [go_sem, simprocAttr, hx, eI]; exact rfl) (by simp [go_sem, simprocAttr, hx, eI]) (.done ?_)))
        refine CW.drawn mixed 9 (by decide) (by kernel_rfl) (by kernel_rfl) (by kernel_rfl) ?_
        refine Seg.run htt 9 (by simp only [go_sem, simprocAttr, maplk_atMap, hat, List.replicate]; exact rfl) ?_
        refine Seg.done ?_
        refine CWops.run htt 3 (by simp only [go_sem, simprocAttr, maplk_atMap, hat, List.replicate]; exact rfl) (by simp [AV.cell, AV.tree, eI, MX]; omega) ?_
        refine CWops.done ?_
        refine CW.rg (.run htt 2 (by simp only [go_sem, simprocAttr, wrap_succ (show i < MX by unfold MX; omega)]; exact rfl) (by simp [go_sem, simprocAttr, wrap_succ (show i < MX by unfold MX; omega)]) (.done ?_))
        refine ⟨i + 1, ?_, ?_, ?_⟩
        · refine Sh.wk0 ?_
          simp [Wk, go_sem, simprocAttr, eGraph, List.take_add_one, hx, atD_of hat, eI]
        · exact hi
        · simp only; omega
      · have hi : i = g.Roots.length := by simp at ct90; omega
        refine CW.exit ?_
        refine CW.seq ?_
        refine CW.sh (Sh.trans (Sh.frz 2 1 (by simp only [go_sem, simprocAttr] <;> exact rfl) rfl) (Sh.frz 2 2 (by simp only [go_sem, simprocAttr] <;> exact rfl) rfl)) ?_
        simp only [go_sem, simprocAttr]
        refine CW.rg (.rn htt 2 (.done ?_))
        refine CW.ret ?_
        refine retQ.rt (by simp only [f14, go_sem, simprocAttr]; exact rfl) ?_
        refine ⟨_, ?_, rfl⟩
        simp [leP, leL, gCanon, ct14, canonG, eGraph, hi, frz_Obj, frz_I]
theorem one_MX (b : UInt8) : (Array.size #[b] ≤ MX) = True := eq_true (by show 1 ≤ MX; unfold MX; decide)
theorem law06_Few (up : Bool) (s : List GType) (k : Int) : PCall prog up 25 [.agg (eSchema s), .int .i64 k] (· = .bool (few06 s k)) := by
  refine PCall.intro htt func25 (by kernel_rfl) rfl (Nat.le_of_ble_eq_true rfl) fun hl => ?_
  have hL := (hl (.agg (eSchema s)) (by simp)).agg
  have hb := (hL (.sl 2 (s.map eType)) (by simp [eSchema])).sl.1
  simp only [List.length_map] at hb
  simp only [tmps0, Nat.reduceAdd]
  refine CW.seq (.rg (.run htt 2 (by simp only [go_sem, simprocAttr, eSchema]; exact rfl) (by simp [go_sem, simprocAttr, eSchema]) (.done ?_)))
  refine CW.seq (.seq (.rg (.rn htt 1 (.done ?_))))
  refine CW.block ?_
  refine CW.loop (S := Nat) (fun i => ⟨1, [(1, .int .i64 k), (2, .lv 0 [] 0), (5, .int .i64 i)], [(0, ⟨true, eSchema s⟩)]⟩) (fun i => i ≤ s.length ∧ ∀ (j : Nat) (y), j < i → s[j]? = some y → decide ((y.F.length : Int) ≤ k) = true) (fun i => s.length - i) (0) ?_ ⟨Nat.zero_le _, fun j y hj => by omega⟩ (fun i ⟨h1, h2⟩ => ?_)
  · refine Sh.wk0 ?_; simp [Wk, go_sem, simprocAttr, eSchema]
  refine CW.seq (.seq (.rg (.run htt 5 (by simp only [go_sem, simprocAttr, eSchema]; exact rfl) (by simp [go_sem, simprocAttr, eSchema]) (.done ?_))))
  refine CW.cd (fun ct10 => ?_) (fun ct10 => ?_)
  · have hi : i < s.length := by simpa using ct10
    obtain ⟨x, hx⟩ : ∃ x, s[i]? = some x := ⟨s[i], List.getElem?_eq_getElem hi⟩
    refine CW.skip ?_
    refine CW.seq ?_
    refine CW.block ?_
    refine CW.seq (.rg (.run htt 9 (by simp only [go_sem, simprocAttr, eSchema, hx, eType]; exact rfl) (by simp [go_sem, simprocAttr, eSchema, hx, eType]) (.done ?_)))
    refine CW.cd (fun ct21 => ?_) (fun ct21 => ?_)
    · have hp : decide ((x.F.length : Int) ≤ k) = false := by simp at ct21 ⊢; omega
      refine CW.seq (.rg (.rn htt 1 (.done ?_)))
      refine CW.ret ?_
      refine retQ.rt (by simp only [f25, go_sem, simprocAttr]; exact rfl) ?_
      refine ⟨_, ?_, rfl⟩
      have : few06 s k = false := by unfold few06; rw [allI_no hx hp]; rfl
      simp [leP, this]
    · have hp : decide ((x.F.length : Int) ≤ k) = true := by simp at ct21 ⊢; omega
      refine CW.skip ?_
      refine CW.rg (.run htt 3 (by simp only [go_sem, simprocAttr, wrap_succ (Nat.lt_of_lt_of_le hi hb)]; exact rfl) (by simp [go_sem, simprocAttr, wrap_succ (Nat.lt_of_lt_of_le hi hb)]) (.done ?_))
      refine ⟨i + 1, ?_, ?_, ?_⟩
      · refine Sh.wk0 ?_; simp [Wk, go_sem, simprocAttr, eSchema]
      · exact ⟨hi, belowI_succ (p := fun _ y => decide ((y.F.length : Int) ≤ k)) h2 hx hp⟩
      · simp only; omega
  · have hi : i = s.length := by simp at ct10; omega
    refine CW.exit ?_
    refine CW.seq (.rg (.run htt 6 (by simp only [go_sem, simprocAttr, eSchema]; exact rfl) (by simp [go_sem, simprocAttr, eSchema]) (.done ?_)))
    refine CW.ret ?_
    refine retQ.rt (by simp only [f25, go_sem, simprocAttr]; exact rfl) ?_
    refine ⟨_, ?_, rfl⟩
    have : few06 s k = decide ((s.length : Int) ≤ k) := by unfold few06; rw [belowI_all (p := fun _ (y : GType) => decide ((y.F.length : Int) ≤ k)) (by rw [← hi]; exact h2)]; simp
    simp [leP, this]
theorem law08_Few (up : Bool) (g : Graph) : PCall prog up 9 [.agg (eGraph g)] (· = .bool (fewG g)) := by
  refine PCall.intro htt func9 (by kernel_rfl) rfl (Nat.le_of_ble_eq_true rfl) fun hl => ?_
  have hL := (hl (.agg (eGraph g)) (by simp)).agg
  have hb := (hL (.sl 3 (g.O.map eObj)) (by simp [eGraph])).sl.1
  simp only [List.length_map] at hb
  simp only [tmps0, Nat.reduceAdd]
  refine CW.seq (.rg (.run htt 2 (by simp only [go_sem, simprocAttr, eGraph]; exact rfl) (by simp [go_sem, simprocAttr, eGraph]) (.done ?_)))
  refine CW.seq (.rg (.run htt 2 (by simp only [go_sem, simprocAttr, eGraph, eSchema]; exact rfl) (by simp [go_sem, simprocAttr, eGraph, eSchema]) ?_))
  refine CWops.call (law06_Few up g.S 10) (by simp only [go_sem, simprocAttr, eGraph, eSchema]) (by simp only [go_sem, simprocAttr, eGraph, eSchema] <;> exact rfl) (by simp only [go_sem, simprocAttr, eGraph, eSchema]) (fun rt7 hrt7 => ?_)
  subst hrt7; refine ⟨rfl, ?_⟩
  refine CWops.run htt 1 (by simp only [go_sem, simprocAttr, eGraph, eSchema]; exact rfl) (by simp [go_sem, simprocAttr, eGraph, eSchema]) (.done ?_)
  refine CW.seq ?_
  refine CW.cut ⟨1, [(1, .lv 0 [] 0), (21, .bool (!((few06 g.S 10 && decide (g.O.length ≤ 12)) && decide (g.Roots.length ≤ 10))))], [(0, ⟨true, eGraph g⟩)]⟩ ?_ ?_
  · refine CW.rg (.run htt 3 (by simp only [go_sem, simprocAttr, eGraph]; exact rfl) (by simp [go_sem, simprocAttr, eGraph]) ?_)
    all_goals (first | refine CWops.guard 10 (by simp only [go_sem, simprocAttr, eGraph]; exact rfl) (fun g10 => ?_) (fun g10 => ?_) | skip)
    all_goals (refine CWops.run htt 6 (by simp only [go_sem, simprocAttr, eGraph]; exact rfl) (by simp [go_sem, simprocAttr, eGraph]) ?_)
    all_goals (first | refine CWops.guard 16 (by simp only [go_sem, simprocAttr, eGraph]; exact rfl) (fun g16 => ?_) (fun g16 => ?_) | skip)
    all_goals (refine CWops.run htt 5 (by simp only [go_sem, simprocAttr, eGraph]; exact rfl) (by simp [go_sem, simprocAttr, eGraph]) ?_)
    all_goals (refine CWops.done ?_)
    all_goals (
      refine ⟨rfl, Sh.wk0 ?_⟩
      simp_all [Wk, go_sem, simprocAttr, eGraph] <;> first | done | omega | rfl | (rw [Bool.eq_iff_iff]; done) | (rw [Bool.eq_iff_iff]; simp; done) | (rw [Bool.eq_iff_iff]; simp; omega))
  refine CW.cd (fun ct21 => ?_) (fun ct21 => ?_)
  · simp only [Bool.not_eq_true'] at ct21
    refine CW.seq (.rg (.rn htt 1 (.done ?_)))
    refine CW.ret ?_
    refine retQ.rt (by simp only [f9, go_sem, simprocAttr]; exact rfl) ?_
    refine ⟨_, ?_, rfl⟩
    have : fewG g = false := by unfold fewG; rw [ct21]; rfl
    simp [leP, this]
  · simp only [Bool.not_eq_false'] at ct21
    refine CW.skip ?_
    refine CW.seq (.seq (.rg (.rn htt 1 (.done ?_))))
    refine CW.block ?_
    refine CW.loop (S := Nat) (fun i => ⟨1, [(1, .lv 0 [] 0), (4, .int .i64 i)], [(0, ⟨true, eGraph g⟩)]⟩) (fun i => i ≤ g.O.length ∧ ∀ (j : Nat) (y), j < i → g.O[j]? = some y → decide (y.F.length ≤ 10) = true) (fun i => g.O.length - i) (0) ?_ ⟨Nat.zero_le _, fun j y hj => by omega⟩ (fun i ⟨h1, h2⟩ => ?_)
    · refine Sh.wk0 ?_; simp [Wk, go_sem, simprocAttr, eGraph]
    refine CW.seq (.seq (.rg (.run htt 5 (by simp only [go_sem, simprocAttr, eGraph]; exact rfl) (by simp [go_sem, simprocAttr, eGraph]) (.done ?_))))
    refine CW.cd (fun ct26 => ?_) (fun ct26 => ?_)
    · have hi : i < g.O.length := by simpa using ct26
      obtain ⟨x, hx⟩ : ∃ x, g.O[i]? = some x := ⟨g.O[i], List.getElem?_eq_getElem hi⟩
      refine CW.skip ?_
      refine CW.seq ?_
      refine CW.block ?_
      refine CW.seq (.rg (.run htt 8 (by simp only [go_sem, simprocAttr, eGraph, hx, eObj]; exact rfl) (by simp [go_sem, simprocAttr, eGraph, hx, eObj]) (.done ?_)))
      refine CW.cd (fun ct36 => ?_) (fun ct36 => ?_)
      · have hp : decide (x.F.length ≤ 10) = false := by simp at ct36 ⊢; omega
        refine CW.seq (.rg (.rn htt 1 (.done ?_)))
        refine CW.ret ?_
        refine retQ.rt (by simp only [f9, go_sem, simprocAttr]; exact rfl) ?_
        refine ⟨_, ?_, rfl⟩
        have : fewG g = false := by unfold fewG; rw [allI_no hx hp]; simp
        simp [leP, this]
      · have hp : decide (x.F.length ≤ 10) = true := by simp at ct36 ⊢; omega
        refine CW.skip ?_
        refine CW.rg (.run htt 3 (by simp only [go_sem, simprocAttr, wrap_succ (Nat.lt_of_lt_of_le hi hb)]; exact rfl) (by simp [go_sem, simprocAttr, wrap_succ (Nat.lt_of_lt_of_le hi hb)]) (.done ?_))
        refine ⟨i + 1, ?_, ?_, ?_⟩
        · refine Sh.wk0 ?_; simp [Wk, go_sem, simprocAttr, eGraph]
        · exact ⟨hi, belowI_succ (p := fun _ y => decide (y.F.length ≤ 10)) h2 hx hp⟩
        · simp only; omega
    · have hi : i = g.O.length := by simp at ct26; omega
      refine CW.exit ?_
      refine CW.seq (.rg (.rn htt 1 (.done ?_)))
      refine CW.ret ?_
      refine retQ.rt (by simp only [f9, go_sem, simprocAttr]; exact rfl) ?_
      refine ⟨_, ?_, rfl⟩
      have : fewG g = true := by unfold fewG; rw [ct21, belowI_all (p := fun _ (y : GObj) => decide (y.F.length ≤ 10)) (by rw [← hi]; exact h2)]; rfl
      simp [leP, this]
end Go.Ab
namespace Go.Ab
open Go Go.Proofs.Try Go.RowKit
set_option maxRecDepth 100000
@[go_sem] theorem tt_36 : tiOf prog 36 = some ⟨.int IntKind.i64, 1, 8, [.int .i64 0], false⟩ := by kernel_rfl
theorem root_rng {g : Graph} (h : May g) : ∀ r ∈ g.Roots, -1 ≤ r ∧ r ≤ 1073741824 := fun r hr => by
  have := h.root r hr
  unfold rootB at this
  simp only [Bool.or_eq_true, decide_eq_true_eq] at this
  rcases this with rfl | this
  · omega
  · obtain ⟨t, ht⟩ := Option.isSome_iff_exists.1 this
    obtain ⟨o, ho, e, _⟩ := typ_some ht
    obtain ⟨i, hi⟩ := List.getElem?_of_mem ho
    have g1 := (h.ids i o hi).1
    obtain ⟨_, _, _, g2⟩ := h.objT hi
    have := g2.id
    omega
def partsAt (c : Graph) (i : Nat) : List (List UInt8) := schemaText c.S :: numsPut c.Roots :: (c.O.take i).map (objPut c.S)
theorem partsAt_succ {c : Graph} {i : Nat} {o : GObj} (h : c.O[i]? = some o) : partsAt c (i + 1) = partsAt c i ++ [objPut c.S o] := by
  unfold partsAt
  rw [List.take_add_one, h, Option.toList_some, List.map_append]; rfl
theorem partsAt_all (c : Graph) : partsAt c c.O.length = partsOf c := by unfold partsAt partsOf; rw [List.take_length]
theorem gParts_bad {g : Graph} (h : gMay g = false) : gParts g = ([], 1) := by unfold gParts; rw [if_pos h]
theorem gParts_big {g : Graph} (h : gMay g = true) (h2 : flowMay (partsOf (gCanon g)) = false) : gParts g = ([], 5) := by unfold gParts; rw [if_neg (by rw [h]; simp), if_pos h2]
theorem gParts_ok {g : Graph} (h : gMay g = true) (h2 : flowMay (partsOf (gCanon g)) = true) : gParts g = (partsOf (gCanon g), 0) := by unfold gParts; rw [if_neg (by rw [h]; simp), if_neg (by rw [h2]; simp)]
theorem strRows_mk (l : List UInt8) : strRows ⟨l.toArray⟩ = l.map eU8 := by simp [strRows, eU8]
theorem frz_P8 (l : List (List UInt8)) : (AV.own 1 (l.map eP8)).freeze = .sl 1 (l.map eP8) := frz_map (fun x a h => by simp [eP8] at h; subst h; rfl) 1 l
theorem code_parts (up : Bool) (g : Graph) : PCallP prog up 30 [.agg (eGraph g)] (fun r => r = .sl 1 ((gParts g).1.map eP8) ∧ (gParts g).2 = 0) (fun v => (gParts g).2 ≠ 0 ∧ v = .iface 131 (.agg #[.int .i64 (gParts g).2])) := by
  refine PCallP.intro htt func30 (by kernel_rfl) rfl (Nat.le_of_ble_eq_true rfl) fun hl => ?_

  simp only [tmps0, Nat.reduceAdd]
  refine CW.seq (.rg (.run htt 2 (by simp only [go_sem, simprocAttr, eGraph]; exact rfl) (by simp [go_sem, simprocAttr, eGraph]) (.done ?_)))
  refine CW.seq ?_
  refine CW.regionX (by kernel_rfl) (by kernel_rfl) ?_
  refine CWopsX.run htt 1 (by simp only [go_sem, simprocAttr, eGraph]; exact rfl) (by simp [go_sem, simprocAttr, eGraph]) ?_
  refine CWopsX.callPA (E := fun _ => False) (graph_May up g).toP (by simp only [go_sem, simprocAttr, eGraph]) (by simp only [go_sem, simprocAttr, eGraph] <;> exact rfl) (by simp only [go_sem, simprocAttr, eGraph]) (by simp only [go_sem, simprocAttr, eGraph]) (fun c hc => hc.elim (fun v h => h.1.elim)) (fun rt8 hrt8 => ?_)
  subst hrt8
  refine CWopsX.callPA (code_must up (gMay g) 1) (by simp only [go_sem, simprocAttr, eGraph]) (by simp only [go_sem, simprocAttr, eGraph] <;> exact rfl) (by simp only [go_sem, simprocAttr, eGraph]) (by simp only [go_sem, simprocAttr, eGraph]) (fun c hc => ?_) (fun rt9 hrt9 => ?_)
  · obtain ⟨v, ⟨hv1, hv2⟩, hv3⟩ := hc
    exact ⟨v, by rw [gParts_bad hv1]; exact ⟨by simp, hv2⟩, hv3⟩
  obtain ⟨rfl, hM⟩ := hrt9
  refine CWopsX.done ?_
  have hm := (may_iff g).1 hM
  have hc0 := (once_facts hM).1
  have hcan := canon_Canon up g
  have hbig := gParts_big hM
  have hgood := gParts_ok hM
  generalize gCanon g = c at hc0 hcan hbig hgood
  have hmc := (may_iff c).1 hc0
  have hr3 := hmc.r
  have ho8 := hmc.o
  refine CW.seq (.rg (.run htt 1 (by simp only [go_sem, simprocAttr, eGraph]; exact rfl) (by simp [go_sem, simprocAttr, eGraph]) ?_))
  refine CWops.callA (hcan) (by simp only [go_sem, simprocAttr, eGraph]) (by simp only [go_sem, simprocAttr, eGraph] <;> exact rfl) (by simp only [go_sem, simprocAttr, eGraph]) (by simp only [go_sem, simprocAttr, eGraph]) (fun rt11 hrt11 => ?_)
  subst hrt11
  refine CWops.run htt 2 (by simp only [go_sem, simprocAttr, eGraph]; exact rfl) (by simp [go_sem, simprocAttr, eGraph]) (.done ?_)
  refine CW.seq ?_
  refine CW.drawn mixed 7 (by decide) (by kernel_rfl) (by kernel_rfl) (by kernel_rfl) ?_
  refine Seg.run htt 2 (by simp only [go_sem, simprocAttr, eGraph, eSchema, strRows_mk]; exact rfl) ?_
  refine Seg.callA (schema_Text up c.S hmc.s) (by simp only [go_sem, simprocAttr, eGraph, eSchema, strRows_mk]) (by simp only [go_sem, simprocAttr, eGraph, eSchema, strRows_mk] <;> exact rfl) (by simp only [go_sem, simprocAttr, eGraph, eSchema, strRows_mk]) (by simp only [go_sem, simprocAttr, eGraph, eSchema, strRows_mk]) ?_
  refine Seg.strBytes htt (by simp only [go_sem, simprocAttr]) tt_9 rfl tt_68 rfl tt_5 rfl (by simp only [go_sem, simprocAttr]; exact rfl) ?_
  refine Seg.run htt 2 (by simp only [go_sem, simprocAttr, eGraph, eSchema, strRows_mk]; exact rfl) ?_
  refine Seg.callA (code_numbers up c.Roots (root_rng hmc) (by omega)) (by simp only [go_sem, simprocAttr, eGraph, eSchema, strRows_mk]) (by simp only [go_sem, simprocAttr, eGraph, eSchema, strRows_mk] <;> exact rfl) (by simp only [go_sem, simprocAttr, eGraph, eSchema, strRows_mk]) (by simp only [go_sem, simprocAttr, eGraph, eSchema, strRows_mk]) ?_
  refine Seg.done ?_
  refine CWops.run htt 2 (by simp only [go_sem, simprocAttr, eGraph, eSchema, strRows_mk]; exact rfl) (by simp [go_sem, simprocAttr, eGraph, eSchema, strRows_mk]) (.done ?_)
  refine CW.seq (.seq (.rg (.run htt 4 (by simp only [go_sem, simprocAttr, eGraph]; exact rfl) (by simp [go_sem, simprocAttr, eGraph]) (.done ?_))))
  refine CW.block ?_
  refine CW.loop (S := Nat) (fun i => ⟨3, [(3, .lv 1 [] 0), (4, .ref 2 [] 0), (21, .sl 3 (c.O.map eObj)), (22, .int .i64 c.O.length), (23, .int .i64 i)], [(0, ⟨true, eGraph g⟩), (1, ⟨true, eGraph c⟩), (2, ⟨false, [.own 1 ((partsAt c i).map eP8)]⟩)]⟩) (fun i => i ≤ c.O.length) (fun i => c.O.length - i) (0) ?_ (Nat.zero_le _) (fun i h1 => ?_)
  · refine Sh.wk0 ?_; simp [Wk, go_sem, simprocAttr, eGraph, partsAt, eP8]
  refine CW.seq (.rg (.rn htt 1 (.done ?_)))
  refine CW.seq ?_
  refine CW.cd (fun ct24 => ?_) (fun ct24 => ?_)
  · have hi : i < c.O.length := by simpa using ct24
    obtain ⟨o, ho⟩ : ∃ o, c.O[i]? = some o := ⟨c.O[i], List.getElem?_eq_getElem hi⟩
    obtain ⟨_, t, hT, hmo⟩ := hmc.objT ho
    have ht := hmo.at_
    have hlen := hmo.len
    have hq1 : o.T = ((o.T.toNat : Nat) : Int) := by have := hmo.t0; omega
    obtain ⟨hs4, hsh⟩ := short_of hmc.s
    have hq2 : o.T.toNat ≤ 1000 := by have := (List.getElem?_eq_some_iff.1 ht).1; omega
    have hst := hsh t (List.mem_of_getElem? ht)
    have hfit : ∀ (k : Nat) (f : GField) (v : GVal), t.F[k]? = some f → o.F[k]? = some v → valFits f v = true := fun k f v h1 h2 => by
      have := hmo.lead k f v h1 h2
      unfold leadsB at this
      simp only [Bool.and_eq_true] at this
      exact this.1
    have hpl : (partsAt c i).length ≤ 10 := by unfold partsAt; simp only [List.length_cons, List.length_map, List.length_take]; omega
    refine CW.skip ?_
    refine CW.seq ?_
    refine CW.block ?_
    refine CW.seq (.rg (.run htt 4 (by simp only [go_sem, simprocAttr, ho, eObj]; exact rfl) (by simp [go_sem, simprocAttr, ho, eObj]) (.done ?_)))
    refine CW.rg ?_
    refine CWops.run htt 4 (by simp only [go_sem, simprocAttr, eGraph, eSchema, eObj]; exact rfl) (by first | (simp [go_sem, simprocAttr]; done) | (simp [go_sem, simprocAttr]; unfold MX; omega)) ?_
    refine CWops.callA (code_object up c.S o t o.T.toNat hq1 hq2 ht hlen (by have := hst.l; omega) hfit) (by simp only [go_sem, simprocAttr, eGraph, eSchema, eObj]) (by simp only [go_sem, simprocAttr, eGraph, eSchema, eObj] <;> exact rfl) (by simp only [go_sem, simprocAttr, eGraph, eSchema, eObj]) (by simp only [go_sem, simprocAttr, eGraph, eSchema, eObj]) (fun rt31 hrt31 => ?_)
    subst hrt31
    refine CWops.run htt 3 (by simp only [go_sem, simprocAttr, eGraph, eSchema, eObj]; exact rfl) (by first | (simp [go_sem, simprocAttr]; done) | (simp [go_sem, simprocAttr]; unfold MX; omega)) ?_
    refine CWops.done ?_
    refine CW.rg (.run htt 2 (by simp only [go_sem, simprocAttr, wrap_succ (show i < MX by unfold MX; omega)]; exact rfl) (by simp [go_sem, simprocAttr, wrap_succ (show i < MX by unfold MX; omega)]) (.done ?_))
    refine ⟨i + 1, ?_, ?_, ?_⟩
    · refine Sh.wk (fun x => if x = 2 then 5 else x) ?_; simp [Wk, go_sem, simprocAttr, partsAt_succ ho, eGraph, eP8]
    · exact hi
    · simp only; omega
  · have hi : i = c.O.length := by simp at ct24; omega
    refine CW.exit ?_
    refine CW.seq ?_
    refine CW.regionX (by kernel_rfl) (by kernel_rfl) ?_
    refine CWopsX.run htt 2 (by simp only [go_sem, simprocAttr]; exact rfl) (by simp [go_sem, simprocAttr]) ?_
    refine CWopsX.callP (E := fun _ => False) (flow_May up 0 (partsAt c i)).toP (by simp only [go_sem, simprocAttr]) (by simp only [go_sem, simprocAttr] <;> exact rfl) (by simp only [go_sem, simprocAttr, frz_P8]) (fun c hc => hc.elim (fun v h => h.1.elim)) (fun rt37 hrt37 => ?_)
    subst hrt37
    refine ⟨rfl, ?_⟩
    rw [hi, partsAt_all]
    refine CWopsX.callPA (code_must up (flowMay (partsOf c)) 5) (by simp only [go_sem, simprocAttr]) (by simp only [go_sem, simprocAttr] <;> exact rfl) (by simp only [go_sem, simprocAttr]) (by simp only [go_sem, simprocAttr]) (fun c hc => ?_) (fun rt38 hrt38 => ?_)
    · obtain ⟨v, ⟨hv1, hv2⟩, hv3⟩ := hc
      exact ⟨v, by rw [hbig hv1]; exact ⟨by simp, hv2⟩, hv3⟩
    obtain ⟨rfl, hF⟩ := hrt38
    refine CWopsX.done ?_
    refine CW.seq (.rg (.rn htt 2 (.done ?_)))
    refine CW.ret ?_
    refine retQ.rt (by simp only [f30, go_sem, simprocAttr]; exact rfl) ?_
    have e := hgood hF
    refine ⟨.sl 1 ((partsOf c).map eP8), ?_, ?_⟩
    · simp [leP, frz_P8]
      first | done | exact leP_refl _ | exact leP_refl.leL_refl _
    · rw [e]; exact ⟨rfl, rfl⟩
theorem gParts_may {g : Graph} (h : (gParts g).2 = 0) : gMay g = true ∧ (gParts g).1 = partsOf (gCanon g) ∧ (gParts g).1.length ≤ 40 ∧ ∀ p ∈ (gParts g).1, p.length ≤ 200 := by
  by_cases h1 : gMay g = true
  · by_cases h2 : flowMay (partsOf (gCanon g)) = true
    · rw [gParts_ok h1 h2]
      unfold flowMay at h2
      simp only [Bool.and_eq_true, decide_eq_true_eq, List.all_eq_true] at h2
      exact ⟨h1, rfl, h2⟩
    · rw [gParts_big h1 (by simpa using h2)] at h; cases h
  · rw [gParts_bad (by simpa using h1)] at h; cases h
@[go_sem] theorem tt_1 : tiOf prog 1 = some ⟨.func, 1, 8, [.nilfunc], false⟩ := by kernel_rfl
end Go.Ab
namespace Go.Ab
open Go Go.Proofs.Try Go.RowKit
set_option maxRecDepth 100000
set_option maxHeartbeats 3200000
open Go.RowKit
theorem inf5 : (prog.info? 5).map (fun i => (i.zero, i.size, i.bytes)) = some (some (.int .u8 0), 1, 1) := by kernel_rfl
theorem growB_none (w : World) : Calls prog 130 #[.slice none 0 0, .int .i64 0] w fun e w' => e = .returned (.slice none 0 0) ∧ w' = w := by
  go_enter func130, ntmps130
  go_wp2
  go_ret
  exact ⟨rfl, rfl⟩
theorem growB_some (n : Nat) (w : World) (hn : 0 < n) (hbig : n * 1 ≤ 140737488355328) :
    ∃ (cap : Nat) (vs : Array Value), vs.size = cap * 1 ∧ cap ≤ maxLen ∧ Calls prog 130 #[.slice none 0 0, .int .i64 n] w fun e w' => e = .returned (.slice (some ⟨w.heap.size, 0, none⟩) 0 cap) ∧ w' = w.drew.alloc (.cells vs 5) := by
  obtain ⟨i0, hi0, hz0, hz1, hz2⟩ := info_parts inf5
  have h1 : ¬ ((n : Int) < 0) := by omega
  have h4 : (n : Int) > 0 := by omega
  have hrz : ∀ ty, (Builtin.append_ #[68, 3] ty #[.slice none 0 0, .int .i64 (n : Int)]).run prog w =
      .ok (.slice (some ⟨w.heap.size, 0, none⟩) n (grownCap w n 0 5)) (w.drew.alloc (.cells (#[] ++ Builtin.zeroCells (Value.cells (.int .u8 0)) n ++ Builtin.zeroCells (Value.cells (.int .u8 0)) (grownCap w n 0 5 - n)) 5)) := fun ty => by
    have h := Lib.run_append_grow_zeros w 68 3 ty 5 i0 _ .i64 .i64 underlying68 underlying3 hi0 hz0 none 0 0 [] (run_firstCells_none w.drew i0.size 0 0 0) n hn (by rw [hz1]; decide) (by omega) (by omega) (by rw [hz2]; omega) (growslice_fits (by omega) (by rw [hz2]; omega))
    simpa only [Nat.zero_add] using h
  have hGn : n ≤ grownCap w n 0 5 := grownCap_ge w _ _ _
  have hG63 := grownCap_le_maxLen w n 0 5 (by unfold maxLen; omega)
  obtain ⟨G, hG⟩ : ∃ G, G = grownCap w n 0 5 := ⟨_, rfl⟩
  rw [← hG] at hrz hGn hG63
  obtain ⟨vs, hvs⟩ : ∃ vs, vs = (#[] ++ Builtin.zeroCells (Value.cells (.int .u8 0)) n ++ Builtin.zeroCells (Value.cells (.int .u8 0)) (G - n)) := ⟨_, rfl⟩
  have hsz : vs.size = G * 1 := by
    have h5 : (Value.cells (.int .u8 0)).size = 1 := by kernel_rfl
    rw [hvs]; simp [Builtin.zeroCells, h5]; omega
  rw [← hvs] at hrz
  clear hvs hG
  have hG9 : G ≤ 9223372036854775807 := by unfold maxLen at hG63; omega
  refine ⟨G, vs, hsz, hG63, ?_⟩
  go_enter func130, ntmps130
  go_wp2_with (at_builtin; refine Lib.wpList_append_run _ rfl _ _ _ _ rfl _ _ rfl rfl _ _ (hrz _) ?_)
  all_goals (go_ret; exact ⟨rfl, rfl⟩)
theorem grow_Byte (up : Bool) (n : Nat) (hbig : n * 1 ≤ 140737488355328) : GCall prog up 130 [.nilsl, .int .i64 (n : Int)] 0 [] (fun r σ' => r = .ref 0 [] 0 ∧ σ'.n = 1 ∧ σ'.s = [(0, ⟨false, [.own 1 []]⟩)]) := by
  refine ⟨⟨_, func130, by kernel_rfl, rfl⟩, fun w A G vs hA hinv hvl hrel => ?_⟩
  have hH : Holds A (GFp G) w 0 { n := 0, t := [], s := [] } ⟨#[], []⟩ w G := ⟨hinv, rfl, rfl, fun i hi => by omega, fun i _ => rfl, ⟨rfl, rfl, rfl, Nat.le_refl _, fun _ _ _ => rfl⟩, fun b hb => .inl hb, hA⟩
  obtain ⟨v0, v1, rfl⟩ : ∃ v0 v1, vs = [v0, v1] := by
    match vs, hvl with
    | [a, b], _ => exact ⟨a, b, rfl⟩
  have e0 : v0 = .slice none 0 0 := (hrel 0 _ rfl).nilsl_inv
  have e1 : v1 = .int .i64 (n : Int) := (hrel 1 _ rfl).int_inv
  subst e0 e1
  have hsep : ∀ v : Value, Sep (.own 1 v []) := fun v => .own _ _ _ (fun i r jj g hr => by simp at hr) (fun i r jj g hr => by simp at hr) (fun i r jj g i' r' j' g' hr => by simp at hr)
  rcases Nat.eq_zero_or_pos n with h | h
  · subst h
    refine (growB_none w).mono fun e w' he => ?_
    obtain ⟨rfl, rfl⟩ := he
    obtain ⟨G', q1, q2⟩ := hH.newDet (.own 1 (.slice none 0 0) []) (w' := w') (fun _ _ => rfl) ⟨rfl, rfl, rfl, Nat.le_refl _⟩ rfl (hsep _) (fun k hk => by cases hk with | own _ _ _ i r jj g _ hr => simp at hr) (fun A _ => .onil 1)
    exact ⟨_, G', .ref 0 [] 0, ⟨rfl, rfl, by simp [GT.er]⟩, q1.inv, q2, q1.fr, q1.own, fun x g g' hx => absurd hx (Nat.not_lt_zero x), fun x hx => by cases hx⟩
  · obtain ⟨cap, vs, hs, hcap, hc⟩ := growB_some n w h hbig
    refine hc.mono fun e w' he => ?_
    obtain ⟨rfl, rfl⟩ := he
    have hheap : (w.drew.alloc (.cells vs 5)).heap[w.heap.size]? = some (.cells vs 5 (0, 0)) := Go.heap_alloc_new w.drew _
    obtain ⟨G', q1, q2⟩ := hH.newDet (.own 1 (.slice (some ⟨w.heap.size, 0, none⟩) ([] : List (List GT)).length cap) []) (w' := w.drew.alloc (.cells vs 5)) (fun b hb => Below.heap_alloc w.drew _ b hb) ⟨rfl, rfl, rfl, by show w.heap.size ≤ (w.heap.push _).size; simp⟩ rfl (hsep _) (fun k hk => by
        cases hk with
        | own0 => exact Nat.le_refl _
        | own _ _ _ i r jj g _ hr => simp at hr) (fun A _ => .own 1 _ cap vs _ [] hheap hs (Nat.zero_le _) hcap (Nat.zero_le _) (fun i r hr => by simp at hr) (fun i r jj g hr => by simp at hr) (fun i r jj g hr => by simp at hr))
    exact ⟨_, G', .ref 0 [] 0, ⟨rfl, rfl, by simp [GT.er]⟩, q1.inv, q2, q1.fr, q1.own, fun x g g' hx => absurd hx (Nat.not_lt_zero x), fun x hx => by cases hx⟩
theorem flatB_succ {L : List (List UInt8)} {i : Nat} {l : List UInt8} (h : L[i]? = some l) : (L.take (i + 1)).flatten = (L.take i).flatten ++ l := by
  rw [List.take_add_one, h]; simp
theorem flatB_le {L : List (List UInt8)} (i : Nat) : ((L.take i).flatten).length ≤ L.flatten.length := by
  conv => rhs; rw [← List.take_append_drop i L, List.flatten_append, List.length_append]
  omega
theorem concat_Byte (up : Bool) (L : List (List UInt8)) (hL : L.length ≤ 1000) (hb : L.flatten.length ≤ MX) : PCall prog up 124 [.sl 1 (L.map eP8)] (· = .sl 1 (L.flatten.map eU8)) := by
  refine PCall.intro htt func124 (by kernel_rfl) rfl (Nat.le_of_ble_eq_true rfl) fun hl => ?_

  simp only [tmps0, Nat.reduceAdd]
  refine CW.seq (.rg (.rn htt 1 (.done ?_)))
  refine CW.seq (.rg (.rn htt 1 (.done ?_)))
  refine CW.seq (.seq (.rg (.rn htt 3 (.done ?_))))
  refine CW.block ?_
  refine CW.loop (S := Nat) (fun i => ⟨0, [(0, .sl 1 (L.map eP8)), (3, .int .i64 (((L.take i).flatten).length : Int)), (9, .sl 1 (L.map eP8)), (10, .int .i64 L.length), (11, .int .i64 i)], []⟩) (fun i => i ≤ L.length) (fun i => L.length - i) (0) ?_ (Nat.zero_le _) (fun i h1 => ?_)
  · refine Sh.wk0 ?_; simp [Wk, go_sem, simprocAttr]
  refine CW.seq (.rg (.rn htt 1 (.done ?_)))
  refine CW.seq ?_
  refine CW.cd (fun ct12 => ?_) (fun ct12 => ?_)
  · have hi : i < L.length := by simpa using ct12
    obtain ⟨l, hl0⟩ : ∃ l, L[i]? = some l := ⟨L[i], List.getElem?_eq_getElem hi⟩
    have hs := flatB_succ hl0
    have hle := flatB_le (L := L) (i + 1)
    rw [hs, List.length_append] at hle
    have hw : IntKind.i64.wrap ((((L.take i).flatten).length : Int) + (l.length : Int)) = ((((L.take i).flatten).length + l.length : Nat) : Int) := wrap_add (by omega)
    refine CW.skip ?_
    refine CW.seq ?_
    refine CW.block ?_
    refine CW.seq (.rg (.run htt 3 (by simp only [go_sem, simprocAttr, hi, hl0, eP8]; exact rfl) (by simp [go_sem, simprocAttr, hi, hl0, eP8]) (.done ?_)))
    refine CW.seq (.rg (.run htt 5 (by simp only [go_sem, simprocAttr, hw]; exact rfl) (by simp [go_sem, simprocAttr, hw]) (.done ?_)))
    refine CW.seq (.rg (.rn htt 2 (.done ?_)))
    refine CW.cd (fun ct20 => ?_) (fun ct20 => ?_)
    · exfalso; revert ct20; simp <;> omega 
    · refine CW.skip ?_
      refine CW.rg (.run htt 2 (by simp only [go_sem, simprocAttr, wrap_succ (show i < MX by unfold MX; omega)]; exact rfl) (by simp [go_sem, simprocAttr, wrap_succ (show i < MX by unfold MX; omega)]) (.done ?_))
      refine ⟨i + 1, ?_, ?_, ?_⟩
      · refine Sh.wk0 ?_
        dsimp only
        rw [hs]; simp [Wk, go_sem, simprocAttr]
      · exact hi
      · simp only; omega
  · have hi : i = L.length := by simp at ct12; omega
    rw [hi, List.take_length]
    refine CW.exit ?_
    refine CW.seq (.rg (.rn htt 1 ?_))
    refine CWops.callG [] rfl (grow_Byte up L.flatten.length (by unfold MX at hb; omega)) (by simp only [go_sem, simprocAttr]) (by simp only [go_sem, simprocAttr] <;> exact rfl) (by decide) (by simp [go_sem, simprocAttr, mName, memB]) (by simp [go_sem, simprocAttr, mName]) (by simp [go_sem, simprocAttr]) (by simp [go_sem, simprocAttr]) (by simp [go_sem, simprocAttr, mName, eGraph]) (fun r σ' hσ => ?_)
    obtain ⟨σn, σt, σs⟩ := σ'
    simp only at hσ
    obtain ⟨rfl, rfl, rfl⟩ := hσ
    simp only [aftS, renS, delAll, memB, mName, List.getD_nil, killH, kref, ren, Nat.beq_eq, go_sem, simprocAttr]
    refine CWops.rn htt 1 (.done ?_)
    refine CW.seq (.seq (.rg (.rn htt 3 (.done ?_))))
    refine CW.block ?_
    refine CW.loop (S := Nat) (fun i => ⟨1, [(0, .sl 1 (L.map eP8)), (6, .ref 0 [] 0), (25, .sl 1 (L.map eP8)), (26, .int .i64 L.length), (27, .int .i64 i)], [(0, ⟨false, [.own 1 (((L.take i).flatten).map eU8)]⟩)]⟩) (fun i => i ≤ L.length) (fun i => L.length - i) (0) ?_ (Nat.zero_le _) (fun i h2 => ?_)
    · refine Sh.wk0 ?_; simp [Wk, go_sem, simprocAttr]
    refine CW.seq (.rg (.rn htt 1 (.done ?_)))
    refine CW.seq ?_
    refine CW.cd (fun ct28 => ?_) (fun ct28 => ?_)
    · have hi : i < L.length := by simpa using ct28
      obtain ⟨l, hl0⟩ : ∃ l, L[i]? = some l := ⟨L[i], List.getElem?_eq_getElem hi⟩
      have hs := flatB_succ hl0
      have hle := flatB_le (L := L) (i + 1)
      rw [hs, List.length_append] at hle
      refine CW.skip ?_
      refine CW.seq ?_
      refine CW.block ?_
      refine CW.seq (.rg (.run htt 3 (by simp only [go_sem, simprocAttr, hi, hl0, eP8]; exact rfl) (by simp [go_sem, simprocAttr, hi, hl0, eP8]) (.done ?_)))
      refine CW.rg ?_
      refine CWops.run htt 4 (by simp only [go_sem, simprocAttr]; exact rfl) (by refine ⟨?_, ?_, ?_⟩ <;> first | (simp [eU8, AV.cell]; done) | (simp only [List.length_map]; omega) | (simp at hle ⊢; simp at hb; omega)) ?_
      refine CWops.done ?_
      refine CW.rg (.run htt 2 (by simp only [go_sem, simprocAttr, wrap_succ (show i < MX by unfold MX; omega)]; exact rfl) (by simp [go_sem, simprocAttr, wrap_succ (show i < MX by unfold MX; omega)]) (.done ?_))
      refine ⟨i + 1, ?_, ?_, ?_⟩
      · refine Sh.wk (fun x => x + 1) ?_
        dsimp only
        rw [hs]; simp [Wk, go_sem, simprocAttr]
      · exact hi
      · simp only; omega
    · have hi : i = L.length := by simp at ct28; omega
      rw [hi, List.take_length]
      refine CW.exit ?_
      refine CW.seq (.rg (.rn htt 2 (.done ?_)))
      refine CW.ret ?_
      refine retQ.rt (by simp only [f124, go_sem, simprocAttr]; exact rfl) ?_
      refine ⟨_, ?_, rfl⟩
      have q := frz_U8 L.flatten
      rw [List.map_flatten] at q
      simp [leP, q]
end Go.Ab
namespace Go.Ab
open Go Go.Proofs.Try Go.RowKit
set_option maxRecDepth 100000
set_option maxHeartbeats 3200000
def le4 (n : Nat) : List UInt8 := [n.toUInt8, (n / 256).toUInt8, (n / 65536).toUInt8, (n / 16777216).toUInt8]
def sealB (b : List UInt8) : List UInt8 := b ++ le4 (crcSum b)
theorem sealB_len (b : List UInt8) : (sealB b).length = b.length + 4 := by simp [sealB, le4]
theorem le4_succ {n i : Nat} (h : i < 4) : (le4 n).take (i + 1) = (le4 n).take i ++ [(n / 2 ^ (8 * i)).toUInt8] := by
  obtain rfl | rfl | rfl | rfl : i = 0 ∨ i = 1 ∨ i = 2 ∨ i = 3 := by omega
  all_goals simp [le4]
theorem fdivN (m k : Nat) : Int.fdiv (m : Int) (k : Int) = ((m / k : Nat) : Int) := by
  rw [Int.fdiv_eq_ediv_of_nonneg _ (by omega)]; simp
theorem shrN {m i : Nat} (h : i < 4) : Int.fdiv (m : Int) (2 ^ min (8 * i) 32) = ((m / 2 ^ (8 * i) : Nat) : Int) := by
  rw [Nat.min_eq_left (by omega), ← fdivN]; simp
theorem wrap8 {i : Nat} (h : i < 4) : IntKind.i64.wrap (8 * (i : Int)) = ((8 * i : Nat) : Int) := by
  simp only [IntKind.wrap, IntKind.bits, IntKind.signed]; simp; omega
theorem crc_Seal (up : Bool) (b : List UInt8) (hb : b.length ≤ 1000) : PCall prog up 125 [.sl 1 (b.map eU8)] (· = .sl 1 ((sealB b).map eU8)) := by
  refine PCall.intro htt func125 (by kernel_rfl) rfl (Nat.le_of_ble_eq_true rfl) fun hl => ?_
  have hw4 : IntKind.i64.wrap ((b.length : Int) + 4) = ((b.length + 4 : Nat) : Int) := wrap_add (a := b.length) (b := 4) (by unfold MX; omega)
  simp only [tmps0, Nat.reduceAdd]
  refine CW.seq (.rg (.rn htt 1 (.done ?_)))
  refine CW.seq (.rg (.rn htt 1 ?_))
  refine CWops.call (crc_Sum up b) (by simp only [go_sem, simprocAttr]) (by simp only [go_sem, simprocAttr] <;> exact rfl) (by simp only [go_sem, simprocAttr]) (fun rt7 hrt7 => ?_)
  subst hrt7; refine ⟨rfl, ?_⟩
  refine CWops.rn htt 1 (.done ?_)
  refine CW.seq (.rg (.run htt 5 (by simp only [go_sem, simprocAttr, hw4]; exact rfl) (by simp [go_sem, simprocAttr, hw4]) ?_))
  refine CWops.makeRoom (n := b.length) (m := b.length + 4) htt (by simp only [go_sem, simprocAttr]) tt_68 rfl tt_5 (by decide) rfl (by simp only [go_sem, simprocAttr, List.length_map]) (by simp only [go_sem, simprocAttr, List.length_map]) (by omega) (by unfold MX; omega) (by simp; unfold MX; omega) ?_
  refine CWops.run htt 1 (by simp only [go_sem, simprocAttr, hw4]; exact rfl) (by simp [go_sem, simprocAttr, hw4]) (.done ?_)
  refine CW.seq (.rg (.rn htt 2 ?_))
  refine CWops.copy (y := 0) (es := List.replicate b.length [.int .u8 0]) (rows := b.map eU8) htt (by simp only [go_sem, simprocAttr]) tt_68 rfl tt_5 rfl (by simp only [go_sem, simprocAttr]) (by simp only [go_sem, simprocAttr]) (by simp [go_sem, simprocAttr, srcRows]) (by simp [go_sem, simprocAttr, isRef]) (by simp [go_sem, simprocAttr, eU8, AV.cell]) (by simp) ?_
  refine CWops.done ?_
  refine CW.seq (.seq (.rg (.rn htt 1 (.done ?_))))
  refine CW.block ?_
  refine CW.loop (S := Nat) (fun i => ⟨1, [(0, .sl 1 (b.map eU8)), (3, .int .u32 (crcSum b : Int)), (4, .ref 0 [] 0), (17, .int .i64 i)], [(0, ⟨false, [.own 1 ((b ++ (le4 (crcSum b)).take i).map eU8)]⟩)]⟩) (fun i => i ≤ 4) (fun i => 4 - i) (0) ?_ (Nat.zero_le _) (fun i h1 => ?_)
  · refine Sh.wk0 ?_; simp [Wk, go_sem, simprocAttr]
  refine CW.seq (.rg (.rn htt 1 (.done ?_)))
  refine CW.seq ?_
  refine CW.cd (fun ct18 => ?_) (fun ct18 => ?_)
  · have hi : i < 4 := by simp at ct18; omega
    have hw8 := wrap8 hi
    have hsn := le4_succ (n := crcSum b) hi
    have hl4 : (le4 (crcSum b)).length = 4 := rfl
    have hlen : b.length + min i (le4 (crcSum b)).length + 1 ≤ MX := by rw [hl4]; unfold MX; omega
    refine CW.skip ?_
    refine CW.seq ?_
    refine CW.block ?_
    refine CW.seq (.rg (.rn htt 2 (.done ?_)))
    refine CW.rg (.run htt 5 (by simp only [go_sem, simprocAttr, hw8, hlen]; exact rfl) (by simp [go_sem, simprocAttr, hw8, hlen]) ?_)
    refine CWops.conv htt (by simp only [go_sem, simprocAttr]) tt_29 rfl tt_5 rfl (by simp only [go_sem, simprocAttr] <;> exact rfl) ?_
    rw [shrN hi]
    simp only [byteOf]
    refine CWops.run htt 3 (by simp only [go_sem, simprocAttr, hw8, hlen]; exact rfl) (by simp [go_sem, simprocAttr, hw8, hlen]) (.done ?_)
    refine CW.rg (.run htt 2 (by simp only [go_sem, simprocAttr, wrap_succ (show i < MX by unfold MX; omega)]; exact rfl) (by simp [go_sem, simprocAttr, wrap_succ (show i < MX by unfold MX; omega)]) (.done ?_))
    refine ⟨i + 1, ?_, ?_, ?_⟩
    · refine Sh.wk (fun x => if x = 0 then 2 else x) ?_; simp [Wk, go_sem, simprocAttr, hsn, eU8]
    · exact hi
    · simp only; omega
  · have hi : i = 4 := by simp at ct18; omega
    refine CW.exit ?_
    refine CW.seq (.rg (.rn htt 2 (.done ?_)))
    refine CW.ret ?_
    refine retQ.rt (by simp only [f125, go_sem, simprocAttr]; exact rfl) ?_
    refine ⟨_, ?_, rfl⟩
    have q := frz_U8 (sealB b)
    rw [hi]
    simp [leP, sealB, le4] at q ⊢
    simp [q]
@[go_sem] theorem tt_205 : tiOf prog 205 = some ⟨.slice 86, 1, 24, [.nilsl], false⟩ := by kernel_rfl
@[go_sem] theorem tt_192 : tiOf prog 192 = some ⟨.struct [(3, 0), (68, 1)], 2, 32, [.int .i64 0, .nilsl], true⟩ := by kernel_rfl
def eU64 (n : Nat) : List AV := [.int .u64 (n : Int)]
def numsU (l : List Nat) : List UInt8 := l.flatMap vPut
theorem numsU_len : ∀ (l : List Nat), (numsU l).length ≤ 10 * l.length
  | [] => by simp [numsU]
  | x :: l => by
    have h1 := numsU_len l
    have h2 := vPut_len x
    simp only [numsU, List.flatMap_cons, List.length_append, List.length_cons] at h1 ⊢
    omega
def frameB (k : Nat) (b : List UInt8) : List UInt8 := if b.length ≤ 255 then sealB [k.toUInt8, b.length.toUInt8] ++ sealB b else []
def eFrame (f : Nat × List UInt8) : List AV := [.int .i64 (f.1 : Int), .sl 1 (f.2.map eU8)]
theorem flow_numbers (up : Bool) (l : List Nat) (hr : ∀ n ∈ l, n < 18446744073709551616) (hll : l.length ≤ 1000) : PCall prog up 115 [.sl 1 (l.map eU64)] (· = .sl 1 ((numsU l).map eU8)) := by
  refine PCall.intro htt func115 (by kernel_rfl) rfl (Nat.le_of_ble_eq_true rfl) fun hl => ?_

  simp only [tmps0, Nat.reduceAdd]
  refine CW.seq (.rg (.rn htt 1 (.done ?_)))
  refine CW.seq (.rg (.rn htt 1 (.done ?_)))
  refine CW.seq (.seq (.rg (.rn htt 3 (.done ?_))))
  refine CW.block ?_
  refine CW.loop (S := Nat) (fun i => ⟨1, [(6, .sl 1 (l.map eU64)), (7, .int .i64 l.length), (8, .int .i64 i), (3, .ref 0 [] 0)], [(0, ⟨false, [.own 1 ((numsU (l.take i)).map eU8)]⟩)]⟩) (fun i => i ≤ l.length) (fun i => l.length - i) (0) ?_ (Nat.zero_le _) (fun i h1 => ?_)
  · refine Sh.trans (Sh.nilRoot 3 1 (by simp only [go_sem, simprocAttr]) rfl) (Sh.wk0 ?_); simp [Wk, go_sem, simprocAttr, numsU]
  refine CW.seq (.rg (.rn htt 1 (.done ?_)))
  refine CW.seq ?_
  refine CW.cd (fun ct9 => ?_) (fun ct9 => ?_)
  · have hi : i < l.length := by simpa using ct9
    obtain ⟨x, hx⟩ : ∃ x, l[i]? = some x := ⟨l[i], List.getElem?_eq_getElem hi⟩
    have hq := hr x (List.mem_of_getElem? hx)
    have hlen : (numsU (l.take i)).length + (vPut x).length ≤ MX := by
      have g1 := numsU_len (l.take i)
      have g2 := vPut_len x
      rw [List.length_take] at g1
      unfold MX; omega
    have hsn : numsU (l.take (i + 1)) = numsU (l.take i) ++ vPut x := by
      rw [List.take_add_one, hx]; simp [numsU]
    refine CW.skip ?_
    refine CW.seq ?_
    refine CW.block ?_
    refine CW.seq (.rg (.run htt 3 (by simp only [go_sem, simprocAttr, hx, eU64]; exact rfl) (by simp [go_sem, simprocAttr, hx, eU64]) (.done ?_)))
    refine CW.rg ?_
    refine CWops.run htt 2 (by simp only [go_sem, simprocAttr]; exact rfl) (by first | (simp [go_sem, simprocAttr]; done) | (simp [go_sem, simprocAttr]; exact ⟨fun a _ b hb => by simp [eU8] at hb; subst hb; rfl, hlen⟩)) ?_
    refine CWops.callA (vari_Put up x hq) (by simp only [go_sem, simprocAttr]) (by simp only [go_sem, simprocAttr] <;> exact rfl) (by simp only [go_sem, simprocAttr]) (by simp only [go_sem, simprocAttr]) (fun rt14 hrt14 => ?_)
    subst hrt14
    refine CWops.run htt 2 (by simp only [go_sem, simprocAttr]; exact rfl) (by first | (simp [go_sem, simprocAttr]; done) | (simp [go_sem, simprocAttr]; exact ⟨fun a _ b hb => by simp [eU8] at hb; subst hb; rfl, hlen⟩)) ?_
    refine CWops.done ?_
    refine CW.rg (.run htt 2 (by simp only [go_sem, simprocAttr, wrap_succ (show i < MX by unfold MX; omega)]; exact rfl) (by simp [go_sem, simprocAttr, wrap_succ (show i < MX by unfold MX; omega)]) (.done ?_))
    refine ⟨i + 1, ?_, ?_, ?_⟩
    · refine Sh.wk (fun x => if x = 0 then 1 else x) ?_; simp [Wk, go_sem, simprocAttr, hsn]
    · exact hi
    · simp only; omega
  · have hi : i = l.length := by simp at ct9; omega
    refine CW.exit ?_
    refine CW.seq (.rg (.rn htt 2 (.done ?_)))
    refine CW.ret ?_
    refine retQ.rt (by simp only [f115, go_sem, simprocAttr]; exact rfl) ?_
    refine ⟨_, ?_, rfl⟩
    rw [hi, List.take_length]
    simp [leP, frz_U8]
    try exact leP_refl _
theorem frame_Put (up : Bool) (k : Nat) (hk : k ≤ 255) (b : List UInt8) : PCall prog up 116 [.agg (eFrame (k, b))] (· = .tup [.sl 1 ((frameB k b).map eU8), .int .i64 (if b.length ≤ 255 then 0 else 1)]) := by
  refine PCall.intro htt func116 (by kernel_rfl) rfl (Nat.le_of_ble_eq_true rfl) fun hl => ?_

  simp only [tmps0, Nat.reduceAdd]
  refine CW.seq (.rg (.run htt 3 (by simp only [go_sem, simprocAttr, eFrame]; exact rfl) (by simp [go_sem, simprocAttr, eFrame]) (.done ?_)))
  refine CW.seq ?_
  refine CW.cut ⟨1, [(1, .lv 0 [] 0), (17, .bool (decide (255 < b.length)))], [(0, ⟨true, eFrame (k, b)⟩)]⟩ ?_ ?_
  · refine CW.rg (.run htt 4 (by simp only [go_sem, simprocAttr, eFrame]; exact rfl) (by simp [go_sem, simprocAttr, eFrame]) ?_)
    all_goals (first | refine CWops.guard 7 (by simp only [go_sem, simprocAttr, eFrame]; exact rfl) (fun g7 => ?_) (fun g7 => ?_) | skip)
    all_goals (first | (simp at g7; done) | (exfalso; simp at g7; omega) | skip)
    all_goals (refine CWops.run htt 5 (by simp only [go_sem, simprocAttr, eFrame]; exact rfl) (by simp [go_sem, simprocAttr, eFrame]) ?_)
    all_goals (first | refine CWops.guard 12 (by simp only [go_sem, simprocAttr, eFrame]; exact rfl) (fun g12 => ?_) (fun g12 => ?_) | skip)
    all_goals (first | (simp at g12; done) | (exfalso; simp at g12; omega) | skip)
    all_goals (refine CWops.run htt 5 (by simp only [go_sem, simprocAttr, eFrame]; exact rfl) (by simp [go_sem, simprocAttr, eFrame]) ?_)
    all_goals (refine CWops.done ?_)
    all_goals (
      first | refine ⟨rfl, Sh.wk0 ?_⟩ | refine Sh.wk0 ?_
      simp_all [Wk, go_sem, simprocAttr, eFrame] <;> first | done | rfl | omega | (rw [Bool.eq_iff_iff]; simp; done) | (rw [Bool.eq_iff_iff]; simp; omega))
  refine CW.cd (fun ct17 => ?_) (fun ct17 => ?_)
  · have hb : ¬ b.length ≤ 255 := by simp at ct17; omega
    refine CW.seq (.rg (.rn htt 2 (.done ?_)))
    refine CW.ret ?_
    refine retQ.rt (by simp only [f116, go_sem, simprocAttr]; exact rfl) ?_
    refine ⟨_, ?_, rfl⟩
    simp [leP, leL, frameB, hb]
  · have hb : b.length ≤ 255 := by simp at ct17; omega
    refine CW.skip ?_
    refine CW.seq ?_
    refine CW.drawn mixed 11 (by decide) (by kernel_rfl) (by kernel_rfl) (by kernel_rfl) ?_
    refine Seg.run htt 2 (by simp only [go_sem, simprocAttr, eFrame, eP8]; exact rfl) ?_
    refine Seg.conv htt (by simp only [go_sem, simprocAttr]) tt_3 rfl tt_5 rfl (by simp only [go_sem, simprocAttr] <;> exact rfl) ?_
    simp only [byteOf]
    refine Seg.run htt 3 (by simp only [go_sem, simprocAttr, eFrame, eP8]; exact rfl) ?_
    refine Seg.conv htt (by simp only [go_sem, simprocAttr]) tt_3 rfl tt_5 rfl (by simp only [go_sem, simprocAttr] <;> exact rfl) ?_
    simp only [byteOf, List.length_map]
    refine Seg.buildF (rows := [k.toUInt8, b.length.toUInt8].map eU8) htt (by simp only [go_sem, simprocAttr]) tt_68 rfl tt_5 (by decide) rfl (by decide) (fun σ' hev => ?_) ?_
    · have h1 := hev (.tmp 20) (by simp [Op.operands])
      have h2 := hev (.tmp 24) (by simp [Op.operands])
      simp only [go_sem, simprocAttr] at h1 h2
      simp [fillR, h1, h2, AV.cells, allCell, pureL, eU8, go_sem, simprocAttr]
    refine Seg.callA (crc_Seal up [k.toUInt8, b.length.toUInt8] (by simp)) (by simp only [go_sem, simprocAttr, eFrame, eP8]) (by simp only [go_sem, simprocAttr, eFrame, eP8] <;> exact rfl) (by simp only [go_sem, simprocAttr, eFrame, eP8]) (by simp only [go_sem, simprocAttr, eFrame, eP8]) ?_
    refine Seg.run htt 2 (by simp only [go_sem, simprocAttr, eFrame, eP8]; exact rfl) ?_
    refine Seg.done ?_
    refine CWops.callA (crc_Seal up b (by omega)) (by simp only [go_sem, simprocAttr, eFrame, eP8]) (by simp only [go_sem, simprocAttr, eFrame, eP8] <;> exact rfl) (by simp only [go_sem, simprocAttr, eFrame, eP8]) (by simp only [go_sem, simprocAttr, eFrame, eP8]) (fun rt29 hrt29 => ?_)
    subst hrt29
    refine CWops.run htt 1 (by simp only [go_sem, simprocAttr, eFrame, eP8]; exact rfl) (by simp [go_sem, simprocAttr, eFrame, eP8]) ?_
    refine CWops.sh (Sh.frzT 30 1 rfl rfl rfl) ?_
    simp only [go_sem, simprocAttr, List.replicate, List.set_cons_zero, List.set_cons_succ, AV.freeze, List.map_cons, List.map_nil]
    refine CWops.callA (concat_Byte up [sealB [k.toUInt8, b.length.toUInt8], sealB b] (by simp) (by simp [sealB_len]; unfold MX; omega)) (by simp only [go_sem, simprocAttr, eFrame, eP8]) (by simp only [go_sem, simprocAttr, eFrame, eP8] <;> exact rfl) (by simp only [go_sem, simprocAttr, eFrame, eP8]) (by simp only [go_sem, simprocAttr, eFrame, eP8]) (fun rt31 hrt31 => ?_)
    subst hrt31
    refine CWops.run htt 2 (by simp only [go_sem, simprocAttr, eFrame, eP8]; exact rfl) (by simp [go_sem, simprocAttr, eFrame, eP8]) (.done ?_)
    refine CW.ret ?_
    refine retQ.rt (by simp only [f116, go_sem, simprocAttr]; exact rfl) ?_
    refine ⟨_, ?_, rfl⟩
    have q := frz_U8 (frameB k b)
    simp [leP, leL, frameB, hb] at q ⊢
    try simp [q]
end Go.Ab
namespace Go.Ab
open Go Go.Proofs.Try Go.RowKit
set_option maxRecDepth 100000
set_option maxHeartbeats 6400000
@[go_sem] theorem tt_193 : tiOf prog 193 = some ⟨.slice 192, 1, 24, [.nilsl], false⟩ := by kernel_rfl
theorem flow_numbersG (up : Bool) (l : List Nat) (hr : ∀ n ∈ l, n < 18446744073709551616) (hll : l.length ≤ 1000) : GCall prog up 115 [.sl 1 (l.map eU64)] 0 [] (fun r σ' => r = .ref 0 [] 0 ∧ σ'.n = 1 ∧ σ'.s = [(0, ⟨false, [.own 1 ((numsU l).map eU8)]⟩)]) := by
  refine GCall.intro htt 0 func115 (by kernel_rfl) rfl (Nat.le_of_ble_eq_true rfl) (CW.told ?_)

  simp only [tmps0, Nat.reduceAdd]
  refine CW.seq (.rg (.rn htt 1 (.done ?_)))
  refine CW.seq (.rg (.rn htt 1 (.done ?_)))
  refine CW.seq (.seq (.rg (.rn htt 3 (.done ?_))))
  refine CW.block ?_
  refine CW.loop (S := Nat) (fun i => ⟨1, [(6, .sl 1 (l.map eU64)), (7, .int .i64 l.length), (8, .int .i64 i), (3, .ref 0 [] 0)], [(0, ⟨false, [.own 1 ((numsU (l.take i)).map eU8)]⟩)]⟩) (fun i => i ≤ l.length) (fun i => l.length - i) (0) ?_ (Nat.zero_le _) (fun i h1 => ?_)
  · refine Sh.trans (Sh.nilRoot 3 1 (by simp only [go_sem, simprocAttr]) rfl) (Sh.wk0 ?_); simp [Wk, go_sem, simprocAttr, numsU]
  refine CW.seq (.rg (.rn htt 1 (.done ?_)))
  refine CW.seq ?_
  refine CW.cd (fun ct9 => ?_) (fun ct9 => ?_)
  · have hi : i < l.length := by simpa using ct9
    obtain ⟨x, hx⟩ : ∃ x, l[i]? = some x := ⟨l[i], List.getElem?_eq_getElem hi⟩
    have hq := hr x (List.mem_of_getElem? hx)
    have hlen : (numsU (l.take i)).length + (vPut x).length ≤ MX := by
      have g1 := numsU_len (l.take i)
      have g2 := vPut_len x
      rw [List.length_take] at g1
      unfold MX; omega
    have hsn : numsU (l.take (i + 1)) = numsU (l.take i) ++ vPut x := by
      rw [List.take_add_one, hx]; simp [numsU]
    refine CW.skip ?_
    refine CW.seq ?_
    refine CW.block ?_
    refine CW.seq (.rg (.run htt 3 (by simp only [go_sem, simprocAttr, hx, eU64]; exact rfl) (by simp [go_sem, simprocAttr, hx, eU64]) (.done ?_)))
    refine CW.rg ?_
    refine CWops.run htt 2 (by simp only [go_sem, simprocAttr]; exact rfl) (by first | (simp [go_sem, simprocAttr]; done) | (simp [go_sem, simprocAttr]; exact ⟨fun a _ b hb => by simp [eU8] at hb; subst hb; rfl, hlen⟩)) ?_
    refine CWops.callA (vari_Put up x hq) (by simp only [go_sem, simprocAttr]) (by simp only [go_sem, simprocAttr] <;> exact rfl) (by simp only [go_sem, simprocAttr]) (by simp only [go_sem, simprocAttr]) (fun rt14 hrt14 => ?_)
    subst hrt14
    refine CWops.run htt 2 (by simp only [go_sem, simprocAttr]; exact rfl) (by first | (simp [go_sem, simprocAttr]; done) | (simp [go_sem, simprocAttr]; exact ⟨fun a _ b hb => by simp [eU8] at hb; subst hb; rfl, hlen⟩)) ?_
    refine CWops.done ?_
    refine CW.rg (.run htt 2 (by simp only [go_sem, simprocAttr, wrap_succ (show i < MX by unfold MX; omega)]; exact rfl) (by simp [go_sem, simprocAttr, wrap_succ (show i < MX by unfold MX; omega)]) (.done ?_))
    refine ⟨i + 1, ?_, ?_, ?_⟩
    · refine Sh.wk (fun x => if x = 0 then 1 else x) ?_; simp [Wk, go_sem, simprocAttr, hsn]
    · exact hi
    · simp only; omega
  · have hi : i = l.length := by simp at ct9; omega
    refine CW.exit ?_
    refine CW.seq (.rg (.rn htt 2 (.done ?_)))
    refine CW.ret ?_
    refine ⟨⟨1, [(2, .ref 0 [] 0)], [(0, ⟨false, [.own 1 ((numsU l).map eU8)]⟩)]⟩, ?_, .inr rfl, by simp [ptrOK, go_sem, simprocAttr], _, by simp only [f115, go_sem, simprocAttr]; exact rfl, ?_⟩
    · refine Sh.wk0 ?_
      rw [hi, List.take_length]
      simp [Wk, go_sem, simprocAttr]
    · exact ⟨rfl, rfl, rfl⟩
theorem frz_Frame (n : Nat) (xs : List (Nat × List UInt8)) : (AV.own n (xs.map eFrame)).freeze = .sl n (xs.map eFrame) := frz_map (fun x a ha => by simp [eFrame] at ha; rcases ha with rfl | rfl <;> rfl) n xs
attribute [go_sem] frz_Frame
def framesAt (base : Nat) (L : List (List UInt8)) (i : Nat) : List (Nat × List UInt8) := (1, numsU [1, base, L.length]) :: ((L.take i).zipIdx.map fun p => (2, numsU [p.2] ++ p.1))
def framesOf (base : Nat) (L : List (List UInt8)) : List (Nat × List UInt8) := framesAt base L L.length ++ [(3, numsU [L.length])]
def bytesF (l : List (Nat × List UInt8)) : List UInt8 := l.flatMap fun f => frameB f.1 f.2
def flowB (base : Nat) (L : List (List UInt8)) : List UInt8 := if flowMay L then bytesF (framesOf base L) else []
theorem framesAt_succ {base : Nat} {L : List (List UInt8)} {i : Nat} {p : List UInt8} (h : L[i]? = some p) : framesAt base L (i + 1) = framesAt base L i ++ [(2, numsU [i] ++ p)] := by
  have hi := (List.getElem?_eq_some_iff.1 h).1
  unfold framesAt
  rw [List.take_add_one, h, Option.toList_some, List.zipIdx_append]
  simp [List.length_take, Nat.min_eq_left (Nat.le_of_lt hi)]
theorem framesAt_len (base : Nat) (L : List (List UInt8)) (i : Nat) : (framesAt base L i).length ≤ L.length + 1 := by
  simp only [framesAt, List.length_cons, List.length_map, List.length_zipIdx, List.length_take]; omega
theorem framesOf_len (base : Nat) (L : List (List UInt8)) : (framesOf base L).length ≤ L.length + 2 := by
  have := framesAt_len base L L.length
  simp only [framesOf, List.length_append, List.length_cons, List.length_nil]; omega
theorem frameB_len (k : Nat) (b : List UInt8) : (frameB k b).length ≤ 265 := by
  unfold frameB
  split
  · simp only [List.length_append, sealB_len, List.length_cons, List.length_nil]; omega
  · simp
theorem bytesF_len : ∀ (l : List (Nat × List UInt8)), (bytesF l).length ≤ 265 * l.length
  | [] => by simp [bytesF]
  | x :: l => by
    have h1 := bytesF_len l
    have h2 := frameB_len x.1 x.2
    simp only [bytesF, List.flatMap_cons, List.length_append, List.length_cons] at h1 ⊢
    omega
theorem bytesF_succ {l : List (Nat × List UInt8)} {i : Nat} {f : Nat × List UInt8} (h : l[i]? = some f) : bytesF (l.take (i + 1)) = bytesF (l.take i) ++ frameB f.1 f.2 := by
  rw [List.take_add_one, h]; simp [bytesF]
theorem frames_kind {base : Nat} {L : List (List UInt8)} {i : Nat} {f : Nat × List UInt8} (h : (framesOf base L)[i]? = some f) : f.1 ≤ 255 := by
  have := List.mem_of_getElem? h
  unfold framesOf framesAt at this
  simp only [List.cons_append, List.mem_cons, List.mem_append, List.mem_map, List.not_mem_nil, or_false] at this
  rcases this with rfl | ⟨_, _, rfl⟩ | rfl <;> simp
theorem flow_Put (up : Bool) (base : Nat) (hbs : base < 4294967296) (L : List (List UInt8)) : PCall prog up 92 [.agg [.int .u32 (base : Int), .sl 1 (L.map eP8)]] (· = .tup [.sl 1 ((flowB base L).map eU8), .int .i64 (if flowMay L then 0 else 1)]) := by
  refine PCall.intro htt func92 (by kernel_rfl) rfl (Nat.le_of_ble_eq_true rfl) fun hl => ?_

  simp only [tmps0, Nat.reduceAdd]
  refine CW.seq (.rg (.rn htt 3 (.done ?_)))
  refine CW.seq (.seq (.rg (.rn htt 1 ?_)))
  refine CWops.call (flow_May up base L) (by simp only [go_sem, simprocAttr]) (by simp only [go_sem, simprocAttr] <;> exact rfl) (by simp only [go_sem, simprocAttr]) (fun rt14 hrt14 => ?_)
  subst hrt14; refine ⟨rfl, ?_⟩
  refine CWops.rn htt 1 (.done ?_)
  refine CW.cd (fun ct15 => ?_) (fun ct15 => ?_)
  · have hm : flowMay L = false := by simpa using ct15
    refine CW.seq (.rg (.rn htt 2 (.done ?_)))
    refine CW.ret ?_
    refine retQ.rt (by simp only [f92, go_sem, simprocAttr]; exact rfl) ?_
    refine ⟨_, ?_, rfl⟩
    simp [leP, leL, flowB, hm]
  · have hm : flowMay L = true := by simpa using ct15
    have hL : L.length ≤ 40 := by
      unfold flowMay at hm
      simp only [Bool.and_eq_true, decide_eq_true_eq] at hm
      exact hm.1
    have hP : ∀ p ∈ L, p.length ≤ 200 := fun p hp => by
      unfold flowMay at hm
      simp only [Bool.and_eq_true, List.all_eq_true, decide_eq_true_eq] at hm
      exact hm.2 p hp
    have hwL : IntKind.u64.wrap (L.length : Int) = (L.length : Int) := by rw [wrapU64 (by omega) (by omega)]; omega
    have hwB : IntKind.u64.wrap (base : Int) = (base : Int) := by rw [wrapU64 (by omega) (by omega)]; omega
    refine CW.skip ?_
    refine CW.seq (.rg (.run htt 3 (by simp only [go_sem, simprocAttr, List.length_map]; exact rfl) (by simp [go_sem, simprocAttr, List.length_map]) ?_))
    refine CWops.conv htt (by simp only [go_sem, simprocAttr]) tt_3 rfl tt_86 rfl (by simp only [go_sem, simprocAttr] <;> exact rfl) ?_
    simp only [hwL]
    refine CWops.run htt 1 (by simp only [go_sem, simprocAttr, List.length_map]; exact rfl) (by simp [go_sem, simprocAttr, List.length_map]) (.done ?_)
    refine CW.seq (.rg (.rn htt 2 ?_))
    refine CWops.conv htt (by simp only [go_sem, simprocAttr]) tt_29 rfl tt_86 rfl (by simp only [go_sem, simprocAttr] <;> exact rfl) ?_
    simp only [hwB]
    refine CWops.rn htt 2 ?_
    refine CWops.sh (Sh.frzT 24 1 rfl rfl rfl) ?_
    simp only [go_sem, simprocAttr, List.replicate, List.set_cons_zero, List.set_cons_succ, AV.freeze, List.map_cons, List.map_nil]
    refine CWops.callA ((by have q := flow_numbers up [1, base, L.length] (by simp; omega) (by simp); simpa [eU64] using q)) (by simp only [go_sem, simprocAttr]) (by simp only [go_sem, simprocAttr] <;> exact rfl) (by simp only [go_sem, simprocAttr]) (by simp only [go_sem, simprocAttr]) (fun rt25 hrt25 => ?_)
    subst hrt25
    refine CWops.rn htt 3 (.done ?_)
    refine CW.seq (.seq (.rg (.run htt 4 (by simp only [go_sem, simprocAttr, List.length_map]; exact rfl) (by simp [go_sem, simprocAttr, List.length_map]) (.done ?_))))
    refine CW.block ?_
    refine CW.loop (S := Nat) (fun i => ⟨2, [(1, .lv 0 [] 0), (4, .int .u64 (L.length : Int)), (5, .ref 1 [] 0), (29, .sl 1 (L.map eP8)), (30, .int .i64 L.length), (31, .int .i64 i)], [(0, ⟨true, [.int .u32 (base : Int), .sl 1 (L.map eP8)]⟩), (1, ⟨false, [.own 2 ((framesAt base L i).map eFrame)]⟩)]⟩) (fun i => i ≤ L.length) (fun i => L.length - i) (0) ?_ (Nat.zero_le _) (fun i h1 => ?_)
    · refine Sh.wk (fun x => if x = 1 then 2 else x) ?_; simp [Wk, go_sem, simprocAttr, framesAt, eFrame]
    refine CW.seq (.rg (.rn htt 1 (.done ?_)))
    refine CW.seq ?_
    refine CW.cd (fun ct32 => ?_) (fun ct32 => ?_)
    · have hi : i < L.length := by simpa using ct32
      obtain ⟨p, hp⟩ : ∃ p, L[i]? = some p := ⟨L[i], List.getElem?_eq_getElem hi⟩
      have hpl := hP p (List.mem_of_getElem? hp)
      have hwI : IntKind.u64.wrap (i : Int) = (i : Int) := by rw [wrapU64 (by omega) (by omega)]; omega
      have hfl := framesAt_len base L i
      have hnl : (numsU [i]).length ≤ 10 := by have := numsU_len [i]; simpa using this
      refine CW.skip ?_
      refine CW.seq ?_
      refine CW.block ?_
      refine CW.seq (.rg (.run htt 5 (by simp only [go_sem, simprocAttr, hp, eP8, List.getElem?_map, Option.map_some]; exact rfl) (by simp [go_sem, simprocAttr, hp, eP8, List.getElem?_map, Option.map_some]) (.done ?_)))
      refine CW.rg ?_
      refine CWops.run htt 2 (by simp only [go_sem, simprocAttr]; exact rfl) (by first | (simp [go_sem, simprocAttr]; done) | (simp [go_sem, simprocAttr]; refine ⟨fun a _ b hb => ?_, ?_⟩; (simp [eU8] at hb; subst hb; rfl); (unfold MX; omega)) | (simp [go_sem, simprocAttr]; unfold MX; omega)) ?_
      refine CWops.conv htt (by simp only [go_sem, simprocAttr]) tt_3 rfl tt_86 rfl (by simp only [go_sem, simprocAttr] <;> exact rfl) ?_
      simp only [hwI]
      refine CWops.run htt 1 (by simp only [go_sem, simprocAttr]; exact rfl) (by first | (simp [go_sem, simprocAttr]; done) | (simp [go_sem, simprocAttr]; refine ⟨fun a _ b hb => ?_, ?_⟩; (simp [eU8] at hb; subst hb; rfl); (unfold MX; omega)) | (simp [go_sem, simprocAttr]; unfold MX; omega)) ?_
      refine CWops.sh (Sh.frzT 39 2 rfl rfl rfl) ?_
      simp only [go_sem, simprocAttr, List.replicate, List.set_cons_zero, List.set_cons_succ, AV.freeze, List.map_cons, List.map_nil]
      refine CWops.callG [] rfl ((by have q := flow_numbersG up [i] (by simp; omega) (by simp); simpa [eU64] using q)) (by simp only [go_sem, simprocAttr]) (by simp only [go_sem, simprocAttr] <;> exact rfl) (by decide) (by simp [go_sem, simprocAttr, mName, memB]) (by simp [go_sem, simprocAttr, mName]) (by simp [go_sem, simprocAttr]) (by simp [go_sem, simprocAttr]) (by simp [go_sem, simprocAttr, mName]) (fun r σ' hσ => ?_)
      obtain ⟨σn, σt, σs⟩ := σ'
      simp only at hσ
      obtain ⟨rfl, rfl, rfl⟩ := hσ
      simp only [aftS, renS, delAll, memB, mName, List.getD_nil, killH, kref, ren, Nat.beq_eq, go_sem, simprocAttr]
      refine CWops.run htt 2 (by simp only [go_sem, simprocAttr]; exact rfl) (by first | (simp [go_sem, simprocAttr]; done) | (simp [go_sem, simprocAttr]; refine ⟨fun a _ b hb => ?_, ?_⟩; (simp [eU8] at hb; subst hb; rfl); (unfold MX; omega)) | (simp [go_sem, simprocAttr]; unfold MX; omega)) ?_
      refine CWops.sh (Sh.frzT 42 4 rfl rfl rfl) ?_
      have q := frz_U8 (numsU [i] ++ p)
      rw [List.map_append] at q
      simp only [q]
      refine CWops.rn htt 1 ?_
      refine CWops.run htt 3 (by simp only [go_sem, simprocAttr]; exact rfl) (by first | (simp [go_sem, simprocAttr]; done) | (simp [go_sem, simprocAttr]; refine ⟨fun a _ b hb => ?_, ?_⟩; (simp [eU8] at hb; subst hb; rfl); (unfold MX; omega)) | (simp [go_sem, simprocAttr]; unfold MX; omega)) ?_
      refine CWops.done ?_
      refine CW.rg (.run htt 2 (by simp only [go_sem, simprocAttr, wrap_succ (show i < MX by unfold MX; omega)]; exact rfl) (by simp [go_sem, simprocAttr, wrap_succ (show i < MX by unfold MX; omega)]) (.done ?_))
      refine ⟨i + 1, ?_, ?_, ?_⟩
      · refine Sh.wk (fun x => if x = 1 then 6 else x) ?_; simp [Wk, go_sem, simprocAttr, framesAt_succ hp, eFrame]
      · exact hi
      · simp only; omega
    · have hi : i = L.length := by simp at ct32; omega
      subst hi
      have hfl := framesAt_len base L L.length
      refine CW.exit ?_
      refine CW.seq (.rg (.rn htt 1 (.done ?_)))
      refine CW.seq (.seq (.rg ?_))
      refine CWops.run htt 3 (by simp only [go_sem, simprocAttr]; exact rfl) (by first | (simp [go_sem, simprocAttr]; done) | (simp [go_sem, simprocAttr]; unfold MX; omega)) ?_
      refine CWops.sh (Sh.frzT 49 2 rfl rfl rfl) ?_
      simp only [go_sem, simprocAttr, List.replicate, List.set_cons_zero, List.set_cons_succ, AV.freeze, List.map_cons, List.map_nil]
      refine CWops.callA ((by have q := flow_numbers up [L.length] (by simp; omega) (by simp); simpa [eU64] using q)) (by simp only [go_sem, simprocAttr]) (by simp only [go_sem, simprocAttr] <;> exact rfl) (by simp only [go_sem, simprocAttr]) (by simp only [go_sem, simprocAttr]) (fun rt50 hrt50 => ?_)
      subst hrt50
      refine CWops.run htt 5 (by simp only [go_sem, simprocAttr]; exact rfl) (by first | (simp [go_sem, simprocAttr]; done) | (simp [go_sem, simprocAttr]; unfold MX; omega)) ?_
      refine CWops.done ?_
      refine CW.block ?_
      refine CW.loop (S := Nat) (fun i => ⟨2, [(8, .ref 1 [] 0), (53, .sl 2 ((framesOf base L).map eFrame)), (54, .int .i64 (framesOf base L).length), (55, .int .i64 i)], [(1, ⟨false, [.own 1 ((bytesF ((framesOf base L).take i)).map eU8)]⟩)]⟩) (fun i => i ≤ (framesOf base L).length) (fun i => (framesOf base L).length - i) (0) ?_ (Nat.zero_le _) (fun i h2 => ?_)
      · (refine Sh.trans (Sh.frzT 53 4 rfl rfl rfl) (Sh.trans (Sh.nilRoot 8 1 (by simp only [go_sem, simprocAttr]) rfl) ?_); have q := frz_Frame 2 (framesOf base L); simp only [framesOf, eFrame, List.map_append, List.map_cons, List.map_nil] at q; refine Sh.wk (fun x => if x = 1 then 5 else x) ?_; simp [Wk, go_sem, simprocAttr, framesOf, eFrame, bytesF]; exact q)
      refine CW.seq (.rg (.rn htt 1 (.done ?_)))
      refine CW.seq ?_
      refine CW.cd (fun ct56 => ?_) (fun ct56 => ?_)
      · have hi : i < (framesOf base L).length := by simpa using ct56
        obtain ⟨⟨k, bd⟩, hf⟩ : ∃ f, (framesOf base L)[i]? = some f := ⟨(framesOf base L)[i], List.getElem?_eq_getElem hi⟩
        have hsn := bytesF_succ hf
        have hbl := bytesF_len ((framesOf base L).take i)
        have hfb := frameB_len k bd
        rw [List.length_take] at hbl
        have hol := framesOf_len base L
        refine CW.skip ?_
        refine CW.seq ?_
        refine CW.block ?_
        refine CW.seq (.rg (.run htt 4 (by simp only [go_sem, simprocAttr, hf, eFrame]; exact rfl) (by simp [go_sem, simprocAttr, hf, eFrame]) (.done ?_)))
        refine CW.seq (.rg (.run htt 1 (by simp only [go_sem, simprocAttr, eFrame]; exact rfl) (by simp [go_sem, simprocAttr, eFrame]) ?_))
        refine CWops.callA (frame_Put up k (by have := frames_kind hf; simpa using this) bd) (by simp only [go_sem, simprocAttr, eFrame]) (by simp only [go_sem, simprocAttr, eFrame] <;> exact rfl) (by simp only [go_sem, simprocAttr, eFrame]) (by simp only [go_sem, simprocAttr, eFrame]) (fun rt61 hrt61 => ?_)
        subst hrt61
        refine CWops.run htt 5 (by simp only [go_sem, simprocAttr, eFrame]; exact rfl) (by simp [go_sem, simprocAttr, eFrame]) (.done ?_)
        refine CW.rg ?_
        refine CWops.run htt 4 (by simp only [go_sem, simprocAttr]; exact rfl) (by first | (simp [go_sem, simprocAttr]; done) | (simp [go_sem, simprocAttr]; refine ⟨fun a _ b hb => ?_, ?_⟩; (simp [eU8] at hb; subst hb; rfl); (unfold MX; omega)) | (simp [go_sem, simprocAttr]; unfold MX; omega)) ?_
        refine CWops.done ?_
        refine CW.rg (.run htt 2 (by simp only [go_sem, simprocAttr, wrap_succ (show i < MX by unfold MX; omega)]; exact rfl) (by simp [go_sem, simprocAttr, wrap_succ (show i < MX by unfold MX; omega)]) (.done ?_))
        refine ⟨i + 1, ?_, ?_, ?_⟩
        · refine Sh.wk (fun x => if x = 1 then 3 else x) ?_; simp [Wk, go_sem, simprocAttr, hsn]
        · exact hi
        · simp only; omega
      · have hi : i = (framesOf base L).length := by simp at ct56; omega
        rw [hi, List.take_length]
        refine CW.exit ?_
        refine CW.seq (.rg (.rn htt 3 (.done ?_)))
        refine CW.ret ?_
        refine retQ.rt (by simp only [f92, go_sem, simprocAttr]; exact rfl) ?_
        refine ⟨_, ?_, rfl⟩
        have q := frz_U8 (flowB base L)
        simp [leP, leL, flowB, hm] at q ⊢
        try simp [q]
end Go.Ab
namespace Go.Ab
open Go Go.Proofs.Try Go.RowKit
set_option maxRecDepth 100000
set_option maxHeartbeats 3200000
theorem gParts_flow {g : Graph} (h : (gParts g).2 = 0) : flowMay (gParts g).1 = true := by
  obtain ⟨hM, h1, h2, h3⟩ := gParts_may h
  unfold flowMay
  simp only [Bool.and_eq_true, List.all_eq_true, decide_eq_true_eq]
  exact ⟨h2, h3⟩
def codeB (g : Graph) : List UInt8 := if (gParts g).2 = 0 then flowB 0 (gParts g).1 else []
theorem code_put (up : Bool) (g : Graph) : PCallP prog up 57 [.agg (eGraph g)] (fun r => r = .sl 1 ((flowB 0 (gParts g).1).map eU8) ∧ (gParts g).2 = 0) (fun v => (gParts g).2 ≠ 0 ∧ v = .iface 131 (.agg #[.int .i64 (gParts g).2])) := by
  refine PCallP.intro htt func57 (by kernel_rfl) rfl (Nat.le_of_ble_eq_true rfl) fun hl => ?_

  simp only [tmps0, Nat.reduceAdd]
  refine CW.seq (.rg (.run htt 2 (by simp only [go_sem, simprocAttr, eGraph]; exact rfl) (by simp [go_sem, simprocAttr, eGraph]) (.done ?_)))
  refine CW.seq ?_
  refine CW.regionX (by kernel_rfl) (by kernel_rfl) ?_
  refine CWopsX.run htt 1 (by simp only [go_sem, simprocAttr, eGraph]; exact rfl) (by simp [go_sem, simprocAttr, eGraph]) ?_
  refine CWopsX.callPA (code_parts up g) (by simp only [go_sem, simprocAttr, eGraph]) (by simp only [go_sem, simprocAttr, eGraph] <;> exact rfl) (by simp only [go_sem, simprocAttr, eGraph]) (by simp only [go_sem, simprocAttr, eGraph]) (fun c hc => ?_) (fun rt7 hrt7 => ?_)
  · obtain ⟨v, hv, hv3⟩ := hc
    exact ⟨v, hv, hv3⟩
  obtain ⟨rfl, hz⟩ := hrt7
  have hfm := gParts_flow hz
  have hfp := flow_Put up 0 (by omega) (gParts g).1
  rw [hfm] at hfp
  simp only [if_true] at hfp
  obtain ⟨ps, hps⟩ : ∃ ps, (gParts g).1 = ps := ⟨_, rfl⟩
  rw [hps] at hfp ⊢
  refine CWopsX.run htt 1 (by simp only [go_sem, simprocAttr]; exact rfl) (by simp [go_sem, simprocAttr]) ?_
  refine CWopsX.callPA (E := fun _ => False) hfp.toP (by simp only [go_sem, simprocAttr]) (by simp only [go_sem, simprocAttr] <;> exact rfl) (by simp only [go_sem, simprocAttr]) (by simp only [go_sem, simprocAttr]) (fun c hc => hc.elim (fun v h => h.1.elim)) (fun rt9 hrt9 => ?_)
  subst hrt9
  refine CWopsX.run htt 5 (by simp only [go_sem, simprocAttr]; exact rfl) (by simp [go_sem, simprocAttr]) ?_
  refine CWopsX.done ?_
  refine CW.seq ?_
  refine CW.regionX (by kernel_rfl) (by kernel_rfl) ?_
  refine CWopsX.run htt 3 (by simp only [go_sem, simprocAttr]; exact rfl) (by simp [go_sem, simprocAttr]) ?_
  refine CWopsX.callPA (code_must up true 0) (by simp only [go_sem, simprocAttr]) (by simp only [go_sem, simprocAttr] <;> exact rfl) (by simp only [go_sem, simprocAttr]) (by simp only [go_sem, simprocAttr]) (fun c hc => ?_) (fun rt15 hrt15 => ?_)
  · obtain ⟨v, ⟨hv1, hv2⟩, hv3⟩ := hc
    cases hv1
  obtain ⟨rfl, -⟩ := hrt15
  refine CWopsX.done ?_
  refine CW.seq (.rg (.rn htt 2 (.done ?_)))
  refine CW.ret ?_
  refine retQ.rt (by simp only [f57, go_sem, simprocAttr]; exact rfl) ?_
  refine ⟨.sl 1 ((flowB 0 ps).map eU8), ?_, ?_⟩
  · simp [leP]
    first | done | exact leP_refl _ | exact leP_refl.leL_refl _
  · exact ⟨rfl, hz⟩
theorem code_Put_1 (up : Bool) (g : Graph) : GCallX prog up 56 [.lv 0 [] 0, .lv 1 [] 0] 2 [(0, ⟨true, eGraph g⟩), (1, ⟨true, [.nilsl]⟩)] (fun _ σ' => (gParts g).2 = 0 ∧ ∃ t, σ' = ⟨2, t, [(0, ⟨true, eGraph g⟩), (1, ⟨true, [.sl 1 ((flowB 0 (gParts g).1).map eU8)]⟩)]⟩) (fun c σ' => ∃ k, c = [{ v := .iface 131 (.agg #[.int .i64 k]), recovered := false }] ∧ ((gParts g).2 ≠ 0 ∧ k = (gParts g).2 ∧ ∃ t, σ' = ⟨2, t, [(0, ⟨true, eGraph g⟩), (1, ⟨true, [.nilsl]⟩)]⟩)) := by
  refine GCallX.intro htt 2 func56 (by kernel_rfl) rfl (Nat.le_of_ble_eq_true rfl) (CW.told ?_)

  simp only [tmps0, Nat.reduceAdd]
  refine CW.regionX (by kernel_rfl) (by kernel_rfl) ?_
  refine CWopsX.run htt 1 (by simp only [go_sem, simprocAttr, eGraph]; exact rfl) (by simp [go_sem, simprocAttr, eGraph]) ?_
  refine CWopsX.callPA (code_put up g) (by simp only [go_sem, simprocAttr, eGraph]) (by simp only [go_sem, simprocAttr, eGraph] <;> exact rfl) (by simp only [go_sem, simprocAttr, eGraph]) (by simp only [go_sem, simprocAttr, eGraph]) (fun c hc => ?_) (fun rt3 hrt3 => ?_)
  · obtain ⟨v, ⟨hv1, hv2⟩, hv3⟩ := hc
    refine ⟨⟨2, [(0, .lv 0 [] 0), (1, .lv 1 [] 0)], [(0, ⟨true, eGraph g⟩), (1, ⟨true, [.nilsl]⟩)]⟩, Sh.wk0 ?_, ?_⟩
    · simp [Wk, go_sem, simprocAttr, eGraph]
    · exact ⟨by simp [ptrOK, go_sem, simprocAttr, eGraph]; exact ⟨⟨0, by simp⟩, ⟨1, by simp⟩⟩, (gParts g).2, by rw [hv3, hv2], hv1, rfl, _, rfl⟩
  obtain ⟨rfl, hz⟩ := hrt3
  refine CWopsX.run htt 1 (by simp only [go_sem, simprocAttr, eGraph]; exact rfl) (by simp [go_sem, simprocAttr, eGraph]) ?_
  refine CWopsX.done ?_
  refine ⟨⟨2, [(0, .lv 0 [] 0), (1, .lv 1 [] 0)], [(0, ⟨true, eGraph g⟩), (1, ⟨true, [.sl 1 ((flowB 0 (gParts g).1).map eU8)]⟩)]⟩, ?_, .inl rfl, by simp [ptrOK, go_sem, simprocAttr, eGraph]; exact ⟨⟨0, by simp⟩, ⟨1, by simp⟩⟩, _, by simp only [f56, go_sem, simprocAttr]; exact rfl, ?_⟩ -- end
  · refine Sh.wk0 ?_
    simp [Wk, go_sem, simprocAttr, eGraph]
  · exact ⟨hz, _, rfl⟩
theorem toldP_good (up : Bool) (g : Graph) (hz : (gParts g).2 = 0) : GCall prog up 28 [.func (.func 56) [] [.lv 0 [] 0, .lv 1 [] 0]] 2 [(0, ⟨true, eGraph g⟩), (1, ⟨true, [.nilsl]⟩)] (fun r σ' => r = .int .i64 0 ∧ ∃ t, σ' = ⟨2, t, [(0, ⟨true, eGraph g⟩), (1, ⟨true, [.sl 1 ((flowB 0 (gParts g).1).map eU8)]⟩)]⟩) :=
  GCall.mono (code_told up _ _ _ _ _ _ (code_Put_1 up g)) fun r σ' h => by
    rcases h with ⟨_, ⟨_, h⟩, rfl⟩ | ⟨k, ⟨h, _⟩, _⟩
    · exact ⟨rfl, h⟩
    · exact absurd hz h
theorem toldP_bad (up : Bool) (g : Graph) (hz : (gParts g).2 ≠ 0) : GCall prog up 28 [.func (.func 56) [] [.lv 0 [] 0, .lv 1 [] 0]] 2 [(0, ⟨true, eGraph g⟩), (1, ⟨true, [.nilsl]⟩)] (fun r σ' => r = .int .i64 (gParts g).2 ∧ ∃ t, σ' = ⟨2, t, [(0, ⟨true, eGraph g⟩), (1, ⟨true, [.nilsl]⟩)]⟩) :=
  GCall.mono (code_told up _ _ _ _ _ _ (code_Put_1 up g)) fun r σ' h => by
    rcases h with ⟨_, ⟨h, _⟩, _⟩ | ⟨k, ⟨_, rfl, h⟩, rfl⟩
    · exact absurd h hz
    · exact ⟨rfl, h⟩
theorem code_Put_good (up : Bool) (g : Graph) (hz : (gParts g).2 = 0) : PCall prog up 21 [.agg (eGraph g)] (· = .tup [.sl 1 ((codeB g).map eU8), .int .i64 (gParts g).2]) := by
  refine PCall.intro htt func21 (by kernel_rfl) rfl (Nat.le_of_ble_eq_true rfl) fun hl => ?_

  simp only [tmps0, Nat.reduceAdd]
  refine CW.seq (.rg (.run htt 3 (by simp only [go_sem, simprocAttr, eGraph]; exact rfl) (by simp [go_sem, simprocAttr, eGraph]) (.done ?_)))
  refine CW.seq (.rg (.rn htt 1 (.done ?_)))
  refine CW.seq (.rg (.run htt 1 (by simp only [go_sem, simprocAttr, eGraph]; exact rfl) (by simp [go_sem, simprocAttr, eGraph]) ?_))
  refine CWops.callG [0, 1] rfl (toldP_good up g hz) (by simp only [go_sem, simprocAttr]) (by simp only [go_sem, simprocAttr] <;> exact rfl) (by decide) (by simp [go_sem, simprocAttr, mName, memB, eGraph]) (by simp [go_sem, simprocAttr, mName, eGraph]) (by simp [go_sem, simprocAttr]) (by intro x hx; rcases (show x = 0 ∨ x = 1 by simp at hx; omega) with rfl | rfl <;> simp [go_sem, simprocAttr]) (by simp [go_sem, simprocAttr, mName]; exact ⟨[], [.lv 0 [] 0, .lv 1 [] 0], ⟨rfl, rfl⟩, by simp [SubL], by simp [SubL, Sub, mName]⟩) (fun r σ' hσ => ?_)
  obtain ⟨rfl, t', rfl⟩ := hσ
  simp only [aftS, renS, delAll, memB, mName, List.getD_nil, killH, kref, ren, Nat.beq_eq, go_sem, simprocAttr]
  refine CWops.run htt 1 (by simp only [go_sem, simprocAttr, eGraph]; exact rfl) (by simp [go_sem, simprocAttr, eGraph]) (.done ?_)
  refine CW.seq (.rg (.rn htt 4 (.done ?_)))
  refine CW.ret ?_
  refine retQ.rt (by simp only [f21, go_sem, simprocAttr]; exact rfl) ?_
  refine ⟨_, ?_, rfl⟩
  have e : codeB g = flowB 0 (gParts g).1 := by unfold codeB; rw [if_pos hz]
  rw [e, hz]
  simp [leP, leL]
  first | done | exact leP_refl _ | exact leP_refl.leL_refl _
theorem code_Put_bad (up : Bool) (g : Graph) (hz : (gParts g).2 ≠ 0) : PCall prog up 21 [.agg (eGraph g)] (· = .tup [.sl 1 ((codeB g).map eU8), .int .i64 (gParts g).2]) := by
  refine PCall.intro htt func21 (by kernel_rfl) rfl (Nat.le_of_ble_eq_true rfl) fun hl => ?_

  simp only [tmps0, Nat.reduceAdd]
  refine CW.seq (.rg (.run htt 3 (by simp only [go_sem, simprocAttr, eGraph]; exact rfl) (by simp [go_sem, simprocAttr, eGraph]) (.done ?_)))
  refine CW.seq (.rg (.rn htt 1 (.done ?_)))
  refine CW.seq (.rg (.run htt 1 (by simp only [go_sem, simprocAttr, eGraph]; exact rfl) (by simp [go_sem, simprocAttr, eGraph]) ?_))
  refine CWops.callG [0, 1] rfl (toldP_bad up g hz) (by simp only [go_sem, simprocAttr]) (by simp only [go_sem, simprocAttr] <;> exact rfl) (by decide) (by simp [go_sem, simprocAttr, mName, memB, eGraph]) (by simp [go_sem, simprocAttr, mName, eGraph]) (by simp [go_sem, simprocAttr]) (by intro x hx; rcases (show x = 0 ∨ x = 1 by simp at hx; omega) with rfl | rfl <;> simp [go_sem, simprocAttr]) (by simp [go_sem, simprocAttr, mName]; exact ⟨[], [.lv 0 [] 0, .lv 1 [] 0], ⟨rfl, rfl⟩, by simp [SubL], by simp [SubL, Sub, mName]⟩) (fun r σ' hσ => ?_)
  obtain ⟨rfl, t', rfl⟩ := hσ
  simp only [aftS, renS, delAll, memB, mName, List.getD_nil, killH, kref, ren, Nat.beq_eq, go_sem, simprocAttr]
  refine CWops.run htt 1 (by simp only [go_sem, simprocAttr, eGraph]; exact rfl) (by simp [go_sem, simprocAttr, eGraph]) (.done ?_)
  refine CW.seq (.rg (.rn htt 4 (.done ?_)))
  refine CW.ret ?_
  refine retQ.rt (by simp only [f21, go_sem, simprocAttr]; exact rfl) ?_
  refine ⟨_, ?_, rfl⟩
  have e : codeB g = [] := by unfold codeB; rw [if_neg hz]
  rw [e]
  simp [leP, leL]
  first | done | exact leP_refl _ | exact leP_refl.leL_refl _
theorem code_Put (up : Bool) (g : Graph) : PCall prog up 21 [.agg (eGraph g)] (· = .tup [.sl 1 ((codeB g).map eU8), .int .i64 (gParts g).2]) := by
  by_cases hz : (gParts g).2 = 0
  · exact code_Put_good up g hz
  · exact code_Put_bad up g hz
end Go.Ab
namespace Go.Ab
open Go Go.Proofs.Try
set_option maxRecDepth 100000
theorem value_Zero (up : Bool) (f : GField) : PCall prog up 54 [.agg (eField f)] (· = .agg (eVal (zeroV f))) := by
  refine PCall.intro htt func54 (by kernel_rfl) rfl (Nat.le_of_ble_eq_true rfl) fun hl => ?_

  simp only [tmps0, Nat.reduceAdd]
  refine CW.seq (.rg (.run htt 2 (by simp only [go_sem, simprocAttr, eField]; exact rfl) (by simp [go_sem, simprocAttr, eField]) (.done ?_)))
  refine CW.seq (.seq (.rg (.run htt 3 (by simp only [go_sem, simprocAttr, eField]; exact rfl) (by simp [go_sem, simprocAttr, eField]) (.done ?_))))
  refine CW.cd (fun ct5 => ?_) (fun ct5 => ?_)
  · have hk : f.Kind = 5 := by simpa using ct5
    refine CW.seq (.rg (.rn htt 2 (.done ?_)))
    refine CW.ret ?_
    refine retQ.rt (by simp only [f54, go_sem, simprocAttr]; exact rfl) ?_
    refine ⟨_, ?_, rfl⟩
    simp [leP, leL, zeroV, hk, eVal]
  · have hk : ¬ f.Kind = 5 := by simpa using ct5
    refine CW.skip ?_
    refine CW.seq (.rg (.rn htt 2 (.done ?_)))
    refine CW.ret ?_
    refine retQ.rt (by simp only [f54, go_sem, simprocAttr]; exact rfl) ?_
    refine ⟨_, ?_, rfl⟩
    simp [leP, leL, zeroV, hk, eVal]
@[go_sem] theorem tt_144 : tiOf prog 144 = some ⟨.func, 1, 8, [.nilfunc], false⟩ := by kernel_rfl
end Go.Ab
namespace Go.Ab
open Go Go.Proofs.Try
set_option maxRecDepth 100000
set_option maxHeartbeats 1600000
@[go_sem] theorem tt_67 : tiOf prog 67 = some ⟨.struct [(3, 0), (9, 1), (55, 2)], 5, 64, [.int .i64 0, .str ⟨#[]⟩, .str ⟨#[]⟩, .int .i64 0, .str ⟨#[]⟩], true⟩ := by kernel_rfl
@[go_sem] theorem tt_112 : tiOf prog 112 = some ⟨.ptr 116, 1, 8, [.nilp], false⟩ := by kernel_rfl
@[go_sem] theorem tt_116 : tiOf prog 116 = some ⟨.struct [(24, 0), (67, 1), (3, 6), (3, 7)], 8, 104, [.nilsl, .int .i64 0, .str ⟨#[]⟩, .str ⟨#[]⟩, .int .i64 0, .str ⟨#[]⟩, .int .i64 0, .int .i64 0], true⟩ := by kernel_rfl
@[go_sem] theorem tt_153 : tiOf prog 153 = some ⟨.ptr 58, 1, 8, [.nilp], false⟩ := by kernel_rfl
@[go_sem] theorem tt_188 : tiOf prog 188 = some ⟨.ptr 55, 1, 8, [.nilp], false⟩ := by kernel_rfl
@[go_sem] theorem tt_155 : tiOf prog 155 = some ⟨.func, 1, 8, [.nilfunc], false⟩ := by kernel_rfl
open Go.RowKit
theorem inf55 : (prog.info? 55).map (fun i => (i.zero, i.size, i.bytes)) = some (some (.agg #[.string ⟨#[]⟩, .int .i64 0, .string ⟨#[]⟩]), 3, 40) := by kernel_rfl
set_option maxHeartbeats 4000000 in
set_option maxRecDepth 1000000 in
theorem delete_Field_calls (b cap n i : Nat) (w W1 : World) (news : List Value) (hi : i < n) (hl : n ≤ cap) (hm : cap ≤ 9223372036854775807)
    (A : Addr) (hA : (if cap = i + 1 then some (⟨b, 0, none⟩ : Addr) else some ⟨b, (i + 1) * 3, none⟩) = some A) (hnews : Hid (∀ j u, news[j]? = some u → w.drew.cell? (A.add j) = some u)) (s1 : Hid (news.length = (n - (i + 1)) * 3)) (s2 : Hid (∀ u ∈ news, u.oneCell' = true))
    (s3 : Hid (∀ j, j < news.length → (w.drew.cell? ⟨b, 0 + i * 3 + j, none⟩).isSome = true ∧ w.drew.frozen? ⟨b, 0 + i * 3 + j, none⟩ = false)) (hW : Hid (W1 = w.drew.setCells b (0 + i * 3) news))
    (w' : World) (hcl : ∀ ty, (Builtin.clear_ #[56] ty #[.slice (some ⟨b, (i + (n - (i + 1))) * 3, none⟩) (n - (i + (n - (i + 1)))) (cap - (i + (n - (i + 1))))]).run prog W1 = .ok (.tuple #[]) w') :
    Calls prog 114 #[.slice (some ⟨b, 0, none⟩) n cap, .int .i64 i, .int .i64 ((i : Int) + 1)] w fun e w'' => e = .returned (.slice (some ⟨b, 0, none⟩) (i + (n - (i + 1))) cap) ∧ w'' = w' := by
  obtain ⟨i0, hi0, hz0, hz1, hz2⟩ := info_parts inf55
  have hic : i ≤ cap := by omega
  have hjc : i + 1 ≤ cap := by omega
  have hp0 : (0 : Int) ≤ (i : Int) + 1 := by omega
  have hp1 : (i : Int) + 1 ≤ (n : Int) := by omega
  have hp2 : ((i : Int) + 1).toNat = i + 1 := by omega
  have mixed : prog.follows .mixedOrders = true := by kernel_rfl
  go_enter func114, ntmps114
  go_wp2_with fail
  go_region_law (refine step_append_room rfl (.tmp 22) (.tmp 25) 56 rfl 55 i0 3 underlying56 hi0 hz1 b 0 i cap (by simp [Act.eval, Act.put]) A (n - (i + 1)) (cap - (i + 1)) news (by simp [Act.eval, Act.put]) s1.out hnews.out s2.out (by omega) s3.out ?_; rw [← hW.out])
  go_wp2
  go_ret
  exact ⟨rfl, rfl⟩
theorem delete_Field (up : Bool) (xs : List GField) (i : Nat) (hi : i < xs.length) : GCall prog up 114 [.ref 0 [] 0, .int .i64 (i : Int), .int .i64 ((i : Int) + 1)] 1 [(0, ⟨false, [.own 3 (xs.map eField)]⟩)] (fun r σ' => r = .ref 1 [] 0 ∧ σ'.n = 2 ∧ σ'.s = [(1, ⟨false, [.own 3 ((xs.eraseIdx i).map eField)]⟩)]) := by
  have hz : ZeroOK [.str ⟨#[]⟩, .int .i64 0, .str ⟨#[]⟩] [.string ⟨#[]⟩, .int .i64 0, .string ⟨#[]⟩] := ⟨rfl, fun i a v h1 h2 => by
    rcases i with _ | _ | _ | i
    all_goals first | (cases h1; cases h2; exact ⟨fun _ _ => .str _ (Nat.zero_le _), rfl⟩) | (cases h1; cases h2; exact ⟨fun _ _ => .int _ _, rfl⟩) | (simp at h1)⟩
  have hmap : (xs.eraseIdx i).map eField = (xs.map eField).eraseIdx i := by
    rw [List.eraseIdx_eq_take_drop_succ, List.eraseIdx_eq_take_drop_succ, List.map_append, List.map_take, List.map_drop]
  rw [hmap]
  refine GCall.delete ⟨_, func114, by kernel_rfl, rfl⟩ (by decide) (by simpa using hi) (fields_plain xs) hz rfl fun b cap w vs T news h1 h2 h3 h4 h5 h6 h7 => ?_
  rw [List.length_map] at h3 h5 ⊢
  have hnew : news.length = (xs.length - (i + 1)) * 3 := h5
  have hcell : ∀ (w : World) (vs : Array Value), w.heap[b]? = some (.cells vs T (0, 0)) → ∀ k, k < vs.size → (w.cell? ⟨b, k, none⟩).isSome = true ∧ w.frozen? ⟨b, k, none⟩ = false := fun w vs h k hk => by
    refine ⟨by simp [World.cell?, h, hk], by simp [World.frozen?, h]⟩
  obtain ⟨vs', q1, q2, _⟩ := setCells_facts (b := b) (o := i * 3) news 0 w.drew vs h1 (by rw [h2, hnew]; omega)
  have e1 : setCells b (i * 3) w.drew 0 news = w.drew.setCells b (0 + i * 3) news := by rw [setCells_eq]; congr 1; omega
  have hlen3 : (0 + i * 3 + news.length) = (i + (xs.length - (i + 1))) * 3 := by rw [hnew]; omega
  refine (delete_Field_calls b cap xs.length i w _ news hi h3 (by unfold maxLen at h4; omega) (if cap = i + 1 then ⟨b, 0, none⟩ else ⟨b, (i + 1) * 3, none⟩) (by split <;> rfl) ?_ hnew h7 (fun j hj => ?_) rfl
    ((w.drew.setCells b (0 + i * 3) news).setCells b (0 + i * 3 + news.length) [.string ⟨#[]⟩, .int .i64 0, .string ⟨#[]⟩]) (fun ty => ?_)).mono fun e w' he => ?_
  · intro j u hu
    by_cases hc : cap = i + 1
    · exfalso
      have := (List.getElem?_eq_some_iff.1 hu).1
      rw [hnew] at this; omega
    · rw [if_neg hc, Addr.add_lit]; exact h6 j u hu
  · refine hcell w.drew vs h1 _ ?_
    rw [h2]; rw [hnew] at hj; omega
  · rw [show xs.length - (i + (xs.length - (i + 1))) = 1 by omega, ← hlen3]
    have hst := run_storeCells (P := prog) [.string ⟨#[]⟩, .int .i64 0, .string ⟨#[]⟩] 0 (w.drew.setCells b (0 + i * 3) news) vs' (b := b) (o := 0 + i * 3 + news.length) (by rw [← e1]; exact q1) (by rw [q2, h2, hnew]; simp; omega) (by simp [Value.oneCell'])
    rw [setCells_eq] at hst
    have hz := zeroValue55 (w.drew.setCells b (0 + i * 3) news)
    have hzc : (Builtin.zeroCells (Value.cells (.agg #[.string ⟨#[]⟩, .int .i64 0, .string ⟨#[]⟩])) 1).toList = [.string ⟨#[]⟩, .int .i64 0, .string ⟨#[]⟩] := by kernel_rfl
    simp only [Nat.zero_add, Nat.add_zero] at hst
    simp [Builtin.clear_, run_underlying underlying56, hz, hzc, hst]
  · obtain ⟨rfl, rfl⟩ := he
    refine ⟨by rw [show i + (xs.length - (i + 1)) = xs.length - 1 by omega], ?_⟩
    rw [setCells_eq, setCells_app, show i * 3 + 0 = 0 + i * 3 by omega]
theorem inf48 : (prog.info? 48).map (fun i => (i.zero, i.size, i.bytes)) = some (some (.agg #[.int .i64 0, .string ⟨#[]⟩, .int .i64 0]), 3, 32) := by kernel_rfl
set_option maxHeartbeats 4000000 in
set_option maxRecDepth 1000000 in
theorem delete_Val_calls (b cap n i : Nat) (w W1 : World) (news : List Value) (hi : i < n) (hl : n ≤ cap) (hm : cap ≤ 9223372036854775807)
    (A : Addr) (hA : (if cap = i + 1 then some (⟨b, 0, none⟩ : Addr) else some ⟨b, (i + 1) * 3, none⟩) = some A) (hnews : Hid (∀ j u, news[j]? = some u → w.drew.cell? (A.add j) = some u)) (s1 : Hid (news.length = (n - (i + 1)) * 3)) (s2 : Hid (∀ u ∈ news, u.oneCell' = true))
    (s3 : Hid (∀ j, j < news.length → (w.drew.cell? ⟨b, 0 + i * 3 + j, none⟩).isSome = true ∧ w.drew.frozen? ⟨b, 0 + i * 3 + j, none⟩ = false)) (hW : Hid (W1 = w.drew.setCells b (0 + i * 3) news))
    (w' : World) (hcl : ∀ ty, (Builtin.clear_ #[51] ty #[.slice (some ⟨b, (i + (n - (i + 1))) * 3, none⟩) (n - (i + (n - (i + 1)))) (cap - (i + (n - (i + 1))))]).run prog W1 = .ok (.tuple #[]) w') :
    Calls prog 55 #[.slice (some ⟨b, 0, none⟩) n cap, .int .i64 i, .int .i64 ((i : Int) + 1)] w fun e w'' => e = .returned (.slice (some ⟨b, 0, none⟩) (i + (n - (i + 1))) cap) ∧ w'' = w' := by
  obtain ⟨i0, hi0, hz0, hz1, hz2⟩ := info_parts inf48
  have hic : i ≤ cap := by omega
  have hjc : i + 1 ≤ cap := by omega
  have hp0 : (0 : Int) ≤ (i : Int) + 1 := by omega
  have hp1 : (i : Int) + 1 ≤ (n : Int) := by omega
  have hp2 : ((i : Int) + 1).toNat = i + 1 := by omega
  have mixed : prog.follows .mixedOrders = true := by kernel_rfl
  go_enter func55, ntmps55
  go_wp2_with fail
  go_region_law (refine step_append_room rfl (.tmp 22) (.tmp 25) 51 rfl 48 i0 3 underlying51 hi0 hz1 b 0 i cap (by simp [Act.eval, Act.put]) A (n - (i + 1)) (cap - (i + 1)) news (by simp [Act.eval, Act.put]) s1.out hnews.out s2.out (by omega) s3.out ?_; rw [← hW.out])
  go_wp2
  go_ret
  exact ⟨rfl, rfl⟩
theorem delete_Val (up : Bool) (xs : List GVal) (i : Nat) (hi : i < xs.length) : GCall prog up 55 [.ref 0 [] 0, .int .i64 (i : Int), .int .i64 ((i : Int) + 1)] 1 [(0, ⟨false, [.own 3 (xs.map eVal)]⟩)] (fun r σ' => r = .ref 1 [] 0 ∧ σ'.n = 2 ∧ σ'.s = [(1, ⟨false, [.own 3 ((xs.eraseIdx i).map eVal)]⟩)]) := by
  have hz : ZeroOK [.int .i64 0, .str ⟨#[]⟩, .int .i64 0] [.int .i64 0, .string ⟨#[]⟩, .int .i64 0] := ⟨rfl, fun i a v h1 h2 => by
    rcases i with _ | _ | _ | i
    all_goals first | (cases h1; cases h2; exact ⟨fun _ _ => .str _ (Nat.zero_le _), rfl⟩) | (cases h1; cases h2; exact ⟨fun _ _ => .int _ _, rfl⟩) | (simp at h1)⟩
  have hmap : (xs.eraseIdx i).map eVal = (xs.map eVal).eraseIdx i := by
    rw [List.eraseIdx_eq_take_drop_succ, List.eraseIdx_eq_take_drop_succ, List.map_append, List.map_take, List.map_drop]
  rw [hmap]
  refine GCall.delete ⟨_, func55, by kernel_rfl, rfl⟩ (by decide) (by simpa using hi) (vals_plain xs) hz rfl fun b cap w vs T news h1 h2 h3 h4 h5 h6 h7 => ?_
  rw [List.length_map] at h3 h5 ⊢
  have hnew : news.length = (xs.length - (i + 1)) * 3 := h5
  have hcell : ∀ (w : World) (vs : Array Value), w.heap[b]? = some (.cells vs T (0, 0)) → ∀ k, k < vs.size → (w.cell? ⟨b, k, none⟩).isSome = true ∧ w.frozen? ⟨b, k, none⟩ = false := fun w vs h k hk => by
    refine ⟨by simp [World.cell?, h, hk], by simp [World.frozen?, h]⟩
  obtain ⟨vs', q1, q2, _⟩ := setCells_facts (b := b) (o := i * 3) news 0 w.drew vs h1 (by rw [h2, hnew]; omega)
  have e1 : setCells b (i * 3) w.drew 0 news = w.drew.setCells b (0 + i * 3) news := by rw [setCells_eq]; congr 1; omega
  have hlen3 : (0 + i * 3 + news.length) = (i + (xs.length - (i + 1))) * 3 := by rw [hnew]; omega
  refine (delete_Val_calls b cap xs.length i w _ news hi h3 (by unfold maxLen at h4; omega) (if cap = i + 1 then ⟨b, 0, none⟩ else ⟨b, (i + 1) * 3, none⟩) (by split <;> rfl) ?_ hnew h7 (fun j hj => ?_) rfl
    ((w.drew.setCells b (0 + i * 3) news).setCells b (0 + i * 3 + news.length) [.int .i64 0, .string ⟨#[]⟩, .int .i64 0]) (fun ty => ?_)).mono fun e w' he => ?_
  · intro j u hu
    by_cases hc : cap = i + 1
    · exfalso
      have := (List.getElem?_eq_some_iff.1 hu).1
      rw [hnew] at this; omega
    · rw [if_neg hc, Addr.add_lit]; exact h6 j u hu
  · refine hcell w.drew vs h1 _ ?_
    rw [h2]; rw [hnew] at hj; omega
  · rw [show xs.length - (i + (xs.length - (i + 1))) = 1 by omega, ← hlen3]
    have hst := run_storeCells (P := prog) [.int .i64 0, .string ⟨#[]⟩, .int .i64 0] 0 (w.drew.setCells b (0 + i * 3) news) vs' (b := b) (o := 0 + i * 3 + news.length) (by rw [← e1]; exact q1) (by rw [q2, h2, hnew]; simp; omega) (by simp [Value.oneCell'])
    rw [setCells_eq] at hst
    have hz := zeroValue48 (w.drew.setCells b (0 + i * 3) news)
    have hzc : (Builtin.zeroCells (Value.cells (.agg #[.int .i64 0, .string ⟨#[]⟩, .int .i64 0])) 1).toList = [.int .i64 0, .string ⟨#[]⟩, .int .i64 0] := by kernel_rfl
    simp only [Nat.zero_add, Nat.add_zero] at hst
    simp [Builtin.clear_, run_underlying underlying51, hz, hzc, hst]
  · obtain ⟨rfl, rfl⟩ := he
    refine ⟨by rw [show i + (xs.length - (i + 1)) = xs.length - 1 by omega], ?_⟩
    rw [setCells_eq, setCells_app, show i * 3 + 0 = 0 + i * 3 by omega]
theorem clone_FieldG (up : Bool) (xs : List GField) (hx : xs.length * 40 ≤ MX) : GCall prog up 79 [.sl 3 (xs.map eField)] 0 [] (fun r σ' => r = .ref 0 [] 0 ∧ σ'.n = 1 ∧ σ'.s = [(0, ⟨false, [.own 3 (xs.map eField)]⟩)]) := by
  refine GCall.intro htt 0 func79 (by kernel_rfl) rfl (Nat.le_of_ble_eq_true rfl) (CW.told ?_)
  have hx1 : xs.length ≤ MX := by omega
  simp only [tmps0, Nat.reduceAdd]
  refine CW.seq (.rg (.rn htt 1 (.done ?_)))
  refine CW.seq (.seq (.rg (.rn htt 1 ?_)))
  refine CWops.nilcmp (n := 3) (l := xs.map eField) htt (by simp only [go_sem, simprocAttr]) (by simp only [go_sem, simprocAttr]) (by simp only [go_sem, simprocAttr]) tt_56 rfl (fun b hb => ⟨_, rfl, ?_⟩)
  refine CWops.done ?_
  refine CW.cd (fun ct4 => ?_) (fun ct4 => ?_)
  · refine CW.seq (.rg (.rn htt 1 (.done ?_)))
    refine CW.ret ?_
    refine ⟨⟨1, [(2, .ref 0 [] 0)], [(0, ⟨false, [.own 3 (xs.map eField)]⟩)]⟩, ?_, .inr rfl, by simp [ptrOK, go_sem, simprocAttr], _, by simp only [f79, go_sem, simprocAttr]; exact rfl, ?_⟩
    · have h0 := hb ct4
      refine Sh.trans (Sh.nilRoot 2 3 (by simp only [go_sem, simprocAttr]) rfl) (Sh.wk0 ?_)
      simp [Wk, go_sem, simprocAttr, h0]
    · exact ⟨rfl, rfl, rfl⟩
  · refine CW.skip ?_
    refine CW.seq (.rg ?_)
    refine CWops.run htt 4 (by simp only [go_sem, simprocAttr]; exact rfl) (by refine ⟨?_, ?_, ?_⟩ <;> first | (simp [eField, AV.cell]; done) | (simp; omega)) ?_
    refine CWops.done ?_
    refine CW.ret ?_
    refine ⟨⟨1, [(2, .ref 0 [] 0)], [(0, ⟨false, [.own 3 (xs.map eField)]⟩)]⟩, ?_, .inr rfl, by simp [ptrOK, go_sem, simprocAttr], _, by simp only [f79, go_sem, simprocAttr]; exact rfl, ?_⟩
    · refine Sh.wk (fun x => x + 1) ?_
      simp [Wk, go_sem, simprocAttr]
    · exact ⟨rfl, rfl, rfl⟩
theorem grade_own (up : Bool) (s : List GType) (h1 : s.length * 40 ≤ MX) (h2 : ∀ x ∈ s, x.F.length * 40 ≤ MX) : GCall prog up 86 [.agg (eSchema s)] 0 [] (fun r σ' => r = .agg [.ref 0 [] 0] ∧ σ'.n = 2 ∧ σ'.s = [(0, ⟨false, [.own 2 (s.map eTypeO)]⟩), (1, ⟨true, [.ref 0 [] 0]⟩)]) := by
  refine GCall.intro htt 0 func86 (by kernel_rfl) rfl (Nat.le_of_ble_eq_true rfl) (CW.told ?_)
  have hb : s.length ≤ MX := by omega
  simp only [tmps0, Nat.reduceAdd]
  refine CW.seq (.rg (.run htt 2 (by simp only [go_sem, simprocAttr, eSchema]; exact rfl) (by simp [go_sem, simprocAttr, eSchema]) (.done ?_)))
  refine CW.seq (.rg (.run htt 2 (by simp only [go_sem, simprocAttr, eSchema]; exact rfl) (by simp [go_sem, simprocAttr, eSchema]) ?_))
  refine CWops.callG [] rfl (clone_TypeG up s h1) (by simp only [go_sem, simprocAttr]) (by simp only [go_sem, simprocAttr] <;> exact rfl) (by decide) (by simp [go_sem, simprocAttr, mName, memB]) (by simp [go_sem, simprocAttr, mName]) (by simp [go_sem, simprocAttr]) (by simp [go_sem, simprocAttr]) (by simp [go_sem, simprocAttr, mName]) (fun r σ' hσ => ?_)
  obtain ⟨σn, σt, σs⟩ := σ'
  simp only at hσ
  obtain ⟨rfl, rfl, rfl⟩ := hσ
  simp only [aftS, renS, delAll, memB, mName, List.getD_nil, killH, kref, ren, Nat.beq_eq, go_sem, simprocAttr]
  refine CWops.run htt 2 (by simp only [go_sem, simprocAttr, eSchema]; exact rfl) (by simp [go_sem, simprocAttr, eSchema]) (.done ?_)
  refine CW.seq (.seq (.rg (.rn htt 4 (.done ?_))))
  refine CW.block ?_
  refine CW.loop (S := Nat) (fun i => ⟨2, [(1, .lv 0 [] 0), (2, .lv 1 [] 0), (10, .ref 0 [] 0), (11, .int .i64 s.length), (12, .int .i64 i)], [(0, ⟨true, [.own 2 (mixT s i)]⟩), (1, ⟨true, [.nilsl]⟩)]⟩) (fun i => i ≤ s.length) (fun i => s.length - i) (0) ?_ (Nat.zero_le _) (fun i h3 => ?_)
  · refine Sh.wk0 ?_; simp [Wk, go_sem, simprocAttr, mixT_zero]
  refine CW.seq (.rg (.rn htt 1 (.done ?_)))
  refine CW.seq ?_
  refine CW.cd (fun ct13 => ?_) (fun ct13 => ?_)
  · have hi : i < s.length := by simpa using ct13
    obtain ⟨x, hx⟩ : ∃ x, s[i]? = some x := ⟨s[i], List.getElem?_eq_getElem hi⟩
    refine CW.skip ?_
    refine CW.seq ?_
    refine CW.block ?_
    refine CW.seq (.rg (.run htt 6 (by simp only [go_sem, simprocAttr, hi, mixT_get hx, mixT_len, eType]; exact rfl) (by simp [go_sem, simprocAttr, hi, mixT_get hx, mixT_len, eType]) (.done ?_)))
    refine CW.drawn mixed 6 (by decide) (by kernel_rfl) (by kernel_rfl) (by kernel_rfl) ?_
    refine Seg.run htt 5 (by simp only [go_sem, simprocAttr, hi, mixT_get hx, mixT_len, eType]; exact rfl) ?_
    refine Seg.callN (clone_FieldG up x.F (h2 x (List.mem_of_getElem? hx))) (by simp only [go_sem, simprocAttr]) (by simp only [go_sem, simprocAttr] <;> exact rfl) (by simp [go_sem, simprocAttr]) ?_
    refine Seg.done ?_
    refine CWops.run htt 3 (by simp only [go_sem, simprocAttr, hi, mixT_get hx, mixT_len, eType]; exact rfl) (by simp [go_sem, simprocAttr, hi, mixT_get hx, mixT_len, eType]) (.done ?_)
    refine CW.rg (.run htt 2 (by simp only [go_sem, simprocAttr, wrap_succ (Nat.lt_of_lt_of_le hi hb)]; exact rfl) (by simp [go_sem, simprocAttr, wrap_succ (Nat.lt_of_lt_of_le hi hb)]) (.done ?_))
    refine ⟨i + 1, ?_, ?_, ?_⟩
    · refine Sh.wk0 ?_
      dsimp only
      rw [← mixT_set hx]
      simp [Wk, go_sem, simprocAttr, eTypeO]
    · exact hi
    · simp only; omega
  · have hi : i = s.length := by simp at ct13; omega
    refine CW.exit ?_
    refine CW.seq (.rg (.rn htt 2 (.done ?_)))
    refine CW.ret ?_
    refine ⟨⟨2, [(2, .lv 1 [] 0)], [(0, ⟨false, [.own 2 (s.map eTypeO)]⟩), (1, ⟨true, [.ref 0 [] 0]⟩)]⟩, ?_, .inr rfl, by simp [ptrOK, go_sem, simprocAttr], _, by simp only [f86, go_sem, simprocAttr]; exact rfl, ?_⟩
    · rw [hi, mixT_all]
      refine Sh.trans (Sh.out 0 0 rfl rfl rfl) (Sh.wk (fun x => if x = 0 then 2 else x) ?_)
      simp [Wk, go_sem, simprocAttr, mapT, mapS, outF, putAt]
    · exact ⟨rfl, rfl, rfl⟩
theorem grade_wider (up : Bool) (k than : Int) : PCall prog up 110 [.int .i64 k, .int .i64 than] (· = .bool (wider k than)) := by
  refine PCall.intro htt func110 (by kernel_rfl) rfl (Nat.le_of_ble_eq_true rfl) fun hl => ?_

  simp only [tmps0, Nat.reduceAdd]
  refine CW.seq (.rg (.rn htt 1 (.done ?_)))
  refine CW.seq (.rg (.rn htt 3 ?_))
  all_goals (first | refine CWops.guard 7 (by simp only [go_sem, simprocAttr]; exact rfl) (fun g7 => ?_) (fun g7 => ?_) | skip)
  all_goals (refine CWops.rn htt 5 ?_)
  all_goals (first | refine CWops.guard 12 (by simp only [go_sem, simprocAttr]; exact rfl) (fun g12 => ?_) (fun g12 => ?_) | skip)
  all_goals (refine CWops.rn htt 4 ?_)
  all_goals (refine CWops.done ?_)
  all_goals (
    refine CW.ret ?_
    refine retQ.rt (by simp only [f110, go_sem, simprocAttr]; exact rfl) ?_
    refine ⟨_, ?_, rfl⟩
    first | (simp_all [leP, wider]; done) | (simp_all [leP, wider]; omega))
theorem kind_R (x y t : Nat) (a1 a2 a3 a4 a5 a7 : AV) (b : Bool) (rows : List (List AV)) (n : Nat) (s : List (Nat × Root)) (hx : getS s x = some ⟨true, [.ref y [] 0, a1, a2, a3, a4, a5, .int .i64 (t : Int), a7]⟩) (hy : getS s y = some ⟨b, [.own 2 rows]⟩) (ht : t < rows.length) :
    RCall prog 88 [.lv x [] 0] n s (.lv y [(0, t)] 0) := by
  refine RCall.intro (σ1 := ?s1) (τ := ?ta) htt mixed func88 (by kernel_rfl) rfl (Nat.le_of_ble_eq_true rfl) (by kernel_rfl) (by kernel_rfl) (by kernel_rfl) (StillS.run htt ?h0) (StillS.run htt ?h1) ?h2 ?h3
  case h0 => simp only [runV, stillB, tmps0, go_sem, simprocAttr]; exact rfl
  case h1 => simp only [runV, stillB, go_sem, simprocAttr, hx, hy, ht]; exact rfl
  case h2 => rfl
  case h3 => exact ⟨_, by simp only [f88, go_sem, simprocAttr]; exact rfl, rfl⟩
theorem work_widen_no (up : Bool) (s : List GType) (x : GStep) (t : Nat)  : GCall prog up 89 [.lv 1 [] 0] 2 [(0, ⟨false, [.own 2 (List.map eTypeO (s))]⟩), (1, ⟨true, eWork 0 x (t : Int) (-1)⟩)] (fun r σ' => r = .int .i64 (11) ∧ ∃ tt, σ' = ⟨2, tt, [(0, ⟨false, [.own 2 (List.map eTypeO (s))]⟩), (1, ⟨true, eWork 0 x (t : Int) (-1)⟩)]⟩) := by
  refine GCall.intro htt 1 func89 (by kernel_rfl) rfl (Nat.le_of_ble_eq_true rfl) (CW.told ?_)

  simp only [tmps0, Nat.reduceAdd]
  refine CW.seq (.rg (.run htt 1 (by simp only [go_sem, simprocAttr, eWork]; exact rfl) (by simp [go_sem, simprocAttr, eWork]) (.done ?_)))
  refine CW.seq (.seq (.rg (.run htt 5 (by simp only [go_sem, simprocAttr, eWork]; exact rfl) (by simp [go_sem, simprocAttr, eWork]) (.done ?_))))
  refine CW.cd (fun ct8 => ?_) (fun ct8 => ?_)
  · refine CW.seq (.rg (.run htt 1 (by simp only [go_sem, simprocAttr, eWork]; exact rfl) (by simp [go_sem, simprocAttr, eWork]) (.done ?_)))
    refine CW.ret ?_
    refine ⟨⟨2, [(0, .lv 1 [] 0), (2, .int .i64 (11))], [(0, ⟨false, [.own 2 (List.map eTypeO (s))]⟩), (1, ⟨true, eWork 0 x (t : Int) (-1)⟩)]⟩, ?_, .inr rfl, by simp [ptrOK, go_sem, simprocAttr], _, by simp only [f89, go_sem, simprocAttr]; exact rfl, ?_⟩
    · refine Sh.wk0 ?_
      simp [Wk, go_sem, simprocAttr, eWork]
    · exact ⟨rfl, _, rfl⟩
  · exfalso; revert ct8; simp
theorem work_widen_at (up : Bool) (s : List GType) (x : GStep) (t : Nat) (ty : GType) (hS : s[t]? = some ty) (q : Nat) (f0 : GField) (hF : ty.F[q]? = some f0) : GCall prog up 89 [.lv 1 [] 0] 2 [(0, ⟨false, [.own 2 (List.map eTypeO (s))]⟩), (1, ⟨true, eWork 0 x (t : Int) ((q : Int))⟩)] (fun r σ' => r = .int .i64 (if wider x.F.Kind f0.Kind = true then 0 else 6) ∧ ∃ tt, σ' = ⟨2, tt, [(0, ⟨false, [.own 2 (List.map eTypeO (if wider x.F.Kind f0.Kind = true then s.set t ⟨ty.Name, ty.F.set q ⟨f0.Name, x.F.Kind, f0.To⟩⟩ else s))]⟩), (1, ⟨true, eWork 0 x (t : Int) ((q : Int))⟩)]⟩) := by
  refine GCall.intro htt 1 func89 (by kernel_rfl) rfl (Nat.le_of_ble_eq_true rfl) (CW.told ?_)
  have htl : t < s.length := (List.getElem?_eq_some_iff.1 hS).1
  have hql : q < ty.F.length := (List.getElem?_eq_some_iff.1 hF).1
  simp only [tmps0, Nat.reduceAdd]
  refine CW.seq (.rg (.run htt 1 (by simp only [go_sem, simprocAttr, eWork]; exact rfl) (by simp [go_sem, simprocAttr, eWork]) (.done ?_)))
  refine CW.seq (.seq (.rg (.run htt 5 (by simp only [go_sem, simprocAttr, eWork]; exact rfl) (by simp [go_sem, simprocAttr, eWork]) (.done ?_))))
  refine CW.cd (fun ct8 => ?_) (fun ct8 => ?_)
  · exfalso; revert ct8; simp <;> omega 
  · refine CW.skip ?_
    refine CW.seq ?_
    refine CW.drawn mixed 9 (by decide) (by kernel_rfl) (by kernel_rfl) (by kernel_rfl) ?_
    refine Seg.run htt 1 (by simp only [go_sem, simprocAttr, eWork, hS, htl, eTypeO, hF, hql]; exact rfl) ?_
    refine Seg.callR (v := .lv 0 [(0, t)] 0) (by simp only [go_sem, simprocAttr]) (by simp only [go_sem, simprocAttr] <;> exact rfl) (fun n s' hs => by simp only [go_sem, simprocAttr]; exact kind_R 1 0 t _ _ _ _ _ _ false (s.map eTypeO) n s' (hs _ _ rfl) (hs _ _ rfl) (by simpa using htl)) ?_
    refine Seg.run htt 7 (by simp only [go_sem, simprocAttr, eWork, hS, htl, eTypeO, hF, hql]; exact rfl) ?_
    refine Seg.done ?_
    refine CWops.run htt 2 (by simp only [go_sem, simprocAttr, eWork, hS, htl, eTypeO, hF, hql]; exact rfl) (by simp [go_sem, simprocAttr, eWork, hS, htl, eTypeO, hF, hql]) (.done ?_)
    refine CW.seq (.seq ?_)
    refine CW.drawn mixed 10 (by decide) (by kernel_rfl) (by kernel_rfl) (by kernel_rfl) ?_
    refine Seg.run htt 10 (by simp only [go_sem, simprocAttr, eWork, hS, htl, eTypeO, hF, hql, eField]; exact rfl) ?_
    refine Seg.done ?_
    refine CWops.callA (grade_wider up x.F.Kind f0.Kind) (by simp only [go_sem, simprocAttr, eWork, hS, htl, eTypeO, hF, hql, eField]) (by simp only [go_sem, simprocAttr, eWork, hS, htl, eTypeO, hF, hql, eField] <;> exact rfl) (by simp only [go_sem, simprocAttr, eWork, hS, htl, eTypeO, hF, hql, eField]) (by simp only [go_sem, simprocAttr, eWork, hS, htl, eTypeO, hF, hql, eField]) (fun rt29 hrt29 => ?_)
    subst hrt29
    refine CWops.run htt 1 (by simp only [go_sem, simprocAttr, eWork, hS, htl, eTypeO, hF, hql, eField]; exact rfl) (by simp [go_sem, simprocAttr, eWork, hS, htl, eTypeO, hF, hql, eField]) (.done ?_)
    refine CW.cd (fun ct30 => ?_) (fun ct30 => ?_)
    · have hw : wider x.F.Kind f0.Kind = false := by simpa using ct30
      refine CW.seq (.rg (.run htt 1 (by simp only [go_sem, simprocAttr, eWork, hS, htl, eTypeO]; exact rfl) (by simp [go_sem, simprocAttr, eWork, hS, htl, eTypeO]) (.done ?_)))
      refine CW.ret ?_
      refine ⟨⟨2, [(0, .lv 1 [] 0), (2, .int .i64 (if wider x.F.Kind f0.Kind = true then 0 else 6))], [(0, ⟨false, [.own 2 (List.map eTypeO (if wider x.F.Kind f0.Kind = true then s.set t ⟨ty.Name, ty.F.set q ⟨f0.Name, x.F.Kind, f0.To⟩⟩ else s))]⟩), (1, ⟨true, eWork 0 x (t : Int) ((q : Int))⟩)]⟩, ?_, .inr rfl, by simp [ptrOK, go_sem, simprocAttr], _, by simp only [f89, go_sem, simprocAttr]; exact rfl, ?_⟩
      · rw [hw]
        refine Sh.wk0 ?_
        simp [Wk, go_sem, simprocAttr, eWork]
      · exact ⟨rfl, _, rfl⟩
    · have hw : wider x.F.Kind f0.Kind = true := by simpa using ct30
      refine CW.skip ?_
      refine CW.seq (.rg (.run htt 10 (by simp only [go_sem, simprocAttr, eWork, hS, htl, eTypeO, hF, hql, eField]; exact rfl) (by simp [go_sem, simprocAttr, eWork, hS, htl, eTypeO, hF, hql, eField]) (.done ?_)))
      refine CW.seq (.rg (.run htt 1 (by simp only [go_sem, simprocAttr, eWork, hS, htl, eTypeO]; exact rfl) (by simp [go_sem, simprocAttr, eWork, hS, htl, eTypeO]) (.done ?_)))
      refine CW.ret ?_
      refine ⟨⟨2, [(0, .lv 1 [] 0), (2, .int .i64 (if wider x.F.Kind f0.Kind = true then 0 else 6))], [(0, ⟨false, [.own 2 (List.map eTypeO (if wider x.F.Kind f0.Kind = true then s.set t ⟨ty.Name, ty.F.set q ⟨f0.Name, x.F.Kind, f0.To⟩⟩ else s))]⟩), (1, ⟨true, eWork 0 x (t : Int) ((q : Int))⟩)]⟩, ?_, .inr rfl, by simp [ptrOK, go_sem, simprocAttr], _, by simp only [f89, go_sem, simprocAttr]; exact rfl, ?_⟩
      · rw [hw]
        have hset : (List.map eTypeO s).set t [.str ty.Name, .own 3 ((List.map eField ty.F).set q [.str f0.Name, .int .i64 x.F.Kind, .str f0.To])] = List.map eTypeO (s.set t ⟨ty.Name, ty.F.set q ⟨f0.Name, x.F.Kind, f0.To⟩⟩) := by
          rw [← set_TypeO, List.map_set]; rfl
        refine Sh.wk0 ?_
        simp only [if_true]
        rw [← hset]
        simp [Wk, go_sem, simprocAttr, eWork]
      · exact ⟨rfl, _, rfl⟩
theorem work_add (up : Bool) (s : List GType) (x : GStep) (t : Nat) (at_ : Int) (ty : GType) (hS : s[t]? = some ty) (h5 : ty.F.length ≤ 5) : GCall prog up 90 [.lv 1 [] 0] 2 [(0, ⟨false, [.own 2 (List.map eTypeO (s))]⟩), (1, ⟨true, eWork 0 x (t : Int) (at_)⟩)] (fun r σ' => r = .int .i64 (if (fieldMay s x.F && decide (at_ = -1)) = true then (if ty.F.length = 5 then 5 else 0) else 6) ∧ ∃ tt, σ' = ⟨2, tt, [(0, ⟨false, [.own 2 (List.map eTypeO (if (fieldMay s x.F && decide (at_ = -1)) = true ∧ ¬ ty.F.length = 5 then s.set t ⟨ty.Name, ty.F ++ [x.F]⟩ else s))]⟩), (1, ⟨true, eWork 0 x (t : Int) (at_)⟩)]⟩) := by
  refine GCall.intro htt 1 func90 (by kernel_rfl) rfl (Nat.le_of_ble_eq_true rfl) (CW.told ?_)
  have htl : t < s.length := (List.getElem?_eq_some_iff.1 hS).1
  simp only [tmps0, Nat.reduceAdd]
  refine CW.seq (.rg (.run htt 1 (by simp only [go_sem, simprocAttr, eWork]; exact rfl) (by simp [go_sem, simprocAttr, eWork]) (.done ?_)))
  refine CW.seq (.rg (.run htt 7 (by simp only [go_sem, simprocAttr, eWork, eField]; exact rfl) (by simp [go_sem, simprocAttr, eWork, eField]) (.done ?_)))
  refine CW.seq (.rg (.run htt 4 (by simp only [go_sem, simprocAttr, eField]; exact rfl) (by simp [go_sem, simprocAttr, eField]) (.done ?_)))
  refine CW.cut ⟨3, [(0, .lv 1 [] 0), (3, .lv 2 [] 0), (4, .bool (if x.F.Kind = 5 then !decide (sFind s x.F.To = -1) else decide (x.F.To = ⟨#[]⟩)))], [(0, ⟨false, [.own 2 (List.map eTypeO s)]⟩), (1, ⟨true, eWork 0 x (t : Int) at_⟩), (2, ⟨true, eField x.F⟩)]⟩ ?_ ?_
  · refine CW.seq (.rg (.run htt 3 (by simp only [go_sem, simprocAttr, eField]; exact rfl) (by simp [go_sem, simprocAttr, eField]) (.done ?_)))
    refine CW.cd (fun ct15 => ?_) (fun ct15 => ?_)
    · refine CW.drawn mixed 6 (by decide) (by kernel_rfl) (by kernel_rfl) (by kernel_rfl) ?_
      refine Seg.run htt 6 (by simp only [go_sem, simprocAttr, eWork, eSchema, eField]; exact rfl) ?_
      refine Seg.done ?_
      refine CWops.call (schema_Find up s x.F.To) (by simp only [go_sem, simprocAttr, eWork, eSchema, eField]) (by simp only [go_sem, simprocAttr, eWork, eSchema, eField] <;> exact rfl) (by simp only [go_sem, simprocAttr, eWork, eSchema, eField]) (fun rt22 hrt22 => ?_)
      subst hrt22; refine ⟨rfl, ?_⟩
      refine CWops.run htt 2 (by simp only [go_sem, simprocAttr, eWork, eSchema, eField]; exact rfl) (by simp [go_sem, simprocAttr, eWork, eSchema, eField]) (.done ?_)
      first | refine ⟨rfl, Sh.wk0 ?_⟩ | refine Sh.wk0 ?_
      simp_all [Wk, go_sem, simprocAttr, eSchema, eField, eWork, sFind] <;> rfl
    · refine CW.skip ?_
      first | refine ⟨rfl, Sh.wk0 ?_⟩ | refine Sh.wk0 ?_
      simp_all [Wk, go_sem, simprocAttr, eSchema, eField, eWork, sFind] <;> rfl
  refine CW.seq ?_
  refine CW.cut ⟨3, [(0, .lv 1 [] 0), (3, .lv 2 [] 0), (48, .bool (!(fieldMay s x.F && decide (at_ = -1))))], [(0, ⟨false, [.own 2 (List.map eTypeO s)]⟩), (1, ⟨true, eWork 0 x (t : Int) at_⟩), (2, ⟨true, eField x.F⟩)]⟩ ?_ ?_
  · refine CW.rg (.run htt 3 (by simp only [go_sem, simprocAttr, eWork, eField]; exact rfl) (by simp [go_sem, simprocAttr, eWork, eField]) ?_)
    all_goals (first | refine CWops.guard 26 (by simp only [go_sem, simprocAttr, eWork, eField]; exact rfl) (fun g26 => ?_) (fun g26 => ?_) | skip)
    all_goals (refine CWops.run htt 7 (by simp only [go_sem, simprocAttr, eWork, eField]; exact rfl) (by simp [go_sem, simprocAttr, eWork, eField]) ?_)
    all_goals (first | refine CWops.guard 33 (by simp only [go_sem, simprocAttr, eWork, eField]; exact rfl) (fun g33 => ?_) (fun g33 => ?_) | skip)
    all_goals (refine CWops.run htt 2 (by simp only [go_sem, simprocAttr, eWork, eField]; exact rfl) (by simp [go_sem, simprocAttr, eWork, eField]) ?_)
    all_goals (first | (refine CWops.skip ?_ ?_; next => (simp only [go_sem, simprocAttr]; done)) | (refine CWops.callA (name_May up x.F.Name) (by simp only [go_sem, simprocAttr, eWork, eField]) (by simp only [go_sem, simprocAttr, eWork, eField] <;> exact rfl) (by simp only [go_sem, simprocAttr, eWork, eField]) (by simp only [go_sem, simprocAttr, eWork, eField]) (fun rt36 hrt36 => ?_); subst hrt36))
    all_goals (refine CWops.run htt 3 (by simp only [go_sem, simprocAttr, eWork, eField]; exact rfl) (by simp [go_sem, simprocAttr, eWork, eField]) ?_)
    all_goals (first | refine CWops.guard 39 (by simp only [go_sem, simprocAttr, eWork, eField]; exact rfl) (fun g39 => ?_) (fun g39 => ?_) | skip)
    all_goals (refine CWops.run htt 5 (by simp only [go_sem, simprocAttr, eWork, eField]; exact rfl) (by simp [go_sem, simprocAttr, eWork, eField]) ?_)
    all_goals (first | refine CWops.guard 44 (by simp only [go_sem, simprocAttr, eWork, eField]; exact rfl) (fun g44 => ?_) (fun g44 => ?_) | skip)
    all_goals (refine CWops.run htt 4 (by simp only [go_sem, simprocAttr, eWork, eField]; exact rfl) (by simp [go_sem, simprocAttr, eWork, eField]) ?_)
    all_goals (refine CWops.done ?_)
    all_goals (
      first | refine ⟨rfl, Sh.wk0 ?_⟩ | refine Sh.wk0 ?_
      unfold fieldMay
      by_cases hk : x.F.Kind = 5 <;> by_cases ha : at_ = -1 <;> simp_all [Wk, go_sem, simprocAttr, eField, eWork] <;> first | done | omega | (rw [Bool.eq_iff_iff]; simp <;> omega))
  refine CW.cd (fun ct48 => ?_) (fun ct48 => ?_)
  · have hok : (fieldMay s x.F && decide (at_ = -1)) = false := by simp only [Bool.not_eq_true'] at ct48; exact ct48
    refine CW.seq (.rg (.run htt 1 (by simp only [go_sem, simprocAttr, eWork]; exact rfl) (by simp [go_sem, simprocAttr, eWork]) (.done ?_)))
    refine CW.ret ?_
    refine ⟨⟨2, [(0, .lv 1 [] 0), (2, .int .i64 (if (fieldMay s x.F && decide (at_ = -1)) = true then (if ty.F.length = 5 then 5 else 0) else 6))], [(0, ⟨false, [.own 2 (List.map eTypeO (if (fieldMay s x.F && decide (at_ = -1)) = true ∧ ¬ ty.F.length = 5 then s.set t ⟨ty.Name, ty.F ++ [x.F]⟩ else s))]⟩), (1, ⟨true, eWork 0 x (t : Int) (at_)⟩)]⟩, ?_, .inr rfl, by simp [ptrOK, go_sem, simprocAttr], _, by simp only [f90, go_sem, simprocAttr]; exact rfl, ?_⟩
    · rw [hok]
      refine Sh.wk0 ?_
      simp [Wk, go_sem, simprocAttr, eWork]
    · exact ⟨rfl, _, rfl⟩
  · have hok : (fieldMay s x.F && decide (at_ = -1)) = true := by simp only [Bool.not_eq_false'] at ct48; exact ct48
    refine CW.skip ?_
    refine CW.seq (.seq (.rg (.run htt 1 (by simp only [go_sem, simprocAttr, eWork, hS, htl, eTypeO]; exact rfl) (by simp [go_sem, simprocAttr, eWork, hS, htl, eTypeO]) ?_)))
    refine CWops.callR (r := .lv 0 [(0, t)] 0) (by simp only [go_sem, simprocAttr]) (by simp only [go_sem, simprocAttr] <;> exact rfl) (by simp only [go_sem, simprocAttr]; exact kind_R 1 0 t _ _ _ _ _ _ false (s.map eTypeO) _ _ rfl rfl (by simpa using htl)) ?_
    refine CWops.run htt 5 (by simp only [go_sem, simprocAttr, eWork, hS, htl, eTypeO]; exact rfl) (by simp [go_sem, simprocAttr, eWork, hS, htl, eTypeO]) (.done ?_)
    refine CW.cd (fun ct55 => ?_) (fun ct55 => ?_)
    · have h55 : ty.F.length = 5 := by simp at ct55; omega
      refine CW.seq (.rg (.run htt 1 (by simp only [go_sem, simprocAttr, eWork]; exact rfl) (by simp [go_sem, simprocAttr, eWork]) (.done ?_)))
      refine CW.ret ?_
      refine ⟨⟨2, [(0, .lv 1 [] 0), (2, .int .i64 (if (fieldMay s x.F && decide (at_ = -1)) = true then (if ty.F.length = 5 then 5 else 0) else 6))], [(0, ⟨false, [.own 2 (List.map eTypeO (if (fieldMay s x.F && decide (at_ = -1)) = true ∧ ¬ ty.F.length = 5 then s.set t ⟨ty.Name, ty.F ++ [x.F]⟩ else s))]⟩), (1, ⟨true, eWork 0 x (t : Int) (at_)⟩)]⟩, ?_, .inr rfl, by simp [ptrOK, go_sem, simprocAttr], _, by simp only [f90, go_sem, simprocAttr]; exact rfl, ?_⟩
      · rw [hok, h55]
        refine Sh.wk0 ?_
        simp [Wk, go_sem, simprocAttr, eWork]
      · exact ⟨rfl, _, rfl⟩
    · have h55 : ¬ ty.F.length = 5 := by simp at ct55; omega
      refine CW.skip ?_
      refine CW.seq ?_
      refine CW.drawn mixed 9 (by decide) (by kernel_rfl) (by kernel_rfl) (by kernel_rfl) ?_
      refine Seg.run htt 1 (by simp only [go_sem, simprocAttr, eWork, hS, htl, eTypeO, eField, List.getElem?_set_self, List.length_map, List.set_set]; exact rfl) ?_
      refine Seg.callR (v := .lv 0 [(0, t)] 0) (by simp only [go_sem, simprocAttr]) (by simp only [go_sem, simprocAttr] <;> exact rfl) (fun n s' hs => by simp only [go_sem, simprocAttr]; exact kind_R 1 0 t _ _ _ _ _ _ false (s.map eTypeO) n s' (hs _ _ rfl) (hs _ _ rfl) (by simpa using htl)) ?_
      refine Seg.run htt 1 (by simp only [go_sem, simprocAttr, eWork, hS, htl, eTypeO, eField, List.getElem?_set_self, List.length_map, List.set_set]; exact rfl) ?_
      refine Seg.callR (v := .lv 0 [(0, t)] 0) (by simp only [go_sem, simprocAttr]) (by simp only [go_sem, simprocAttr] <;> exact rfl) (fun n s' hs => by simp only [go_sem, simprocAttr]; exact kind_R 1 0 t _ _ _ _ _ _ false (s.map eTypeO) n s' (hs _ _ rfl) (hs _ _ rfl) (by simpa using htl)) ?_
      refine Seg.run htt 5 (by simp only [go_sem, simprocAttr, eWork, hS, htl, eTypeO, eField, List.getElem?_set_self, List.length_map, List.set_set]; exact rfl) ?_
      refine Seg.done ?_
      refine CWops.run htt 4 (by simp only [go_sem, simprocAttr, eWork, hS, htl, eTypeO, eField, List.getElem?_set_self, List.length_map, List.set_set]; exact rfl) (by simp [AV.cell, AV.tree, eField, MX] <;> omega) ?_
      refine CWops.done ?_
      refine CW.seq (.rg (.run htt 1 (by simp only [go_sem, simprocAttr, eWork]; exact rfl) (by simp [go_sem, simprocAttr, eWork]) (.done ?_)))
      refine CW.ret ?_
      refine ⟨⟨2, [(0, .lv 1 [] 0), (2, .int .i64 (if (fieldMay s x.F && decide (at_ = -1)) = true then (if ty.F.length = 5 then 5 else 0) else 6))], [(0, ⟨false, [.own 2 (List.map eTypeO (if (fieldMay s x.F && decide (at_ = -1)) = true ∧ ¬ ty.F.length = 5 then s.set t ⟨ty.Name, ty.F ++ [x.F]⟩ else s))]⟩), (1, ⟨true, eWork 0 x (t : Int) (at_)⟩)]⟩, ?_, .inr rfl, by simp [ptrOK, go_sem, simprocAttr], _, by simp only [f90, go_sem, simprocAttr]; exact rfl, ?_⟩
      · have hset : (List.map eTypeO s).set t [.str ty.Name, .own 3 (List.map eField ty.F ++ [[.str x.F.Name, .int .i64 x.F.Kind, .str x.F.To]])] = List.map eTypeO (s.set t ⟨ty.Name, ty.F ++ [x.F]⟩) := by
          rw [← set_TypeO, List.map_append]; rfl
        rw [hok, if_pos rfl, if_neg h55, if_pos ⟨rfl, h55⟩, ← hset]
        refine Sh.wk0 ?_
        simp [Wk, go_sem, simprocAttr, eWork]
      · exact ⟨rfl, _, rfl⟩
theorem work_drop_no (up : Bool) (s : List GType) (x : GStep) (t : Nat)  : GCall prog up 91 [.lv 1 [] 0] 2 [(0, ⟨false, [.own 2 (List.map eTypeO (s))]⟩), (1, ⟨true, eWork 0 x (t : Int) (-1)⟩)] (fun r σ' => r = .int .i64 (11) ∧ ∃ tt, σ' = ⟨2, tt, [(0, ⟨false, [.own 2 (List.map eTypeO (s))]⟩), (1, ⟨true, eWork 0 x (t : Int) (-1)⟩)]⟩) := by
  refine GCall.intro htt 1 func91 (by kernel_rfl) rfl (Nat.le_of_ble_eq_true rfl) (CW.told ?_)

  simp only [tmps0, Nat.reduceAdd]
  refine CW.seq (.rg (.run htt 1 (by simp only [go_sem, simprocAttr, eWork]; exact rfl) (by simp [go_sem, simprocAttr, eWork]) (.done ?_)))
  refine CW.seq (.seq (.rg (.run htt 5 (by simp only [go_sem, simprocAttr, eWork]; exact rfl) (by simp [go_sem, simprocAttr, eWork]) (.done ?_))))
  refine CW.cd (fun ct7 => ?_) (fun ct7 => ?_)
  · refine CW.seq (.rg (.run htt 1 (by simp only [go_sem, simprocAttr, eWork]; exact rfl) (by simp [go_sem, simprocAttr, eWork]) (.done ?_)))
    refine CW.ret ?_
    refine ⟨⟨2, [(0, .lv 1 [] 0), (2, .int .i64 (11))], [(0, ⟨false, [.own 2 (List.map eTypeO (s))]⟩), (1, ⟨true, eWork 0 x (t : Int) (-1)⟩)]⟩, ?_, .inr rfl, by simp [ptrOK, go_sem, simprocAttr], _, by simp only [f91, go_sem, simprocAttr]; exact rfl, ?_⟩
    · refine Sh.wk0 ?_
      simp [Wk, go_sem, simprocAttr, eWork]
    · exact ⟨rfl, _, rfl⟩
  · exfalso; revert ct7; simp
theorem work_drop_at (up : Bool) (s : List GType) (x : GStep) (t : Nat) (ty : GType) (hS : s[t]? = some ty) (q : Nat) (f0 : GField) (hF : ty.F[q]? = some f0) (h5 : ty.F.length ≤ 5) : GCall prog up 91 [.lv 1 [] 0] 2 [(0, ⟨false, [.own 2 (List.map eTypeO (s))]⟩), (1, ⟨true, eWork 0 x (t : Int) ((q : Int))⟩)] (fun r σ' => r = .int .i64 (0) ∧ ∃ tt, σ' = ⟨2, tt, [(0, ⟨false, [.own 2 (List.map eTypeO (s.set t ⟨ty.Name, ty.F.eraseIdx q⟩))]⟩), (1, ⟨true, eWork 0 x (t : Int) ((q : Int))⟩)]⟩) := by
  refine GCall.intro htt 1 func91 (by kernel_rfl) rfl (Nat.le_of_ble_eq_true rfl) (CW.told ?_)
  have htl : t < s.length := (List.getElem?_eq_some_iff.1 hS).1
  have hql : q < ty.F.length := (List.getElem?_eq_some_iff.1 hF).1
  have hw1 : IntKind.i64.wrap ((q : Int) + 1) = (q : Int) + 1 := by have := @wrap_succ q (by unfold MX; omega); rw [this]; omega
  simp only [tmps0, Nat.reduceAdd]
  refine CW.seq (.rg (.run htt 1 (by simp only [go_sem, simprocAttr, eWork]; exact rfl) (by simp [go_sem, simprocAttr, eWork]) (.done ?_)))
  refine CW.seq (.seq (.rg (.run htt 5 (by simp only [go_sem, simprocAttr, eWork]; exact rfl) (by simp [go_sem, simprocAttr, eWork]) (.done ?_))))
  refine CW.cd (fun ct7 => ?_) (fun ct7 => ?_)
  · exfalso; revert ct7; simp <;> omega 
  · refine CW.skip ?_
    refine CW.seq ?_
    refine CW.drawn mixed 16 (by decide) (by kernel_rfl) (by kernel_rfl) (by kernel_rfl) ?_
    refine Seg.run htt 1 (by simp only [go_sem, simprocAttr, eWork, hS, htl, eTypeO, eField, List.getElem?_set_self, List.length_map, List.set_set, hF, hql, hw1]; exact rfl) ?_
    refine Seg.callR (v := .lv 0 [(0, t)] 0) (by simp only [go_sem, simprocAttr]) (by simp only [go_sem, simprocAttr] <;> exact rfl) (fun n s' hs => by simp only [go_sem, simprocAttr]; exact kind_R 1 0 t _ _ _ _ _ _ false (s.map eTypeO) n s' (hs _ _ rfl) (hs _ _ rfl) (by simpa using htl)) ?_
    refine Seg.run htt 1 (by simp only [go_sem, simprocAttr, eWork, hS, htl, eTypeO, eField, List.getElem?_set_self, List.length_map, List.set_set, hF, hql, hw1]; exact rfl) ?_
    refine Seg.callR (v := .lv 0 [(0, t)] 0) (by simp only [go_sem, simprocAttr]) (by simp only [go_sem, simprocAttr] <;> exact rfl) (fun n s' hs => by simp only [go_sem, simprocAttr]; exact kind_R 1 0 t _ _ _ _ _ _ false (s.map eTypeO) n s' (hs _ _ rfl) (hs _ _ rfl) (by simpa using htl)) ?_
    refine Seg.run htt 12 (by simp only [go_sem, simprocAttr, eWork, hS, htl, eTypeO, eField, List.getElem?_set_self, List.length_map, List.set_set, hF, hql, hw1]; exact rfl) ?_
    refine Seg.done ?_
    refine CWops.sh (Sh.outP 14 0 [(0, t)] 1 (n := 3) (rows := ty.F.map eField) (by simp only [go_sem, simprocAttr]) (by simp only [go_sem, simprocAttr, eWork, hS, htl, eTypeO]) rfl) ?_
    simp only [go_sem, simprocAttr, eWork, hS, htl, eTypeO]
    refine CWops.callG [2] rfl (delete_Field up ty.F q hql) (by simp only [go_sem, simprocAttr]) (by simp only [go_sem, simprocAttr] <;> exact rfl) (by decide) (by simp [go_sem, simprocAttr, mName, memB]) (by simp [go_sem, simprocAttr, mName]) (by simp [go_sem, simprocAttr]) (by simp [go_sem, simprocAttr]) (by simp [go_sem, simprocAttr, mName]) (fun r σ' hσ => ?_)
    obtain ⟨σn, σt, σs⟩ := σ'
    simp only at hσ
    obtain ⟨rfl, rfl, rfl⟩ := hσ
    simp only [aftS, renS, delAll, memB, mName, List.getD_nil, killH, kref, ren, Nat.beq_eq, go_sem, simprocAttr]
    refine CWops.run htt 3 (by simp only [go_sem, simprocAttr, eWork, hS, htl, eTypeO, eField, List.getElem?_set_self, List.length_map, List.set_set, hF, hql, hw1]; exact rfl) (by simp [go_sem, simprocAttr, eWork, hS, htl, eTypeO, eField, List.getElem?_set_self, List.length_map, List.set_set, hF, hql, hw1]) (.done ?_)
    refine CW.seq (.rg (.run htt 1 (by simp only [go_sem, simprocAttr, eWork]; exact rfl) (by simp [go_sem, simprocAttr, eWork]) (.done ?_)))
    refine CW.ret ?_
    refine ⟨⟨2, [(0, .lv 1 [] 0), (2, .int .i64 (0))], [(0, ⟨false, [.own 2 (List.map eTypeO (s.set t ⟨ty.Name, ty.F.eraseIdx q⟩))]⟩), (1, ⟨true, eWork 0 x (t : Int) ((q : Int))⟩)]⟩, ?_, .inr rfl, by simp [ptrOK, go_sem, simprocAttr], _, by simp only [f91, go_sem, simprocAttr]; exact rfl, ?_⟩
    · have hset : (List.map eTypeO s).set t [.str ty.Name, .own 3 (List.map eField (ty.F.eraseIdx q))] = List.map eTypeO (s.set t ⟨ty.Name, ty.F.eraseIdx q⟩) := by
        rw [← set_TypeO]
      rw [← hset]
      refine Sh.wk0 ?_
      simp [Wk, go_sem, simprocAttr, eWork]
    · exact ⟨rfl, _, rfl⟩
theorem grade_own1 (up : Bool) (s : List GType) (h1 : s.length * 40 ≤ MX) (h2 : ∀ x ∈ s, x.F.length * 40 ≤ MX) : GCall prog up 86 [.agg (eSchema s)] 0 [] (fun r σ' => r = .agg [.ref 0 [] 0] ∧ σ'.n = 1 ∧ σ'.s = [(0, ⟨false, [.own 2 (s.map eTypeO)]⟩)]) := by
  refine GCall.told0 (grade_own up s h1 h2) fun r σ' hσ => ?_
  obtain ⟨σn, σt, σs⟩ := σ'
  simp only at hσ
  obtain ⟨rfl, rfl, rfl⟩ := hσ
  refine ⟨⟨1, [(0, .agg [.ref 0 [] 0])], [(0, ⟨false, [.own 2 (s.map eTypeO)]⟩)]⟩, Sh.wk0 ?_, rfl, rfl, rfl⟩
  simp [Wk, go_sem, simprocAttr]
theorem do_bad (up : Bool) (s : List GType) (x : GStep) (hb : (schemaMay s && (decide (0 ≤ x.Do) && decide (x.Do < 3))) = false) : GCall prog up 53 [.agg (eSchema s), .agg (eStep x)] 0 [] (fun r σ' => r = .tup [.nilp, .int .i64 (1)] ∧ σ'.n = 0 ∧ σ'.s = []) := by
  refine GCall.intro htt 0 func53 (by kernel_rfl) rfl (Nat.le_of_ble_eq_true rfl) (CW.told ?_)

  simp only [tmps0, Nat.reduceAdd]
  refine CW.seq (.rg (.run htt 4 (by simp only [go_sem, simprocAttr, eSchema, eStep]; exact rfl) (by simp [go_sem, simprocAttr, eSchema, eStep]) (.done ?_)))
  refine CW.seq ?_
  refine CW.cut ⟨2, [(2, .lv 0 [] 0), (3, .lv 1 [] 0), (21, .bool (!(schemaMay s && (decide (0 ≤ x.Do) && decide (x.Do < 3)))))], [(0, ⟨true, eSchema s⟩), (1, ⟨true, eStep x⟩)]⟩ ?_ ?_
  · refine CW.rg (.run htt 1 (by simp only [go_sem, simprocAttr, eSchema, eStep]; exact rfl) (by simp [go_sem, simprocAttr, eSchema, eStep]) ?_)
    refine CWops.call (schema_May up s) (by simp only [go_sem, simprocAttr, eSchema, eStep]) (by simp only [go_sem, simprocAttr, eSchema, eStep] <;> exact rfl) (by simp only [go_sem, simprocAttr, eSchema, eStep]) (fun rt10 hrt10 => ?_)
    subst hrt10; refine ⟨rfl, ?_⟩
    refine CWops.run htt 2 (by simp only [go_sem, simprocAttr, eSchema, eStep]; exact rfl) (by simp [go_sem, simprocAttr, eSchema, eStep]) ?_
    all_goals (first | refine CWops.guard 12 (by simp only [go_sem, simprocAttr, eSchema, eStep]; exact rfl) (fun g12 => ?_) (fun g12 => ?_) | skip)
    all_goals (refine CWops.run htt 5 (by simp only [go_sem, simprocAttr, eSchema, eStep]; exact rfl) (by simp [go_sem, simprocAttr, eSchema, eStep]) ?_)
    all_goals (first | refine CWops.guard 17 (by simp only [go_sem, simprocAttr, eSchema, eStep]; exact rfl) (fun g17 => ?_) (fun g17 => ?_) | skip)
    all_goals (refine CWops.run htt 4 (by simp only [go_sem, simprocAttr, eSchema, eStep]; exact rfl) (by simp [go_sem, simprocAttr, eSchema, eStep]) ?_)
    all_goals (refine CWops.done ?_)
    all_goals (
      first | refine ⟨rfl, Sh.wk0 ?_⟩ | refine Sh.wk0 ?_
      by_cases b1 : 0 ≤ x.Do <;> by_cases b2 : x.Do < 3 <;> cases hsm : schemaMay s <;> simp_all [Wk, go_sem, simprocAttr, eSchema, eStep] <;> first | done | omega)
  refine CW.cd (fun ct21 => ?_) (fun ct21 => ?_)
  · refine CW.seq (.rg (.rn htt 2 (.done ?_)))
    refine CW.ret ?_
    refine ⟨⟨0, [(4, .nilp), (5, .int .i64 (1))], []⟩, ?_, .inr rfl, by simp [ptrOK, go_sem, simprocAttr], _, by simp only [f53, go_sem, simprocAttr]; exact rfl, ?_⟩
    · refine Sh.wk0 ?_
      simp [Wk, go_sem, simprocAttr]
    · exact ⟨rfl, rfl, rfl⟩
  · rw [hb] at ct21; cases ct21
theorem do_none (up : Bool) (s : List GType) (x : GStep) (h1 : s.length * 40 ≤ MX) (h2 : ∀ x ∈ s, x.F.length * 40 ≤ MX) (hb : (schemaMay s && (decide (0 ≤ x.Do) && decide (x.Do < 3))) = true) (hf : fnd (fun o => decide (o.Name = x.Ty)) s = -1) : GCall prog up 53 [.agg (eSchema s), .agg (eStep x)] 0 [] (fun r σ' => r = .tup [.nilp, .int .i64 (11)] ∧ σ'.n = 0 ∧ σ'.s = []) := by
  refine GCall.intro htt 0 func53 (by kernel_rfl) rfl (Nat.le_of_ble_eq_true rfl) (CW.told ?_)

  simp only [tmps0, Nat.reduceAdd]
  refine CW.seq (.rg (.run htt 4 (by simp only [go_sem, simprocAttr, eSchema, eStep]; exact rfl) (by simp [go_sem, simprocAttr, eSchema, eStep]) (.done ?_)))
  refine CW.seq ?_
  refine CW.cut ⟨2, [(2, .lv 0 [] 0), (3, .lv 1 [] 0), (21, .bool (!(schemaMay s && (decide (0 ≤ x.Do) && decide (x.Do < 3)))))], [(0, ⟨true, eSchema s⟩), (1, ⟨true, eStep x⟩)]⟩ ?_ ?_
  · refine CW.rg (.run htt 1 (by simp only [go_sem, simprocAttr, eSchema, eStep]; exact rfl) (by simp [go_sem, simprocAttr, eSchema, eStep]) ?_)
    refine CWops.call (schema_May up s) (by simp only [go_sem, simprocAttr, eSchema, eStep]) (by simp only [go_sem, simprocAttr, eSchema, eStep] <;> exact rfl) (by simp only [go_sem, simprocAttr, eSchema, eStep]) (fun rt10 hrt10 => ?_)
    subst hrt10; refine ⟨rfl, ?_⟩
    refine CWops.run htt 2 (by simp only [go_sem, simprocAttr, eSchema, eStep]; exact rfl) (by simp [go_sem, simprocAttr, eSchema, eStep]) ?_
    all_goals (first | refine CWops.guard 12 (by simp only [go_sem, simprocAttr, eSchema, eStep]; exact rfl) (fun g12 => ?_) (fun g12 => ?_) | skip)
    all_goals (refine CWops.run htt 5 (by simp only [go_sem, simprocAttr, eSchema, eStep]; exact rfl) (by simp [go_sem, simprocAttr, eSchema, eStep]) ?_)
    all_goals (first | refine CWops.guard 17 (by simp only [go_sem, simprocAttr, eSchema, eStep]; exact rfl) (fun g17 => ?_) (fun g17 => ?_) | skip)
    all_goals (refine CWops.run htt 4 (by simp only [go_sem, simprocAttr, eSchema, eStep]; exact rfl) (by simp [go_sem, simprocAttr, eSchema, eStep]) ?_)
    all_goals (refine CWops.done ?_)
    all_goals (
      first | refine ⟨rfl, Sh.wk0 ?_⟩ | refine Sh.wk0 ?_
      by_cases b1 : 0 ≤ x.Do <;> by_cases b2 : x.Do < 3 <;> cases hsm : schemaMay s <;> simp_all [Wk, go_sem, simprocAttr, eSchema, eStep] <;> first | done | omega)
  refine CW.cd (fun ct21 => ?_) (fun ct21 => ?_)
  · rw [hb] at ct21; cases ct21 
  · refine CW.skip ?_
    refine CW.seq ?_
    refine CW.drawn mixed 7 (by decide) (by kernel_rfl) (by kernel_rfl) (by kernel_rfl) ?_
    refine Seg.run htt 1 (by simp only [go_sem, simprocAttr, eSchema, eStep, hf]; exact rfl) ?_
    refine Seg.callNA (grade_own1 up s h1 h2) (by simp only [go_sem, simprocAttr]) (by simp only [go_sem, simprocAttr] <;> exact rfl) (by simp [go_sem, simprocAttr, eSchema]) ?_
    refine Seg.run htt 4 (by simp only [go_sem, simprocAttr, eSchema, eStep, hf]; exact rfl) ?_
    refine Seg.call (schema_Find up s x.Ty) (by simp only [go_sem, simprocAttr, eSchema, eStep, hf]) (by simp only [go_sem, simprocAttr, eSchema, eStep, hf] <;> exact rfl) (by simp only [go_sem, simprocAttr, eSchema, eStep, hf]) (by simp only [go_sem, simprocAttr, eSchema, eStep, hf]) rfl ?_
    refine Seg.done ?_
    refine CWops.run htt 3 (by simp only [go_sem, simprocAttr, eSchema, eStep, hf]; exact rfl) (by simp [go_sem, simprocAttr, eSchema, eStep, hf]) (.done ?_)
    refine CW.seq (.seq (.rg (.rn htt 5 (.done ?_))))
    refine CW.cd (fun ct35 => ?_) (fun ct35 => ?_)
    · refine CW.seq (.rg (.rn htt 2 (.done ?_)))
      refine CW.ret ?_
      refine ⟨⟨0, [(4, .nilp), (5, .int .i64 (11))], []⟩, ?_, .inr rfl, by simp [ptrOK, go_sem, simprocAttr], _, by simp only [f53, go_sem, simprocAttr]; exact rfl, ?_⟩
      · refine Sh.wk0 ?_
        simp [Wk, go_sem, simprocAttr]
      · exact ⟨rfl, rfl, rfl⟩
    · simp at ct35
theorem do_step (up : Bool) (s : List GType) (x : GStep) (h1 : s.length * 40 ≤ MX) (h2 : ∀ x ∈ s, x.F.length * 40 ≤ MX) (hb : (schemaMay s && (decide (0 ≤ x.Do) && decide (x.Do < 3))) = true) (t : Nat) (hf : fnd (fun o => decide (o.Name = x.Ty)) s = t) (ty : GType) (hS : s[t]? = some ty) (at_ : Int) (ha : fnd (fun o => decide (o.Name = x.F.Name)) ty.F = at_) (e : Int) (s2 : List GType) (fm : FuncId) (hsel : (x.Do = 0 ∧ fm = 90) ∨ (x.Do = 1 ∧ fm = 91) ∨ (x.Do = 2 ∧ fm = 89)) (hcall : GCall prog up fm [.lv 1 [] 0] 2 [(0, ⟨false, [.own 2 (List.map eTypeO (s))]⟩), (1, ⟨true, eWork 0 x (t : Int) (at_)⟩)] (fun r σ' => r = .int .i64 (e) ∧ ∃ tt, σ' = ⟨2, tt, [(0, ⟨false, [.own 2 (List.map eTypeO (s2))]⟩), (1, ⟨true, eWork 0 x (t : Int) (at_)⟩)]⟩)) : GCall prog up 53 [.agg (eSchema s), .agg (eStep x)] 0 [] (fun r σ' => (e = 0 ∧ r = .tup [.lv 1 [] 0, .int .i64 0] ∧ σ'.n = 2 ∧ σ'.s = [(0, ⟨false, [.own 2 (List.map eTypeO (s2))]⟩), (1, ⟨true, eWork 0 x (t : Int) (at_)⟩)]) ∨ (e ≠ 0 ∧ r = .tup [.nilp, .int .i64 e] ∧ σ'.n = 0 ∧ σ'.s = [])) := by
  refine GCall.intro htt 0 func53 (by kernel_rfl) rfl (Nat.le_of_ble_eq_true rfl) (CW.told ?_)
  have htl : t < s.length := (List.getElem?_eq_some_iff.1 hS).1
  simp only [tmps0, Nat.reduceAdd]
  refine CW.seq (.rg (.run htt 4 (by simp only [go_sem, simprocAttr, eSchema, eStep]; exact rfl) (by simp [go_sem, simprocAttr, eSchema, eStep]) (.done ?_)))
  refine CW.seq ?_
  refine CW.cut ⟨2, [(2, .lv 0 [] 0), (3, .lv 1 [] 0), (21, .bool (!(schemaMay s && (decide (0 ≤ x.Do) && decide (x.Do < 3)))))], [(0, ⟨true, eSchema s⟩), (1, ⟨true, eStep x⟩)]⟩ ?_ ?_
  · refine CW.rg (.run htt 1 (by simp only [go_sem, simprocAttr, eSchema, eStep]; exact rfl) (by simp [go_sem, simprocAttr, eSchema, eStep]) ?_)
    refine CWops.call (schema_May up s) (by simp only [go_sem, simprocAttr, eSchema, eStep]) (by simp only [go_sem, simprocAttr, eSchema, eStep] <;> exact rfl) (by simp only [go_sem, simprocAttr, eSchema, eStep]) (fun rt10 hrt10 => ?_)
    subst hrt10; refine ⟨rfl, ?_⟩
    refine CWops.run htt 2 (by simp only [go_sem, simprocAttr, eSchema, eStep]; exact rfl) (by simp [go_sem, simprocAttr, eSchema, eStep]) ?_
    all_goals (first | refine CWops.guard 12 (by simp only [go_sem, simprocAttr, eSchema, eStep]; exact rfl) (fun g12 => ?_) (fun g12 => ?_) | skip)
    all_goals (refine CWops.run htt 5 (by simp only [go_sem, simprocAttr, eSchema, eStep]; exact rfl) (by simp [go_sem, simprocAttr, eSchema, eStep]) ?_)
    all_goals (first | refine CWops.guard 17 (by simp only [go_sem, simprocAttr, eSchema, eStep]; exact rfl) (fun g17 => ?_) (fun g17 => ?_) | skip)
    all_goals (refine CWops.run htt 4 (by simp only [go_sem, simprocAttr, eSchema, eStep]; exact rfl) (by simp [go_sem, simprocAttr, eSchema, eStep]) ?_)
    all_goals (refine CWops.done ?_)
    all_goals (
      first | refine ⟨rfl, Sh.wk0 ?_⟩ | refine Sh.wk0 ?_
      by_cases b1 : 0 ≤ x.Do <;> by_cases b2 : x.Do < 3 <;> cases hsm : schemaMay s <;> simp_all [Wk, go_sem, simprocAttr, eSchema, eStep] <;> first | done | omega)
  refine CW.cd (fun ct21 => ?_) (fun ct21 => ?_)
  · rw [hb] at ct21; cases ct21 
  · refine CW.skip ?_
    refine CW.seq ?_
    refine CW.drawn mixed 7 (by decide) (by kernel_rfl) (by kernel_rfl) (by kernel_rfl) ?_
    refine Seg.run htt 1 (by simp only [go_sem, simprocAttr, eSchema, eStep, hf]; exact rfl) ?_
    refine Seg.callNA (grade_own1 up s h1 h2) (by simp only [go_sem, simprocAttr]) (by simp only [go_sem, simprocAttr] <;> exact rfl) (by simp [go_sem, simprocAttr, eSchema]) ?_
    refine Seg.run htt 4 (by simp only [go_sem, simprocAttr, eSchema, eStep, hf]; exact rfl) ?_
    refine Seg.call (schema_Find up s x.Ty) (by simp only [go_sem, simprocAttr, eSchema, eStep, hf]) (by simp only [go_sem, simprocAttr, eSchema, eStep, hf] <;> exact rfl) (by simp only [go_sem, simprocAttr, eSchema, eStep, hf]) (by simp only [go_sem, simprocAttr, eSchema, eStep, hf]) rfl ?_
    refine Seg.done ?_
    refine CWops.run htt 3 (by simp only [go_sem, simprocAttr, eSchema, eStep, hf]; exact rfl) (by simp [go_sem, simprocAttr, eSchema, eStep, hf]) (.done ?_)
    refine CW.seq (.seq ?_)
    refine CW.sh (Sh.out 3 0 rfl rfl rfl) ?_
    simp only [go_sem, simprocAttr, mapT, mapS, outF, List.map_cons, List.map_nil, putAt, List.set_cons_zero, List.set_cons_succ]
    refine CW.rg (.rn htt 5 (.done ?_))
    refine CW.cd (fun ct35 => ?_) (fun ct35 => ?_)
    · exfalso; revert ct35; simp <;> omega 
    · refine CW.skip ?_
      refine CW.seq ?_
      refine CW.drawn mixed 9 (by decide) (by kernel_rfl) (by kernel_rfl) (by kernel_rfl) ?_
      refine Seg.run htt 2 (by simp only [go_sem, simprocAttr, eStep, hS, htl, eTypeO, eType, ha]; exact rfl) ?_
      refine Seg.callR (v := .lv 4 [(0, t)] 0) (by simp only [go_sem, simprocAttr]) (by simp only [go_sem, simprocAttr] <;> exact rfl) (fun n s' hs => by simp only [go_sem, simprocAttr]; exact kind_R 3 4 t _ _ _ _ _ _ false (s.map eTypeO) n s' (hs _ _ rfl) (hs _ _ rfl) (by simpa using htl)) ?_
      refine Seg.run htt 5 (by simp only [go_sem, simprocAttr, eStep, hS, htl, eTypeO, eType, ha]; exact rfl) ?_
      refine Seg.call (schema_Field up ty x.F.Name) (by simp only [go_sem, simprocAttr, eStep, hS, htl, eTypeO, eType, ha]) (by simp only [go_sem, simprocAttr, eStep, hS, htl, eTypeO, eType, ha] <;> exact rfl) (by simp only [go_sem, simprocAttr, eStep, hS, htl, eTypeO, eType, ha]) (by simp only [go_sem, simprocAttr, eStep, hS, htl, eTypeO, eType, ha]) rfl ?_
      refine Seg.done ?_
      refine CWops.run htt 3 (by simp only [go_sem, simprocAttr, eStep, hS, htl, eTypeO, eType, ha]; exact rfl) (by simp [go_sem, simprocAttr, eStep, hS, htl, eTypeO, eType, ha]) (.done ?_)
      refine CW.seq (.rg (.run htt 3 (by simp only [go_sem, simprocAttr, eStep]; exact rfl) (by simp [go_sem, simprocAttr, eStep]) (.done ?_)))
      refine CW.seq (.seq (.rg (.run htt 2 (by simp only [go_sem, simprocAttr, eStep]; exact rfl) (by simp [go_sem, simprocAttr, eStep]) (.done ?_))))
      refine CW.block ?_
      refine CW.seq (.rg (.rn htt 2 (.done ?_)))
      refine CW.cd (fun ct51 => ?_) (fun ct51 => ?_)
      · have hd : x.Do = 0 := by simpa using ct51
        have hfm : fm = 90 := by rcases hsel with ⟨h, h'⟩ | ⟨h, h'⟩ | ⟨h, h'⟩ <;> first | exact h' | (exfalso; omega)
        subst hfm
        refine CW.rg (.rn htt 3 (.done ?_))
        refine CW.seq (.seq (.rg (.rn htt 1 ?_)))
        refine CWops.callG [4, 3] rfl (hcall) (by simp only [go_sem, simprocAttr]) (by simp only [go_sem, simprocAttr] <;> exact rfl) (by decide) (by simp [go_sem, simprocAttr, mName, memB, eWork]) (by simp [go_sem, simprocAttr, mName]) (by simp [go_sem, simprocAttr]) (by intro y hy; rcases y with _ | _ | y <;> first | (simp [go_sem, simprocAttr]; done) | (exfalso; simp at hy; done) | (exfalso; simp at hy; omega)) (by simp [go_sem, simprocAttr, mName]) (fun r σ' hσ => ?_)
        obtain ⟨rfl, tt, rfl⟩ := hσ
        simp only [aftS, renS, delAll, memB, mName, List.getD_nil, killH, kref, ren, Nat.beq_eq, go_sem, simprocAttr, eWork]
        refine CWops.rn htt 1 (.done ?_)
        refine CW.seq (.rg (.rn htt 2 (.done ?_)))
        refine CW.cd (fun ct62 => ?_) (fun ct62 => ?_)
        · refine CW.seq (.rg (.rn htt 3 (.done ?_)))
          refine CW.ret ?_
          refine ⟨⟨0, [(4, .nilp), (5, .int .i64 e)], []⟩, ?_, .inr rfl, by simp [ptrOK, go_sem, simprocAttr], _, by simp only [f53, go_sem, simprocAttr]; exact rfl, ?_⟩
          · refine Sh.wk0 ?_
            simp [Wk, go_sem, simprocAttr]
          · exact .inr ⟨by simpa using ct62, rfl, rfl, rfl⟩
        · refine CW.skip ?_
          refine CW.seq (.rg (.rn htt 3 (.done ?_)))
          refine CW.ret ?_
          refine ⟨⟨2, [(4, .lv 1 [] 0), (5, .int .i64 0)], [(0, ⟨false, [.own 2 (List.map eTypeO (s2))]⟩), (1, ⟨true, eWork 0 x (t : Int) (at_)⟩)]⟩, ?_, .inr rfl, by simp [ptrOK, go_sem, simprocAttr], _, by simp only [f53, go_sem, simprocAttr]; exact rfl, ?_⟩
          · refine Sh.wk (fun x => if x = 0 then 4 else if x = 1 then 3 else x) ?_
            simp [Wk, go_sem, simprocAttr, eWork]
          · exact .inl ⟨by simpa using ct62, rfl, rfl, rfl⟩
      · have hd0 : ¬ x.Do = 0 := by simpa using ct51
        refine CW.seq (.rg (.rn htt 2 (.done ?_)))
        refine CW.cd (fun ct55 => ?_) (fun ct55 => ?_)
        · have hd : x.Do = 1 := by simpa using ct55
          have hfm : fm = 91 := by rcases hsel with ⟨h, h'⟩ | ⟨h, h'⟩ | ⟨h, h'⟩ <;> first | exact h' | (exfalso; omega)
          subst hfm
          refine CW.rg (.rn htt 3 (.done ?_))
          refine CW.seq (.seq (.rg (.rn htt 1 ?_)))
          refine CWops.callG [4, 3] rfl (hcall) (by simp only [go_sem, simprocAttr]) (by simp only [go_sem, simprocAttr] <;> exact rfl) (by decide) (by simp [go_sem, simprocAttr, mName, memB, eWork]) (by simp [go_sem, simprocAttr, mName]) (by simp [go_sem, simprocAttr]) (by intro y hy; rcases y with _ | _ | y <;> first | (simp [go_sem, simprocAttr]; done) | (exfalso; simp at hy; done) | (exfalso; simp at hy; omega)) (by simp [go_sem, simprocAttr, mName]) (fun r σ' hσ => ?_)
          obtain ⟨rfl, tt, rfl⟩ := hσ
          simp only [aftS, renS, delAll, memB, mName, List.getD_nil, killH, kref, ren, Nat.beq_eq, go_sem, simprocAttr, eWork]
          refine CWops.rn htt 1 (.done ?_)
          refine CW.seq (.rg (.rn htt 2 (.done ?_)))
          refine CW.cd (fun ct62 => ?_) (fun ct62 => ?_)
          · refine CW.seq (.rg (.rn htt 3 (.done ?_)))
            refine CW.ret ?_
            refine ⟨⟨0, [(4, .nilp), (5, .int .i64 e)], []⟩, ?_, .inr rfl, by simp [ptrOK, go_sem, simprocAttr], _, by simp only [f53, go_sem, simprocAttr]; exact rfl, ?_⟩
            · refine Sh.wk0 ?_
              simp [Wk, go_sem, simprocAttr]
            · exact .inr ⟨by simpa using ct62, rfl, rfl, rfl⟩
          · refine CW.skip ?_
            refine CW.seq (.rg (.rn htt 3 (.done ?_)))
            refine CW.ret ?_
            refine ⟨⟨2, [(4, .lv 1 [] 0), (5, .int .i64 0)], [(0, ⟨false, [.own 2 (List.map eTypeO (s2))]⟩), (1, ⟨true, eWork 0 x (t : Int) (at_)⟩)]⟩, ?_, .inr rfl, by simp [ptrOK, go_sem, simprocAttr], _, by simp only [f53, go_sem, simprocAttr]; exact rfl, ?_⟩
            · refine Sh.wk (fun x => if x = 0 then 4 else if x = 1 then 3 else x) ?_
              simp [Wk, go_sem, simprocAttr, eWork]
            · exact .inl ⟨by simpa using ct62, rfl, rfl, rfl⟩
        · have hd1 : ¬ x.Do = 1 := by simpa using ct55
          have hd : x.Do = 2 := by rcases hsel with ⟨h, _⟩ | ⟨h, _⟩ | ⟨h, _⟩ <;> omega
          have hfm : fm = 89 := by rcases hsel with ⟨h, h'⟩ | ⟨h, h'⟩ | ⟨h, h'⟩ <;> first | exact h' | (exfalso; omega)
          subst hfm
          refine CW.skip ?_
          refine CW.seq (.seq (.rg (.rn htt 1 ?_)))
          refine CWops.callG [4, 3] rfl (hcall) (by simp only [go_sem, simprocAttr]) (by simp only [go_sem, simprocAttr] <;> exact rfl) (by decide) (by simp [go_sem, simprocAttr, mName, memB, eWork]) (by simp [go_sem, simprocAttr, mName]) (by simp [go_sem, simprocAttr]) (by intro y hy; rcases y with _ | _ | y <;> first | (simp [go_sem, simprocAttr]; done) | (exfalso; simp at hy; done) | (exfalso; simp at hy; omega)) (by simp [go_sem, simprocAttr, mName]) (fun r σ' hσ => ?_)
          obtain ⟨rfl, tt, rfl⟩ := hσ
          simp only [aftS, renS, delAll, memB, mName, List.getD_nil, killH, kref, ren, Nat.beq_eq, go_sem, simprocAttr, eWork]
          refine CWops.rn htt 1 (.done ?_)
          refine CW.seq (.rg (.rn htt 2 (.done ?_)))
          refine CW.cd (fun ct62 => ?_) (fun ct62 => ?_)
          · refine CW.seq (.rg (.rn htt 3 (.done ?_)))
            refine CW.ret ?_
            refine ⟨⟨0, [(4, .nilp), (5, .int .i64 e)], []⟩, ?_, .inr rfl, by simp [ptrOK, go_sem, simprocAttr], _, by simp only [f53, go_sem, simprocAttr]; exact rfl, ?_⟩
            · refine Sh.wk0 ?_
              simp [Wk, go_sem, simprocAttr]
            · exact .inr ⟨by simpa using ct62, rfl, rfl, rfl⟩
          · refine CW.skip ?_
            refine CW.seq (.rg (.rn htt 3 (.done ?_)))
            refine CW.ret ?_
            refine ⟨⟨2, [(4, .lv 1 [] 0), (5, .int .i64 0)], [(0, ⟨false, [.own 2 (List.map eTypeO (s2))]⟩), (1, ⟨true, eWork 0 x (t : Int) (at_)⟩)]⟩, ?_, .inr rfl, by simp [ptrOK, go_sem, simprocAttr], _, by simp only [f53, go_sem, simprocAttr]; exact rfl, ?_⟩
            · refine Sh.wk (fun x => if x = 0 then 4 else if x = 1 then 3 else x) ?_
              simp [Wk, go_sem, simprocAttr, eWork]
            · exact .inl ⟨by simpa using ct62, rfl, rfl, rfl⟩
theorem do_G (up : Bool) (s : List GType) (x : GStep) (h1 : s.length * 40 ≤ MX) (h2 : ∀ x ∈ s, x.F.length * 40 ≤ MX) : GCall prog up 53 [.agg (eSchema s), .agg (eStep x)] 0 [] (fun r σ' => ((gDo s x).1 = 0 ∧ (fun r σ' => r = .tup [.lv 1 [] 0, .int .i64 0] ∧ σ'.n = 2 ∧ σ'.s = [(0, ⟨false, [.own 2 (List.map eTypeO (gDo s x).2.1)]⟩), (1, ⟨true, eWork 0 x ((gDo s x).2.2.1 : Int) (gDo s x).2.2.2⟩)]) r σ') ∨ ((gDo s x).1 ≠ 0 ∧ (fun r σ' => r = .tup [.nilp, .int .i64 (gDo s x).1] ∧ σ'.n = 0 ∧ σ'.s = []) r σ')) := by
  by_cases hb : (schemaMay s && (decide (0 ≤ x.Do) && decide (x.Do < 3))) = true
  · have hs : schemaMay s = true := by simp only [Bool.and_eq_true] at hb; exact hb.1
    have hD : 0 ≤ x.Do ∧ x.Do < 3 := by simp only [Bool.and_eq_true, decide_eq_true_eq] at hb; exact hb.2
    have hSM := (smay_iff s).1 hs
    rcases find_cases (fun o : GType => decide (o.Name = x.Ty)) s with ⟨f1, f2, f3⟩ | ⟨t, ty, f1, f2, f3, f4, f5⟩
    · have e : gDo s x = (11, [], 0, -1) := by unfold gDo; rw [if_pos hb, f3]
      rw [e]
      exact (do_none up s x h1 h2 hb f1).mono fun r σ' h => .inr ⟨by decide, h⟩
    · have e : gDo s x = if (gStepF s x ty.F).1 = 0 then (0, s.set t ⟨ty.Name, (gStepF s x ty.F).2⟩, t, fFind ty.F x.F.Name) else ((gStepF s x ty.F).1, [], 0, -1) := by
        unfold gDo; rw [if_pos hb, f4]; simp only [f2]
      have h5 := hSM.flen t ty f2
      have key : ∃ (fm : FuncId) (e1 : Int) (s2 : List GType), ((x.Do = 0 ∧ fm = 90) ∨ (x.Do = 1 ∧ fm = 91) ∨ (x.Do = 2 ∧ fm = 89)) ∧ GCall prog up fm [.lv 1 [] 0] 2 [(0, ⟨false, [.own 2 (List.map eTypeO (s))]⟩), (1, ⟨true, eWork 0 x (t : Int) (fFind ty.F x.F.Name)⟩)] (fun r σ' => r = .int .i64 e1 ∧ ∃ tt, σ' = ⟨2, tt, [(0, ⟨false, [.own 2 (List.map eTypeO (s2))]⟩), (1, ⟨true, eWork 0 x (t : Int) (fFind ty.F x.F.Name)⟩)]⟩) ∧ e1 = (gStepF s x ty.F).1 ∧ (e1 = 0 → s2 = s.set t ⟨ty.Name, (gStepF s x ty.F).2⟩) := by
        rcases (by omega : x.Do = 0 ∨ x.Do = 1 ∨ x.Do = 2) with h | h | h
        · refine ⟨_, _, _, .inl ⟨h, rfl⟩, work_add up s x t _ ty f2 h5, ?_, ?_⟩
          · unfold gStepF fFind; rw [if_pos h]; split <;> (try split) <;> simp_all
          · unfold gStepF fFind; rw [if_pos h]; intro h0; split at h0
            · rename_i hok; rw [if_pos hok]; split at h0
              · exact absurd h0 (by decide)
              · rename_i hl; rw [if_neg hl, if_pos ⟨hok, hl⟩]
            · exact absurd h0 (by decide)
        · rcases find_cases (fun f : GField => decide (f.Name = x.F.Name)) ty.F with ⟨g1, g2, g3⟩ | ⟨q, f0, g1, g2, g3, g4, g5⟩
          · exact ⟨_, 11, s, .inr (.inl ⟨h, rfl⟩), by rw [show fFind ty.F x.F.Name = -1 from g1]; exact work_drop_no up s x t, by unfold gStepF; rw [if_neg (show ¬ x.Do = 0 by omega), g3], fun h => absurd h (by decide)⟩
          · exact ⟨_, 0, _, .inr (.inl ⟨h, rfl⟩), by rw [show fFind ty.F x.F.Name = q from g1]; exact work_drop_at up s x t ty f2 q f0 g2 h5, by unfold gStepF; rw [if_neg (show ¬ x.Do = 0 by omega), g4]; simp only; rw [if_pos h], fun _ => by unfold gStepF; rw [if_neg (show ¬ x.Do = 0 by omega), g4]; simp only; rw [if_pos h]⟩
        · rcases find_cases (fun f : GField => decide (f.Name = x.F.Name)) ty.F with ⟨g1, g2, g3⟩ | ⟨q, f0, g1, g2, g3, g4, g5⟩
          · exact ⟨_, 11, s, .inr (.inr ⟨h, rfl⟩), by rw [show fFind ty.F x.F.Name = -1 from g1]; exact work_widen_no up s x t, by unfold gStepF; rw [if_neg (show ¬ x.Do = 0 by omega), g3], fun h => absurd h (by decide)⟩
          · refine ⟨_, _, _, .inr (.inr ⟨h, rfl⟩), by rw [show fFind ty.F x.F.Name = q from g1]; exact work_widen_at up s x t ty f2 q f0 g2, ?_, ?_⟩
            · unfold gStepF; rw [if_neg (show ¬ x.Do = 0 by omega), g4]; simp only; rw [if_neg (show ¬ x.Do = 1 by omega), g2]; simp only; split <;> rfl
            · unfold gStepF; rw [if_neg (show ¬ x.Do = 0 by omega), g4]; simp only; rw [if_neg (show ¬ x.Do = 1 by omega), g2]; simp only
              intro h0
              split at h0
              · rename_i hw; rw [if_pos hw, if_pos hw]
              · exact absurd h0 (by decide)
      obtain ⟨fm, e1, s2, hsel, hcall, he, hs2⟩ := key
      refine (do_step up s x h1 h2 hb t f1 ty f2 _ rfl e1 s2 fm hsel hcall).mono fun r σ' h => ?_
      rcases h with ⟨h0, hr, hn, hσ⟩ | ⟨h0, h⟩
      · left
        rw [e, if_pos (by rw [← he]; exact h0)]
        rw [hs2 h0] at hσ
        exact ⟨rfl, hr, hn, hσ⟩
      · right
        rw [e, if_neg (by rw [← he]; exact h0)]
        simp only
        rw [← he]
        exact ⟨h0, h⟩
  · have hb' : (schemaMay s && (decide (0 ≤ x.Do) && decide (x.Do < 3))) = false := by simpa only [Bool.not_eq_true] using hb
    have e : gDo s x = (1, [], 0, -1) := by unfold gDo; rw [if_neg hb]
    rw [e]
    exact (do_bad up s x hb').mono fun r σ' h => .inr ⟨by decide, h⟩
theorem doG_ok (up : Bool) (s : List GType) (x : GStep) (h1 : s.length * 40 ≤ MX) (h2 : ∀ x ∈ s, x.F.length * 40 ≤ MX) (h0 : (gDo s x).1 = 0) : GCall prog up 53 [.agg (eSchema s), .agg (eStep x)] 0 [] (fun r σ' => r = .tup [.lv 1 [] 0, .int .i64 0] ∧ σ'.n = 2 ∧ σ'.s = [(0, ⟨false, [.own 2 (List.map eTypeO (gDo s x).2.1)]⟩), (1, ⟨true, eWork 0 x ((gDo s x).2.2.1 : Int) (gDo s x).2.2.2⟩)]) := (do_G up s x h1 h2).mono fun r σ' h => (h.resolve_right fun h => h.1 h0).2
theorem doG_err (up : Bool) (s : List GType) (x : GStep) (h1 : s.length * 40 ≤ MX) (h2 : ∀ x ∈ s, x.F.length * 40 ≤ MX) (h0 : (gDo s x).1 ≠ 0) : GCall prog up 53 [.agg (eSchema s), .agg (eStep x)] 0 [] (fun r σ' => r = .tup [.nilp, .int .i64 (gDo s x).1] ∧ σ'.n = 0 ∧ σ'.s = []) := (do_G up s x h1 h2).mono fun r σ' h => (h.resolve_left fun h => h0 h.1).2
end Go.Ab
namespace Go.Ab
open Go Go.Proofs.Try
set_option maxRecDepth 100000
set_option maxHeartbeats 3200000
theorem clone_Int (up : Bool) (xs : List Int) (hx : xs.length * 8 ≤ MX) : PCall prog up 27 [.sl 1 (xs.map eI)] (· = .sl 1 (xs.map eI)) := by
  refine PCall.intro htt func27 (by kernel_rfl) rfl (Nat.le_of_ble_eq_true rfl) fun hl => ?_
  have hx1 : xs.length ≤ MX := by omega
  simp only [tmps0, Nat.reduceAdd]
  refine CW.seq (.rg (.rn htt 1 (.done ?_)))
  refine CW.seq (.seq (.rg (.rn htt 1 ?_)))
  refine CWops.nilcmp (n := 1) (l := xs.map eI) htt (by simp only [go_sem, simprocAttr]) (by simp only [go_sem, simprocAttr]) (by simp only [go_sem, simprocAttr]) tt_26 rfl (fun b hb => ⟨_, rfl, ?_⟩)
  refine CWops.done ?_
  refine CW.cd (fun ct4 => ?_) (fun ct4 => ?_)
  · refine CW.seq (.rg (.rn htt 1 (.done ?_)))
    refine CW.ret ?_
    refine retQ.rt (by simp only [f27, go_sem, simprocAttr]; exact rfl) ?_
    refine ⟨_, ?_, rfl⟩
    have h0 := hb ct4; simp [leP, h0]
  · refine CW.skip ?_
    refine CW.seq (.rg ?_)
    refine CWops.run htt 4 (by simp only [go_sem, simprocAttr]; exact rfl) (by refine ⟨?_, ?_, ?_⟩ <;> first | (simp [eI, AV.cell]; done) | (simp; omega)) ?_
    refine CWops.done ?_
    refine CW.ret ?_
    refine retQ.rt (by simp only [f27, go_sem, simprocAttr]; exact rfl) ?_
    refine ⟨_, ?_, rfl⟩
    simp [leP, frz_I, frz_Val, frz_Obj, frz_Field, frz_Type]
theorem grade_Graph_bad (up : Bool) (g : Graph) (x : GStep) (hm : gMay g = false) : PCall prog up 20 [.agg (eGraph g), .agg (eStep x)] (· = .tup [.agg (eGraph (gGrade g x).1), .int .i64 (gGrade g x).2]) := by
  refine PCall.intro htt func20 (by kernel_rfl) rfl (Nat.le_of_ble_eq_true rfl) fun hl => ?_

  simp only [tmps0, Nat.reduceAdd]
  refine CW.seq (.rg (.run htt 4 (by simp only [go_sem, simprocAttr, eGraph, eStep]; exact rfl) (by simp [go_sem, simprocAttr, eGraph, eStep]) (.done ?_)))
  refine CW.seq (.seq (.rg (.run htt 1 (by simp only [go_sem, simprocAttr, eGraph]; exact rfl) (by simp [go_sem, simprocAttr, eGraph]) ?_)))
  refine CWops.call (graph_May up g) (by simp only [go_sem, simprocAttr, eGraph]) (by simp only [go_sem, simprocAttr, eGraph] <;> exact rfl) (by simp only [go_sem, simprocAttr, eGraph]) (fun rt12 hrt12 => ?_)
  subst hrt12; refine ⟨rfl, ?_⟩
  refine CWops.run htt 1 (by simp only [go_sem, simprocAttr, eGraph]; exact rfl) (by simp [go_sem, simprocAttr, eGraph]) (.done ?_)
  refine CW.cd (fun ct13 => ?_) (fun ct13 => ?_)
  · refine CW.seq (.rg (.rn htt 3 (.done ?_)))
    refine CW.ret ?_
    refine retQ.rt (by simp only [f20, go_sem, simprocAttr]; exact rfl) ?_
    refine ⟨_, ?_, rfl⟩
    have : gGrade g x = (⟨[], [], []⟩, 1) := by unfold gGrade; rw [if_pos hm]
    simp [leP, leL, this, eGraph]
  · rw [hm] at ct13; cases ct13
theorem grade_Graph_err (up : Bool) (g : Graph) (x : GStep) (hm : gMay g = true) (h0 : (gDo g.S x).1 ≠ 0) : PCall prog up 20 [.agg (eGraph g), .agg (eStep x)] (· = .tup [.agg (eGraph (gGrade g x).1), .int .i64 (gGrade g x).2]) := by
  refine PCall.intro htt func20 (by kernel_rfl) rfl (Nat.le_of_ble_eq_true rfl) fun hl => ?_
  have hM := (may_iff g).1 hm
  have hsm := hM.small
  have hs4 := hsm.1
  have hs5 := hsm.2.1
  have hr3 := hM.r
  have ho8 := hM.o
  have h1 : g.S.length * 40 ≤ MX := by unfold MX; omega
  have h2 : ∀ y ∈ g.S, y.F.length * 40 ≤ MX := fun y hy => by have := hs5 y hy; unfold MX; omega
  simp only [tmps0, Nat.reduceAdd]
  refine CW.seq (.rg (.run htt 4 (by simp only [go_sem, simprocAttr, eGraph, eStep]; exact rfl) (by simp [go_sem, simprocAttr, eGraph, eStep]) (.done ?_)))
  refine CW.seq (.seq (.rg (.run htt 1 (by simp only [go_sem, simprocAttr, eGraph]; exact rfl) (by simp [go_sem, simprocAttr, eGraph]) ?_)))
  refine CWops.call (graph_May up g) (by simp only [go_sem, simprocAttr, eGraph]) (by simp only [go_sem, simprocAttr, eGraph] <;> exact rfl) (by simp only [go_sem, simprocAttr, eGraph]) (fun rt12 hrt12 => ?_)
  subst hrt12; refine ⟨rfl, ?_⟩
  refine CWops.run htt 1 (by simp only [go_sem, simprocAttr, eGraph]; exact rfl) (by simp [go_sem, simprocAttr, eGraph]) (.done ?_)
  refine CW.cd (fun ct13 => ?_) (fun ct13 => ?_)
  · rw [hm] at ct13; cases ct13 
  · refine CW.skip ?_
    refine CW.seq (.rg (.run htt 3 (by simp only [go_sem, simprocAttr, eGraph, eStep]; exact rfl) (by simp [go_sem, simprocAttr, eGraph, eStep]) ?_))
    refine CWops.callG [] rfl (doG_err up g.S x h1 h2 h0) (by simp only [go_sem, simprocAttr]) (by simp only [go_sem, simprocAttr] <;> exact rfl) (by decide) (by simp [go_sem, simprocAttr, mName, memB]) (by simp [go_sem, simprocAttr, mName]) (by simp [go_sem, simprocAttr]) (by simp [go_sem, simprocAttr]) (by simp [go_sem, simprocAttr, mName, eSchema, eStep]) (fun r σ' hσ => ?_)
    obtain ⟨σn, σt, σs⟩ := σ'
    simp only at hσ
    obtain ⟨rfl, rfl, rfl⟩ := hσ
    simp only [aftS, renS, delAll, memB, mName, List.getD_nil, killH, kref, ren, Nat.beq_eq, go_sem, simprocAttr, eWork]
    refine CWops.run htt 5 (by simp only [go_sem, simprocAttr, eGraph, eStep]; exact rfl) (by simp [go_sem, simprocAttr, eGraph, eStep]) (.done ?_)
    refine CW.seq (.seq (.rg (.rn htt 2 (.done ?_))))
    refine CW.cd (fun ct23 => ?_) (fun ct23 => ?_)
    · refine CW.seq (.rg (.rn htt 4 (.done ?_)))
      refine CW.ret ?_
      refine retQ.rt (by simp only [f20, go_sem, simprocAttr]; exact rfl) ?_
      refine ⟨_, ?_, rfl⟩
      have : gGrade g x = (⟨[], [], []⟩, (gDo g.S x).1) := by unfold gGrade; rw [if_neg (by rw [hm]; decide), if_neg h0]
      simp [leP, leL, this, eGraph]
    · exfalso; revert ct23; simp [h0]
theorem grade_Graph_ok (up : Bool) (g : Graph) (x : GStep) (hm : gMay g = true) (h0 : (gDo g.S x).1 = 0) : PCall prog up 20 [.agg (eGraph g), .agg (eStep x)] (· = .tup [.agg (eGraph (gGrade g x).1), .int .i64 (gGrade g x).2]) := by
  refine PCall.intro htt func20 (by kernel_rfl) rfl (Nat.le_of_ble_eq_true rfl) fun hl => ?_
  have hM := (may_iff g).1 hm
  have hsm := hM.small
  have hs4 := hsm.1
  have hs5 := hsm.2.1
  have hr3 := hM.r
  have ho8 := hM.o
  have h1 : g.S.length * 40 ≤ MX := by unfold MX; omega
  have h2 : ∀ y ∈ g.S, y.F.length * 40 ≤ MX := fun y hy => by have := hs5 y hy; unfold MX; omega
  have hdrop := grade_drop hm h0
  have hG : gGrade g x = (⟨(gDo g.S x).2.1, g.O.map (gradeO x (gDo g.S x).2.2.1 (gDo g.S x).2.2.2), g.Roots⟩, 0) := by unfold gGrade; rw [if_neg (by rw [hm]; decide), if_pos h0]
  rw [hG]
  have hdo := doG_ok up g.S x h1 h2 h0
  revert hdrop hdo
  generalize (gDo g.S x).2.1 = S2
  generalize (gDo g.S x).2.2.1 = t
  generalize (gDo g.S x).2.2.2 = at_
  intro hdrop hdo
  simp only [tmps0, Nat.reduceAdd]
  refine CW.seq (.rg (.run htt 4 (by simp only [go_sem, simprocAttr, eGraph, eStep]; exact rfl) (by simp [go_sem, simprocAttr, eGraph, eStep]) (.done ?_)))
  refine CW.seq (.seq (.rg (.run htt 1 (by simp only [go_sem, simprocAttr, eGraph]; exact rfl) (by simp [go_sem, simprocAttr, eGraph]) ?_)))
  refine CWops.call (graph_May up g) (by simp only [go_sem, simprocAttr, eGraph]) (by simp only [go_sem, simprocAttr, eGraph] <;> exact rfl) (by simp only [go_sem, simprocAttr, eGraph]) (fun rt12 hrt12 => ?_)
  subst hrt12; refine ⟨rfl, ?_⟩
  refine CWops.run htt 1 (by simp only [go_sem, simprocAttr, eGraph]; exact rfl) (by simp [go_sem, simprocAttr, eGraph]) (.done ?_)
  refine CW.cd (fun ct13 => ?_) (fun ct13 => ?_)
  · rw [hm] at ct13; cases ct13 
  · refine CW.skip ?_
    refine CW.seq (.rg (.run htt 3 (by simp only [go_sem, simprocAttr, eGraph, eStep]; exact rfl) (by simp [go_sem, simprocAttr, eGraph, eStep]) ?_))
    refine CWops.callG [] rfl (hdo) (by simp only [go_sem, simprocAttr]) (by simp only [go_sem, simprocAttr] <;> exact rfl) (by decide) (by simp [go_sem, simprocAttr, mName, memB]) (by simp [go_sem, simprocAttr, mName]) (by simp [go_sem, simprocAttr]) (by simp [go_sem, simprocAttr]) (by simp [go_sem, simprocAttr, mName, eSchema, eStep]) (fun r σ' hσ => ?_)
    obtain ⟨σn, σt, σs⟩ := σ'
    simp only at hσ
    obtain ⟨rfl, rfl, rfl⟩ := hσ
    simp only [aftS, renS, delAll, memB, mName, List.getD_nil, killH, kref, ren, Nat.beq_eq, go_sem, simprocAttr, eWork]
    refine CWops.run htt 5 (by simp only [go_sem, simprocAttr, eGraph, eStep]; exact rfl) (by simp [go_sem, simprocAttr, eGraph, eStep]) (.done ?_)
    refine CW.seq (.seq (.rg (.rn htt 2 (.done ?_))))
    refine CW.cd (fun ct23 => ?_) (fun ct23 => ?_)
    · simp at ct23 
    · refine CW.skip ?_
      refine CW.seq ?_
      refine CW.drawn mixed 9 (by decide) (by kernel_rfl) (by kernel_rfl) (by kernel_rfl) ?_
      refine Seg.run htt 6 (by simp only [go_sem, simprocAttr, eGraph, eWork]; exact rfl) ?_
      refine Seg.callA (clone_Int up g.Roots (by unfold MX; omega)) (by simp only [go_sem, simprocAttr, eGraph, eWork]) (by simp only [go_sem, simprocAttr, eGraph, eWork] <;> exact rfl) (by simp only [go_sem, simprocAttr, eGraph, eWork]) (by simp only [go_sem, simprocAttr, eGraph, eWork]) ?_
      refine Seg.run htt 2 (by simp only [go_sem, simprocAttr, eGraph, eWork]; exact rfl) ?_
      refine Seg.done ?_
      refine CWops.run htt 1 (by simp only [go_sem, simprocAttr, eGraph, eWork]; exact rfl) (by simp [go_sem, simprocAttr, eGraph, eWork]) (.done ?_)
      refine CW.seq (.seq (.rg (.run htt 4 (by simp only [go_sem, simprocAttr, eGraph]; exact rfl) (by simp [go_sem, simprocAttr, eGraph]) (.done ?_))))
      refine CW.block ?_
      refine CW.loop (S := Nat) (fun i => ⟨6, [(2, .lv 0 [] 0), (3, .lv 1 [] 0), (4, .lv 2 [] 0), (6, .lv 4 [] 0), (8, .lv 5 [] 0), (35, .sl 3 (g.O.map eObj)), (36, .int .i64 g.O.length), (37, .int .i64 i)], [(0, ⟨true, eGraph g⟩), (1, ⟨true, eStep x⟩), (2, ⟨true, [.nilsl, .nilsl, .nilsl]⟩), (4, ⟨true, [.undef, .int .i64 x.Do, .str x.Ty, .str x.F.Name, .int .i64 x.F.Kind, .str x.F.To, .int .i64 (t : Int), .int .i64 at_]⟩), (5, ⟨true, [.own 2 (List.map eTypeO S2), .own 3 (List.map eObj (List.map (gradeO x t at_) (g.O.take i))), .sl 1 (g.Roots.map eI)]⟩)]⟩) (fun i => i ≤ g.O.length) (fun i => g.O.length - i) (0) ?_ (Nat.zero_le _) (fun i h3 => ?_)
      · refine Sh.trans (Sh.nilCell 5 [] 1 3 (by simp [go_sem, simprocAttr]) rfl) (Sh.wk0 ?_); simp [Wk, go_sem, simprocAttr, eGraph, eStep, eWork]
      refine CW.seq (.rg (.rn htt 1 (.done ?_)))
      refine CW.seq ?_
      refine CW.cd (fun ct38 => ?_) (fun ct38 => ?_)
      · have hi : i < g.O.length := by simpa using ct38
        obtain ⟨o, ho⟩ : ∃ x, g.O[i]? = some x := ⟨g.O[i], List.getElem?_eq_getElem hi⟩
        have ho5 := hsm.2.2 o (List.mem_of_getElem? ho)
        refine CW.skip ?_
        refine CW.seq ?_
        refine CW.block ?_
        refine CW.seq (.rg (.run htt 4 (by simp only [go_sem, simprocAttr, hi, ho, eObj]; exact rfl) (by simp [go_sem, simprocAttr, hi, ho, eObj]) (.done ?_)))
        refine CW.seq (.rg (.rn htt 2 ?_))
        refine CWops.callG [] rfl (clone_ValG up o.F (by unfold MX; omega)) (by simp only [go_sem, simprocAttr]) (by simp only [go_sem, simprocAttr] <;> exact rfl) (by decide) (by simp [go_sem, simprocAttr, mName, memB]) (by simp [go_sem, simprocAttr, mName]) (by simp [go_sem, simprocAttr]) (by simp [go_sem, simprocAttr]) (by simp [go_sem, simprocAttr, mName, eObj]) (fun r σ' hσ => ?_)
        obtain ⟨σn, σt, σs⟩ := σ'
        simp only at hσ
        obtain ⟨rfl, rfl, rfl⟩ := hσ
        simp only [aftS, renS, delAll, memB, mName, List.getD_nil, killH, kref, ren, Nat.beq_eq, go_sem, simprocAttr]
        refine CWops.rn htt 2 (.done ?_)
        refine CW.seq ?_
        refine CW.block ?_
        refine CW.seq ?_
        refine CW.drawn mixed 6 (by decide) (by kernel_rfl) (by kernel_rfl) (by kernel_rfl) ?_
        refine Seg.run htt 6 (by simp only [go_sem, simprocAttr, eStep]; exact rfl) ?_
        refine Seg.done ?_
        refine CWops.run htt 2 (by simp only [go_sem, simprocAttr, eStep]; exact rfl) (by simp [go_sem, simprocAttr, eStep]) (.done ?_)
        refine CW.cd (fun ct45 => ?_) (fun ct45 => ?_)
        · have hT : ¬ o.T = t := by simpa using ct45
          refine CW.skip ?_
          refine CW.sh (Sh.frz 6 2 rfl rfl) ?_
          simp only [go_sem, simprocAttr]
          refine CW.rg ?_
          refine CWops.run htt 7 (by simp only [go_sem, simprocAttr, List.replicate]; exact rfl) (by simp [AV.cell, AV.tree, MX] <;> omega) ?_
          refine CWops.done ?_
          refine CW.rg (.run htt 2 (by simp only [go_sem, simprocAttr, wrap_succ (show i < MX by unfold MX; omega)]; exact rfl) (by simp [go_sem, simprocAttr, wrap_succ (show i < MX by unfold MX; omega)]) (.done ?_))
          refine ⟨i + 1, ?_, ?_, ?_⟩
          · refine Sh.wk0 ?_
            dsimp only
            first | (simp [Wk, go_sem, simprocAttr, List.take_add_one, ho, gradeO, hT, eObj, eGraph, eStep]; done) | (simp [Wk, go_sem, simprocAttr, List.take_add_one, ho, gradeO, hT, gradeF, hd0, eObj, eGraph, eStep]; done) | (simp [Wk, go_sem, simprocAttr, List.take_add_one, ho, gradeO, hT, gradeF, hd1, hqa, eObj, eGraph, eStep]; done) | (simp [Wk, go_sem, simprocAttr, List.take_add_one, ho, gradeO, hT, gradeF, hd0, hd1, eObj, eGraph, eStep]; done)
          · exact hi
          · simp only; omega
        · have hT : o.T = t := by simpa using ct45
          refine CW.seq (.rg (.run htt 4 (by simp only [go_sem, simprocAttr, eStep]; exact rfl) (by simp [go_sem, simprocAttr, eStep]) (.done ?_)))
          refine CW.cd (fun ct53 => ?_) (fun ct53 => ?_)
          · have hd0 : x.Do = 0 := by simpa using ct53
            refine CW.drawn mixed 6 (by decide) (by kernel_rfl) (by kernel_rfl) (by kernel_rfl) ?_
            refine Seg.run htt 4 (by simp only [go_sem, simprocAttr, eStep, eField, List.replicate]; exact rfl) ?_
            refine Seg.callA (value_Zero up x.F) (by simp only [go_sem, simprocAttr, eStep, eField, List.replicate]) (by simp only [go_sem, simprocAttr, eStep, eField, List.replicate] <;> exact rfl) (by simp only [go_sem, simprocAttr, eStep, eField, List.replicate]) (by simp only [go_sem, simprocAttr, eStep, eField, List.replicate]) ?_
            refine Seg.run htt 1 (by simp only [go_sem, simprocAttr, eStep, eField, List.replicate]; exact rfl) ?_
            refine Seg.done ?_
            refine CWops.run htt 3 (by simp only [go_sem, simprocAttr, eStep, eField, List.replicate]; exact rfl) (by unfold zeroV; split <;> simp [AV.cell, AV.tree, eVal, MX] <;> omega) ?_
            refine CWops.done ?_
            rw [show (List.map eVal o.F ++ [eVal (zeroV x.F)]) = List.map eVal (o.F ++ [zeroV x.F]) by simp]
            refine CW.sh (Sh.frz 6 2 rfl rfl) ?_
            simp only [go_sem, simprocAttr]
            refine CW.rg ?_
            refine CWops.run htt 7 (by simp only [go_sem, simprocAttr, List.replicate]; exact rfl) (by simp [AV.cell, AV.tree, MX] <;> omega) ?_
            refine CWops.done ?_
            refine CW.rg (.run htt 2 (by simp only [go_sem, simprocAttr, wrap_succ (show i < MX by unfold MX; omega)]; exact rfl) (by simp [go_sem, simprocAttr, wrap_succ (show i < MX by unfold MX; omega)]) (.done ?_))
            refine ⟨i + 1, ?_, ?_, ?_⟩
            · refine Sh.wk0 ?_
              dsimp only
              first | (simp [Wk, go_sem, simprocAttr, List.take_add_one, ho, gradeO, hT, eObj, eGraph, eStep]; done) | (simp [Wk, go_sem, simprocAttr, List.take_add_one, ho, gradeO, hT, gradeF, hd0, eObj, eGraph, eStep]; done) | (simp [Wk, go_sem, simprocAttr, List.take_add_one, ho, gradeO, hT, gradeF, hd1, hqa, eObj, eGraph, eStep]; done) | (simp [Wk, go_sem, simprocAttr, List.take_add_one, ho, gradeO, hT, gradeF, hd0, hd1, eObj, eGraph, eStep]; done)
            · exact hi
            · simp only; omega
          · have hd0 : ¬ x.Do = 0 := by simpa using ct53
            refine CW.seq (.rg (.run htt 4 (by simp only [go_sem, simprocAttr, eStep]; exact rfl) (by simp [go_sem, simprocAttr, eStep]) (.done ?_)))
            refine CW.cd (fun ct65 => ?_) (fun ct65 => ?_)
            · have hd1 : x.Do = 1 := by simpa using ct65
              obtain ⟨q, hqa, hqo⟩ := hdrop hd1 o (List.mem_of_getElem? ho) hT
              subst hqa
              have hqa := (rfl : (q : Int) = q)
              have hw1 : IntKind.i64.wrap ((q : Int) + 1) = (q : Int) + 1 := by have := @wrap_succ q (by unfold MX; omega); rw [this]; omega
              refine CW.drawn mixed 11 (by decide) (by kernel_rfl) (by kernel_rfl) (by kernel_rfl) ?_
              refine Seg.run htt 11 (by simp only [go_sem, simprocAttr, eStep, hw1]; exact rfl) ?_
              refine Seg.done ?_
              refine CWops.sh (Sh.outP 70 6 [] 2 (n := 3) (rows := o.F.map eVal) (by simp only [go_sem, simprocAttr]) (by simp only [go_sem, simprocAttr]) rfl) ?_
              simp only [go_sem, simprocAttr]
              refine CWops.callG [8] rfl (delete_Val up o.F q hqo) (by simp only [go_sem, simprocAttr]) (by simp only [go_sem, simprocAttr] <;> exact rfl) (by decide) (by simp [go_sem, simprocAttr, mName, memB]) (by simp [go_sem, simprocAttr, mName]) (by simp [go_sem, simprocAttr]) (by simp [go_sem, simprocAttr]) (by simp [go_sem, simprocAttr, mName]) (fun r σ' hσ => ?_)
              obtain ⟨σn, σt, σs⟩ := σ'
              simp only at hσ
              obtain ⟨rfl, rfl, rfl⟩ := hσ
              simp only [aftS, renS, delAll, memB, mName, List.getD_nil, killH, kref, ren, Nat.beq_eq, go_sem, simprocAttr]
              refine CWops.run htt 2 (by simp only [go_sem, simprocAttr, eStep, hw1]; exact rfl) (by simp [go_sem, simprocAttr, eStep, hw1]) (.done ?_)
              refine CW.sh (Sh.frz 6 2 rfl rfl) ?_
              simp only [go_sem, simprocAttr]
              refine CW.rg ?_
              refine CWops.run htt 7 (by simp only [go_sem, simprocAttr, List.replicate]; exact rfl) (by simp [AV.cell, AV.tree, MX] <;> omega) ?_
              refine CWops.done ?_
              refine CW.rg (.run htt 2 (by simp only [go_sem, simprocAttr, wrap_succ (show i < MX by unfold MX; omega)]; exact rfl) (by simp [go_sem, simprocAttr, wrap_succ (show i < MX by unfold MX; omega)]) (.done ?_))
              refine ⟨i + 1, ?_, ?_, ?_⟩
              · refine Sh.wk0 ?_
                dsimp only
                first | (simp [Wk, go_sem, simprocAttr, List.take_add_one, ho, gradeO, hT, eObj, eGraph, eStep]; done) | (simp [Wk, go_sem, simprocAttr, List.take_add_one, ho, gradeO, hT, gradeF, hd0, eObj, eGraph, eStep]; done) | (simp [Wk, go_sem, simprocAttr, List.take_add_one, ho, gradeO, hT, gradeF, hd1, hqa, eObj, eGraph, eStep]; done) | (simp [Wk, go_sem, simprocAttr, List.take_add_one, ho, gradeO, hT, gradeF, hd0, hd1, eObj, eGraph, eStep]; done)
              · exact hi
              · simp only; omega
            · have hd1 : ¬ x.Do = 1 := by simpa using ct65
              refine CW.skip ?_
              refine CW.sh (Sh.frz 6 2 rfl rfl) ?_
              simp only [go_sem, simprocAttr]
              refine CW.rg ?_
              refine CWops.run htt 7 (by simp only [go_sem, simprocAttr, List.replicate]; exact rfl) (by simp [AV.cell, AV.tree, MX] <;> omega) ?_
              refine CWops.done ?_
              refine CW.rg (.run htt 2 (by simp only [go_sem, simprocAttr, wrap_succ (show i < MX by unfold MX; omega)]; exact rfl) (by simp [go_sem, simprocAttr, wrap_succ (show i < MX by unfold MX; omega)]) (.done ?_))
              refine ⟨i + 1, ?_, ?_, ?_⟩
              · refine Sh.wk0 ?_
                dsimp only
                first | (simp [Wk, go_sem, simprocAttr, List.take_add_one, ho, gradeO, hT, eObj, eGraph, eStep]; done) | (simp [Wk, go_sem, simprocAttr, List.take_add_one, ho, gradeO, hT, gradeF, hd0, eObj, eGraph, eStep]; done) | (simp [Wk, go_sem, simprocAttr, List.take_add_one, ho, gradeO, hT, gradeF, hd1, hqa, eObj, eGraph, eStep]; done) | (simp [Wk, go_sem, simprocAttr, List.take_add_one, ho, gradeO, hT, gradeF, hd0, hd1, eObj, eGraph, eStep]; done)
              · exact hi
              · simp only; omega
      · have hi : i = g.O.length := by simp at ct38; omega
        rw [hi, List.take_length]
        refine CW.exit ?_
        refine CW.seq (.rg (.rn htt 3 (.done ?_)))
        refine CW.ret ?_
        refine retQ.rt (by simp only [f20, go_sem, simprocAttr]; exact rfl) ?_
        refine ⟨_, ?_, rfl⟩
        simp [leP, leL, eGraph]
@[go_sem] theorem tt_109 : tiOf prog 109 = some ⟨.slice 67, 1, 24, [.nilsl], false⟩ := by kernel_rfl
@[go_sem] theorem tt_203 : tiOf prog 203 = some ⟨.slice 109, 1, 24, [.nilsl], false⟩ := by kernel_rfl
open Go.RowKit
theorem inf67 : (prog.info? 67).map (fun i => (i.zero, i.size, i.bytes)) = some (some (.agg #[.int .i64 0, .string ⟨#[]⟩, .string ⟨#[]⟩, .int .i64 0, .string ⟨#[]⟩]), 5, 64) := by kernel_rfl
theorem grow_none (w : World) : Calls prog 123 #[.slice none 0 0, .int .i64 0] w fun e w' => e = .returned (.slice none 0 0) ∧ w' = w := by
  go_enter func123, ntmps123
  go_wp2
  go_ret
  exact ⟨rfl, rfl⟩
theorem grow_some (n : Nat) (w : World) (hn : 0 < n) (hbig : n * 64 ≤ 140737488355328) :
    ∃ (cap : Nat) (vs : Array Value), vs.size = cap * 5 ∧ cap ≤ maxLen ∧ Calls prog 123 #[.slice none 0 0, .int .i64 n] w fun e w' => e = .returned (.slice (some ⟨w.heap.size, 0, none⟩) 0 cap) ∧ w' = w.drew.alloc (.cells vs 67) := by
  obtain ⟨i0, hi0, hz0, hz1, hz2⟩ := info_parts inf67
  have h1 : ¬ ((n : Int) < 0) := by omega
  have h4 : (n : Int) > 0 := by omega
  have hrz : ∀ ty, (Builtin.append_ #[109, 3] ty #[.slice none 0 0, .int .i64 (n : Int)]).run prog w =
      .ok (.slice (some ⟨w.heap.size, 0, none⟩) n (grownCap w n 0 67)) (w.drew.alloc (.cells (#[] ++ Builtin.zeroCells (Value.cells (.agg #[.int .i64 0, .string ⟨#[]⟩, .string ⟨#[]⟩, .int .i64 0, .string ⟨#[]⟩])) n ++ Builtin.zeroCells (Value.cells (.agg #[.int .i64 0, .string ⟨#[]⟩, .string ⟨#[]⟩, .int .i64 0, .string ⟨#[]⟩])) (grownCap w n 0 67 - n)) 67)) := fun ty => by
    have h := Lib.run_append_grow_zeros w 109 3 ty 67 i0 _ .i64 .i64 underlying109 underlying3 hi0 hz0 none 0 0 [] (run_firstCells_none w.drew i0.size 0 0 0) n hn (by rw [hz1]; decide) (by omega) (by omega) (by rw [hz2]; omega) (growslice_fits (by omega) (by rw [hz2]; omega))
    simpa only [Nat.zero_add] using h
  have hGn : n ≤ grownCap w n 0 67 := grownCap_ge w _ _ _
  have hG63 := grownCap_le_maxLen w n 0 67 (by unfold maxLen; omega)
  obtain ⟨G, hG⟩ : ∃ G, G = grownCap w n 0 67 := ⟨_, rfl⟩
  rw [← hG] at hrz hGn hG63
  obtain ⟨vs, hvs⟩ : ∃ vs, vs = (#[] ++ Builtin.zeroCells (Value.cells (.agg #[.int .i64 0, .string ⟨#[]⟩, .string ⟨#[]⟩, .int .i64 0, .string ⟨#[]⟩])) n ++ Builtin.zeroCells (Value.cells (.agg #[.int .i64 0, .string ⟨#[]⟩, .string ⟨#[]⟩, .int .i64 0, .string ⟨#[]⟩])) (G - n)) := ⟨_, rfl⟩
  have hsz : vs.size = G * 5 := by
    have h5 : (Value.cells (.agg #[.int .i64 0, .string ⟨#[]⟩, .string ⟨#[]⟩, .int .i64 0, .string ⟨#[]⟩])).size = 5 := by kernel_rfl
    rw [hvs]; simp [Builtin.zeroCells, h5]; omega
  rw [← hvs] at hrz
  clear hvs hG
  have hG9 : G ≤ 9223372036854775807 := by unfold maxLen at hG63; omega
  refine ⟨G, vs, hsz, hG63, ?_⟩
  go_enter func123, ntmps123
  go_wp2_with (at_builtin; refine Lib.wpList_append_run _ rfl _ _ _ _ rfl _ _ rfl rfl _ _ (hrz _) ?_)
  all_goals (go_ret; exact ⟨rfl, rfl⟩)
theorem grow_Step (up : Bool) (n : Nat) (hbig : n * 64 ≤ 140737488355328) : GCall prog up 123 [.nilsl, .int .i64 (n : Int)] 0 [] (fun r σ' => r = .ref 0 [] 0 ∧ σ'.n = 1 ∧ σ'.s = [(0, ⟨false, [.own 5 []]⟩)]) := by
  refine ⟨⟨_, func123, by kernel_rfl, rfl⟩, fun w A G vs hA hinv hvl hrel => ?_⟩
  have hH : Holds A (GFp G) w 0 { n := 0, t := [], s := [] } ⟨#[], []⟩ w G := ⟨hinv, rfl, rfl, fun i hi => by omega, fun i _ => rfl, ⟨rfl, rfl, rfl, Nat.le_refl _, fun _ _ _ => rfl⟩, fun b hb => .inl hb, hA⟩
  obtain ⟨v0, v1, rfl⟩ : ∃ v0 v1, vs = [v0, v1] := by
    match vs, hvl with
    | [a, b], _ => exact ⟨a, b, rfl⟩
  have e0 : v0 = .slice none 0 0 := (hrel 0 _ rfl).nilsl_inv
  have e1 : v1 = .int .i64 (n : Int) := (hrel 1 _ rfl).int_inv
  subst e0 e1
  have hsep : ∀ v : Value, Sep (.own 5 v []) := fun v => .own _ _ _ (fun i r jj g hr => by simp at hr) (fun i r jj g hr => by simp at hr) (fun i r jj g i' r' j' g' hr => by simp at hr)
  rcases Nat.eq_zero_or_pos n with h | h
  · subst h
    refine (grow_none w).mono fun e w' he => ?_
    obtain ⟨rfl, rfl⟩ := he
    obtain ⟨G', q1, q2⟩ := hH.newDet (.own 5 (.slice none 0 0) []) (w' := w') (fun _ _ => rfl) ⟨rfl, rfl, rfl, Nat.le_refl _⟩ rfl (hsep _) (fun k hk => by cases hk with | own _ _ _ i r jj g _ hr => simp at hr) (fun A _ => .onil 5)
    exact ⟨_, G', .ref 0 [] 0, ⟨rfl, rfl, by simp [GT.er]⟩, q1.inv, q2, q1.fr, q1.own, fun x g g' hx => absurd hx (Nat.not_lt_zero x), fun x hx => by cases hx⟩
  · obtain ⟨cap, vs, hs, hcap, hc⟩ := grow_some n w h hbig
    refine hc.mono fun e w' he => ?_
    obtain ⟨rfl, rfl⟩ := he
    have hheap : (w.drew.alloc (.cells vs 67)).heap[w.heap.size]? = some (.cells vs 67 (0, 0)) := Go.heap_alloc_new w.drew _
    obtain ⟨G', q1, q2⟩ := hH.newDet (.own 5 (.slice (some ⟨w.heap.size, 0, none⟩) ([] : List (List GT)).length cap) []) (w' := w.drew.alloc (.cells vs 67)) (fun b hb => Below.heap_alloc w.drew _ b hb) ⟨rfl, rfl, rfl, by show w.heap.size ≤ (w.heap.push _).size; simp⟩ rfl (hsep _) (fun k hk => by
        cases hk with
        | own0 => exact Nat.le_refl _
        | own _ _ _ i r jj g _ hr => simp at hr) (fun A _ => .own 5 _ cap vs _ [] hheap hs (Nat.zero_le _) hcap (Nat.zero_le _) (fun i r hr => by simp at hr) (fun i r jj g hr => by simp at hr) (fun i r jj g hr => by simp at hr))
    exact ⟨_, G', .ref 0 [] 0, ⟨rfl, rfl, by simp [GT.er]⟩, q1.inv, q2, q1.fr, q1.own, fun x g g' hx => absurd hx (Nat.not_lt_zero x), fun x hx => by cases hx⟩
theorem concat_Step (up : Bool) (L : List (List GStep)) (hL : L.length ≤ 1000) (hb : L.flatten.length * 64 ≤ MX) : PCall prog up 111 [.sl 1 (L.map eSteps)] (· = .sl 5 (L.flatten.map eStep)) := by
  refine PCall.intro htt func111 (by kernel_rfl) rfl (Nat.le_of_ble_eq_true rfl) fun hl => ?_

  simp only [tmps0, Nat.reduceAdd]
  refine CW.seq (.rg (.rn htt 1 (.done ?_)))
  refine CW.seq (.rg (.rn htt 1 (.done ?_)))
  refine CW.seq (.seq (.rg (.rn htt 3 (.done ?_))))
  refine CW.block ?_
  refine CW.loop (S := Nat) (fun i => ⟨0, [(0, .sl 1 (L.map eSteps)), (3, .int .i64 (((L.take i).flatten).length : Int)), (9, .sl 1 (L.map eSteps)), (10, .int .i64 L.length), (11, .int .i64 i)], []⟩) (fun i => i ≤ L.length) (fun i => L.length - i) (0) ?_ (Nat.zero_le _) (fun i h1 => ?_)
  · refine Sh.wk0 ?_; simp [Wk, go_sem, simprocAttr]
  refine CW.seq (.rg (.rn htt 1 (.done ?_)))
  refine CW.seq ?_
  refine CW.cd (fun ct12 => ?_) (fun ct12 => ?_)
  · have hi : i < L.length := by simpa using ct12
    obtain ⟨l, hl0⟩ : ∃ l, L[i]? = some l := ⟨L[i], List.getElem?_eq_getElem hi⟩
    have hs := flat_succ hl0
    have hle := flat_le (L := L) (i + 1)
    rw [hs, List.length_append] at hle
    have hw : IntKind.i64.wrap ((((L.take i).flatten).length : Int) + (l.length : Int)) = ((((L.take i).flatten).length + l.length : Nat) : Int) := wrap_add (by omega)
    refine CW.skip ?_
    refine CW.seq ?_
    refine CW.block ?_
    refine CW.seq (.rg (.run htt 3 (by simp only [go_sem, simprocAttr, hi, hl0, eSteps]; exact rfl) (by simp [go_sem, simprocAttr, hi, hl0, eSteps]) (.done ?_)))
    refine CW.seq (.rg (.run htt 5 (by simp only [go_sem, simprocAttr, hw]; exact rfl) (by simp [go_sem, simprocAttr, hw]) (.done ?_)))
    refine CW.seq (.rg (.rn htt 2 (.done ?_)))
    refine CW.cd (fun ct20 => ?_) (fun ct20 => ?_)
    · exfalso; revert ct20; simp <;> omega 
    · refine CW.skip ?_
      refine CW.rg (.run htt 2 (by simp only [go_sem, simprocAttr, wrap_succ (show i < MX by unfold MX; omega)]; exact rfl) (by simp [go_sem, simprocAttr, wrap_succ (show i < MX by unfold MX; omega)]) (.done ?_))
      refine ⟨i + 1, ?_, ?_, ?_⟩
      · refine Sh.wk0 ?_
        dsimp only
        rw [hs]; simp [Wk, go_sem, simprocAttr]
      · exact hi
      · simp only; omega
  · have hi : i = L.length := by simp at ct12; omega
    rw [hi, List.take_length]
    refine CW.exit ?_
    refine CW.seq (.rg (.rn htt 1 ?_))
    refine CWops.callG [] rfl (grow_Step up L.flatten.length (by unfold MX at hb; omega)) (by simp only [go_sem, simprocAttr]) (by simp only [go_sem, simprocAttr] <;> exact rfl) (by decide) (by simp [go_sem, simprocAttr, mName, memB]) (by simp [go_sem, simprocAttr, mName]) (by simp [go_sem, simprocAttr]) (by simp [go_sem, simprocAttr]) (by simp [go_sem, simprocAttr, mName, eGraph]) (fun r σ' hσ => ?_)
    obtain ⟨σn, σt, σs⟩ := σ'
    simp only at hσ
    obtain ⟨rfl, rfl, rfl⟩ := hσ
    simp only [aftS, renS, delAll, memB, mName, List.getD_nil, killH, kref, ren, Nat.beq_eq, go_sem, simprocAttr]
    refine CWops.rn htt 1 (.done ?_)
    refine CW.seq (.seq (.rg (.rn htt 3 (.done ?_))))
    refine CW.block ?_
    refine CW.loop (S := Nat) (fun i => ⟨1, [(0, .sl 1 (L.map eSteps)), (6, .ref 0 [] 0), (25, .sl 1 (L.map eSteps)), (26, .int .i64 L.length), (27, .int .i64 i)], [(0, ⟨false, [.own 5 (((L.take i).flatten).map eStep)]⟩)]⟩) (fun i => i ≤ L.length) (fun i => L.length - i) (0) ?_ (Nat.zero_le _) (fun i h2 => ?_)
    · refine Sh.wk0 ?_; simp [Wk, go_sem, simprocAttr]
    refine CW.seq (.rg (.rn htt 1 (.done ?_)))
    refine CW.seq ?_
    refine CW.cd (fun ct28 => ?_) (fun ct28 => ?_)
    · have hi : i < L.length := by simpa using ct28
      obtain ⟨l, hl0⟩ : ∃ l, L[i]? = some l := ⟨L[i], List.getElem?_eq_getElem hi⟩
      have hs := flat_succ hl0
      have hle := flat_le (L := L) (i + 1)
      rw [hs, List.length_append] at hle
      refine CW.skip ?_
      refine CW.seq ?_
      refine CW.block ?_
      refine CW.seq (.rg (.run htt 3 (by simp only [go_sem, simprocAttr, hi, hl0, eSteps]; exact rfl) (by simp [go_sem, simprocAttr, hi, hl0, eSteps]) (.done ?_)))
      refine CW.rg ?_
      refine CWops.run htt 4 (by simp only [go_sem, simprocAttr]; exact rfl) (by refine ⟨?_, ?_, ?_⟩ <;> first | (simp [eStep, AV.cell]; done) | (simp only [List.length_map]; omega) | (simp at hle ⊢; simp at hb; omega)) ?_
      refine CWops.done ?_
      refine CW.rg (.run htt 2 (by simp only [go_sem, simprocAttr, wrap_succ (show i < MX by unfold MX; omega)]; exact rfl) (by simp [go_sem, simprocAttr, wrap_succ (show i < MX by unfold MX; omega)]) (.done ?_))
      refine ⟨i + 1, ?_, ?_, ?_⟩
      · refine Sh.wk (fun x => x + 1) ?_
        dsimp only
        rw [hs]; simp [Wk, go_sem, simprocAttr]
      · exact hi
      · simp only; omega
    · have hi : i = L.length := by simp at ct28; omega
      rw [hi, List.take_length]
      refine CW.exit ?_
      refine CW.seq (.rg (.rn htt 2 (.done ?_)))
      refine CW.ret ?_
      refine retQ.rt (by simp only [f111, go_sem, simprocAttr]; exact rfl) ?_
      refine ⟨_, ?_, rfl⟩
      simp [leP, frz_Step]
end Go.Ab
