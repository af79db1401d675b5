/-
  Graphs, schemas and what is made of them as plain data, and their plain laws. No condition but those of each theorem.
-/
import Derived.WalkKit
import Derived.Below
import Derived.Scope
import Derived.Orders
import Derived.Still
import Derived.Maps.RangeRun
import Derived.Test.YtieabhancmkmhaaFa
import Derived.Test.YtieabhancmkmhaaFb
import Derived.Test.YtieabhancmkmhaaFc
import Derived.Test.YtieabhancmkmhaaFd
import Derived.Test.YtieabhancmkmhaaFe
import Derived.Test.YtieabhancmkmhaaFf
import Derived.Test.YtieabhancmkmhaaDa
set_option linter.unusedVariables false
set_option linter.unusedSimpArgs false
namespace Go.Ab
open Go Go.RowKit
theorem sSet_facts {g h : Graph} {id k : Int} {v : GVal} (he : gSet g id k v = (h, 0)) : May g ∧ May h ∧ ∃ (i q : Nat) (x : GObj) (w : GVal), fnd (fun o => decide (o.Id = id)) g.O = i ∧ g.O[i]? = some x ∧ x.Id = id ∧ objAt g id = some x ∧ k = q ∧ x.F[q]? = some w ∧ h = sSet g i x q v := by
  obtain ⟨hm, i, q, x, w, h1, h2, h3, h4, h5, _⟩ := set_ok he
  have hM := (may_iff g).1 hm
  have hH := (may_iff h).1 (by have := (set_facts hm id k v).1; rw [he] at this; exact this)
  refine ⟨hM, hH, i, q, x, w, h1, h2, ?_, ?_, h3, h4, h5⟩
  all_goals
    rcases find_cases (fun o : GObj => decide (o.Id = id)) g.O with ⟨f1, _, _⟩ | ⟨j, y, f1, f2, f3, _, f5⟩
    · rw [h1] at f1; omega
    · rw [h1] at f1
      have : j = i := by omega
      subst this
      rw [h2] at f2; cases f2
      first | exact of_decide_eq_true f5 | exact f3
theorem sSet_at' {g : Graph} (hg : May g) {i : Nat} {x : GObj} (hx : g.O[i]? = some x) (q : Nat) (v : GVal) (y : Int) : objAt (sSet g i x q v) y = (objAt g y).map fun o => if y = x.Id then ⟨x.Id, x.T, x.F.set q v⟩ else o := by
  cases ho : objAt g y with
  | some o => rw [sSet_findO hg hx q v ho]; rfl
  | none =>
    cases h : objAt (sSet g i x q v) y with
    | none => rfl
    | some z =>
      obtain ⟨hm, rfl⟩ := objAt_some h
      have := sSet_ids hx q v
      have h1 : (z.Id, z.T) ∈ g.O.map (fun o => (o.Id, o.T)) := by rw [← this]; exact List.mem_map_of_mem (f := fun o : GObj => (o.Id, o.T)) hm
      obtain ⟨u, hu, e⟩ := List.mem_map.1 h1
      have := hg.mem hu
      simp only [Prod.mk.injEq] at e
      rw [e.1] at this
      rw [ho] at this; cases this
theorem sSet_T {g : Graph} {i : Nat} {x : GObj} (hx : g.O[i]? = some x) (q : Nat) (v : GVal) {y : GObj} (hy : y ∈ (sSet g i x q v).O) : ∃ z ∈ g.O, z.Id = y.Id ∧ z.T = y.T := by
  have h1 : (y.Id, y.T) ∈ g.O.map (fun o => (o.Id, o.T)) := by rw [← sSet_ids hx q v]; exact List.mem_map_of_mem (f := fun o : GObj => (o.Id, o.T)) hy
  obtain ⟨u, hu, e⟩ := List.mem_map.1 h1
  simp only [Prod.mk.injEq] at e
  exact ⟨u, hu, e⟩
theorem May.sameT {g : Graph} (h : May g) {x y : GObj} (hx : x ∈ g.O) (hy : y ∈ g.O) (e : x.Id = y.Id) : x = y := by
  have h1 := h.mem hx
  have h2 := h.mem hy
  rw [e, h2] at h1; cases h1; rfl
theorem M3.sets {o a b : Graph} {id k j n : Int} {v w : GVal} (ha : gSet o id k v = (a, 0)) (hb : gSet o j n w = (b, 0)) : M3 o a b := by
  obtain ⟨mo, ma, i1, q1, x1, w1, _, x2, _, _, _, _, rfl⟩ := sSet_facts ha
  obtain ⟨_, mb, i3, q3, x3, w3, _, x4, _, _, _, _, rfl⟩ := sSet_facts hb
  refine ⟨mo, ma, mb, rfl, rfl, fun x hx y hy e => ?_, fun x hx y hy e => ?_, fun x hx y hy e => ?_, Nat.le_refl _, Nat.le_refl _⟩
  · obtain ⟨z, z1, z2, z3⟩ := sSet_T x2 _ _ hy
    rw [mo.sameT hx z1 (by omega)]; exact z3
  · obtain ⟨z, z1, z2, z3⟩ := sSet_T x2 _ _ hx
    obtain ⟨u, u1, u2, u3⟩ := sSet_T x4 _ _ hy
    rw [← z3, ← u3, mo.sameT z1 u1 (by omega)]
  · obtain ⟨z, z1, z2, z3⟩ := sSet_T x4 _ _ hy
    rw [mo.sameT hx z1 (by omega)]; exact z3
theorem live_small {o a b : Graph} (h : M3 o a b) (hs : ∀ id y, objAt b id = some y → ∃ x, objAt a id = some x) : (mLive o a b).length ≤ 8 := by
  have e : mL a b 2 = idsO a.O := by
    rw [mL_eq h.ma h.mb]
    have : (idsO b.O).filter (fun x => !decide (x ∈ idsO a.O)) = [] := by
      refine List.filter_eq_nil_iff.2 fun id hid => ?_
      obtain ⟨y, hy⟩ := (mem_idsO h.mb id).1 hid
      have := (mem_idsO h.ma id).2 (hs id y hy)
      simp [this]
    rw [this, List.append_nil]
  have h1 := (mLive_sub o a b).length_le
  have h2 : (mOs o a b (mL a b 2)).length = a.O.length := by rw [e]; simp [mOs, idsO]
  have := h.ma.o
  omega
theorem same_roots {o a b : Graph} (ha : a.Roots = o.Roots) (hb : b.Roots = o.Roots) (i : Nat) : rootAt a i = rootAt o i ∧ rootAt b i = rootAt o i := by
  unfold rootAt; rw [ha, hb]; exact ⟨rfl, rfl⟩
theorem mRC_same {o a b : Graph} (ha : a.Roots = o.Roots) (hb : b.Roots = o.Roots) (n : Nat) : mRC o a b n = [] := by
  unfold mRC
  rw [List.map_eq_nil_iff]
  refine List.filter_eq_nil_iff.2 fun i _ => ?_
  obtain ⟨e1, e2⟩ := same_roots ha hb i
  rw [e1, e2]
  have : (stand (rootAt o i) (rootAt o i) (rootAt o i)).2 = true := (stand_iff _ _ _).2 (.inl rfl)
  rw [this]; simp
theorem clash_sets {o a b : Graph} {id k : Int} {v w : GVal} (ha : gSet o id k v = (a, 0)) (hb : gSet o id k w = (b, 0)) :
    ∃ (i q : Nat) (x : GObj) (u : GVal), fnd (fun o => decide (o.Id = id)) o.O = i ∧ o.O[i]? = some x ∧ k = q ∧ x.F[q]? = some u ∧
      (((v = w ∨ v = u ∨ w = u) ∧ (gMerge o a b).2 = (noChange, 0) ∧ gMay (gMerge o a b).1 = true) ∨ (¬ (v = w ∨ v = u ∨ w = u) ∧ gMerge o a b = (⟨[], [], []⟩, ⟨[], [], [(id, k)], []⟩, 10))) := by
  have h := M3.sets ha hb
  obtain ⟨mo, ma, i, q, x, u, h1, h2, h3, h4, h5, h6, rfl⟩ := sSet_facts ha
  obtain ⟨_, mb, i', q', x', u', g1, g2, g3, g4, g5, g6, rfl⟩ := sSet_facts hb
  have ei : i' = i := by omega
  subst ei
  rw [h2] at g2; cases g2
  have eq : q' = q := by omega
  subst eq
  refine ⟨i', q', x, u, h1, h2, h5, h6, ?_⟩
  have hql := (List.getElem?_eq_some_iff.1 h6).1
  have hA : ∀ y, objAt (sSet o i' x q' v) y = (objAt o y).map fun o => if y = x.Id then ⟨x.Id, x.T, x.F.set q' v⟩ else o := sSet_at' mo h2 q' v
  have hB : ∀ y, objAt (sSet o i' x q' w) y = (objAt o y).map fun o => if y = x.Id then ⟨x.Id, x.T, x.F.set q' w⟩ else o := sSet_at' mo h2 q' w
  -- where they clash
  have hc : ∀ y z z', objAt (sSet o i' x q' v) y = some z → objAt (sSet o i' x q' w) y = some z' → ∀ j, mCB (hasId o y) (objD o y).F z.F z'.F j = decide (y = id ∧ j = q' ∧ ¬ (v = w ∨ v = u ∨ w = u)) := by
    intro y z z' hz hz' j
    rw [hA] at hz
    rw [hB] at hz'
    cases ho : objAt o y with
    | none => rw [ho] at hz; cases hz
    | some t =>
      rw [ho] at hz hz'
      simp only [Option.map_some, Option.some.injEq] at hz hz'
      rw [(objD_of ho).1, (objD_of ho).2]
      by_cases hy : y = x.Id
      · rw [if_pos hy] at hz hz'
        subst hz; subst hz'
        have ht : t = x := by rw [hy, h3, h4] at ho; cases ho; rfl
        subst ht
        by_cases hj : j < t.F.length
        · have hw : t.F[j]? = some t.F[j] := List.getElem?_eq_getElem hj
          by_cases hjq : j = q'
          · subst hjq
            have e1 : (t.F.set j v)[j]? = some v := List.getElem?_set_self hql
            have e2 : (t.F.set j w)[j]? = some w := List.getElem?_set_self hql
            rw [mCB_at e1 e2, show t.F.getD j v = u by simp [h6]]
            simp only [mFine, if_true]
            rw [Bool.eq_iff_iff, Bool.not_eq_true', ← Bool.not_eq_true, stand_iff, decide_eq_true_eq]
            constructor
            · intro hn; exact ⟨hy.trans h3, trivial, fun e => hn (by rcases e with e | e | e; exact .inr (.inr e); exact .inl e; exact .inr (.inl e))⟩
            · rintro ⟨_, _, hn⟩ e; exact hn (by rcases e with e | e | e; exact .inr (.inl e); exact .inr (.inr e); exact .inl e)
          · have e1 : (t.F.set q' v)[j]? = some t.F[j] := by rw [List.getElem?_set_ne (fun e => hjq e.symm)]; exact hw
            have e2 : (t.F.set q' w)[j]? = some t.F[j] := by rw [List.getElem?_set_ne (fun e => hjq e.symm)]; exact hw
            rw [mCB_at e1 e2]
            have : mFine true (t.F.getD j t.F[j]) t.F[j] t.F[j] = true := by simp only [mFine, if_true]; exact (stand_iff _ _ _).2 (.inr (.inr rfl))
            rw [this]; simp [hjq]
        · have e0 : ((t.F.set q' v)[j]? : Option GVal) = none := List.getElem?_eq_none (by simp; omega)
          have hjq : ¬ j = q' := by omega
          unfold mCB; rw [e0]; simp [hjq]
      · rw [if_neg hy] at hz hz'
        subst hz; subst hz'
        have hyi : ¬ y = id := fun e => hy (e.trans h3.symm)
        have : mCB true t.F t.F t.F j = false := by
          unfold mCB
          cases hv : t.F[j]? with
          | none => rfl
          | some z =>
            simp only
            have e9 : t.F.getD j z = z := by simp [hv]
            have : mFine true (t.F.getD j z) z (t.F.getD j z) = true := by rw [e9]; simp only [mFine, if_true]; exact (stand_iff _ _ _).2 (.inl rfl)
            rw [this]; rfl
        rw [this]; simp [hyi]
  have hx1 : objAt (sSet o i' x q' v) id = some ⟨x.Id, x.T, x.F.set q' v⟩ := by rw [hA, h4]; simp [h3]
  have hx2 : objAt (sSet o i' x q' w) id = some ⟨x.Id, x.T, x.F.set q' w⟩ := by rw [hB, h4]; simp [h3]
  by_cases hcl : v = w ∨ v = u ∨ w = u
  · left
    refine ⟨hcl, ?_⟩
    have hf : Fine o (sSet o i' x q' v) (sSet o i' x q' w) := by
      refine ⟨fun y z z' hz hz' j => by rw [hc y z z' hz hz' j]; simp [hcl], fun i _ => ?_⟩
      exact (stand_iff _ _ _).2 (.inl rfl)
    have hn := h.fine.2 hf
    have hl := live_small h fun y z' hz' => by
      rw [hB] at hz'
      rw [hA]
      cases ho : objAt o y with
      | none => rw [ho] at hz'; cases hz'
      | some t => exact ⟨_, rfl⟩
    rw [gMerge_ok h.check hn hl]
    exact ⟨rfl, (may_iff _).2 (h.res_may hl)⟩
  · right
    refine ⟨hcl, ?_⟩
    have hset : mSet o (sSet o i' x q' v) (sSet o i' x q' w) (mL (sSet o i' x q' v) (sSet o i' x q' w) 2) = [(id, k)] := by
      have hnd : (comm (sSet o i' x q' v) (sSet o i' x q' w)).Nodup := (idsO_nodup ma).filter _
      have hin : id ∈ comm (sSet o i' x q' v) (sSet o i' x q' w) := by
        unfold comm
        exact List.mem_filter.2 ⟨(mem_idsO ma id).2 ⟨_, hx1⟩, (objD_of hx2).2⟩
      rw [h.mSet_comm]
      have one : ∀ {l : List Int} {f : Int → List (Int × Int)}, l.Nodup → id ∈ l → (∀ y ∈ l, y ≠ id → f y = []) → l.flatMap f = f id := by
        intro l f
        induction l with
        | nil => intro _ h; cases h
        | cons y l ih =>
          intro hn hi hf
          rw [List.nodup_cons] at hn
          rw [List.flatMap_cons]
          rcases List.mem_cons.1 hi with rfl | hi
          · have : l.flatMap f = [] := by
              rw [List.flatMap_eq_nil_iff]
              intro z hz
              exact hf z (List.mem_cons_of_mem _ hz) (fun e => hn.1 (e ▸ hz))
            rw [this, List.append_nil]
          · rw [hf y List.mem_cons_self (fun e => hn.1 (e ▸ hi)), List.nil_append]
            exact ih hn.2 hi fun z hz => hf z (List.mem_cons_of_mem _ hz)
      rw [one hnd hin fun y _ hy => ?_]
      · rw [mObj_ab hx1 hx2]
        have : mClash (hasId o id) (objD o id).F (x.F.set q' v) (x.F.set q' w) (x.F.set q' v).length = [(q' : Int)] := by
          unfold mClash
          have e : ∀ n, (List.range n).filter (mCB (hasId o id) (objD o id).F (x.F.set q' v) (x.F.set q' w)) = if q' < n then [q'] else [] := by
            intro n
            induction n with
            | zero => rfl
            | succ n ih =>
              rw [List.range_succ, List.filter_append, ih]
              have := hc id _ _ hx1 hx2 n
              simp only at this
              by_cases e : n = q'
              · subst e
                rw [if_neg (Nat.lt_irrefl _), if_pos (Nat.lt_succ_self _), List.filter_cons_of_pos (by rw [this]; simp [hcl])]; rfl
              · rw [List.filter_cons_of_neg (by rw [this]; simp [e])]
                by_cases h9 : q' < n
                · rw [if_pos h9, if_pos (by omega)]; rfl
                · rw [if_neg h9, if_neg (by omega)]; rfl
          rw [e, if_pos (by simpa using hql)]; rfl
        rw [this]; simp [h5]
      · cases hz : objAt (sSet o i' x q' v) y with
        | none => rw [mObj_no (.inl hz)]; rfl
        | some z => cases hz' : objAt (sSet o i' x q' w) y with
          | none => rw [mObj_no (.inr hz')]; rfl
          | some z' =>
            rw [mObj_ab hz hz']
            have : mClash (hasId o y) (objD o y).F z.F z'.F z.F.length = [] := by
              refine List.eq_nil_iff_forall_not_mem.2 fun t ht => ?_
              obtain ⟨j, _, _, hh⟩ := mem_mClash.1 ht
              rw [hc y z z' hz hz' j] at hh
              simp [hy] at hh
            rw [this]; rfl
    have hch : mCh o (sSet o i' x q' v) (sSet o i' x q' w) = ⟨[], [], [(id, k)], []⟩ := by
      unfold mCh
      rw [hset, mRC_same (o := o) (a := sSet o i' x q' v) (b := sSet o i' x q' w) rfl rfl]
    rw [gMerge_clash h.check (by rw [hch]; unfold gNone noChange; simp), hch]
end Go.Ab
