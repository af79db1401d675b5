/-
  A new object, another value, another root: the plain laws. No condition but those of each theorem.
-/
import Derived.Test.YtmadijloeffjfaaFi
set_option linter.unusedVariables false
set_option linter.unusedSimpArgs false
namespace Go.Ab
open Go Go.RowKit

/-! ### A new object; a root that is set -/
theorem wrap_id {a : Int} (h1 : -4611686018427387904 ≤ a) (h2 : a < 4611686018427387904) : IntKind.i64.wrap a = a := by
  simp only [IntKind.wrap, IntKind.bits, IntKind.signed]
  simp
  omega
theorem frz_ObjA (n : Nat) (xs : List GObj) (o : GObj) : (AV.own n (xs.map eObjO ++ [[.int .i64 o.Id, .int .i64 o.T, .sl 3 (o.F.map eVal)]])).freeze = .sl n ((xs ++ [o]).map eObj) := by
  have h := frz_ObjO n xs
  simp only [AV.freeze, AV.sl.injEq, true_and] at h ⊢
  rw [List.map_append, h]
  simp [eObj, AV.freeze]
def zeroV (f : GField) : GVal := if f.Kind = 5 then ⟨0, ⟨#[]⟩, -1⟩ else ⟨0, ⟨#[]⟩, 0⟩
def newId (g : Graph) : Int := prevId g.O g.O.length + 1
def newObj (g : Graph) (t : Int) : GObj := ⟨newId g, t, (tyF g t).map zeroV⟩
def newBad (g : Graph) : Bool := decide (g.O.length = 8) || decide (1073741824 < newId g)
def gNew (g : Graph) (t : Int) : Graph × Int × Int :=
  if gMay g = false then (g, -1, 1) else if (decide (t < 0) || decide ((g.S.length : Int) ≤ t)) = true then (g, -1, 6) else
  if newBad g = true then (g, -1, 8) else (⟨g.S, g.O ++ [newObj g t], g.Roots⟩, newId g, 0)
def rootBad (g : Graph) (i id : Int) : Bool := decide (i < 0) || (decide (3 ≤ i) || (decide ((g.Roots.length : Int) < i) || (!decide (id = -1) && decide (fnd (fun o => decide (o.Id = id)) g.O = -1))))
def setRoot (l : List Int) (i : Nat) (id : Int) : List Int := if i = l.length then l ++ [id] else l.set i id
def gRoot (g : Graph) (i id : Int) : Graph × Int :=
  if gMay g = false then (g, 1) else if rootBad g i id = true then (g, 11) else (⟨g.S, g.O, setRoot g.Roots i.toNat id⟩, 0)
theorem set_app (l : List Int) (id : Int) : (l.map eI ++ [[AV.int .i64 id]]).set l.length [AV.int .i64 id] = (setRoot l l.length id).map eI := by
  unfold setRoot
  rw [if_pos rfl, List.map_append]
  have : (l.map eI).length = l.length := List.length_map _
  rw [List.set_append, if_neg (by omega), this, Nat.sub_self]
  rfl
theorem set_root {l : List Int} {i : Nat} (h : i ≠ l.length) (id : Int) : (l.map eI).set i [AV.int .i64 id] = (setRoot l i id).map eI := by
  unfold setRoot
  rw [if_neg h, List.map_set]; rfl
end Go.Ab

namespace Go.Ab
open Go Go.RowKit

/-! ### What is, with a new object, another value, another root -/
theorem fewG_sz {g : Graph} (h : fewG g = true) : GSz g := by
  unfold fewG few06 at h
  simp only [Bool.and_eq_true, decide_eq_true_eq] at h
  obtain ⟨⟨⟨⟨h1, h2⟩, h3⟩, h4⟩, h5⟩ := h
  refine ⟨by unfold MX; omega, fun x hx => ?_, by unfold MX; omega, fun x hx => ?_, by unfold MX; omega⟩
  · obtain ⟨j, hj⟩ := List.getElem?_of_mem hx
    have := allI_at h1 hj
    simp at this; unfold MX; omega
  · obtain ⟨j, hj⟩ := List.getElem?_of_mem hx
    have := allI_at h5 hj
    simp at this; unfold MX; omega
theorem typ_app (l : List GObj) (o : GObj) (i : Int) : typ (l ++ [o]) i = if o.Id = i then some o.T else typ l i := by
  induction l with
  | nil => simp [typ]
  | cons x l ih =>
    simp only [List.cons_append, typ, ih]
    by_cases h : o.Id = i
    · simp [h]
    · simp [h]
theorem leadsB_mono {g a : Graph} (hS : a.S = g.S) (ht : ∀ i t, typ g.O i = some t → typ a.O i = some t) {f : GField} {v : GVal} (h : leadsB g f v = true) : leadsB a f v = true := by
  unfold leadsB at h ⊢
  rw [Bool.and_eq_true] at h ⊢
  refine ⟨h.1, ?_⟩
  have h2 := h.2
  rw [Bool.or_eq_true, Bool.or_eq_true] at h2 ⊢
  rcases h2 with h2 | h2 | h2
  · exact .inl h2
  · exact .inr (.inl h2)
  · refine .inr (.inr ?_)
    cases hr : typ g.O v.R with
    | none => rw [hr] at h2; cases h2
    | some t => rw [ht _ _ hr, hS]; rw [hr] at h2; exact h2
theorem objectB_mono {g a : Graph} (hS : a.S = g.S) (ht : ∀ i t, typ g.O i = some t → typ a.O i = some t) {o : GObj} {p : Int} (h : objectB g o p = true) : objectB a o p = true := by
  unfold objectB at h ⊢
  rw [Bool.and_eq_true] at h ⊢
  refine ⟨h.1, ?_⟩
  have h2 := h.2
  rw [hS]
  cases hT : typeAt g.S o.T with
  | none => rw [hT] at h2; cases h2
  | some t =>
    rw [hT] at h2
    simp only [Bool.and_eq_true] at h2 ⊢
    refine ⟨h2.1, allI_yes fun j y hy => ?_⟩
    have := allI_at h2.2 hy
    rw [Nat.zero_add] at this ⊢
    unfold leadsAt at this ⊢
    cases hf : t.F[j]? with
    | none => rw [hf] at this; cases this
    | some f => rw [hf] at this; exact leadsB_mono hS ht this
theorem rootB_mono {g a : Graph} (ht : ∀ i t, typ g.O i = some t → typ a.O i = some t) {r : Int} (h : rootB g r = true) : rootB a r = true := by
  unfold rootB at h ⊢
  rw [Bool.or_eq_true] at h ⊢
  rcases h with h | h
  · exact .inl h
  · right
    obtain ⟨t, h⟩ := Option.isSome_iff_exists.1 h
    rw [ht _ _ h]; rfl
theorem zero_leads {g : Graph} {f : GField} (h : 0 ≤ f.Kind ∧ f.Kind < 6) : leadsB g f (zeroV f) = true := by
  unfold leadsB zeroV
  by_cases h5 : f.Kind = 5
  · simp [valFits, h5]
  · rw [if_neg h5]
    by_cases h4 : f.Kind = 4
    · simp [valFits, h4]; decide
    · have : f.Kind = 0 ∨ f.Kind = 1 ∨ f.Kind = 2 ∨ f.Kind = 3 := by omega
      rcases this with h | h | h | h <;> simp [valFits, numFits, h]
theorem May.kind {g : Graph} (h : May g) {t : GType} (ht : t ∈ g.S) {f : GField} (hf : f ∈ t.F) : 0 ≤ f.Kind ∧ f.Kind < 6 := by
  have h0 := h.s
  unfold schemaMay at h0
  simp only [Bool.and_eq_true] at h0
  obtain ⟨j, hj⟩ := List.getElem?_of_mem ht
  have h1 := allI_at h0.2 hj
  unfold typeMay fieldsMay at h1
  simp only [Bool.and_eq_true] at h1
  obtain ⟨k, hk⟩ := List.getElem?_of_mem hf
  have h2 := allI_at h1.2 hk
  unfold fieldMay at h2
  simp only [Bool.and_eq_true, decide_eq_true_eq] at h2
  exact h2.1.2
theorem May.below {g : Graph} (h : May g) {x : GObj} (hx : x ∈ g.O) : x.Id < newId g := by
  obtain ⟨i, hi⟩ := List.getElem?_of_mem hx
  have hl := (List.getElem?_eq_some_iff.1 hi).1
  unfold newId
  obtain ⟨m, hm⟩ : ∃ m, g.O.length = m + 1 := ⟨g.O.length - 1, by omega⟩
  rw [hm]
  obtain ⟨z, hz⟩ : ∃ z, g.O[m]? = some z := ⟨g.O[m], List.getElem?_eq_getElem (by omega)⟩
  simp only [prevId, hz]
  by_cases e : i = m
  · subst e; rw [hi] at hz; cases hz; omega
  · have := (h.ids m z hz).2 i x (by omega) hi; omega
theorem May.newPos {g : Graph} (h : May g) : 0 ≤ newId g := by
  unfold newId
  cases hm : g.O.length with
  | zero => simp [prevId]
  | succ m =>
    obtain ⟨z, hz⟩ : ∃ z, g.O[m]? = some z := ⟨g.O[m], List.getElem?_eq_getElem (by omega)⟩
    simp only [prevId, hz]
    have := (h.ids m z hz).1; omega
theorem May.newNot {g : Graph} (h : May g) : Ab.hasId g (newId g) = false := by
  cases hh : Ab.hasId g (newId g) with
  | false => rfl
  | true =>
    obtain ⟨j, h1, h2⟩ := hasId_at hh
    have := h.below (List.mem_of_getElem? h1); omega
def newG (g : Graph) (t : Int) : Graph := ⟨g.S, g.O ++ [newObj g t], g.Roots⟩
theorem prevId_app (l : List GObj) (o : GObj) {i : Nat} (h : i ≤ l.length) : prevId (l ++ [o]) i = prevId l i := by
  cases i with
  | zero => rfl
  | succ i => simp only [prevId]; rw [List.getElem?_append_left (by omega)]
theorem May.typNew {g : Graph} (h : May g) (t : Int) : ∀ i u, typ g.O i = some u → typ (newG g t).O i = some u := by
  intro i u hu
  obtain ⟨x, hx, e, _⟩ := typ_some hu
  have := h.below hx
  unfold newG newObj
  rw [typ_app, if_neg (by simp only; omega)]
  exact hu
theorem May.new {g : Graph} (h : May g) {t : Int} (ht : (decide (t < 0) || decide ((g.S.length : Int) ≤ t)) = false) (hb : newBad g = false) : May (newG g t) := by
  simp only [Bool.or_eq_false_iff, decide_eq_false_iff_not] at ht
  unfold newBad at hb
  simp only [Bool.or_eq_false_iff, decide_eq_false_iff_not] at hb
  obtain ⟨q, rfl⟩ := Int.eq_ofNat_of_zero_le (show 0 ≤ t by omega)
  obtain ⟨ty, hty⟩ : ∃ x, g.S[q]? = some x := ⟨g.S[q], List.getElem?_eq_getElem (by omega)⟩
  have hTy : typeAt g.S q = some ty := by unfold typeAt; simp [hty]
  have hmono := h.typNew q
  refine ⟨h.s, ?_, h.r, fun i x hx => ?_, fun r hr => rootB_mono (g := g) (a := newG g q) hmono (h.root r hr)⟩
  · have := h.o
    simp only [newG, List.length_append, List.length_cons, List.length_nil]; omega
  · simp only [newG] at hx ⊢
    rcases Nat.lt_or_ge i g.O.length with hl | hl
    · rw [prevId_app _ _ (by omega)]
      rw [List.getElem?_append_left hl] at hx
      exact objectB_mono (g := g) (a := newG g q) rfl hmono (h.obj i x hx)
    · rw [List.getElem?_append_right hl] at hx
      have hi : i - g.O.length = 0 := by
        rcases Nat.eq_zero_or_pos (i - g.O.length) with h | h
        · exact h
        · rw [List.getElem?_eq_none (by simp; omega)] at hx; cases hx
      have hil : i = g.O.length := by omega
      rw [hi] at hx
      simp only [List.getElem?_cons_zero, Option.some.injEq] at hx
      subst hx
      rw [prevId_app _ _ (by omega), hil]
      unfold objectB newObj
      simp only [hTy, Bool.and_eq_true, decide_eq_true_eq]
      refine ⟨⟨by unfold newId; omega, by omega⟩, ?_, allI_yes fun j y hy => ?_⟩
      · unfold tyF; rw [hTy]; simp
      · unfold tyF at hy
        rw [hTy] at hy
        simp only [List.getElem?_map, Option.map_eq_some_iff] at hy
        obtain ⟨f, hf, rfl⟩ := hy
        rw [Nat.zero_add]
        unfold leadsAt
        rw [hf]
        exact zero_leads (h.kind (List.mem_of_getElem? hty) (List.mem_of_getElem? hf))

theorem dBad_false {o a : Graph} (h : ∀ x ∈ o.O, hasId a x.Id = true → x.T = (objD a x.Id).T) : dBad a o.O = false := by
  unfold dBad
  refine any_no fun j x hx => ?_
  unfold dBad1
  cases hh : hasId a x.Id with
  | false => rfl
  | true => simp [h x (List.mem_of_getElem? hx) hh]
theorem dNew_none {o : Graph} {l : List GObj} (h : ∀ x ∈ l, hasId o x.Id = true) : dNew o l = [] := by
  unfold dNew
  rw [List.map_eq_nil_iff, List.filter_eq_nil_iff]
  intro x hx; simp [h x hx]
theorem dSet_none {a : Graph} {l : List GObj} (h : ∀ x ∈ l, objD a x.Id = x) : dSet a l = [] := by
  unfold dSet
  rw [List.flatMap_eq_nil_iff]
  intro x hx
  unfold dSet1
  rw [h x hx]
  split
  · exact dSetF_self _ _ _
  · rfl
theorem dRoots_none {o a : Graph} (h : ∀ i, rootAt o i = rootAt a i) (n : Nat) : dRoots o a n = [] := by
  unfold dRoots
  rw [List.map_eq_nil_iff, List.filter_eq_nil_iff]
  intro j _; simp [h j]
theorem newG_find {g : Graph} (h : May g) (t : Int) {x : GObj} (hx : x ∈ g.O) : objAt (newG g t) x.Id = some x := by
  have := h.mem hx
  unfold objAt at this ⊢
  unfold newG
  rw [List.find?_append, this]; rfl
theorem filter_only {p : Nat → Bool} {k : Nat} : ∀ {l : List Nat}, l.Nodup → (∀ j ∈ l, p j = true → j = k) → l.filter p = [] ∨ l.filter p = [k]
  | [], _, _ => .inl rfl
  | x :: l, hn, h => by
    obtain ⟨n1, n2⟩ := List.nodup_cons.1 hn
    rcases filter_only n2 (fun j hj => h j (List.mem_cons_of_mem _ hj)) with e | e
    · cases hp : p x with
      | false => left; rw [List.filter_cons, hp]; simpa using e
      | true => right; rw [List.filter_cons, hp]; simp [e, h x List.mem_cons_self hp]
    · cases hp : p x with
      | false => right; rw [List.filter_cons, hp]; simpa using e
      | true =>
        exfalso
        have hk : k ∈ l := by
          have : k ∈ l.filter p := by rw [e]; exact List.mem_singleton.2 rfl
          exact (List.mem_filter.1 this).1
        exact n1 (by rw [h x List.mem_cons_self hp]; exact hk)

theorem steps_new {g : Graph} (hm : gMay g = true) (t : Int) : ((gNew g t).2.2 = 0 ∧ (gDiff g (gNew g t).1).1 = ⟨[(gNew g t).2.1], [], [], []⟩) ∨ ((gNew g t).2.2 ≠ 0 ∧ (gDiff g (gNew g t).1).1 = noChange) := by
  have h := (may_iff g).1 hm
  have hself : (gDiff g g).1 = noChange := by rw [diff_self]
  unfold gNew
  rw [if_neg (by simp [hm])]
  cases ht : (decide (t < 0) || decide ((g.S.length : Int) ≤ t)) with
  | true => right; rw [if_pos rfl]; exact ⟨by simp, hself⟩
  | false =>
    cases hb : newBad g with
    | true => right; rw [if_neg (by simp), if_pos rfl]; exact ⟨by simp, hself⟩
    | false =>
      left
      rw [if_neg (by simp), if_neg (by simp)]
      refine ⟨rfl, ?_⟩
      have ha := h.new ht hb
      have hall : ∀ x ∈ g.O, objD (newG g t) x.Id = x := fun x hx => by unfold objD; rw [newG_find h t hx]; rfl
      have hhas : ∀ x ∈ g.O, hasId (newG g t) x.Id = true := fun x hx => by unfold hasId; rw [newG_find h t hx]; rfl
      show (gDiff g (newG g t)).1 = _
      have hok := gDiff_ok (o := g) (a := newG g t) (by rw [hm, (may_iff _).2 ha]; rfl) rfl (dBad_false fun x hx _ => by rw [hall x hx])
      rw [hok]
      simp only [GChange.mk.injEq]
      refine ⟨?_, dNew_none hhas, dSet_none hall, dRoots_none (fun i => rfl) _⟩
      unfold dNew newG
      rw [List.filter_append, List.map_append]
      have h1 : (g.O.filter fun x => !hasId g x.Id) = [] := List.filter_eq_nil_iff.2 fun x hx => by simp [h.hasId hx]
      have h2 : hasId g (newObj g t).Id = false := h.newNot
      rw [h1, List.filter_cons, h2]
      rfl

theorem diff_cases (o a : Graph) : (gDiff o a).1 = noChange ∨ ((gMay o && gMay a) = true ∧ (gDiff o a).1 = ⟨dNew o a.O, dNew a o.O, dSet a o.O, dRoots o a (max o.Roots.length a.Roots.length)⟩) := by
  cases hm : gMay o && gMay a with
  | false => left; rw [gDiff_arg hm]
  | true =>
    by_cases hS : o.S = a.S
    case neg => left; rw [gDiff_S hm hS]
    cases hb : dBad a o.O with
    | true => left; rw [gDiff_T hm hS hb]
    | false => right; rw [gDiff_ok hm hS hb]; exact ⟨rfl, rfl⟩
theorem sSet_at {g : Graph} {i : Nat} {x : GObj} (hx : g.O[i]? = some x) (k : Nat) (v : GVal) (j : Nat) : (sSet g i x k v).O[j]? = if j = i then some ⟨x.Id, x.T, x.F.set k v⟩ else g.O[j]? := by
  have hl := (List.getElem?_eq_some_iff.1 hx).1
  unfold sSet
  simp only
  rw [List.getElem?_set]
  by_cases e : i = j
  · subst e; simp [hl]
  · rw [if_neg e, if_neg (fun h => e h.symm)]
theorem sSet_find {g : Graph} (h : May g) {i : Nat} {x : GObj} (hx : g.O[i]? = some x) (k : Nat) (v : GVal) {j : Nat} {y : GObj} (hy : g.O[j]? = some y) :
    objAt (sSet g i x k v) y.Id = if j = i then some ⟨x.Id, x.T, x.F.set k v⟩ else some y := by
  have hat := sSet_at hx k v j
  rw [hy] at hat
  obtain ⟨z, hz⟩ : ∃ z, (sSet g i x k v).O[j]? = some z := by rw [hat]; split <;> exact ⟨_, rfl⟩
  have hzi : z.Id = y.Id := by
    rw [hat] at hz
    split at hz
    · rename_i e; subst e; rw [hx] at hy; cases hy; cases hz; rfl
    · cases hz; rfl
  rw [← hat, hz]
  unfold objAt
  have hl := (List.getElem?_eq_some_iff.1 hz)
  rw [List.find?_eq_some_iff_getElem]
  refine ⟨by simpa using hzi, j, hl.1, hl.2, fun q hq => ?_⟩
  have hql : q < (sSet g i x k v).O.length := Nat.lt_trans hq hl.1
  have h1 := sSet_at hx k v q
  rw [List.getElem?_eq_getElem hql] at h1
  have h2 : ((sSet g i x k v).O[q]).Id < y.Id := by
    split at h1
    · rename_i e
      have e1 := Option.some.inj h1
      rw [e1]
      subst e
      exact (h.ids j y hy).2 q x hq hx
    · exact (h.ids j y hy).2 q _ hq h1.symm
  have : ¬ ((sSet g i x k v).O[q]).Id = y.Id := by omega
  simpa using this
theorem steps_set {g : Graph} (hm : gMay g = true) (id k : Int) (v : GVal) : (gDiff g (gSet g id k v).1).1.New = [] ∧ (gDiff g (gSet g id k v).1).1.Gone = [] ∧ (gDiff g (gSet g id k v).1).1.Roots = [] ∧
    ((gDiff g (gSet g id k v).1).1.Set = [] ∨ ((gDiff g (gSet g id k v).1).1.Set = [(id, k)] ∧ (gSet g id k v).2 = 0)) := by
  have h := (may_iff g).1 hm
  have hself : (gDiff g g).1 = noChange := by rw [diff_self]
  have hno : ∀ (c : GChange) (e : Int), c = noChange → c.New = [] ∧ c.Gone = [] ∧ c.Roots = [] ∧ (c.Set = [] ∨ (c.Set = [(id, k)] ∧ e = 0)) := by rintro c e rfl; exact ⟨rfl, rfl, rfl, .inl rfl⟩
  unfold gSet
  rw [if_neg (by simp [hm])]
  rcases find_cases (fun o : GObj => decide (o.Id = id)) g.O with ⟨_, _, f3⟩ | ⟨i, x, _, f2, _, f3, f4⟩
  · rw [f3]; exact hno _ _ hself
  · have hid : x.Id = id := by simpa using f4
    simp only [f3, f2]
    by_cases hk : k < 0 ∨ (x.F.length : Int) ≤ k
    · rw [if_pos hk]; exact hno _ _ hself
    rw [if_neg hk]
    by_cases hl : leadsAt g (tyF g x.T) k.toNat v = true
    case neg => rw [if_neg hl]; exact hno _ _ hself
    rw [if_pos hl]
    dsimp only
    rcases diff_cases g (sSet g i x k.toNat v) with e | ⟨_, e⟩
    · exact hno _ _ e
    rw [e]
    dsimp only
    obtain ⟨q, rfl⟩ := Int.eq_ofNat_of_zero_le (show 0 ≤ k by omega)
    simp only [Int.toNat_natCast]
    have hil := (List.getElem?_eq_some_iff.1 f2).1
    have hhas : ∀ y ∈ g.O, hasId (sSet g i x q v) y.Id = true := fun y hy => by
      obtain ⟨j, hj⟩ := List.getElem?_of_mem hy
      unfold hasId; rw [sSet_find h f2 q v hj]; split <;> rfl
    refine ⟨dNew_none fun y hy => ?_, dNew_none hhas, dRoots_none (fun i => rfl) _, ?_⟩
    · obtain ⟨j, hj⟩ := List.getElem?_of_mem hy
      rw [sSet_at f2 q v j] at hj
      split at hj
      · cases hj; exact h.hasId (x := x) (List.mem_of_getElem? f2)
      · exact h.hasId (List.mem_of_getElem? hj)
    · have hother : ∀ j y, g.O[j]? = some y → j ≠ i → dSet1 (sSet g i x q v) y = [] := fun j y hj hne => by
        have e1 : objD (sSet g i x q v) y.Id = y := by unfold objD; rw [sSet_find h f2 q v hj, if_neg hne]; rfl
        unfold dSet1; rw [e1]
        split
        · exact dSetF_self _ _ _
        · rfl
      have hsplit : g.O = g.O.take i ++ x :: g.O.drop (i + 1) := by
        conv => lhs; rw [← List.take_append_drop i g.O]
        rw [List.drop_eq_getElem_cons hil, (List.getElem?_eq_some_iff.1 f2).2]
      have hd : dSet (sSet g i x q v) g.O = dSet1 (sSet g i x q v) x := by
        have key : ∀ l, l = g.O → dSet (sSet g i x q v) l = dSet1 (sSet g i x q v) x := by
          intro l hl
          rw [hl, hsplit]
          unfold dSet
          rw [List.flatMap_append, List.flatMap_cons]
          have e1 : (g.O.take i).flatMap (dSet1 (sSet g i x q v)) = [] := by
            rw [List.flatMap_eq_nil_iff]
            intro y hy
            obtain ⟨j, hj⟩ := List.getElem?_of_mem hy
            rw [List.getElem?_take] at hj
            split at hj
            · exact hother j y hj (by omega)
            · cases hj
          have e2 : (g.O.drop (i + 1)).flatMap (dSet1 (sSet g i x q v)) = [] := by
            rw [List.flatMap_eq_nil_iff]
            intro y hy
            obtain ⟨j, hj⟩ := List.getElem?_of_mem hy
            rw [List.getElem?_drop] at hj
            exact hother _ y hj (by omega)
          rw [e1, e2]; simp
        exact key _ rfl
      rw [hd]
      have e1 : objD (sSet g i x q v) x.Id = ⟨x.Id, x.T, x.F.set q v⟩ := by unfold objD; rw [sSet_find h f2 q v f2, if_pos rfl]; rfl
      unfold dSet1
      rw [if_pos (hhas x (List.mem_of_getElem? f2)), e1]
      simp only
      unfold dSetF
      rcases filter_only (p := fun j => decide (x.F[j]? ≠ (x.F.set q v)[j]?)) (k := q) (List.nodup_range (n := x.F.length)) (fun j _ hp => by
        simp only [decide_eq_true_eq] at hp
        refine Classical.byContradiction fun hne => hp ?_
        rw [List.getElem?_set_ne (fun e => hne e.symm)]) with e2 | e2
      · left; rw [e2]; rfl
      · right; rw [e2, hid]; exact ⟨rfl, trivial⟩
theorem steps_root {g : Graph} (hm : gMay g = true) (k id : Int) : (gDiff g (gRoot g k id).1).1.New = [] ∧ (gDiff g (gRoot g k id).1).1.Gone = [] ∧ (gDiff g (gRoot g k id).1).1.Set = [] ∧
    ((gDiff g (gRoot g k id).1).1.Roots = [] ∨ ((gDiff g (gRoot g k id).1).1.Roots = [k] ∧ (gRoot g k id).2 = 0)) := by
  have h := (may_iff g).1 hm
  have hself : (gDiff g g).1 = noChange := by rw [diff_self]
  have hno : ∀ (c : GChange) (e : Int), c = noChange → c.New = [] ∧ c.Gone = [] ∧ c.Set = [] ∧ (c.Roots = [] ∨ (c.Roots = [k] ∧ e = 0)) := by rintro c e rfl; exact ⟨rfl, rfl, rfl, .inl rfl⟩
  unfold gRoot
  rw [if_neg (by simp [hm])]
  cases hb : rootBad g k id with
  | true => rw [if_pos rfl]; exact hno _ _ hself
  | false =>
    rw [if_neg (by simp)]
    dsimp only
    unfold rootBad at hb
    simp only [Bool.or_eq_false_iff, decide_eq_false_iff_not] at hb
    obtain ⟨q, rfl⟩ := Int.eq_ofNat_of_zero_le (show 0 ≤ k by omega)
    simp only [Int.toNat_natCast]
    rcases diff_cases g ⟨g.S, g.O, setRoot g.Roots q id⟩ with e | ⟨_, e⟩
    · simpa using hno _ 0 e
    rw [e]
    have hfind : ∀ y ∈ g.O, objAt ⟨g.S, g.O, setRoot g.Roots q id⟩ y.Id = some y := fun y hy => h.mem hy
    refine ⟨dNew_none fun y hy => h.hasId hy, dNew_none fun y hy => ?_, dSet_none fun y hy => ?_, ?_⟩
    · unfold hasId; rw [hfind y hy]; rfl
    · unfold objD; rw [hfind y hy]; rfl
    · simp only
      unfold dRoots
      rcases filter_only (p := fun j => !decide (rootAt g j = rootAt ⟨g.S, g.O, setRoot g.Roots q id⟩ j)) (k := q) (List.nodup_range (n := max g.Roots.length (setRoot g.Roots q id).length)) (fun j hj hp => by
        simp only [Bool.not_eq_true', decide_eq_false_iff_not] at hp
        refine Classical.byContradiction fun hne => hp ?_
        have hjl := List.mem_range.1 hj
        unfold rootAt setRoot at *
        simp only
        by_cases hq : q = g.Roots.length
        · rw [if_pos hq] at hjl ⊢
          simp only [List.length_append, List.length_cons, List.length_nil] at hjl
          rw [List.getElem?_append_left (by omega)]
        · rw [if_neg hq, List.getElem?_set_ne (fun e => hne e.symm)]) with e2 | e2
      · left; rw [e2]; rfl
      · right; rw [e2]; exact ⟨rfl, trivial⟩
end Go.Ab

