/-
  Graphs with other ids have the same Canon. No condition but those of each theorem.
-/
import Derived.Test.YtkfdkamdkdjkgaaFd
set_option linter.unusedVariables false
set_option linter.unusedSimpArgs false
namespace Go.Ab
open Go Go.RowKit

/-! ### Graphs with other ids -/
def renV (ρ : Int → Int) (f : GField) (v : GVal) : GVal := if f.Kind = 5 then { v with R := ρ v.R } else v
structure Ren (g h : Graph) (ρ : Int → Int) : Prop where
  mg : May g
  mh : May h
  S : h.S = g.S
  len : h.O.length = g.O.length
  neg : ρ (-1) = -1
  inj : ∀ x y, rootB g x = true → rootB g y = true → ρ x = ρ y → x = y
  obj : ∀ (x : Int) (o : GObj) (t : GType), objAt g x = some o → typeAt g.S o.T = some t → objAt h (ρ x) = some ⟨ρ x, o.T, List.zipWith (renV ρ) t.F o.F⟩
  roots : h.Roots = g.Roots.map ρ

theorem refsZ_ren (ρ : Int → Int) : ∀ (fs : List GField) (vs : List GVal), refsZ (fs.zip (List.zipWith (renV ρ) fs vs)) = (refsZ (fs.zip vs)).map ρ
  | [], _ => rfl
  | _ :: _, [] => rfl
  | f :: fs, v :: vs => by
    have ih := refsZ_ren ρ fs vs
    unfold refsZ at ih ⊢
    simp only [List.zipWith_cons_cons, List.zip_cons_cons, List.filterMap_cons]
    by_cases hk : f.Kind = 5
    · simp only [hk, if_true, renV, List.map_cons, ih]
    · simp only [hk, if_false, ih]
theorem canonV_ren (ρ : Int → Int) (l l' : List Int) (fs : List GField) : ∀ (vs : List GVal), (∀ r ∈ refsZ (fs.zip vs), atD l' (ρ r) = atD l r) → List.zipWith (canonV l') fs (List.zipWith (renV ρ) fs vs) = List.zipWith (canonV l) fs vs := by
  induction fs with
  | nil => intro vs _; rfl
  | cons f fs ih =>
    intro vs h
    cases vs with
    | nil => rfl
    | cons v vs =>
      simp only [List.zipWith_cons_cons]
      have h2 : ∀ r ∈ refsZ (fs.zip vs), atD l' (ρ r) = atD l r := fun r hr => h r (by
        unfold refsZ at hr ⊢
        simp only [List.zip_cons_cons, List.filterMap_cons]
        split
        · exact hr
        · exact List.mem_cons_of_mem _ hr)
      rw [ih vs h2]
      congr 1
      unfold canonV renV
      by_cases hk : f.Kind = 5
      · simp only [hk, if_true]
        rw [h v.R (by unfold refsZ; simp [hk])]
      · simp only [hk, if_false]

section
variable {g h : Graph} {ρ : Int → Int}
theorem Ren.minus (R : Ren g h ρ) {x : Int} (hx : rootB g x = true) : ρ x = -1 ↔ x = -1 := by
  constructor
  · intro e; exact R.inj x (-1) hx (by simp [rootB]) (by rw [e, R.neg])
  · intro e; rw [e, R.neg]
theorem Ren.refs (R : Ren g h ρ) {x : Int} (hx : (typ g.O x).isSome = true) : refsOf h (ρ x) = (refsOf g x).map ρ := by
  obtain ⟨p, o, hp, _, _, hA, _⟩ := R.mg.find hx
  obtain ⟨_, t, hT, _⟩ := R.mg.objT hp
  unfold refsOf refsO
  rw [R.obj x o t hA hT, hA]
  simp only [R.S, hT]
  exact refsZ_ren ρ t.F o.F
theorem Ren.mem (R : Ren g h ρ) {l : List Int} (hl : Good g l) {x : Int} (hx : rootB g x = true) : ρ x ∈ l.map ρ ↔ x ∈ l := by
  constructor
  · intro hm
    obtain ⟨y, hy, e⟩ := List.mem_map.1 hm
    have := R.inj y x (by unfold rootB; rw [hl.ids y hy]; simp) hx e
    exact this ▸ hy
  · exact fun hm => List.mem_map_of_mem hm
theorem Ren.meet (R : Ren g h ρ) {l : List Int} (hl : Good g l) {x : Int} (hx : rootB g x = true) : Ab.meet (l.map ρ) (ρ x) = (Ab.meet l x).map ρ := by
  unfold Ab.meet
  by_cases h1 : x = -1 ∨ x ∈ l
  · rw [if_pos h1, if_pos (by rw [R.minus hx, R.mem hl hx]; exact h1)]
  · rw [if_neg h1, if_neg (by rw [R.minus hx, R.mem hl hx]; exact h1)]; simp
theorem Ren.mets (R : Ren g h ρ) : ∀ {is l : List Int}, Good g l → (∀ i ∈ is, rootB g i = true) → Ab.mets (l.map ρ) (is.map ρ) = (Ab.mets l is).map ρ
  | [], l, _, _ => rfl
  | i :: is, l, hl, hi => by
    have h1 := hi i List.mem_cons_self
    show Ab.mets (Ab.meet (l.map ρ) (ρ i)) (is.map ρ) = (Ab.mets (Ab.meet l i) is).map ρ
    rw [R.meet hl h1]
    exact Ren.mets R (hl.meet h1) fun j hj => hi j (List.mem_cons_of_mem _ hj)
theorem Ren.ordF (R : Ren g h ρ) : ∀ (n i : Nat) {l : List Int}, Good g l → Ab.ordF h n i (l.map ρ) = (Ab.ordF g n i l).map ρ
  | 0, _, _, _ => rfl
  | n + 1, i, l, hl => by
    unfold Ab.ordF
    rw [List.getElem?_map]
    cases hx : l[i]? with
    | none => rfl
    | some x =>
      simp only [Option.map_some]
      rw [R.refs (hl.ids x (List.mem_of_getElem? hx)), R.mets hl (R.mg.refsOf x)]
      exact Ren.ordF R n (i + 1) (hl.mets (R.mg.refsOf x))
theorem Ren.order (R : Ren g h ρ) : Ab.order h = (Ab.order g).map ρ := by
  unfold Ab.order
  rw [R.len, R.roots, show ([] : List Int) = [].map ρ from rfl, R.mets (Good.nil g) R.mg.root]
  exact R.ordF _ _ ((Good.nil g).mets R.mg.root)
theorem Ren.atL (R : Ren g h ρ) {x : Int} (hx : rootB g x = true) : ∀ {l : List Int}, (∀ y ∈ l, (typ g.O y).isSome = true) → Ab.atL (l.map ρ) (ρ x) = Ab.atL l x := by
  intro l hl
  unfold Ab.atL
  by_cases h1 : x = -1
  · rw [if_pos h1, if_pos ((R.minus hx).2 h1)]
  · rw [if_neg h1, if_neg (fun e => h1 ((R.minus hx).1 e))]
    congr 1
    rw [List.findIdx?_map]
    have : ∀ (l : List Int), (∀ y ∈ l, (typ g.O y).isSome = true) → l.findIdx? ((fun y => decide (y = ρ x)) ∘ ρ) = l.findIdx? (fun y => decide (y = x)) := by
      intro l
      induction l with
      | nil => intro _; rfl
      | cons y l ih =>
        intro hl
        rw [List.findIdx?_cons, List.findIdx?_cons, ih fun z hz => hl z (List.mem_cons_of_mem _ hz)]
        have : ((fun y => decide (y = ρ x)) ∘ ρ) y = decide (y = x) := by
          simp only [Function.comp, decide_eq_decide]
          exact ⟨fun e => R.inj y x (by unfold rootB; rw [hl y List.mem_cons_self]; simp) hx e, fun e => by rw [e]⟩
        rw [this]
    exact this l hl
theorem Ren.atD (R : Ren g h ρ) {x : Int} (hx : rootB g x = true) : Ab.atD (Ab.order h) (ρ x) = Ab.atD (Ab.order g) x := by
  unfold Ab.atD
  rw [R.order, R.atL hx R.mg.order.ids]
theorem Ren.canonO (R : Ren g h ρ) (k : Nat) {x : Int} (hx : (typ g.O x).isSome = true) : Ab.canonO h (Ab.order h) k (ρ x) = Ab.canonO g (Ab.order g) k x := by
  obtain ⟨p, o, hp, _, _, hA, _⟩ := R.mg.find hx
  obtain ⟨_, t, hT, hmo⟩ := R.mg.objT hp
  rw [canonO_of hA hT, canonO_of (R.obj x o t hA hT) (t := t) (by rw [R.S]; exact hT)]
  congr 1
  exact canonV_ren ρ _ _ t.F o.F fun r hr => R.atD (hmo.refs r hr)
theorem Ren.canonL (R : Ren g h ρ) : ∀ (k : Nat) (is : List Int), (∀ y ∈ is, (typ g.O y).isSome = true) → Ab.canonL h (Ab.order h) k (is.map ρ) = Ab.canonL g (Ab.order g) k is
  | _, [], _ => rfl
  | k, i :: is, hi => by
    simp only [List.map_cons, Ab.canonL]
    rw [R.canonO k (hi i List.mem_cons_self), Ren.canonL R (k + 1) is fun y hy => hi y (List.mem_cons_of_mem _ hy)]
theorem Ren.canonG (R : Ren g h ρ) : Ab.canonG h = Ab.canonG g := by
  have e1 : Ab.canonL h (Ab.order h) 0 (Ab.order h) = Ab.canonL g (Ab.order g) 0 (Ab.order g) := by
    have := R.canonL 0 (Ab.order g) R.mg.order.ids
    rw [← R.order] at this
    exact this
  have e2 : h.Roots.map (Ab.atD (Ab.order h)) = g.Roots.map (Ab.atD (Ab.order g)) := by
    rw [R.roots, List.map_map]
    refine List.map_congr_left fun r hr => ?_
    exact R.atD (R.mg.root r hr)
  unfold Ab.canonG
  rw [e1, e2, R.S]
end
end Go.Ab

namespace Go.Ab
open Go Go.RowKit

/-! ### The graph with other ids -/
def moreAt (bs : List Int) (i : Nat) : Int := match bs[i]? with
  | some b => if 1 < b ∧ b < 1000 then b else 1
  | none => 1
def newId (bs : List Int) : Nat → Int
  | 0 => 0
  | i + 1 => newId bs i + moreAt bs i
def rho (g : Graph) (bs : List Int) (x : Int) : Int := if 0 ≤ x then newId bs (gFind g x).toNat else x
def renF (g : Graph) (bs : List Int) (o : GObj) : List GVal := match typeAt g.S o.T with
  | some t => List.zipWith (renV (rho g bs)) t.F o.F
  | none => []
def renL (g : Graph) (bs : List Int) : Nat → List GObj → List GObj
  | _, [] => []
  | i, o :: r => ⟨newId bs i, o.T, renF g bs o⟩ :: renL g bs (i + 1) r
def renamed (g : Graph) (bs : List Int) : Graph := ⟨g.S, renL g bs 0 g.O, g.Roots.map (rho g bs)⟩

theorem moreAt_b (bs : List Int) (i : Nat) : 1 ≤ moreAt bs i ∧ moreAt bs i < 1000 := by
  unfold moreAt
  split
  · split <;> omega
  · omega
theorem newId_up (bs : List Int) (i : Nat) : ∀ j, i < j → newId bs i < newId bs j := by
  intro j
  induction j with
  | zero => intro h; omega
  | succ j ih =>
    intro h
    have := (moreAt_b bs j).1
    simp only [newId]
    by_cases e : i = j
    · subst e; omega
    · have := ih (by omega); omega
theorem newId_b (bs : List Int) (i : Nat) : 0 ≤ newId bs i ∧ newId bs i ≤ 999 * i := by
  induction i with
  | zero => simp [newId]
  | succ i ih => have := moreAt_b bs i; simp only [newId]; omega
theorem newId_inj (bs : List Int) {i j : Nat} (h : newId bs i = newId bs j) : i = j := by
  rcases Nat.lt_trichotomy i j with hl | hl | hl
  · have := newId_up bs i j hl; omega
  · exact hl
  · have := newId_up bs j i hl; omega
theorem renL_get (g : Graph) (bs : List Int) : ∀ (os : List GObj) (k i : Nat), (renL g bs k os)[i]? = (os[i]?).map fun o => ⟨newId bs (k + i), o.T, renF g bs o⟩
  | [], k, i => by simp [renL]
  | o :: os, k, 0 => by simp [renL]
  | o :: os, k, i + 1 => by
    simp only [renL, List.getElem?_cons_succ]
    rw [renL_get g bs os (k + 1) i, show k + 1 + i = k + (i + 1) by omega]
theorem renL_len (g : Graph) (bs : List Int) : ∀ (os : List GObj) (k : Nat), (renL g bs k os).length = os.length
  | [], k => rfl
  | o :: os, k => by simp [renL, renL_len g bs os (k + 1)]
theorem renL_take (g : Graph) (bs : List Int) {os : List GObj} {i : Nat} {o : GObj} (h : os[i]? = some o) : renL g bs 0 (os.take (i + 1)) = renL g bs 0 (os.take i) ++ [⟨newId bs i, o.T, renF g bs o⟩] := by
  have hlt := (List.getElem?_eq_some_iff.1 h).1
  apply List.ext_getElem?
  intro j
  rw [renL_get, List.getElem?_append, renL_len, List.length_take, Nat.min_eq_left (by omega)]
  by_cases hj : j < i
  · rw [if_pos hj, renL_get, List.getElem?_take_of_lt (by omega), List.getElem?_take_of_lt (by omega)]
  · rw [if_neg hj]
    by_cases e : j = i
    · subst e
      rw [List.getElem?_take_of_lt (by omega), h]; simp
    · rw [List.getElem?_take_eq_none (by omega), List.getElem?_eq_none (by simp; omega)]; rfl
theorem typ_inj {l : List GObj} (hu : ∀ (i j : Nat) (x y : GObj), l[i]? = some x → l[j]? = some y → x.Id = y.Id → i = j) {p : Nat} {o : GObj} (ho : l[p]? = some o) : typ l o.Id = some o.T := by
  have h1 := typ_mem (List.mem_of_getElem? ho)
  cases ht : typ l o.Id with
  | none => rw [ht] at h1; cases h1
  | some t =>
    obtain ⟨x, hx, e1, e2⟩ := typ_some ht
    obtain ⟨q, hq⟩ := List.getElem?_of_mem hx
    have := hu q p x o hq ho e1
    subst this
    rw [hq] at ho; cases ho; rw [e2]

def moreC (bs : List Int) (i : Nat) : Bool := match bs[i]? with
  | some b => decide (1 < b) && decide (b < 1000)
  | none => false
theorem moreC_yes {bs : List Int} {i : Nat} (h : moreC bs i = true) : ∃ b, bs[i]? = some b ∧ moreAt bs i = b := by
  unfold moreC at h
  unfold moreAt
  split at h
  · rename_i b hb
    simp only [Bool.and_eq_true, decide_eq_true_eq] at h
    exact ⟨b, hb, by rw [if_pos h]⟩
  · cases h
theorem moreC_no {bs : List Int} {i : Nat} (h : moreC bs i = false) : moreAt bs i = 1 := by
  unfold moreC at h
  unfold moreAt
  split at h
  · rename_i b hb
    rw [if_neg]
    rintro ⟨h1, h2⟩
    simp [h1, h2] at h
  · rfl
theorem moreCases (bs : List Int) (i : Nat) : (bs[i]? = none ∧ decide ((i : Int) < (bs.length : Int)) = false) ∨ ∃ b, bs[i]? = some b ∧ decide ((i : Int) < (bs.length : Int)) = true := by
  cases h : bs[i]? with
  | none => exact .inl ⟨rfl, by have := List.getElem?_eq_none_iff.1 h; simp; omega⟩
  | some b => exact .inr ⟨b, rfl, by have := (List.getElem?_eq_some_iff.1 h).1; simp; omega⟩
theorem wrap_small {a : Int} (h1 : 0 ≤ a) (h2 : a < 1000000) : IntKind.i64.wrap a = a := by
  simp only [IntKind.wrap, IntKind.bits, IntKind.signed]
  simp
  omega
theorem zipTake {α β γ : Type} (F : α → β → γ) {fs : List α} {vs : List β} {k : Nat} {f : α} {v : β} (hf : fs[k]? = some f) (hv : vs[k]? = some v) : List.zipWith F (fs.take (k + 1)) (vs.take (k + 1)) = List.zipWith F (fs.take k) (vs.take k) ++ [F f v] := by
  have h1 := (List.getElem?_eq_some_iff.1 hf).1
  have h2 := (List.getElem?_eq_some_iff.1 hv).1
  rw [List.take_add_one, List.take_add_one, hf, hv]
  simp only [Option.toList_some]
  rw [List.zipWith_append (by simp; omega)]
  rfl
theorem zipAll {α β γ : Type} (F : α → β → γ) {fs : List α} {vs : List β} (h : vs.length = fs.length) : List.zipWith F (fs.take vs.length) (vs.take vs.length) = List.zipWith F fs vs := by
  rw [List.take_of_length_le (by omega), List.take_length]

section
variable {g : Graph} {bs : List Int}
theorem rho_find (h : May g) {x : Int} (hx : rootB g x = true) (h0 : 0 ≤ x) : ∃ p : Nat, p < g.O.length ∧ fnd (fun o => decide (o.Id = x)) g.O = (p : Int) ∧ rho g bs x = newId bs p := by
  unfold rootB at hx
  simp only [Bool.or_eq_true, decide_eq_true_eq] at hx
  have hx := hx.resolve_left (by omega)
  obtain ⟨p, o, hp, e1, e2, _⟩ := h.find hx
  refine ⟨p, (List.getElem?_eq_some_iff.1 hp).1, e2, ?_⟩
  unfold rho; rw [if_pos h0, e2]; rfl
theorem rho_less {x : Int} (h : ¬ 0 ≤ x) : rho g bs x = x := by unfold rho; rw [if_neg h]
theorem rho_at (h : May g) {p : Nat} {o : GObj} (hp : g.O[p]? = some o) : rho g bs o.Id = newId bs p := by
  have hm := List.mem_of_getElem? hp
  obtain ⟨q, x, hq, e1, e2, _, _⟩ := h.find (typ_mem hm)
  have := h.inj hq hp e1
  subst this
  unfold rho; rw [if_pos (h.pos hm), e2]; rfl
theorem rho_neg : rho g bs (-1) = -1 := by simp [rho]
theorem ren_at (h : May g) {p : Nat} {o : GObj} {t : GType} (hp : g.O[p]? = some o) (ht : typeAt g.S o.T = some t) : (renamed g bs).O[p]? = some ⟨newId bs p, o.T, List.zipWith (renV (rho g bs)) t.F o.F⟩ := by
  show (renL g bs 0 g.O)[p]? = _
  rw [renL_get, hp]
  simp [renF, ht]
theorem ren_uniq (i j : Nat) (x y : GObj) (hx : (renamed g bs).O[i]? = some x) (hy : (renamed g bs).O[j]? = some y) (e : x.Id = y.Id) : i = j := by
  have hx : (renL g bs 0 g.O)[i]? = some x := hx
  have hy : (renL g bs 0 g.O)[j]? = some y := hy
  rw [renL_get, Option.map_eq_some_iff] at hx hy
  obtain ⟨_, _, rfl⟩ := hx
  obtain ⟨_, _, rfl⟩ := hy
  have := newId_inj bs e
  omega
theorem ren_typ (h : May g) {x : Int} (hx : (typ g.O x).isSome = true) : typ (renamed g bs).O (rho g bs x) = typ g.O x := by
  obtain ⟨p, o, hp, e1, _, _, e2⟩ := h.find hx
  obtain ⟨_, t, hT, _⟩ := h.objT hp
  rw [e2, ← e1, rho_at h hp]
  exact typ_inj ren_uniq (ren_at h hp hT)
theorem ren_root (h : May g) {x : Int} (hx : rootB g x = true) : rootB (renamed g bs) (rho g bs x) = true := by
  unfold rootB at hx ⊢
  simp only [Bool.or_eq_true, decide_eq_true_eq] at hx ⊢
  rcases hx with rfl | hx
  · exact .inl rho_neg
  · exact .inr (by rw [ren_typ h hx]; exact hx)
theorem rho_b (h : May g) {x : Int} (hx : rootB g x = true) : -1 ≤ rho g bs x ∧ rho g bs x ≤ 1073741824 := by
  unfold rootB at hx
  simp only [Bool.or_eq_true, decide_eq_true_eq] at hx
  rcases hx with rfl | hx
  · rw [rho_neg]; omega
  · obtain ⟨p, o, hp, e1, _⟩ := h.find hx
    rw [← e1, rho_at h hp]
    have := newId_b bs p
    have := (List.getElem?_eq_some_iff.1 hp).1
    have := h.o
    omega
theorem ren_may (h : May g) : May (renamed g bs) := by
  refine ⟨h.s, ?_, by show (g.Roots.map _).length ≤ 3; rw [List.length_map]; exact h.r, fun i y hy => ?_, fun r hr => ?_⟩
  · show (renL g bs 0 g.O).length ≤ 8; rw [renL_len]; exact h.o
  · have hy0 : (renL g bs 0 g.O)[i]? = some y := hy
    rw [renL_get, Option.map_eq_some_iff] at hy0
    obtain ⟨x, hx, _⟩ := hy0
    obtain ⟨_, t, hT, hmo⟩ := h.objT hx
    rw [ren_at h hx hT] at hy
    cases hy
    have hi := (List.getElem?_eq_some_iff.1 hx).1
    have h8 := h.o
    have hb := newId_b bs i
    unfold objectB
    simp only [Bool.and_eq_true, decide_eq_true_eq]
    have e : typeAt (renamed g bs).S x.T = some t := hT
    rw [e]
    simp only [Bool.and_eq_true, decide_eq_true_eq]
    refine ⟨⟨?_, by omega⟩, ?_, allI_yes fun k v hv => ?_⟩
    · cases i with
      | zero => simp only [prevId, newId]; omega
      | succ j =>
        obtain ⟨z, hz⟩ : ∃ z, g.O[j]? = some z := ⟨g.O[j], List.getElem?_eq_getElem (by omega)⟩
        obtain ⟨_, tz, hTz, _⟩ := h.objT hz
        simp only [prevId, ren_at h hz hTz]
        exact newId_up bs j (j + 1) (by omega)
    · rw [List.length_zipWith, hmo.len]; omega
    · rw [Nat.zero_add]
      rw [List.getElem?_zipWith] at hv
      unfold leadsAt
      cases hf : t.F[k]? with
      | none => rw [hf] at hv; simp at hv
      | some f =>
        cases hu : x.F[k]? with
        | none => rw [hf, hu] at hv; simp at hv
        | some u =>
          rw [hf, hu] at hv
          simp only [Option.some.injEq] at hv
          subst hv
          have hl := hmo.lead k f u hf hu
          simp only
          by_cases hk : f.Kind = 5
          · have hr := hmo.ref hf hu hk
            have hb := rho_b (bs := bs) h hr
            unfold leadsB at hl ⊢
            simp only [renV, hk, if_true, Bool.and_eq_true, Bool.or_eq_true, decide_true, Bool.not_true, Bool.false_eq_true, false_or, decide_eq_true_eq] at hl ⊢
            obtain ⟨h1, h2⟩ := hl
            constructor
            · unfold valFits at h1 ⊢
              simp only [hk] at h1 ⊢
              simp at h1 ⊢
              exact ⟨hb, h1.2⟩
            · rcases h2 with h2 | h2
              · exact .inl (by rw [h2]; exact rho_neg)
              · refine .inr ?_
                have hs : (typ g.O u.R).isSome = true := by
                  cases ht : typ g.O u.R with
                  | none => rw [ht] at h2; cases h2
                  | some _ => rfl
                rw [ren_typ h hs]; exact h2
          · have e2 : renV (rho g bs) f u = u := by unfold renV; rw [if_neg hk]
            rw [e2]
            unfold leadsB at hl ⊢
            simp only [hk, decide_false, Bool.not_false, Bool.true_or, Bool.and_true] at hl ⊢
            exact hl
  · obtain ⟨x, hx, rfl⟩ := List.mem_map.1 (show r ∈ g.Roots.map (rho g bs) from hr)
    exact ren_root h (h.root x hx)
theorem ren_ren (h : May g) : Ren g (renamed g bs) (rho g bs) where
  mg := h
  mh := ren_may h
  S := rfl
  len := renL_len g bs g.O 0
  neg := rho_neg
  roots := rfl
  inj := fun x y hx hy e => by
    unfold rootB at hx hy
    simp only [Bool.or_eq_true, decide_eq_true_eq] at hx hy
    rcases hx with rfl | hx
    · rcases hy with rfl | hy
      · rfl
      · obtain ⟨p, o, hp, e1, _⟩ := h.find hy
        rw [← e1, rho_at h hp, rho_neg] at e
        have := (newId_b bs p).1; omega
    · obtain ⟨q, o', hq, e3, _⟩ := h.find hx
      rcases hy with rfl | hy
      · rw [← e3, rho_at h hq, rho_neg] at e
        have := (newId_b bs q).1; omega
      · obtain ⟨p, o, hp, e1, _⟩ := h.find hy
        rw [← e1, ← e3, rho_at h hp, rho_at h hq] at e
        have := newId_inj bs e
        subst this
        rw [hq] at hp; cases hp
        rw [← e3, ← e1]
  obj := fun x o t hA hT => by
    have hm : o ∈ g.O := List.mem_of_find?_eq_some hA
    have he : o.Id = x := by
      have := List.find?_some hA; simpa using this
    obtain ⟨p, hp⟩ := List.getElem?_of_mem hm
    have h1 := ren_at (bs := bs) h hp hT
    have h2 := (ren_may (bs := bs) h).mem (List.mem_of_getElem? h1)
    rw [← he, rho_at h hp]
    exact h2
end
end Go.Ab

