/-
  A graph of its own, what is set, what changed: the plain laws. No condition but those of each theorem.
-/
import Derived.Test.YtmadijloeffjfaaFd
import Derived.Test.YtmadijloeffjfaaFg
set_option linter.unusedVariables false
set_option linter.unusedSimpArgs false
namespace Go.Ab
open Go Go.RowKit

/-! ### A graph of its own; what is set; what changed -/
def eObjO (o : GObj) : List AV := [.int .i64 o.Id, .int .i64 o.T, .own 3 (o.F.map eVal)]
def mixO (l : List GObj) (i : Nat) : List (List AV) := (l.take i).map eObjO ++ (l.drop i).map eObj
theorem mixO_len (l : List GObj) (i : Nat) : (mixO l i).length = l.length := by simp [mixO]; omega
theorem mixO_zero (l : List GObj) : mixO l 0 = l.map eObj := by simp [mixO]
theorem mixO_all (l : List GObj) : mixO l l.length = l.map eObjO := by simp [mixO]
theorem mixO_get {l : List GObj} {i : Nat} {x : GObj} (h : l[i]? = some x) : (mixO l i)[i]? = some (eObj x) := by
  have := (List.getElem?_eq_some_iff.1 h).1
  unfold mixO
  rw [List.getElem?_append_right (by simp; omega)]
  simp [Nat.min_eq_left (Nat.le_of_lt this), h]
theorem mixO_set {l : List GObj} {i : Nat} {x : GObj} (h : l[i]? = some x) : (mixO l i).set i (eObjO x) = mixO l (i + 1) := by
  obtain ⟨hl, hx⟩ := List.getElem?_eq_some_iff.1 h
  unfold mixO
  have e : ((l.take i).map eObjO).length = i := by simp; omega
  rw [List.set_append, if_neg (by omega), e, Nat.sub_self, List.drop_eq_getElem_cons hl, List.map_cons, List.set_cons_zero, List.take_add_one, h]
  simp
theorem frz_ObjO (n : Nat) (xs : List GObj) : (AV.own n (xs.map eObjO)).freeze = .sl n (xs.map eObj) := by
  simp only [AV.freeze, List.map_map]
  congr 1
  refine List.map_congr_left fun x _ => ?_
  simp [eObjO, eObj, AV.freeze]
  intro a _
  simp [eVal, AV.freeze]
theorem set_ObjO (xs : List GObj) (i : Nat) (x : GObj) : (xs.map eObjO).set i [.int .i64 x.Id, .int .i64 x.T, .own 3 (x.F.map eVal)] = (xs.set i x).map eObjO := by
  rw [List.map_set]; rfl
attribute [go_sem] frz_ObjO
def OWN (g : Graph) : List AV := [.own 2 (g.S.map eType), .own 3 (g.O.map eObjO), .own 1 (g.Roots.map eI)]

structure GSz (g : Graph) : Prop where
  s : g.S.length * 40 ≤ MX
  sf : ∀ x ∈ g.S, x.F.length * 40 ≤ MX
  o : g.O.length * 40 ≤ MX
  of_ : ∀ x ∈ g.O, x.F.length * 32 ≤ MX
  r : g.Roots.length * 8 ≤ MX

def sSet (g : Graph) (i : Nat) (x : GObj) (k : Nat) (v : GVal) : Graph := ⟨g.S, g.O.set i ⟨x.Id, x.T, x.F.set k v⟩, g.Roots⟩
def tyF (g : Graph) (t : Int) : List GField := match typeAt g.S t with
  | some t => t.F
  | none => []
def gSet (g : Graph) (id k : Int) (v : GVal) : Graph × Int :=
  if gMay g = false then (g, 1) else match g.O.findIdx? (fun o => decide (o.Id = id)) with
  | none => (g, 11)
  | some i => match g.O[i]? with
    | none => (g, 11)
    | some x => if k < 0 ∨ (x.F.length : Int) ≤ k then (g, 11) else if leadsAt g (tyF g x.T) k.toNat v = true then (sSet g i x k.toNat v, 0) else (g, 6)

structure GChange where
  New : List Int
  Gone : List Int
  Set : List (Int × Int)
  Roots : List Int
def eP (p : Int × Int) : List AV := [.int .i64 p.1, .int .i64 p.2]
def eChange (c : GChange) : List AV := [.sl 1 (c.New.map eI), .sl 1 (c.Gone.map eI), .sl 2 (c.Set.map eP), .sl 1 (c.Roots.map eI)]
theorem GChange.ext_iff' (a b : GChange) : a = b ↔ a.New = b.New ∧ a.Gone = b.Gone ∧ a.Set = b.Set ∧ a.Roots = b.Roots := by
  cases a; cases b; simp
instance : DecidableEq GChange := fun a b => decidable_of_iff _ (GChange.ext_iff' a b).symm
theorem frz_P (n : Nat) (xs : List (Int × Int)) : (AV.own n (xs.map eP)).freeze = .sl n (xs.map eP) := frz_map (fun x a ha => by simp [eP] at ha; rcases ha with rfl | rfl <;> rfl) n xs
attribute [go_sem] frz_P
def noChange : GChange := ⟨[], [], [], []⟩

theorem wrap_add {a b : Nat} (h : a + b ≤ MX) : IntKind.i64.wrap ((a : Int) + (b : Int)) = ((a + b : Nat) : Int) := by
  cases a with
  | zero => cases b with
    | zero => rfl
    | succ b => have := @wrap_succ b (by omega); rw [show ((0 : Nat) : Int) + ((b + 1 : Nat) : Int) = (b : Int) + 1 by omega, this]; simp
  | succ a => have := @wrap_succ (a + b) (by omega); rw [show ((a + 1 : Nat) : Int) + (b : Int) = ((a + b : Nat) : Int) + 1 by omega, this, show a + b + 1 = a + 1 + b by omega]
def hasId (g : Graph) (id : Int) : Bool := (objAt g id).isSome
def objD (g : Graph) (id : Int) : GObj := (objAt g id).getD ⟨0, 0, []⟩
theorem find_cases {α : Type} (p : α → Bool) (l : List α) : (fnd p l = -1 ∧ l.find? p = none ∧ l.findIdx? p = none) ∨ ∃ (i : Nat) (x : α), fnd p l = i ∧ l[i]? = some x ∧ l.find? p = some x ∧ l.findIdx? p = some i ∧ p x = true := by
  cases h : l.findIdx? p with
  | none =>
    left
    refine ⟨by unfold fnd; rw [h], ?_, rfl⟩
    rw [List.findIdx?_eq_none_iff] at h
    rw [List.find?_eq_none]
    intro x hx
    simp [h x hx]
  | some i =>
    right
    rw [List.findIdx?_eq_some_iff_getElem] at h
    obtain ⟨h1, h2, h3⟩ := h
    refine ⟨i, l[i], by unfold fnd; rw [List.findIdx?_eq_some_iff_getElem.2 ⟨h1, h2, h3⟩], List.getElem?_eq_getElem h1, ?_, rfl, h2⟩
    rw [List.find?_eq_some_iff_getElem]
    exact ⟨h2, i, h1, rfl, fun j hj => by have := h3 j hj; simpa using this⟩

def dNew (o : Graph) (l : List GObj) : List Int := (l.filter fun x => !hasId o x.Id).map (·.Id)
theorem dNew_yes {o : Graph} {l : List GObj} {i : Nat} {x : GObj} (h : l[i]? = some x) (hh : hasId o x.Id = true) : dNew o (l.take (i + 1)) = dNew o (l.take i) := by
  unfold dNew; rw [List.take_add_one, h]; simp [hh]
theorem dNew_no {o : Graph} {l : List GObj} {i : Nat} {x : GObj} (h : l[i]? = some x) (hh : hasId o x.Id = false) : dNew o (l.take (i + 1)) = dNew o (l.take i) ++ [x.Id] := by
  unfold dNew; rw [List.take_add_one, h]; simp [hh]
theorem dNew_len (o : Graph) (l : List GObj) : (dNew o l).length ≤ l.length := by
  unfold dNew; rw [List.length_map]; exact List.length_filter_le _ _
def dSetF (id : Int) (F F' : List GVal) (k : Nat) : List (Int × Int) := ((List.range k).filter fun j => decide (F[j]? ≠ F'[j]?)).map fun (j : Nat) => (id, (j : Int))
theorem dSetF_zero (id : Int) (F F' : List GVal) : dSetF id F F' 0 = [] := rfl
theorem dSetF_yes {id : Int} {F F' : List GVal} {k : Nat} (h : F[k]? ≠ F'[k]?) : dSetF id F F' (k + 1) = dSetF id F F' k ++ [(id, (k : Int))] := by
  unfold dSetF; rw [List.range_succ, List.filter_append]; simp [h]
theorem dSetF_no {id : Int} {F F' : List GVal} {k : Nat} (h : F[k]? = F'[k]?) : dSetF id F F' (k + 1) = dSetF id F F' k := by
  unfold dSetF; rw [List.range_succ, List.filter_append]; simp [h]
theorem dSetF_len (id : Int) (F F' : List GVal) (k : Nat) : (dSetF id F F' k).length ≤ k := by
  unfold dSetF; rw [List.length_map]; exact Nat.le_trans (List.length_filter_le _ _) (by simp)
def dSet1 (a : Graph) (x : GObj) : List (Int × Int) := if hasId a x.Id = true then dSetF x.Id x.F (objD a x.Id).F x.F.length else []
def dSet (a : Graph) (l : List GObj) : List (Int × Int) := l.flatMap (dSet1 a)
theorem dSet_succ {a : Graph} {l : List GObj} {i : Nat} {x : GObj} (h : l[i]? = some x) : dSet a (l.take (i + 1)) = dSet a (l.take i) ++ dSet1 a x := by
  unfold dSet; rw [List.take_add_one, h]; simp
theorem dSet_len (a : Graph) (l : List GObj) (n : Nat) (h : ∀ x ∈ l, x.F.length ≤ n) : (dSet a l).length ≤ l.length * n := by
  induction l with
  | nil => simp [dSet]
  | cons x l ih =>
    have h1 := ih fun y hy => h y (List.mem_cons_of_mem _ hy)
    have h2 : (dSet1 a x).length ≤ n := by
      unfold dSet1
      split
      · exact Nat.le_trans (dSetF_len _ _ _ _) (h x List.mem_cons_self)
      · simp
    unfold dSet at h1 ⊢
    rw [List.flatMap_cons, List.length_append, List.length_cons, Nat.add_mul]
    omega
def dBad1 (a : Graph) (x : GObj) : Bool := hasId a x.Id && !decide (x.T = (objD a x.Id).T)
def dBad (a : Graph) (l : List GObj) : Bool := l.any (dBad1 a)
def rootAt (g : Graph) (i : Nat) : Int := match g.Roots[i]? with
  | some r => r
  | none => -1
def dRoots (o a : Graph) (n : Nat) : List Int := ((List.range n).filter fun i => !decide (rootAt o i = rootAt a i)).map fun (i : Nat) => (i : Int)
theorem dRoots_zero (o a : Graph) : dRoots o a 0 = [] := rfl
theorem dRoots_yes {o a : Graph} {n : Nat} (h : rootAt o n ≠ rootAt a n) : dRoots o a (n + 1) = dRoots o a n ++ [(n : Int)] := by
  unfold dRoots; rw [List.range_succ, List.filter_append]; simp [h]
theorem dRoots_no {o a : Graph} {n : Nat} (h : rootAt o n = rootAt a n) : dRoots o a (n + 1) = dRoots o a n := by
  unfold dRoots; rw [List.range_succ, List.filter_append]; simp [h]
theorem dRoots_len (o a : Graph) (n : Nat) : (dRoots o a n).length ≤ n := by
  unfold dRoots; rw [List.length_map]; exact Nat.le_trans (List.length_filter_le _ _) (by simp)
def gDiff (o a : Graph) : GChange × Int :=
  if (gMay o && gMay a) = false then (noChange, 1) else if ¬ o.S = a.S then (noChange, 6) else if dBad a o.O = true then (noChange, 6) else
  (⟨dNew o a.O, dNew a o.O, dSet a o.O, dRoots o a (max o.Roots.length a.Roots.length)⟩, 0)
def gNone (c : GChange) : Bool := decide (c = noChange)
theorem gNone_iff (c : GChange) : gNone c = decide (c.New.length + c.Gone.length + c.Set.length + c.Roots.length = 0) := by
  obtain ⟨a, b, d, e⟩ := c
  rw [Bool.eq_iff_iff]
  simp only [gNone, noChange, decide_eq_true_eq, GChange.mk.injEq]
  cases a <;> cases b <;> cases d <;> cases e <;> simp
theorem May.small {g : Graph} (h : May g) : g.S.length ≤ 4 ∧ (∀ x ∈ g.S, x.F.length ≤ 5) ∧ ∀ x ∈ g.O, x.F.length ≤ 5 := by
  have h0 := h.s
  unfold schemaMay at h0
  simp only [Bool.and_eq_true, decide_eq_true_eq] at h0
  have h1 : ∀ x ∈ g.S, x.F.length ≤ 5 := fun x hx => by
    obtain ⟨j, hj⟩ := List.getElem?_of_mem hx
    have := allI_at h0.2 hj
    unfold typeMay at this; simp at this; omega
  refine ⟨h0.1.2, h1, fun x hx => ?_⟩
  obtain ⟨j, hj⟩ := List.getElem?_of_mem hx
  obtain ⟨_, t, _, ho⟩ := h.objT hj
  have := h1 t (List.mem_of_getElem? ho.at_)
  have := ho.len
  omega
theorem hasId_at {a : Graph} {id : Int} (h : hasId a id = true) : ∃ j : Nat, a.O[j]? = some (objD a id) ∧ (objD a id).Id = id := by
  unfold hasId at h
  obtain ⟨y, hy⟩ := Option.isSome_iff_exists.1 h
  have e : objD a id = y := by unfold objD; rw [hy]; rfl
  rw [e]
  unfold objAt at hy
  obtain ⟨j, hj⟩ := List.getElem?_of_mem (List.mem_of_find?_eq_some hy)
  exact ⟨j, hj, by simpa using List.find?_some hy⟩
theorem same_len {o a : Graph} (hmo : May o) (hma : May a) (hS : o.S = a.S) {i : Nat} {x : GObj} (hx : o.O[i]? = some x) (hh : hasId a x.Id = true) (hT : x.T = (objD a x.Id).T) : (objD a x.Id).F.length = x.F.length := by
  obtain ⟨j, hj, _⟩ := hasId_at hh
  obtain ⟨_, t, h1, h2⟩ := hmo.objT hx
  obtain ⟨_, t', h3, h4⟩ := hma.objT hj
  rw [← hT, ← hS, h1] at h3
  cases h3
  rw [h2.len, h4.len]
theorem dBad_succ {a : Graph} {l : List GObj} {i : Nat} {x : GObj} (h : l[i]? = some x) (hb : dBad a (l.take i) = false) (h1 : dBad1 a x = false) : dBad a (l.take (i + 1)) = false := by
  unfold dBad at hb ⊢; rw [List.take_add_one, h]; simp only [List.any_append, hb]; simp [h1]
theorem dBad_yes {a : Graph} {l : List GObj} {i : Nat} {x : GObj} (h : l[i]? = some x) (h1 : dBad1 a x = true) : dBad a l = true := any_at h h1
def twG : Graph := ⟨oneS, [⟨0, 0, [⟨7, ⟨#[]⟩, 0⟩, ⟨0, ⟨#[]⟩, -1⟩]⟩, ⟨5, 0, [⟨8, ⟨#[]⟩, 0⟩, ⟨0, ⟨#[]⟩, 0⟩]⟩], [0]⟩
def twS : Graph := ⟨oneS, [⟨0, 0, [⟨7, ⟨#[]⟩, 0⟩, ⟨0, ⟨#[]⟩, -1⟩]⟩, ⟨5, 0, [⟨9, ⟨#[]⟩, 0⟩, ⟨0, ⟨#[]⟩, 0⟩]⟩], [0]⟩
set_option maxRecDepth 100000
theorem twG_sz : GSz twG := ⟨by decide, by decide, by decide, by decide, by decide⟩
theorem twG_may : gMay twG = true := by decide
theorem twG_set : gSet twG 5 0 ⟨9, ⟨#[]⟩, 0⟩ = (twS, 0) := by decide
theorem twG_diff : gDiff twG twS = (⟨[], [], [(5, 0)], []⟩, 0) := by decide
end Go.Ab

namespace Go.Ab
open Go Go.RowKit

/-! ### What changed: the plain laws -/
theorem sorted_ext : ∀ {l m : List Int}, l.Pairwise (· < ·) → m.Pairwise (· < ·) → (∀ x, x ∈ l ↔ x ∈ m) → l = m
  | [], [], _, _, _ => rfl
  | [], y :: m, _, _, h => by have := (h y).2 List.mem_cons_self; cases this
  | x :: l, [], _, _, h => by have := (h x).1 List.mem_cons_self; cases this
  | x :: l, y :: m, h1, h2, h => by
    obtain ⟨a1, a2⟩ := List.pairwise_cons.1 h1
    obtain ⟨b1, b2⟩ := List.pairwise_cons.1 h2
    have e : x = y := by
      rcases List.mem_cons.1 ((h x).1 List.mem_cons_self) with e | hx
      · exact e
      · rcases List.mem_cons.1 ((h y).2 List.mem_cons_self) with e | hy
        · exact e.symm
        · have := a1 y hy; have := b1 x hx; omega
    subst e
    rw [sorted_ext a2 b2 fun z => ?_]
    constructor
    · intro hz
      rcases List.mem_cons.1 ((h z).1 (List.mem_cons_of_mem _ hz)) with e | h'
      · have := a1 z hz; omega
      · exact h'
    · intro hz
      rcases List.mem_cons.1 ((h z).2 (List.mem_cons_of_mem _ hz)) with e | h'
      · have := b1 z hz; omega
      · exact h'

def idsO (l : List GObj) : List Int := l.map (·.Id)
theorem May.sorted {g : Graph} (h : May g) : (idsO g.O).Pairwise (· < ·) := by
  unfold idsO
  rw [List.pairwise_iff_getElem]
  intro i j hi hj hij
  simp only [List.length_map] at hi hj
  simp only [List.getElem_map]
  exact (h.ids j _ (List.getElem?_eq_getElem hj)).2 i _ hij (List.getElem?_eq_getElem hi)
theorem May.objD {g : Graph} (h : May g) {x : GObj} (hx : x ∈ g.O) : Ab.objD g x.Id = x := by
  unfold Ab.objD; rw [h.mem hx]; rfl
theorem May.hasId {g : Graph} (h : May g) {x : GObj} (hx : x ∈ g.O) : Ab.hasId g x.Id = true := by
  unfold Ab.hasId; rw [h.mem hx]; rfl
theorem hasId_iff {g : Graph} (h : May g) (i : Int) : hasId g i = true ↔ i ∈ idsO g.O := by
  constructor
  · intro hh
    obtain ⟨j, h1, h2⟩ := hasId_at hh
    unfold idsO
    exact List.mem_map.2 ⟨_, List.mem_of_getElem? h1, h2⟩
  · intro hh
    unfold idsO at hh
    obtain ⟨x, hx, rfl⟩ := List.mem_map.1 hh
    exact h.hasId hx
def comm (o a : Graph) : List Int := (idsO o.O).filter (hasId a)
theorem comm_turn {o a : Graph} (ho : May o) (ha : May a) : comm o a = comm a o := by
  refine sorted_ext (ho.sorted.filter _) (ha.sorted.filter _) fun x => ?_
  unfold comm
  rw [List.mem_filter, List.mem_filter, hasId_iff ho, hasId_iff ha]
  exact And.comm
def dSetI (o a : Graph) (i : Int) : List (Int × Int) := dSetF i (objD o i).F (objD a i).F (objD o i).F.length
theorem flatMap_filter {α β : Type} (p : α → Bool) (f g : α → List β) : ∀ (l : List α), (∀ x ∈ l, g x = if p x = true then f x else []) → l.flatMap g = (l.filter p).flatMap f
  | [], _ => rfl
  | x :: l, h => by
    have ih := flatMap_filter p f g l fun y hy => h y (List.mem_cons_of_mem _ hy)
    have hx := h x List.mem_cons_self
    rw [List.flatMap_cons, ih, hx]
    cases hp : p x <;> simp [List.filter_cons, hp, List.flatMap_cons]
theorem flatMap_congr' {α β : Type} {f g : α → List β} : ∀ {l : List α}, (∀ x ∈ l, f x = g x) → l.flatMap f = l.flatMap g
  | [], _ => rfl
  | x :: l, h => by rw [List.flatMap_cons, List.flatMap_cons, h x List.mem_cons_self, flatMap_congr' fun y hy => h y (List.mem_cons_of_mem _ hy)]
theorem dSet_comm {o a : Graph} (ho : May o) : dSet a o.O = (comm o a).flatMap (dSetI o a) := by
  unfold dSet comm idsO
  rw [List.filter_map, List.flatMap_map]
  refine flatMap_filter _ _ _ _ fun x hx => ?_
  simp only [dSet1, dSetI, Function.comp, ho.objD hx]
theorem dSetF_turn {i : Int} {F F' : List GVal} {k : Nat} : dSetF i F F' k = dSetF i F' F k := by
  unfold dSetF
  congr 1
  refine List.filter_congr fun j _ => ?_
  rw [Bool.eq_iff_iff]; simp only [decide_eq_true_eq]
  exact ⟨fun h e => h e.symm, fun h e => h e.symm⟩
theorem dBad_iff {o a : Graph} (ho : May o) (ha : May a) : dBad a o.O = true ↔ ∃ x ∈ o.O, ∃ y ∈ a.O, x.Id = y.Id ∧ x.T ≠ y.T := by
  unfold dBad dBad1
  rw [List.any_eq_true]
  constructor
  · rintro ⟨x, hx, h⟩
    simp only [Bool.and_eq_true, Bool.not_eq_true', decide_eq_false_iff_not] at h
    obtain ⟨j, h1, h2⟩ := hasId_at h.1
    exact ⟨x, hx, _, List.mem_of_getElem? h1, h2.symm, h.2⟩
  · rintro ⟨x, hx, y, hy, e, hT⟩
    refine ⟨x, hx, ?_⟩
    simp only [Bool.and_eq_true, Bool.not_eq_true', decide_eq_false_iff_not]
    rw [e, ha.objD hy]
    exact ⟨ha.hasId hy, hT⟩
theorem dBad_turn {o a : Graph} (ho : May o) (ha : May a) : dBad a o.O = dBad o a.O := by
  rw [Bool.eq_iff_iff, dBad_iff ho ha, dBad_iff ha ho]
  constructor
  · rintro ⟨x, hx, y, hy, e, hT⟩; exact ⟨y, hy, x, hx, e.symm, fun h => hT h.symm⟩
  · rintro ⟨x, hx, y, hy, e, hT⟩; exact ⟨y, hy, x, hx, e.symm, fun h => hT h.symm⟩
theorem dBad_T {o a : Graph} (ho : May o) (ha : May a) (hb : dBad a o.O = false) {x y : GObj} (hx : x ∈ o.O) (hy : y ∈ a.O) (e : x.Id = y.Id) : x.T = y.T := by
  refine Classical.byContradiction fun h => ?_
  rw [(dBad_iff ho ha).2 ⟨x, hx, y, hy, e, h⟩] at hb; cases hb
theorem len_eq {o a : Graph} (ho : May o) (ha : May a) (hS : o.S = a.S) (hb : dBad a o.O = false) {x y : GObj} (hx : x ∈ o.O) (hy : y ∈ a.O) (e : x.Id = y.Id) : y.F.length = x.F.length := by
  obtain ⟨i, hi⟩ := List.getElem?_of_mem hx
  have hT := dBad_T ho ha hb hx hy e
  have h1 : objD a x.Id = y := by rw [e]; exact ha.objD hy
  have := same_len ho ha hS hi (by rw [e]; exact ha.hasId hy) (by rw [h1]; exact hT)
  rwa [h1] at this
theorem dSet_turn {o a : Graph} (ho : May o) (ha : May a) (hS : o.S = a.S) (hb : dBad a o.O = false) : dSet a o.O = dSet o a.O := by
  rw [dSet_comm ho, dSet_comm ha, comm_turn ha ho]
  refine flatMap_congr' fun i hi => ?_
  unfold comm at hi
  obtain ⟨h1, h2⟩ := List.mem_filter.1 hi
  unfold idsO at h1
  obtain ⟨x, hx, rfl⟩ := List.mem_map.1 h1
  obtain ⟨j, h3, h4⟩ := hasId_at h2
  have hl := len_eq ho ha hS hb hx (List.mem_of_getElem? h3) h4.symm
  unfold dSetI
  rw [ho.objD hx] at *
  rw [dSetF_turn, hl]
theorem dRoots_turn (o a : Graph) (n : Nat) : dRoots o a n = dRoots a o n := by
  unfold dRoots
  congr 1
  refine List.filter_congr fun j _ => ?_
  rw [Bool.eq_iff_iff]; simp only [Bool.not_eq_true', decide_eq_false_iff_not]
  exact ⟨fun h e => h e.symm, fun h e => h e.symm⟩
def turnC (c : GChange) : GChange := ⟨c.Gone, c.New, c.Set, c.Roots⟩
theorem gDiff_arg {o a : Graph} (h : (gMay o && gMay a) = false) : gDiff o a = (noChange, 1) := by unfold gDiff; rw [if_pos h]
theorem gDiff_S {o a : Graph} (h : (gMay o && gMay a) = true) (hS : ¬ o.S = a.S) : gDiff o a = (noChange, 6) := by unfold gDiff; rw [if_neg (by simp [h]), if_pos hS]
theorem gDiff_T {o a : Graph} (h : (gMay o && gMay a) = true) (hS : o.S = a.S) (hb : dBad a o.O = true) : gDiff o a = (noChange, 6) := by unfold gDiff; rw [if_neg (by simp [h]), if_neg (by simpa using hS), if_pos hb]
theorem gDiff_ok {o a : Graph} (h : (gMay o && gMay a) = true) (hS : o.S = a.S) (hb : dBad a o.O = false) : gDiff o a = (⟨dNew o a.O, dNew a o.O, dSet a o.O, dRoots o a (max o.Roots.length a.Roots.length)⟩, 0) := by
  unfold gDiff; rw [if_neg (by simp [h]), if_neg (by simpa using hS), if_neg (by simp [hb])]
theorem both_may {o a : Graph} (h : (gMay o && gMay a) = true) : May o ∧ May a := by
  rw [Bool.and_eq_true] at h
  exact ⟨(may_iff o).1 h.1, (may_iff a).1 h.2⟩
theorem diff_turned (o a : Graph) : (gDiff o a).2 = (gDiff a o).2 ∧ (gDiff o a).1 = turnC (gDiff a o).1 := by
  have hsw : (gMay a && gMay o) = (gMay o && gMay a) := Bool.and_comm _ _
  cases hm : gMay o && gMay a with
  | false => rw [gDiff_arg hm, gDiff_arg (by rw [hsw]; exact hm)]; exact ⟨rfl, rfl⟩
  | true =>
    obtain ⟨ho, ha⟩ := both_may hm
    have hm' : (gMay a && gMay o) = true := by rw [hsw]; exact hm
    by_cases hS : o.S = a.S
    · have hbt := dBad_turn ho ha
      cases hb : dBad a o.O with
      | true => rw [gDiff_T hm hS hb, gDiff_T hm' hS.symm (by rw [← hbt]; exact hb)]; exact ⟨rfl, rfl⟩
      | false =>
        rw [gDiff_ok hm hS hb, gDiff_ok hm' hS.symm (by rw [← hbt]; exact hb)]
        refine ⟨rfl, ?_⟩
        simp only [turnC, GChange.mk.injEq]
        refine ⟨trivial, trivial, dSet_turn ho ha hS hb, ?_⟩
        rw [Nat.max_comm, dRoots_turn]
    · rw [gDiff_S hm hS, gDiff_S hm' (fun e => hS e.symm)]; exact ⟨rfl, rfl⟩

theorem dSetF_nil {i : Int} {F F' : List GVal} {k : Nat} (h : dSetF i F F' k = []) : ∀ j, j < k → F[j]? = F'[j]? := by
  intro j hj
  unfold dSetF at h
  rw [List.map_eq_nil_iff, List.filter_eq_nil_iff] at h
  have := h j (List.mem_range.2 hj)
  simpa using this
theorem dSetF_self (i : Int) (F : List GVal) (k : Nat) : dSetF i F F k = [] := by
  unfold dSetF
  rw [List.map_eq_nil_iff, List.filter_eq_nil_iff]
  intro j _; simp
theorem dNew_self {o : Graph} (h : May o) : dNew o o.O = [] := by
  unfold dNew
  rw [List.map_eq_nil_iff, List.filter_eq_nil_iff]
  intro x hx; simp [h.hasId hx]
theorem diff_self (o : Graph) : gDiff o o = (noChange, if gMay o = true then 0 else 1) := by
  unfold gDiff
  cases hm : gMay o with
  | false => rfl
  | true =>
    have h := (may_iff o).1 hm
    have hb : dBad o o.O = false := by
      cases hb : dBad o o.O with
      | false => rfl
      | true =>
        obtain ⟨x, hx, y, hy, e, hT⟩ := (dBad_iff h h).1 hb
        exact absurd (by rw [← h.objD hx, ← h.objD hy, e]) hT
    have hs : dSet o o.O = [] := by
      rw [dSet_comm h]
      rw [List.flatMap_eq_nil_iff]
      intro i _; exact dSetF_self _ _ _
    have hr : ∀ n, dRoots o o n = [] := fun n => by
      unfold dRoots
      rw [List.map_eq_nil_iff, List.filter_eq_nil_iff]
      intro j _; simp
    simp [hb, hs, hr, dNew_self h, noChange]
theorem diff_none {o a : Graph} (h0 : (gDiff o a).2 = 0) (hn : (gDiff o a).1 = noChange) : o = ⟨a.S, a.O, o.Roots⟩ := by
  cases hm : gMay o && gMay a with
  | false => rw [gDiff_arg hm] at h0; cases h0
  | true =>
  obtain ⟨ho, ha⟩ := both_may hm
  by_cases hS : o.S = a.S
  case neg => rw [gDiff_S hm hS] at h0; cases h0
  cases hb : dBad a o.O with
  | true => rw [gDiff_T hm hS hb] at h0; cases h0
  | false =>
  rw [gDiff_ok hm hS hb] at hn
  simp only [noChange, GChange.mk.injEq] at hn
  obtain ⟨h1, h2, h3, _⟩ := hn
  have hin : ∀ {o a : Graph}, May o → May a → dNew o a.O = [] → ∀ i, i ∈ idsO a.O → i ∈ idsO o.O := by
    intro o a ho ha h i hi
    unfold dNew at h
    rw [List.map_eq_nil_iff, List.filter_eq_nil_iff] at h
    unfold idsO at hi
    obtain ⟨x, hx, rfl⟩ := List.mem_map.1 hi
    have := h x hx
    exact (hasId_iff ho _).1 (by simpa using this)
  have hids : idsO o.O = idsO a.O := sorted_ext ho.sorted ha.sorted fun i => ⟨hin ha ho h2 i, hin ho ha h1 i⟩
  have hlen : o.O.length = a.O.length := by have := congrArg List.length hids; simpa [idsO] using this
  have hO : o.O = a.O := by
    refine List.ext_getElem hlen fun i hi1 hi2 => ?_
    have hx : o.O[i] ∈ o.O := List.getElem_mem _
    have hy : a.O[i] ∈ a.O := List.getElem_mem _
    have e : (o.O[i]).Id = (a.O[i]).Id := by
      have : (idsO o.O)[i]? = (idsO a.O)[i]? := by rw [hids]
      simpa [idsO, hi1, hi2] using this
    have hl := len_eq ho ha hS hb hx hy e
    have hT := dBad_T ho ha hb hx hy e
    have hs : dSet1 a o.O[i] = [] := by
      unfold dSet at h3
      rw [List.flatMap_eq_nil_iff] at h3
      exact h3 _ hx
    unfold dSet1 at hs
    rw [if_pos (by rw [e]; exact ha.hasId hy), e, ha.objD hy] at hs
    rw [GObj.ext_iff']
    refine ⟨e, hT, List.ext_getElem? fun j => ?_⟩
    rcases Nat.lt_or_ge j (o.O[i]).F.length with hj | hj
    · exact dSetF_nil hs j hj
    · rw [List.getElem?_eq_none hj, List.getElem?_eq_none (by omega)]
  rw [Graph.ext_iff']
  exact ⟨hS, hO, rfl⟩
theorem diff_len (o a : Graph) : (gDiff o a).1.New.length + (gDiff o a).1.Gone.length + (gDiff o a).1.Set.length + (gDiff o a).1.Roots.length ≤ MX := by
  cases hm : gMay o && gMay a with
  | false => rw [gDiff_arg hm]; decide
  | true =>
  obtain ⟨ho, ha⟩ := both_may hm
  by_cases hS : o.S = a.S
  case neg => rw [gDiff_S hm hS]; decide
  cases hb : dBad a o.O with
  | true => rw [gDiff_T hm hS hb]; decide
  | false =>
  rw [gDiff_ok hm hS hb]
  have h1 := Nat.le_trans (dNew_len o a.O) ha.o
  have h2 := Nat.le_trans (dNew_len a o.O) ho.o
  have h3 := dSet_len a o.O 5 ho.small.2.2
  have h4 := dRoots_len o a (max o.Roots.length a.Roots.length)
  have := ho.o
  have := ho.r
  have := ha.r
  simp only
  unfold MX
  have : o.O.length * 5 ≤ 40 := by omega
  omega
end Go.Ab

