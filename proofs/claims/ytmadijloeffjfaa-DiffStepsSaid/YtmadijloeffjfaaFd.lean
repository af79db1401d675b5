/-
  Graphs and schemas as plain data, what may be, the order in which objects are met, the Canon; and how arguments that are read become such data. No condition but those of each theorem.
-/
import Derived.ProofKit
import Derived.SizedLaws
import Derived.Test.YtmadijloeffjfaaFf
set_option linter.unusedVariables false
set_option linter.unusedSimpArgs false
namespace Go.Ab
open Go Go.RowKit

/-! ### The program's data, as plain Lean, and how it lies in cells -/
structure GVal where
  N : Int
  S : ByteArray
  R : Int
structure GObj where
  Id : Int
  T : Int
  F : List GVal
structure GField where
  Name : ByteArray
  Kind : Int
  To : ByteArray
structure GType where
  Name : ByteArray
  F : List GField
structure Graph where
  S : List GType
  O : List GObj
  Roots : List Int

def eI (x : Int) : List AV := [.int .i64 x]
def eVal (v : GVal) : List AV := [.int .i64 v.N, .str v.S, .int .i64 v.R]
def eObj (o : GObj) : List AV := [.int .i64 o.Id, .int .i64 o.T, .sl 3 (o.F.map eVal)]
def eField (f : GField) : List AV := [.str f.Name, .int .i64 f.Kind, .str f.To]
def eType (t : GType) : List AV := [.str t.Name, .sl 3 (t.F.map eField)]
def eSchema (s : List GType) : List AV := [.sl 2 (s.map eType)]
def eGraph (g : Graph) : List AV := [.sl 2 (g.S.map eType), .sl 3 (g.O.map eObj), .sl 1 (g.Roots.map eI)]

theorem GVal.ext_iff' (a b : GVal) : a = b ↔ a.N = b.N ∧ a.S = b.S ∧ a.R = b.R := by
  cases a; cases b; simp
theorem GField.ext_iff' (a b : GField) : a = b ↔ a.Name = b.Name ∧ a.Kind = b.Kind ∧ a.To = b.To := by
  cases a; cases b; simp
instance : DecidableEq GVal := fun a b => decidable_of_iff _ (GVal.ext_iff' a b).symm
instance : DecidableEq GField := fun a b => decidable_of_iff _ (GField.ext_iff' a b).symm
theorem GObj.ext_iff' (a b : GObj) : a = b ↔ a.Id = b.Id ∧ a.T = b.T ∧ a.F = b.F := by
  cases a; cases b; simp
instance : DecidableEq GObj := fun a b => decidable_of_iff _ (GObj.ext_iff' a b).symm
theorem GType.ext_iff' (a b : GType) : a = b ↔ a.Name = b.Name ∧ a.F = b.F := by
  cases a; cases b; simp
instance : DecidableEq GType := fun a b => decidable_of_iff _ (GType.ext_iff' a b).symm
theorem Graph.ext_iff' (a b : Graph) : a = b ↔ a.S = b.S ∧ a.O = b.O ∧ a.Roots = b.Roots := by
  cases a; cases b; simp
instance : DecidableEq Graph := fun a b => decidable_of_iff _ (Graph.ext_iff' a b).symm

theorem take_same {α : Type} {a b : List α} {i : Nat} {x : α} (h : a.take i = b.take i) (h1 : a[i]? = some x) (h2 : b[i]? = some x) : a.take (i + 1) = b.take (i + 1) := by
  rw [List.take_add_one, List.take_add_one, h, h1, h2]
theorem all_same {α : Type} {a b : List α} {i : Nat} (h : a.take i = b.take i) (h1 : i = a.length) (h2 : a.length = b.length) : a = b := by
  rw [h1, List.take_length, h2, List.take_length] at h; exact h

theorem frz_map {α : Type} {e : α → List AV} (h : ∀ x, ∀ a ∈ e x, a.tree = false) (n : Nat) (xs : List α) : (AV.own n (xs.map e)).freeze = .sl n (xs.map e) := by
  have : ∀ x, (e x).map AV.freeze = e x := fun x => by
    have : (e x).map AV.freeze = (e x).map (fun a => a) := List.map_congr_left fun a ha => freeze_plain (h x a ha)
    rw [this, List.map_id']
  simp only [AV.freeze, List.map_map]
  congr 1
  refine List.map_congr_left fun x _ => ?_
  exact this x
theorem frz_I (n : Nat) (xs : List Int) : (AV.own n (xs.map eI)).freeze = .sl n (xs.map eI) := frz_map (fun x a ha => by simp [eI] at ha; subst ha; rfl) n xs
theorem frz_Val (n : Nat) (xs : List GVal) : (AV.own n (xs.map eVal)).freeze = .sl n (xs.map eVal) := frz_map (fun x a ha => by simp [eVal] at ha; rcases ha with rfl | rfl | rfl <;> rfl) n xs
theorem frz_Obj (n : Nat) (xs : List GObj) : (AV.own n (xs.map eObj)).freeze = .sl n (xs.map eObj) := frz_map (fun x a ha => by simp [eObj] at ha; rcases ha with rfl | rfl | rfl <;> rfl) n xs
theorem frz_Field (n : Nat) (xs : List GField) : (AV.own n (xs.map eField)).freeze = .sl n (xs.map eField) := frz_map (fun x a ha => by simp [eField] at ha; rcases ha with rfl | rfl | rfl <;> rfl) n xs
theorem frz_Type (n : Nat) (xs : List GType) : (AV.own n (xs.map eType)).freeze = .sl n (xs.map eType) := frz_map (fun x a ha => by simp [eType] at ha; rcases ha with rfl | rfl <;> rfl) n xs
attribute [go_sem] frz_I frz_Val frz_Obj frz_Field frz_Type

/-- Names: signs, their count. -/
def letterB (c : Int) : Bool := (decide (97 ≤ c) && decide (c ≤ 122)) || ((decide (223 ≤ c) && decide (c ≤ 255)) && !decide (c = 247))
def digitB (c : Int) : Bool := decide (48 ≤ c) && decide (c ≤ 57)
theorem decode_pos (s : ByteArray) (i : Nat) : 0 < (Utf8.decode s i).2 := by
  unfold Utf8.decode
  simp only
  repeat' split
  all_goals simp
/-- How many signs there are from a place on, if all may stand there. -/
def scan (s : ByteArray) : Nat → Nat → Option Nat
  | 0, _ => some 0
  | f + 1, pos => if pos < s.size then (if (!letterB (Utf8.decode s pos).1 && (decide (pos = 0) || !digitB (Utf8.decode s pos).1)) = true then none else (scan s f (pos + (Utf8.decode s pos).2)).map (· + 1)) else some 0
def badAt (s : ByteArray) (pos : Nat) : Bool := !letterB (Utf8.decode s pos).1 && (decide (pos = 0) || !digitB (Utf8.decode s pos).1)
theorem scan_bad {s : ByteArray} {f pos : Nat} (h : pos < s.size) (hf : s.size ≤ pos + f) (hb : badAt s pos = true) : scan s f pos = none := by
  cases f with
  | zero => omega
  | succ f => unfold badAt at hb; simp only [scan]; rw [if_pos h, if_pos hb]
theorem scan_step {s : ByteArray} {f pos : Nat} (h : pos < s.size) (hf : s.size ≤ pos + f) (hb : badAt s pos = false) : ∃ f', s.size ≤ pos + (Utf8.decode s pos).2 + f' ∧ scan s f pos = (scan s f' (pos + (Utf8.decode s pos).2)).map (· + 1) := by
  cases f with
  | zero => omega
  | succ f =>
    have := decode_pos s pos
    refine ⟨f, by omega, ?_⟩
    unfold badAt at hb
    simp only [scan]; rw [if_pos h, if_neg (by rw [hb]; simp)]
theorem scan_end {s : ByteArray} {f pos : Nat} (h : s.size ≤ pos) : scan s f pos = some 0 := by
  cases f with
  | zero => rfl
  | succ f => simp only [scan]; rw [if_neg (by omega)]
def nameLen (s : ByteArray) : Nat := match scan s s.size 0 with
  | some n => if 8 < n then 0 else n
  | none => 0
def nameMay (s : ByteArray) : Bool := decide (0 < nameLen s)

/-- As many, and each pair of a kind. -/
def allp {α : Type} (p : α → α → Bool) : List α → List α → Bool
  | [], [] => true
  | x :: a, y :: b => p x y && allp p a b
  | _, _ => false
theorem allp_len {α : Type} {p : α → α → Bool} : ∀ {a b : List α}, a.length ≠ b.length → allp p a b = false
  | [], [], h => absurd rfl h
  | [], _ :: _, _ => rfl
  | _ :: _, [], _ => rfl
  | x :: a, y :: b, h => by simp only [allp]; rw [allp_len (a := a) (b := b) (fun e => h (by simp [e]))]; simp
theorem allp_no {α : Type} {p : α → α → Bool} : ∀ {a b : List α} {i : Nat} {x y : α}, a[i]? = some x → b[i]? = some y → p x y = false → allp p a b = false
  | [], _, i, x, y, h, _, _ => by simp at h
  | _ :: _, [], i, x, y, _, h, _ => by simp at h
  | u :: a, v :: b, 0, x, y, h1, h2, h => by simp at h1 h2; subst h1 h2; simp [allp, h]
  | u :: a, v :: b, i + 1, x, y, h1, h2, h => by simp only [allp]; rw [allp_no (a := a) (b := b) (by simpa using h1) (by simpa using h2) h]; simp
theorem allp_take {α : Type} {p : α → α → Bool} : ∀ {a b : List α} {i : Nat} {x y : α}, allp p (a.take i) (b.take i) = true → a[i]? = some x → b[i]? = some y → p x y = true → allp p (a.take (i + 1)) (b.take (i + 1)) = true
  | [], _, i, x, y, _, h, _, _ => by simp at h
  | _ :: _, [], i, x, y, _, _, h, _ => by simp at h
  | u :: a, v :: b, 0, x, y, _, h1, h2, h => by simp at h1 h2; subst h1 h2; simp [allp, h]
  | u :: a, v :: b, i + 1, x, y, h0, h1, h2, h => by
    simp only [List.take_succ_cons, allp, Bool.and_eq_true] at h0 ⊢
    exact ⟨h0.1, allp_take h0.2 (by simpa using h1) (by simpa using h2) h⟩
theorem allp_eq {α : Type} [DecidableEq α] {a b : List α} : allp (fun x y => decide (x = y)) a b = decide (a = b) := by
  induction a generalizing b with
  | nil => cases b <;> simp [allp]
  | cons x a ih => cases b with
    | nil => simp [allp]
    | cons y b => simp only [allp, ih, List.cons.injEq]; by_cases h1 : x = y <;> by_cases h2 : a = b <;> simp [h1, h2]
theorem allp_congr {α : Type} {p q : α → α → Bool} (h : ∀ x y, p x y = q x y) : ∀ (a b : List α), allp p a b = allp q a b := by
  intro a b
  have : p = q := by funext x y; exact h x y
  rw [this]

/-- Where a list has its first element of a kind; -1: nowhere. -/
def fnd {α : Type} (p : α → Bool) (l : List α) : Int :=
  match l.findIdx? p with
  | some i => (i : Int)
  | none => -1
theorem fnd_at {α : Type} {p : α → Bool} {l : List α} {i : Nat} {x : α} (h : l[i]? = some x) (hp : p x = true) (hb : ∀ (j : Nat) (y : α), j < i → l[j]? = some y → p y = false) : fnd p l = i := by
  have hlt := (List.getElem?_eq_some_iff.1 h).1
  have : l.findIdx? p = some i := by
    rw [List.findIdx?_eq_some_iff_getElem]
    refine ⟨hlt, ?_, fun j hj => ?_⟩
    · have := (List.getElem?_eq_some_iff.1 h).2; rw [this]; exact hp
    · have := hb j l[j] hj (List.getElem?_eq_getElem (by omega)); simp [this]
  unfold fnd; rw [this]
theorem fnd_no {α : Type} {p : α → Bool} {l : List α} (hb : ∀ (j : Nat) (y : α), l[j]? = some y → p y = false) : fnd p l = -1 := by
  have : l.findIdx? p = none := by
    rw [List.findIdx?_eq_none_iff]
    intro x hx
    obtain ⟨j, hj⟩ := List.getElem?_of_mem hx
    exact hb j x hj
  unfold fnd; rw [this]
theorem any_at {α : Type} {p : α → Bool} {l : List α} {i : Nat} {x : α} (h : l[i]? = some x) (hp : p x = true) : l.any p = true := List.any_eq_true.2 ⟨x, List.mem_of_getElem? h, hp⟩
theorem any_no {α : Type} {p : α → Bool} {l : List α} (hb : ∀ (j : Nat) (y : α), l[j]? = some y → p y = false) : l.any p = false := by
  cases ha : l.any p with
  | false => rfl
  | true =>
    obtain ⟨x, hx, hp⟩ := List.any_eq_true.1 ha
    obtain ⟨j, hj⟩ := List.getElem?_of_mem hx
    rw [hb j x hj] at hp; cases hp
theorem below_succ {α : Type} {p : α → Bool} {l : List α} {i : Nat} {x : α} (hb : ∀ (j : Nat) (y : α), j < i → l[j]? = some y → p y = false) (h : l[i]? = some x) (hp : p x = false) : ∀ (j : Nat) (y : α), j < i + 1 → l[j]? = some y → p y = false := by
  intro j y hj hy
  by_cases e : j = i
  · subst e; rw [h] at hy; cases hy; exact hp
  · exact hb j y (by omega) hy
theorem below_all {α : Type} {p : α → Bool} {l : List α} (hb : ∀ (j : Nat) (y : α), j < l.length → l[j]? = some y → p y = false) : ∀ (j : Nat) (y : α), l[j]? = some y → p y = false :=
  fun j y hy => hb j y (List.getElem?_eq_some_iff.1 hy).1 hy

/-- All of a list are of a kind, by their places. -/
def allI {α : Type} (p : Nat → α → Bool) : Nat → List α → Bool
  | _, [] => true
  | k, x :: r => p k x && allI p (k + 1) r
theorem allI_no {α : Type} {p : Nat → α → Bool} : ∀ {l : List α} {k i : Nat} {x : α}, l[i]? = some x → p (k + i) x = false → allI p k l = false
  | [], _, i, x, h, _ => by simp at h
  | y :: l, k, 0, x, h, hp => by simp at h; subst h; simp [allI] at hp ⊢; simp [hp]
  | y :: l, k, i + 1, x, h, hp => by
    simp only [allI]
    rw [allI_no (l := l) (k := k + 1) (i := i) (by simpa using h) (by rw [show k + 1 + i = k + (i + 1) by omega]; exact hp)]
    simp
theorem allI_yes {α : Type} {p : Nat → α → Bool} : ∀ {l : List α} {k : Nat}, (∀ (j : Nat) (y : α), l[j]? = some y → p (k + j) y = true) → allI p k l = true
  | [], _, _ => rfl
  | y :: l, k, h => by
    simp only [allI, Bool.and_eq_true]
    refine ⟨by simpa using h 0 y rfl, allI_yes fun j z hz => ?_⟩
    have := h (j + 1) z (by simpa using hz)
    rw [show k + 1 + j = k + (j + 1) by omega]; exact this
theorem allI_at {α : Type} {p : Nat → α → Bool} : ∀ {l : List α} {k i : Nat} {x : α}, allI p k l = true → l[i]? = some x → p (k + i) x = true := by
  intro l k i x h hx
  cases hp : p (k + i) x with
  | true => rfl
  | false => rw [allI_no hx hp] at h; cases h
theorem belowI_succ {α : Type} {p : Nat → α → Bool} {l : List α} {i : Nat} {x : α} (hb : ∀ (j : Nat) (y : α), j < i → l[j]? = some y → p j y = true) (h : l[i]? = some x) (hp : p i x = true) : ∀ (j : Nat) (y : α), j < i + 1 → l[j]? = some y → p j y = true := by
  intro j y hj hy
  by_cases e : j = i
  · subst e; rw [h] at hy; cases hy; exact hp
  · exact hb j y (by omega) hy
theorem belowI_all {α : Type} {p : Nat → α → Bool} {l : List α} (hb : ∀ (j : Nat) (y : α), j < l.length → l[j]? = some y → p j y = true) : allI p 0 l = true :=
  allI_yes fun j y hy => by rw [Nat.zero_add]; exact hb j y (List.getElem?_eq_some_iff.1 hy).1 hy

/-- What a schema may be. -/
def sFind (s : List GType) (n : ByteArray) : Int := fnd (fun o => decide (o.Name = n)) s
def fFind (s : List GField) (n : ByteArray) : Int := fnd (fun o => decide (o.Name = n)) s
def fieldMay (s : List GType) (f : GField) : Bool := ((if f.Kind = 5 then !decide (sFind s f.To = -1) else decide (f.To = ⟨#[]⟩)) && nameMay f.Name) && (decide (0 ≤ f.Kind) && decide (f.Kind < 6))
def fieldsMay (s : List GType) (t : GType) : Bool := allI (fun k f => fieldMay s f && decide (fFind t.F f.Name = k)) 0 t.F
def typeMay (s : List GType) (i : Nat) (t : GType) : Bool := ((nameMay t.Name && decide (sFind s t.Name = i)) && decide (t.F.length ≤ 5)) && fieldsMay s t
def schemaMay (s : List GType) : Bool := (decide (0 < s.length) && decide (s.length ≤ 4)) && allI (typeMay s) 0 s
end Go.Ab

namespace Go.Ab
open Go Go.RowKit

/-! ### Values, objects, graphs: what may be -/
def numFits (k n : Int) : Bool :=
  if k = 0 then decide (-128 ≤ n) && decide (n < 128) else if k = 1 then decide (-32768 ≤ n) && decide (n < 32768) else if k = 2 then decide (-2147483648 ≤ n) && decide (n < 2147483648) else
  if k = 3 then decide (-9223372036854775808 ≤ n) && decide (n < 9223372036854775808) else false
def valFits (f : GField) (v : GVal) : Bool :=
  if f.Kind = 4 then decide (v.S.size ≤ 12) && (decide (v.N = 0) && decide (v.R = 0)) else
  if f.Kind = 5 then (decide (-1 ≤ v.R) && decide (v.R ≤ 1073741824)) && (decide (v.N = 0) && decide (v.S = ⟨#[]⟩)) else
  numFits f.Kind v.N && (decide (v.S = ⟨#[]⟩) && decide (v.R = 0))

/-- The type of the last object of an id. -/
def typ : List GObj → Int → Option Int
  | [], _ => none
  | o :: r, i => match typ r i with
    | some t => some t
    | none => if o.Id = i then some o.T else none
def tmap (l : List GObj) : List (Int × AV) := l.foldl (fun m o => mapput m o.Id (.int .i64 o.T)) []
theorem maplk_mapput (m : List (Int × AV)) (k i : Int) (v : AV) : maplk (mapput m k v) i = if i = k then some v else maplk m i := by
  induction m with
  | nil => simp [mapput, maplk]
  | cons p m ih =>
    obtain ⟨a, b⟩ := p
    simp only [mapput]
    by_cases h : k = a
    · subst h; simp only [if_true, maplk]; split <;> simp_all
    · simp only [h, if_false, maplk, ih]; by_cases h2 : i = a
      · subst h2; simp [show ¬ i = k from fun e => h e.symm]
      · simp [h2]
theorem maplk_foldl (l : List GObj) : ∀ (m : List (Int × AV)) (i : Int), maplk (l.foldl (fun m o => mapput m o.Id (.int .i64 o.T)) m) i = match typ l i with
    | some t => some (.int .i64 t)
    | none => maplk m i := by
  induction l with
  | nil => intro m i; simp [typ]
  | cons o l ih =>
    intro m i
    simp only [List.foldl_cons, ih, maplk_mapput, typ]
    cases h : typ l i with
    | some t => rfl
    | none => by_cases h2 : o.Id = i
              · subst h2; simp
              · simp [h2, show ¬ i = o.Id from fun e => h2 e.symm]
theorem maplk_tmap (l : List GObj) (i : Int) : maplk (tmap l) i = (typ l i).map (.int .i64 ·) := by
  unfold tmap; rw [maplk_foldl]; cases typ l i <;> rfl
theorem tmap_succ (l : List GObj) {i : Nat} {o : GObj} (h : l[i]? = some o) : tmap (l.take (i + 1)) = mapput (tmap (l.take i)) o.Id (.int .i64 o.T) := by
  unfold tmap; rw [List.take_add_one, h]; simp
theorem tmap_len (l : List GObj) : (tmap l).length ≤ l.length := by
  have : ∀ (l : List GObj) (m : List (Int × AV)), (l.foldl (fun m o => mapput m o.Id (.int .i64 o.T)) m).length ≤ m.length + l.length := by
    intro l
    induction l with
    | nil => intro m; simp
    | cons o l ih => intro m; simp only [List.foldl_cons]; have := ih (mapput m o.Id (.int .i64 o.T)); have := mapput_len m o.Id (.int .i64 o.T); simp only [List.length_cons]; omega
  unfold tmap; simpa using this l []

def leadsB (g : Graph) (f : GField) (v : GVal) : Bool :=
  valFits f v && (!decide (f.Kind = 5) || (decide (v.R = -1) || (match typ g.O v.R with
    | some t => decide (t = sFind g.S f.To)
    | none => false)))
def leadsAt (g : Graph) (l : List GField) (k : Nat) (v : GVal) : Bool := match l[k]? with
  | some f => leadsB g f v
  | none => false
def prevId (l : List GObj) : Nat → Int
  | 0 => -1
  | i + 1 => match l[i]? with
    | some o => o.Id
    | none => -1
def typeAt (s : List GType) (i : Int) : Option GType := if 0 ≤ i then s[i.toNat]? else none
def objectB (g : Graph) (o : GObj) (last : Int) : Bool :=
  (decide (last < o.Id) && decide (o.Id ≤ 1073741824)) && (match typeAt g.S o.T with
    | some t => decide (o.F.length = t.F.length) && allI (fun k v => leadsAt g t.F k v) 0 o.F
    | none => false)
def rootB (g : Graph) (r : Int) : Bool := decide (r = -1) || (typ g.O r).isSome
def gMay (g : Graph) : Bool :=
  ((schemaMay g.S && decide (g.O.length ≤ 8)) && decide (g.Roots.length ≤ 3)) && (allI (fun i o => objectB g o (prevId g.O i)) 0 g.O && g.Roots.all (rootB g))
def gFind (g : Graph) (i : Int) : Int := fnd (fun o => decide (o.Id = i)) g.O
end Go.Ab

namespace Go.Ab
open Go Go.RowKit

/-! ### The order in which objects are met -/
def meet (l : List Int) (i : Int) : List Int := if i = -1 ∨ i ∈ l then l else l ++ [i]
def mets (l is : List Int) : List Int := is.foldl meet l
def ats : Nat → List Int → List (Int × AV)
  | _, [] => []
  | k, x :: r => (x, .int .i64 k) :: ats (k + 1) r
def atMap (l : List Int) : List (Int × AV) := (-1, .int .i64 (-1)) :: ats 0 l
def atL (l : List Int) (i : Int) : Option Int := if i = -1 then some (-1) else (l.findIdx? fun x => decide (x = i)).map fun (n : Nat) => (n : Int)
def atD (l : List Int) (i : Int) : Int := (atL l i).getD 0
theorem maplk_ats (l : List Int) (i : Int) : ∀ k, maplk (ats k l) i = (l.findIdx? fun x => decide (x = i)).map fun (n : Nat) => .int .i64 ((k + n : Nat) : Int) := by
  induction l with
  | nil => intro k; simp [ats, maplk]
  | cons x l ih =>
    intro k
    simp only [ats, maplk, List.findIdx?_cons]
    by_cases h : i = x
    · subst h; simp
    · rw [if_neg h, ih]
      have : decide (x = i) = false := by simp; exact fun e => h e.symm
      rw [this]
      simp only [Bool.false_eq_true, if_false, Option.map_map]
      congr 1
      funext n
      simp only [Function.comp]
      congr 1
      omega
theorem maplk_atMap (l : List Int) (i : Int) : maplk (atMap l) i = (atL l i).map (.int .i64 ·) := by
  unfold atMap atL
  simp only [maplk]
  by_cases h : i = -1
  · simp [h]
  · rw [if_neg h, if_neg h, maplk_ats, Option.map_map]
    congr 1
    funext n
    simp
theorem mapput_new {es : List (Int × AV)} {i : Int} {v : AV} (h : maplk es i = none) : mapput es i v = es ++ [(i, v)] := by
  induction es with
  | nil => rfl
  | cons p es ih =>
    obtain ⟨a, b⟩ := p
    simp only [maplk] at h
    by_cases e : i = a
    · simp [e] at h
    · rw [if_neg e] at h
      simp only [mapput, if_neg e, ih h, List.cons_append]
theorem ats_app (l : List Int) (x : Int) : ∀ k, ats k (l ++ [x]) = ats k l ++ [(x, .int .i64 ((k + l.length : Nat) : Int))] := by
  induction l with
  | nil => intro k; simp [ats]
  | cons y l ih => intro k; simp only [ats, List.cons_append, ih, List.length_cons, List.cons.injEq, true_and]; rw [show k + 1 + l.length = k + (l.length + 1) by omega]
theorem atMap_app (l : List Int) (x : Int) : atMap (l ++ [x]) = atMap l ++ [(x, .int .i64 (l.length : Int))] := by
  unfold atMap; rw [ats_app]; simp
theorem ats_len (l : List Int) : ∀ k, (ats k l).length = l.length := by
  induction l with
  | nil => intro k; rfl
  | cons y l ih => intro k; simp [ats, ih]
theorem atMap_len (l : List Int) : (atMap l).length = l.length + 1 := by simp [atMap, ats_len]
theorem atL_none {l : List Int} {i : Int} : atL l i = none ↔ i ≠ -1 ∧ i ∉ l := by
  unfold atL
  by_cases h : i = -1
  · simp [h]
  · simp only [h, if_false, Option.map_eq_none_iff, List.findIdx?_eq_none_iff, decide_eq_false_iff_not, ne_eq, not_false_eq_true, true_and]
    exact ⟨fun h2 hm => h2 i hm rfl, fun h2 x hx e => h2 (e ▸ hx)⟩
theorem meet_in {l : List Int} {i : Int} {p : Int} (h : atL l i = some p) : meet l i = l := by
  unfold meet
  rw [if_pos]
  refine Classical.byContradiction fun hn => ?_
  rw [not_or] at hn
  rw [atL_none.2 hn] at h; cases h
theorem meet_out {l : List Int} {i : Int} (h : atL l i = none) : meet l i = l ++ [i] := by
  unfold meet
  have := atL_none.1 h
  rw [if_neg (by rw [not_or]; exact this)]
theorem meet_len (l : List Int) (i : Int) : l.length ≤ (meet l i).length := by
  unfold meet; split <;> simp
theorem mets_len : ∀ (l is : List Int), l.length ≤ (mets l is).length
  | l, [] => Nat.le_refl _
  | l, i :: is => Nat.le_trans (meet_len l i) (mets_len (meet l i) is)
theorem mets_snoc (l is : List Int) (i : Int) : mets l (is ++ [i]) = meet (mets l is) i := by simp [mets]
theorem mets_take (l : List Int) {is : List Int} {k : Nat} {i : Int} (h : is[k]? = some i) : mets l (is.take (k + 1)) = meet (mets l (is.take k)) i := by
  rw [List.take_add_one, h]; simp [mets]

def refsZ (z : List (GField × GVal)) : List Int := z.filterMap fun p => if p.1.Kind = 5 then some p.2.R else none
theorem refsZ_ref {z : List (GField × GVal)} {k : Nat} {f : GField} {v : GVal} (h : z[k]? = some (f, v)) (hk : f.Kind = 5) (l : List Int) : mets l (refsZ (z.take (k + 1))) = meet (mets l (refsZ (z.take k))) v.R := by
  rw [List.take_add_one, h]
  simp [refsZ, hk, mets]
theorem refsZ_no {z : List (GField × GVal)} {k : Nat} {f : GField} {v : GVal} (h : z[k]? = some (f, v)) (hk : f.Kind ≠ 5) : refsZ (z.take (k + 1)) = refsZ (z.take k) := by
  rw [List.take_add_one, h]
  simp [refsZ, hk]
def objAt (g : Graph) (i : Int) : Option GObj := g.O.find? fun o => decide (o.Id = i)
def refsO (g : Graph) (o : GObj) : List Int := match typeAt g.S o.T with
  | some t => refsZ (t.F.zip o.F)
  | none => []
def refsOf (g : Graph) (i : Int) : List Int := match objAt g i with
  | some o => refsO g o
  | none => []
def ordF (g : Graph) : Nat → Nat → List Int → List Int
  | 0, _, l => l
  | n + 1, i, l => match l[i]? with
    | none => l
    | some x => ordF g n (i + 1) (mets l (refsOf g x))
def order (g : Graph) : List Int := ordF g g.O.length 0 (mets [] g.Roots)
def gOrder (g : Graph) : List Int := if gMay g = true then order g else []

/-! ### What may be -/
theorem typ_some {l : List GObj} {i t : Int} (h : typ l i = some t) : ∃ o ∈ l, o.Id = i ∧ o.T = t := by
  induction l with
  | nil => simp [typ] at h
  | cons o l ih =>
    simp only [typ] at h
    cases h2 : typ l i with
    | some t' =>
      rw [h2] at h; cases h
      obtain ⟨x, hx, h3⟩ := ih h2
      exact ⟨x, List.mem_cons_of_mem _ hx, h3⟩
    | none =>
      rw [h2] at h
      simp only at h
      split at h
      · rename_i e; cases h; exact ⟨o, List.mem_cons_self, e, rfl⟩
      · cases h
theorem typ_mem {l : List GObj} {o : GObj} (h : o ∈ l) : (typ l o.Id).isSome = true := by
  induction l with
  | nil => cases h
  | cons x l ih =>
    simp only [typ]
    rcases List.mem_cons.1 h with rfl | h
    · cases typ l o.Id <;> simp
    · have := ih h
      cases h2 : typ l o.Id with
      | some t => rfl
      | none => rw [h2] at this; cases this
theorem typ_none {l : List GObj} {i : Int} (h : typ l i = none) : ∀ o ∈ l, o.Id ≠ i := fun o ho e => by
  have := typ_mem ho; rw [e, h] at this; cases this

structure May (g : Graph) : Prop where
  s : schemaMay g.S = true
  o : g.O.length ≤ 8
  r : g.Roots.length ≤ 3
  obj : ∀ (i : Nat) (x : GObj), g.O[i]? = some x → objectB g x (prevId g.O i) = true
  root : ∀ r ∈ g.Roots, rootB g r = true
theorem may_iff (g : Graph) : gMay g = true ↔ May g := by
  unfold gMay
  simp only [Bool.and_eq_true, decide_eq_true_eq, List.all_eq_true]
  constructor
  · rintro ⟨⟨⟨h1, h2⟩, h3⟩, h4, h5⟩
    exact ⟨h1, h2, h3, fun i x hx => by simpa using allI_at h4 hx, h5⟩
  · rintro ⟨h1, h2, h3, h4, h5⟩
    exact ⟨⟨⟨h1, h2⟩, h3⟩, allI_yes fun j y hy => by rw [Nat.zero_add]; exact h4 j y hy, h5⟩
structure MayO (g : Graph) (x : GObj) (t : GType) : Prop where
  id : x.Id ≤ 1073741824
  t0 : 0 ≤ x.T
  at_ : g.S[x.T.toNat]? = some t
  len : x.F.length = t.F.length
  lead : ∀ (k : Nat) (f : GField) (v : GVal), t.F[k]? = some f → x.F[k]? = some v → leadsB g f v = true
theorem May.objT {g : Graph} (h : May g) {i : Nat} {x : GObj} (hx : g.O[i]? = some x) : prevId g.O i < x.Id ∧ ∃ t, typeAt g.S x.T = some t ∧ MayO g x t := by
  have := h.obj i x hx
  unfold objectB at this
  simp only [Bool.and_eq_true, decide_eq_true_eq] at this
  obtain ⟨⟨h1, h2⟩, h3⟩ := this
  refine ⟨h1, ?_⟩
  cases ht : typeAt g.S x.T with
  | none => rw [ht] at h3; cases h3
  | some t =>
    rw [ht] at h3
    simp only [Bool.and_eq_true, decide_eq_true_eq] at h3
    have h0 : 0 ≤ x.T := by
      unfold typeAt at ht; split at ht
      · assumption
      · cases ht
    refine ⟨t, rfl, h2, h0, ?_, h3.1, fun k f v hf hv => ?_⟩
    · unfold typeAt at ht; rw [if_pos h0] at ht; exact ht
    · have := allI_at h3.2 hv
      unfold leadsAt at this
      rw [Nat.zero_add, hf] at this
      exact this
theorem May.ids {g : Graph} (h : May g) : ∀ (i : Nat) (x : GObj), g.O[i]? = some x → -1 < x.Id ∧ ∀ (j : Nat) (y : GObj), j < i → g.O[j]? = some y → y.Id < x.Id := by
  intro i
  induction i with
  | zero => intro x hx; exact ⟨by simpa [prevId] using (h.objT hx).1, fun j y hj => by omega⟩
  | succ i ih =>
    intro x hx
    have h1 := (h.objT hx).1
    have hlt := (List.getElem?_eq_some_iff.1 hx).1
    obtain ⟨z, hz⟩ : ∃ z, g.O[i]? = some z := ⟨g.O[i], List.getElem?_eq_getElem (by omega)⟩
    simp only [prevId, hz] at h1
    obtain ⟨h2, h3⟩ := ih z hz
    refine ⟨by omega, fun j y hj hy => ?_⟩
    by_cases e : j = i
    · subst e; rw [hz] at hy; cases hy; exact h1
    · have := h3 j y (by omega) hy; omega
theorem May.pos {g : Graph} (h : May g) {x : GObj} (hx : x ∈ g.O) : 0 ≤ x.Id := by
  obtain ⟨i, hi⟩ := List.getElem?_of_mem hx
  have := (h.ids i x hi).1; omega
theorem May.inj {g : Graph} (h : May g) {i j : Nat} {x y : GObj} (hx : g.O[i]? = some x) (hy : g.O[j]? = some y) (e : x.Id = y.Id) : i = j := by
  rcases Nat.lt_trichotomy i j with hl | hl | hl
  · have := (h.ids j y hy).2 i x hl hx; omega
  · exact hl
  · have := (h.ids i x hx).2 j y hl hy; omega
theorem May.find {g : Graph} (h : May g) {i : Int} (hi : (typ g.O i).isSome = true) : ∃ (p : Nat) (x : GObj), g.O[p]? = some x ∧ x.Id = i ∧ gFind g i = p ∧ objAt g i = some x ∧ typ g.O i = some x.T := by
  cases ht : typ g.O i with
  | none => rw [ht] at hi; cases hi
  | some t =>
    obtain ⟨x, hx, e1, e2⟩ := typ_some ht
    obtain ⟨p, hp⟩ := List.getElem?_of_mem hx
    have hbel : ∀ (j : Nat) (y : GObj), j < p → g.O[j]? = some y → decide (y.Id = i) = false := fun j y hj hy => by
      have := (h.ids p x hp).2 j y hj hy
      simp; omega
    refine ⟨p, x, hp, e1, ?_, ?_, by rw [e2]⟩
    · exact fnd_at hp (by simpa using e1) hbel
    · unfold objAt
      rw [List.find?_eq_some_iff_getElem]
      have hlt := (List.getElem?_eq_some_iff.1 hp).1
      refine ⟨by simpa using e1, p, hlt, (List.getElem?_eq_some_iff.1 hp).2, fun j hj => ?_⟩
      have := hbel j g.O[j] hj (List.getElem?_eq_getElem (by omega))
      simp only [Bool.not_eq_true', this]
theorem May.mem {g : Graph} (h : May g) {x : GObj} (hx : x ∈ g.O) : objAt g x.Id = some x := by
  obtain ⟨p, y, h1, h2, _, h4, _⟩ := h.find (typ_mem hx)
  obtain ⟨q, hq⟩ := List.getElem?_of_mem hx
  have := h.inj h1 hq h2
  subst this
  rw [h1] at hq; cases hq; exact h4

theorem nodup_len : ∀ (l m : List Int), l.Nodup → (∀ x ∈ l, x ∈ m) → l.length ≤ m.length
  | [], _, _, _ => Nat.zero_le _
  | x :: l, m, h, hs => by
    have hx := hs x List.mem_cons_self
    have h2 := List.nodup_cons.1 h
    have := nodup_len l (m.erase x) h2.2 fun y hy => by
      have hy2 := hs y (List.mem_cons_of_mem _ hy)
      have hne : y ≠ x := fun e => h2.1 (e ▸ hy)
      exact (List.mem_erase_of_ne hne).2 hy2
    rw [List.length_erase_of_mem hx] at this
    have := List.length_pos_of_mem hx
    simp only [List.length_cons]; omega

/-- Objects that were met: each once, and all are there. -/
structure Good (g : Graph) (l : List Int) : Prop where
  nodup : l.Nodup
  ids : ∀ i ∈ l, (typ g.O i).isSome = true
theorem Good.len {g : Graph} {l : List Int} (h : Good g l) : l.length ≤ g.O.length := by
  have := nodup_len l (g.O.map (·.Id)) h.nodup fun x hx => by
    cases ht : typ g.O x with
    | none => have := h.ids x hx; rw [ht] at this; cases this
    | some t => obtain ⟨o, ho, e, _⟩ := typ_some ht; exact List.mem_map.2 ⟨o, ho, e⟩
  simpa using this
theorem Good.nil (g : Graph) : Good g [] := ⟨List.nodup_nil, fun i hi => by cases hi⟩
theorem Good.meet {g : Graph} {l : List Int} (h : Good g l) {i : Int} (hi : rootB g i = true) : Good g (meet l i) := by
  unfold Ab.meet
  split
  · exact h
  · rename_i hn
    rw [not_or] at hn
    unfold rootB at hi
    simp only [Bool.or_eq_true, decide_eq_true_eq] at hi
    have hi := hi.resolve_left hn.1
    refine ⟨?_, fun j hj => ?_⟩
    · rw [List.nodup_append]
      exact ⟨h.nodup, by simp, fun a ha b hb => by simp at hb; subst hb; exact fun e => hn.2 (e ▸ ha)⟩
    · rcases List.mem_append.1 hj with hj | hj
      · exact h.ids j hj
      · simp at hj; subst hj; exact hi
theorem Good.mets {g : Graph} : ∀ {is l : List Int}, Good g l → (∀ i ∈ is, rootB g i = true) → Good g (mets l is)
  | [], _, h, _ => h
  | i :: is, l, h, hi => Good.mets (is := is) (h.meet (hi i List.mem_cons_self)) fun j hj => hi j (List.mem_cons_of_mem _ hj)
theorem MayO.ref {g : Graph} {x : GObj} {t : GType} (h : MayO g x t) {k : Nat} {f : GField} {v : GVal} (hf : t.F[k]? = some f) (hv : x.F[k]? = some v) (hk : f.Kind = 5) : rootB g v.R = true := by
  have := h.lead k f v hf hv
  unfold leadsB at this
  simp only [Bool.and_eq_true, Bool.or_eq_true, hk, decide_true, Bool.not_true, Bool.false_eq_true, false_or, decide_eq_true_eq] at this
  unfold rootB
  simp only [Bool.or_eq_true, decide_eq_true_eq]
  rcases this.2 with h1 | h1
  · exact .inl h1
  · cases ht : typ g.O v.R with
    | none => rw [ht] at h1; cases h1
    | some t => exact .inr rfl
theorem MayO.refs {g : Graph} {x : GObj} {t : GType} (h : MayO g x t) : ∀ r ∈ refsZ (t.F.zip x.F), rootB g r = true := by
  intro r hr
  unfold refsZ at hr
  obtain ⟨⟨f, v⟩, hp, e⟩ := List.mem_filterMap.1 hr
  simp only at e
  split at e
  · rename_i hk; cases e
    obtain ⟨k, hk2⟩ := List.getElem?_of_mem hp
    rw [List.getElem?_zip_eq_some] at hk2
    exact h.ref hk2.1 hk2.2 hk
  · cases e
theorem May.refsOf {g : Graph} (h : May g) (i : Int) : ∀ r ∈ refsOf g i, rootB g r = true := by
  intro r hr
  unfold Ab.refsOf at hr
  split at hr
  · rename_i o ho
    have hm : o ∈ g.O := List.mem_of_find?_eq_some ho
    obtain ⟨p, hp⟩ := List.getElem?_of_mem hm
    obtain ⟨_, t, h1, h2⟩ := h.objT hp
    unfold refsO at hr
    rw [h1] at hr
    exact h2.refs r hr
  · cases hr
theorem May.ordF {g : Graph} (h : May g) : ∀ (n i : Nat) (l : List Int), Good g l → Good g (ordF g n i l)
  | 0, _, _, hl => hl
  | n + 1, i, l, hl => by
    unfold Ab.ordF
    split
    · exact hl
    · exact May.ordF h n (i + 1) _ (hl.mets (h.refsOf _))
theorem May.order {g : Graph} (h : May g) : Good g (order g) := h.ordF _ _ _ ((Good.nil g).mets h.root)

/-! ### The Canon -/
def canonV (l : List Int) (f : GField) (v : GVal) : GVal := if f.Kind = 5 then { v with R := atD l v.R } else v
def canonO (g : Graph) (l : List Int) (k : Nat) (i : Int) : GObj := match objAt g i with
  | some o => ⟨k, o.T, match typeAt g.S o.T with
    | some t => List.zipWith (canonV l) t.F o.F
    | none => []⟩
  | none => ⟨k, 0, []⟩
def canonL (g : Graph) (l : List Int) : Nat → List Int → List GObj
  | _, [] => []
  | k, i :: r => canonO g l k i :: canonL g l (k + 1) r
def canonG (g : Graph) : Graph := ⟨g.S, canonL g (order g) 0 (order g), g.Roots.map (atD (order g))⟩
def gCanon (g : Graph) : Graph := if gMay g = true then canonG g else ⟨[], [], []⟩
theorem canonL_app (g : Graph) (l : List Int) (x : Int) : ∀ (k : Nat) (is : List Int), canonL g l k (is ++ [x]) = canonL g l k is ++ [canonO g l (k + is.length) x]
  | _, [] => by simp [canonL]
  | k, i :: is => by simp only [List.cons_append, canonL, canonL_app g l x (k + 1) is, List.length_cons]; rw [show k + 1 + is.length = k + (is.length + 1) by omega]
theorem canonL_take (g : Graph) (l : List Int) {is : List Int} {k : Nat} {i : Int} (h : is[k]? = some i) : canonL g l 0 (is.take (k + 1)) = canonL g l 0 (is.take k) ++ [canonO g l k i] := by
  have hlt := (List.getElem?_eq_some_iff.1 h).1
  rw [List.take_add_one, h]
  simp only [Option.toList_some]
  rw [canonL_app]
  simp only [List.length_take, Nat.zero_add]
  rw [Nat.min_eq_left (by omega)]
def gIso (a b : Graph) : Bool := (gMay a && gMay b) && decide (gCanon a = gCanon b)
end Go.Ab

namespace Go.Ab
open Go Go.RowKit

theorem set_same {α : Type} {l : List α} {i : Nat} {x : α} (h : l[i]? = some x) : l.set i x = l := by
  apply List.ext_getElem?
  intro j
  rw [List.getElem?_set]
  split
  · rename_i e; subst e
    rw [h]
    have := (List.getElem?_eq_some_iff.1 h).1
    simp [this]
  · rfl
def mixV (l : List Int) (fs : List GField) (vs : List GVal) (k : Nat) : List GVal := List.zipWith (canonV l) (fs.take k) (vs.take k) ++ vs.drop k
theorem mixV_zero (l : List Int) (fs : List GField) (vs : List GVal) : mixV l fs vs 0 = vs := by simp [mixV]
theorem mixV_all (l : List Int) (fs : List GField) (vs : List GVal) (h : vs.length = fs.length) : mixV l fs vs fs.length = List.zipWith (canonV l) fs vs := by
  unfold mixV
  rw [List.take_length, List.take_of_length_le (by omega), List.drop_eq_nil_of_le (by omega), List.append_nil]
theorem mixV_get {l : List Int} {fs : List GField} {vs : List GVal} {k : Nat} {v : GVal} (h : vs.length = fs.length) (hv : vs[k]? = some v) : (mixV l fs vs k)[k]? = some v := by
  have hlt := (List.getElem?_eq_some_iff.1 hv).1
  unfold mixV
  rw [List.getElem?_append_right (by simp; omega)]
  simp only [List.length_zipWith, List.length_take]
  rw [show k - min (min k fs.length) (min k vs.length) = 0 by omega, List.getElem?_drop]
  exact hv
theorem mixV_succ {l : List Int} {fs : List GField} {vs : List GVal} {k : Nat} {f : GField} {v : GVal} (hf : fs[k]? = some f) (hv : vs[k]? = some v) : mixV l fs vs (k + 1) = (mixV l fs vs k).set k (canonV l f v) := by
  have h1 := (List.getElem?_eq_some_iff.1 hf).1
  have h2 := (List.getElem?_eq_some_iff.1 hv).1
  have hd : vs.drop k = v :: vs.drop (k + 1) := by
    rw [List.drop_eq_getElem_cons h2]; congr 1; exact (List.getElem?_eq_some_iff.1 hv).2
  unfold mixV
  rw [hd, List.take_add_one, List.take_add_one, hf, hv]
  simp only [Option.toList_some]
  rw [List.zipWith_append (by simp; omega)]
  rw [List.set_append_right _ _ (by simp; omega)]
  simp only [List.length_zipWith, List.length_take]
  rw [show k - min (min k fs.length) (min k vs.length) = 0 by omega]
  simp
theorem mixV_no {l : List Int} {fs : List GField} {vs : List GVal} {k : Nat} {f : GField} {v : GVal} (h : vs.length = fs.length) (hf : fs[k]? = some f) (hv : vs[k]? = some v) (hk : f.Kind ≠ 5) : mixV l fs vs (k + 1) = mixV l fs vs k := by
  rw [mixV_succ hf hv, show canonV l f v = v by simp [canonV, hk], set_same (mixV_get h hv)]
theorem canonL_len (g : Graph) (l : List Int) : ∀ (k : Nat) (is : List Int), (canonL g l k is).length = is.length
  | _, [] => rfl
  | k, i :: is => by simp [canonL, canonL_len g l (k + 1) is]
theorem mets_pre : ∀ (l is : List Int), ∃ s, mets l is = l ++ s
  | l, [] => ⟨[], by simp [mets]⟩
  | l, i :: is => by
    obtain ⟨s, hs⟩ := mets_pre (meet l i) is
    have e : mets l (i :: is) = mets (meet l i) is := rfl
    rw [e, hs]
    unfold meet
    split
    · exact ⟨s, rfl⟩
    · exact ⟨i :: s, by simp⟩
theorem mem_meet (l : List Int) (i j : Int) : j ∈ meet l i ↔ j ∈ l ∨ (j = i ∧ i ≠ -1) := by
  unfold meet
  split
  · rename_i h
    constructor
    · exact .inl
    · rintro (h1 | ⟨rfl, h2⟩)
      · exact h1
      · exact h.resolve_left h2
  · rename_i h
    rw [not_or] at h
    simp only [List.mem_append, List.mem_singleton]
    constructor
    · rintro (h1 | h1)
      · exact .inl h1
      · exact .inr ⟨h1, h.1⟩
    · rintro (h1 | h1)
      · exact .inl h1
      · exact .inr h1.1
theorem mem_mets : ∀ (is l : List Int) (j : Int), j ∈ mets l is ↔ j ∈ l ∨ (j ∈ is ∧ j ≠ -1)
  | [], l, j => by simp [mets]
  | i :: is, l, j => by
    have e : mets l (i :: is) = mets (meet l i) is := rfl
    rw [e, mem_mets is, mem_meet, List.mem_cons]
    constructor
    · rintro ((h | ⟨rfl, h⟩) | ⟨h, h2⟩)
      · exact .inl h
      · exact .inr ⟨.inl rfl, h⟩
      · exact .inr ⟨.inr h, h2⟩
    · rintro (h | ⟨rfl | h, h2⟩)
      · exact .inl (.inl h)
      · exact .inl (.inr ⟨rfl, h2⟩)
      · exact .inr ⟨h, h2⟩

/-- Where what was met leads to was met. -/
def Clo (g : Graph) (i : Nat) (l : List Int) : Prop := ∀ (j : Nat) (x : Int), j < i → l[j]? = some x → ∀ r ∈ refsOf g x, r = -1 ∨ r ∈ l
theorem ordF_pre (g : Graph) : ∀ (n i : Nat) (l : List Int), ∃ s, ordF g n i l = l ++ s
  | 0, _, l => ⟨[], by simp [ordF]⟩
  | n + 1, i, l => by
    unfold ordF
    split
    · exact ⟨[], by simp⟩
    · rename_i x hx
      obtain ⟨s, hs⟩ := mets_pre l (refsOf g x)
      obtain ⟨s', hs'⟩ := ordF_pre g n (i + 1) (mets l (refsOf g x))
      exact ⟨s ++ s', by rw [hs', hs, List.append_assoc]⟩
theorem ordF_clo {g : Graph} (h : May g) : ∀ (n i : Nat) (l : List Int), Good g l → Clo g i l → n + i = g.O.length → Clo g (ordF g n i l).length (ordF g n i l)
  | 0, i, l, hg, hc, e => by
    intro j x hj hx
    have := hg.len
    exact hc j x (by have := (List.getElem?_eq_some_iff.1 hx).1; simp only [ordF] at this; omega) hx
  | n + 1, i, l, hg, hc, e => by
    unfold ordF
    split
    · rename_i hn
      intro j x hj hx
      have h1 := List.getElem?_eq_none_iff.1 hn
      exact hc j x (by omega) hx
    · rename_i y hy
      refine ordF_clo h n (i + 1) _ (hg.mets (h.refsOf y)) ?_ (by omega)
      intro j x hj hx r hr
      obtain ⟨s, hs⟩ := mets_pre l (refsOf g y)
      have hil := (List.getElem?_eq_some_iff.1 hy).1
      rw [hs, List.getElem?_append_left (by omega)] at hx
      by_cases e1 : j = i
      · subst e1
        rw [hy] at hx; cases hx
        by_cases e2 : r = -1
        · exact .inl e2
        · exact .inr ((mem_mets _ _ _).2 (.inr ⟨hr, e2⟩))
      · rcases hc j x (by omega) hx r hr with h1 | h1
        · exact .inl h1
        · exact .inr ((mem_mets _ _ _).2 (.inl h1))
theorem May.clo {g : Graph} (h : May g) {x : Int} (hx : x ∈ Ab.order g) : ∀ r ∈ Ab.refsOf g x, r = -1 ∨ r ∈ Ab.order g := by
  obtain ⟨j, hj⟩ := List.getElem?_of_mem hx
  exact ordF_clo h g.O.length 0 _ ((Good.nil g).mets h.root) (fun j x hj => by omega) rfl j x (List.getElem?_eq_some_iff.1 hj).1 hj
theorem May.rootIn {g : Graph} (_ : May g) {r : Int} (hr : r ∈ g.Roots) : r = -1 ∨ r ∈ Ab.order g := by
  obtain ⟨s, hs⟩ := ordF_pre g g.O.length 0 (mets [] g.Roots)
  by_cases e : r = -1
  · exact .inl e
  · refine .inr ?_
    unfold Ab.order
    rw [hs]
    exact List.mem_append_left _ ((mem_mets _ _ _).2 (.inr ⟨hr, e⟩))
theorem atL_mem {l : List Int} {r : Int} (h : r = -1 ∨ r ∈ l) : ∃ p, atL l r = some p := by
  cases e : atL l r with
  | some p => exact ⟨p, rfl⟩
  | none =>
    have := atL_none.1 e
    rcases h with h | h
    · exact absurd h this.1
    · exact absurd h this.2
theorem atD_of {l : List Int} {r p : Int} (h : atL l r = some p) : atD l r = p := by simp [atD, h]
theorem May.refIn {g : Graph} (h : May g) {x : Int} {o : GObj} {t : GType} {k : Nat} {f : GField} {v : GVal} (hx : x ∈ Ab.order g) (ho : objAt g x = some o) (ht : typeAt g.S o.T = some t) (hf : t.F[k]? = some f) (hv : o.F[k]? = some v) (hk : f.Kind = 5) : v.R = -1 ∨ v.R ∈ Ab.order g := by
  refine h.clo hx v.R ?_
  unfold Ab.refsOf refsO
  rw [ho]; simp only [ht]
  unfold refsZ
  exact List.mem_filterMap.2 ⟨(f, v), List.mem_of_getElem? (List.getElem?_zip_eq_some.2 ⟨hf, hv⟩), by simp [hk]⟩
end Go.Ab

namespace Go.Ab
open Go Go.RowKit

/-! ### The laws' own data -/
def oneS : List GType := [⟨⟨#[97]⟩, [⟨⟨#[110]⟩, 2, ⟨#[]⟩⟩, ⟨⟨#[111]⟩, 5, ⟨#[97]⟩⟩]⟩]
def few06 (s : List GType) (k : Int) : Bool := allI (fun _ t => decide ((t.F.length : Int) ≤ k)) 0 s && decide ((s.length : Int) ≤ k)
def fewG (g : Graph) : Bool := ((few06 g.S 10 && decide (g.O.length ≤ 12)) && decide (g.Roots.length ≤ 10)) && allI (fun _ (o : GObj) => decide (o.F.length ≤ 10)) 0 g.O
def awG : Graph := ⟨oneS, [⟨2, 0, [⟨7, ⟨#[]⟩, 0⟩, ⟨0, ⟨#[]⟩, -1⟩]⟩, ⟨5, 0, [⟨8, ⟨#[]⟩, 0⟩, ⟨0, ⟨#[]⟩, 2⟩]⟩], [5]⟩
def awC : Graph := ⟨oneS, [⟨0, 0, [⟨8, ⟨#[]⟩, 0⟩, ⟨0, ⟨#[]⟩, 1⟩]⟩, ⟨1, 0, [⟨7, ⟨#[]⟩, 0⟩, ⟨0, ⟨#[]⟩, -1⟩]⟩], [0]⟩
set_option maxRecDepth 100000
theorem awG_may : gMay awG = true := by decide
theorem awC_may : gMay awC = true := by decide
theorem awG_order : gOrder awG = [5, 2] := by decide
theorem awG_canon : gCanon awG = awC := by decide
theorem awC_canon : gCanon awC = awC := by decide
theorem aw_iso : gIso awG awC = true := by unfold gIso; rw [awG_may, awC_may, awG_canon, awC_canon]; simp
end Go.Ab

namespace Go.Ab
open Go Go.RowKit

/-! ### Where what was met stands -/
theorem atL_at {l : List Int} {x : Int} (hx : x ≠ -1) (hm : x ∈ l) : ∃ n : Nat, atL l x = some (n : Int) ∧ l[n]? = some x := by
  unfold atL
  rw [if_neg hx]
  cases h : l.findIdx? (fun y => decide (y = x)) with
  | none =>
    rw [List.findIdx?_eq_none_iff] at h
    have := h x hm
    simp at this
  | some n =>
    rw [List.findIdx?_eq_some_iff_getElem] at h
    obtain ⟨h1, h2, _⟩ := h
    refine ⟨n, rfl, ?_⟩
    rw [List.getElem?_eq_getElem h1]
    simp at h2; rw [h2]
theorem atL_app {p s : List Int} {x : Int} (hm : x ∈ p) : atL (p ++ s) x = atL p x := by
  unfold atL
  by_cases hx : x = -1
  · simp [hx]
  · rw [if_neg hx, if_neg hx, List.findIdx?_append]
    cases h : p.findIdx? (fun y => decide (y = x)) with
    | none =>
      rw [List.findIdx?_eq_none_iff] at h
      have := h x hm
      simp at this
    | some n => rfl
theorem atL_new {p s : List Int} {x : Int} (hx : x ≠ -1) (hm : x ∉ p) : atL (p ++ x :: s) x = some (p.length : Int) := by
  unfold atL
  rw [if_neg hx, List.findIdx?_append]
  have : p.findIdx? (fun y => decide (y = x)) = none := by
    rw [List.findIdx?_eq_none_iff]
    intro y hy
    simp; exact fun e => hm (e ▸ hy)
  rw [this]
  simp [List.findIdx?_cons]
theorem atD_none (l : List Int) : atD l (-1) = -1 := by simp [atD, atL]
theorem May.pre {g : Graph} (_ : May g) (i : Nat) : ∃ s, Ab.order g = mets [] (g.Roots.take i) ++ s := by
  obtain ⟨s, hs⟩ := ordF_pre g g.O.length 0 (mets [] g.Roots)
  have e : mets [] g.Roots = mets (mets [] (g.Roots.take i)) (g.Roots.drop i) := by
    unfold mets
    rw [← List.foldl_append, List.take_append_drop]
  obtain ⟨s', hs'⟩ := mets_pre (mets [] (g.Roots.take i)) (g.Roots.drop i)
  exact ⟨s' ++ s, by unfold Ab.order; rw [hs, e, hs', List.append_assoc]⟩
/-- A root is none, or was met by then, or is the next one. -/
theorem May.rootAt {g : Graph} (h : May g) {i : Nat} {x : Int} (hx : g.Roots[i]? = some x) :
    (x = -1 ∧ atD (Ab.order g) x = -1 ∧ (mets [] (g.Roots.take (i + 1))).length = (mets [] (g.Roots.take i)).length) ∨
    ∃ n : Nat, atD (Ab.order g) x = n ∧ 0 ≤ x ∧ (Ab.order g)[n]? = some x ∧ n ≤ (mets [] (g.Roots.take i)).length ∧
      (mets [] (g.Roots.take (i + 1))).length = if n = (mets [] (g.Roots.take i)).length then (mets [] (g.Roots.take i)).length + 1 else (mets [] (g.Roots.take i)).length := by
  rw [mets_take _ hx]
  by_cases e : x = -1
  · refine .inl ⟨e, by rw [e, atD_none], ?_⟩
    unfold meet; rw [if_pos (.inl e)]
  · refine .inr ?_
    have hr := h.root x (List.mem_of_getElem? hx)
    have hx0 : 0 ≤ x := by
      unfold rootB at hr
      simp only [Bool.or_eq_true, decide_eq_true_eq] at hr
      have hr := hr.resolve_left e
      obtain ⟨p, o, hp, e1, _⟩ := h.find hr
      have := h.pos (List.mem_of_getElem? hp); omega
    have hin := (h.rootIn (List.mem_of_getElem? hx)).resolve_left e
    obtain ⟨n, h1, h2⟩ := atL_at e hin
    refine ⟨n, atD_of h1, hx0, h2, ?_⟩
    by_cases hp : x ∈ mets [] (g.Roots.take i)
    · obtain ⟨s, hs⟩ := h.pre i
      obtain ⟨m, h3, h4⟩ := atL_at e hp
      rw [hs, atL_app hp, h3] at h1
      have hm : m = n := by simp at h1; omega
      subst hm
      have := (List.getElem?_eq_some_iff.1 h4).1
      refine ⟨by omega, ?_⟩
      unfold meet; rw [if_pos (.inr hp), if_neg (by omega)]
    · obtain ⟨s, hs⟩ := h.pre (i + 1)
      rw [mets_take _ hx] at hs
      have hmt : meet (mets [] (g.Roots.take i)) x = mets [] (g.Roots.take i) ++ [x] := by unfold meet; rw [if_neg (by rw [not_or]; exact ⟨e, hp⟩)]
      rw [hmt] at hs
      rw [hs, List.append_assoc, List.singleton_append, atL_new e hp] at h1
      have hm : (mets [] (g.Roots.take i)).length = n := by simp at h1; omega
      rw [hmt]
      refine ⟨by omega, ?_⟩
      rw [if_pos hm.symm]; simp
end Go.Ab

namespace Go.Ab
open Go Go.RowKit

theorem canonL_get (g : Graph) (l : List Int) : ∀ (is : List Int) (k i : Nat) (x : Int), is[i]? = some x → (canonL g l k is)[i]? = some (canonO g l (k + i) x)
  | [], _, i, x, h => by simp at h
  | y :: is, k, 0, x, h => by simp at h; subst h; simp [canonL]
  | y :: is, k, i + 1, x, h => by
    simp only [canonL, List.getElem?_cons_succ]
    rw [canonL_get g l is (k + 1) i x (by simpa using h)]
    rw [show k + 1 + i = k + (i + 1) by omega]
theorem canonO_of {g : Graph} {l : List Int} {k : Nat} {x : Int} {o : GObj} {t : GType} (h1 : objAt g x = some o) (h2 : typeAt g.S o.T = some t) : canonO g l k x = ⟨k, o.T, List.zipWith (canonV l) t.F o.F⟩ := by
  unfold canonO; rw [h1]; simp only [h2]
theorem May.nonneg {g : Graph} (h : May g) {x : Int} (hx : x ∈ Ab.order g) : 0 ≤ x := by
  obtain ⟨p, o, hp, e1, _⟩ := h.find (h.order.ids x hx)
  have := h.pos (List.mem_of_getElem? hp); omega
/-- What a value of a Canon is. -/
theorem May.canonV {g : Graph} (h : May g) {x : Int} {o : GObj} {t : GType} {k : Nat} {f : GField} {v : GVal} (hx : x ∈ Ab.order g) (ho : objAt g x = some o) (ht : typeAt g.S o.T = some t) (hf : t.F[k]? = some f) (hv : o.F[k]? = some v) :
    ((f.Kind ≠ 5 ∨ v.R < 0) → Ab.canonV (Ab.order g) f v = v) ∧ (f.Kind = 5 → 0 ≤ v.R → ∃ n : Nat, (Ab.canonV (Ab.order g) f v).R = n ∧ (Ab.order g)[n]? = some v.R) := by
  unfold Ab.canonV
  by_cases hk : f.Kind = 5
  · simp only [hk, if_true, ne_eq, not_true_eq_false, false_or, forall_const]
    have hin := h.refIn hx ho ht hf hv hk
    refine ⟨fun hr => ?_, fun hr => ?_⟩
    · rcases hin with e | e
      · rw [e, atD_none]; rw [← e]
      · have := h.nonneg e; omega
    · have hin := hin.resolve_left (by omega)
      obtain ⟨n, h1, h2⟩ := atL_at (by omega) hin
      exact ⟨n, atD_of h1, h2⟩
  · simp [hk]
end Go.Ab

namespace Go.Ab
open Go Go.RowKit

/-! ### What comes in: from a reading to the cells -/
abbrev NoOwn : Nat → Prop := fun _ => False
def RowFR (w : World) (cs : List Value) (l : List AV) : Prop := cs.length = l.length ∧ ∀ (i : Nat) (a : AV), l[i]? = some a → FR w NoOwn a (cs.getD i undef)
def Small {H : Type} (P : Program) (t : TypeId) (d : DataW H) : Prop := ∀ n ∈ d.weights P t, n ≤ reachBytes
def Dec (P : Program) (t : TypeId) {α : Type} (e : α → List AV) (wf : α → Prop) : Prop :=
  ∀ {H : Type} (enc : TypeId × Value → H) (w : World) (spare : Nat → Bool) (held : Bool) (fuel : Nat) (cs : List Value) (x : DataW H × List MemPlace), DataW.trod enc P w 0 spare held fuel t cs = some x → Small P t x.1 →
    ∃ a : α, wf a ∧ RowFR w cs (e a)

theorem RowFR.append {w : World} {cs cs' : List Value} {l l' : List AV} (h : RowFR w cs l) (h' : RowFR w cs' l') : RowFR w (cs ++ cs') (l ++ l') := by
  refine ⟨by simp [h.1, h'.1], fun i a ha => ?_⟩
  by_cases hi : i < l.length
  · rw [List.getElem?_append_left hi] at ha
    have := h.2 i a ha
    rwa [List.getD_eq_getElem?_getD, List.getElem?_append_left (by rw [h.1]; exact hi), ← List.getD_eq_getElem?_getD]
  · rw [List.getElem?_append_right (by omega)] at ha
    have := h'.2 _ a ha
    rw [List.getD_eq_getElem?_getD, List.getElem?_append_right (by rw [h.1]; omega), ← List.getD_eq_getElem?_getD, h.1]
    exact this
theorem RowFR.one {w : World} {v : Value} {a : AV} (h : FR w NoOwn a v) : RowFR w [v] [a] := ⟨rfl, fun i b hb => by
  cases i with
  | zero => simp at hb; subst hb; exact h
  | succ i => simp at hb⟩
theorem reach_MX {n : Nat} (h : n ≤ reachBytes) : n ≤ MX := Nat.le_trans h (by decide)

section
variable {P : Program} {t : TypeId}
def i64 (n : Int) : Prop := -9223372036854775808 ≤ n ∧ n < 9223372036854775808
theorem Dec.int (ht : P.underlying t = some (.int .i64)) : Dec P t eI i64 := by
  intro H enc w spare held fuel cs x h _
  obtain ⟨n, rfl, rfl, hw⟩ := DataW.trod_int ht h
  refine ⟨n, ?_, RowFR.one (.int _ _)⟩
  simp only [Lit.wf, Bool.and_eq_true, decide_eq_true_eq] at hw
  have h1 : IntKind.i64.min = -9223372036854775808 := by decide
  have h2 : IntKind.i64.max = 9223372036854775807 := by decide
  rw [h1, h2] at hw
  exact ⟨hw.1, by omega⟩
theorem Dec.str (ht : P.underlying t = some .string) : Dec P t (fun s : ByteArray => [.str s]) (fun _ => True) := by
  intro H enc w spare held fuel cs x h hs
  obtain ⟨s, rfl, rfl, _⟩ := DataW.trod_string ht h
  refine ⟨s, trivial, RowFR.one (.str _ ?_)⟩
  have := hs s.data.toList.length (by simp [DataW.weights])
  exact reach_MX (by simpa using this)
theorem Dec.bool (ht : P.underlying t = some .bool) : Dec P t (fun b : Bool => [.bool b]) (fun _ => True) := by
  intro H enc w spare held fuel cs x h hs
  have hb : ∃ b, cs = [.bool b] := by
    cases fuel with
    | zero => simp [DataW.trod] at h
    | succ n =>
      unfold DataW.trod at h
      rw [ht] at h
      split at h <;> simp_all
  obtain ⟨b, rfl⟩ := hb
  exact ⟨b, trivial, RowFR.one (.bool _)⟩
theorem Dec.slice {e : TypeId} {α : Type} {f : α → List AV} {wf : α → Prop} {n : Nat} (ht : P.underlying t = some (.slice e)) (hn : P.cellsOf e = n) (hp : 1 ≤ n) (hb : 1 ≤ P.bytesOf e) (hf : ∀ a, (f a).length = n) (hd : Dec P e f wf) :
    Dec P t (fun xs : List α => [.sl n (xs.map f)]) (fun xs => ∀ x ∈ xs, wf x) := by
  intro H enc w spare held fuel cs x h hs
  rcases DataW.trod_slice ht h with ⟨rfl, rfl⟩ | ⟨a, len, cap, elems, rest, m, _, rfl, rfl, _, hl, hm, hlen, hel, _, _⟩
  · exact ⟨[], (fun x hx => by cases hx), RowFR.one (.slnil n)⟩
  have hmem : ∀ y ∈ elems, Small P e y.1 := by
    intro y hy k hk
    refine hs k ?_
    simp only [DataW.weights, ht, List.mem_cons, List.mem_append]
    refine .inr (.inl ?_)
    have : ∀ (l : List (DataW H × List MemPlace)), y ∈ l → k ∈ DataW.weightsAll P e (l.map (·.1)) := by
      intro l
      induction l with
      | nil => intro h; cases h
      | cons z l ih =>
        intro h
        simp only [List.map_cons, DataW.weightsAll, List.mem_append]
        rcases List.mem_cons.1 h with rfl | h
        · exact .inl hk
        · exact .inr (ih h)
    exact this elems hy
  have hMX : len ≤ MX := by
    have := hs ((elems.length + rest.length) * P.bytesOf e) (by simp [DataW.weights, ht])
    refine reach_MX (Nat.le_trans ?_ this)
    exact Nat.le_trans (show len ≤ elems.length + rest.length by omega) (Nat.le_mul_of_pos_right _ hb)
  have each : ∀ i, i < len → ∃ (cs : List Value) (b : α), w.cells? 0 (a.add (i * n)) n = some cs ∧ wf b ∧ RowFR w cs (f b) := by
    intro i hi
    have h1 := hel i hi
    have h2 : i < elems.length := by omega
    rw [List.getElem?_eq_getElem h2, hn] at h1
    simp only [Option.bind_eq_some_iff] at h1
    obtain ⟨cs, h3, h4⟩ := h1
    obtain ⟨b, h5, h6⟩ := hd enc w spare held m cs elems[i] h4 (hmem _ (List.getElem_mem _))
    exact ⟨cs, b, h3, h5, h6⟩
  have list : ∀ k, k ≤ len → ∃ xs : List α, xs.length = k ∧ (∀ x ∈ xs, wf x) ∧ ∀ i b, xs[i]? = some b → ∃ cs, w.cells? 0 (a.add (i * n)) n = some cs ∧ RowFR w cs (f b) := by
    intro k
    induction k with
    | zero => exact fun _ => ⟨[], rfl, fun x hx => (by cases hx), fun i b hb => (by simp at hb)⟩
    | succ k ih =>
      intro hk
      obtain ⟨xs, h1, h2, h3⟩ := ih (by omega)
      obtain ⟨cs, b, h4, h5, h6⟩ := each k (by omega)
      refine ⟨xs ++ [b], by simp [h1], fun x hx => ?_, fun i c hc => ?_⟩
      · rcases List.mem_append.1 hx with hx | hx
        · exact h2 x hx
        · simp at hx; subst hx; exact h5
      · by_cases hi : i < xs.length
        · rw [List.getElem?_append_left hi] at hc; exact h3 i c hc
        · rw [List.getElem?_append_right (by omega)] at hc
          cases e0 : i - xs.length with
          | zero =>
            rw [e0] at hc; simp at hc; subst hc
            have : i = k := by omega
            subst this; exact ⟨cs, h4, h6⟩
          | succ j => rw [e0] at hc; simp at hc
  obtain ⟨xs, h1, h2, h3⟩ := list len (Nat.le_refl _)
  refine ⟨xs, h2, RowFR.one ?_⟩
  cases len with
  | zero =>
    have : xs = [] := List.length_eq_zero_iff.1 h1
    subst this
    exact .slmt n a cap hm
  | succ len =>
    have cell : ∀ i b j v, xs[i]? = some b → (f b)[j]? = some v → a.spot = none ∧ ∃ u, w.cell? ⟨a.block, a.off + (i * n + j), none⟩ = some u ∧ FR w NoOwn v u := by
      intro i b j v hb hv
      obtain ⟨cs, h4, h5⟩ := h3 i b hb
      have hj : j < n := by rw [← hf b]; exact (List.getElem?_eq_some_iff.1 hv).1
      have at_ : ∀ i b, xs[i]? = some b → ∀ j, j < n → ∃ cs, w.cells? 0 (a.add (i * n)) n = some cs ∧ RowFR w cs (f b) ∧ ∃ u, cs[j]? = some u ∧ w.cell? ((a.add (i * n)).add j) = some u := by
        intro i b hb j hj
        obtain ⟨cs, h4, h5⟩ := h3 i b hb
        have h6 := h4
        unfold World.cells? at h6
        rw [if_pos (Nat.zero_le _)] at h6
        have h7 := mapM_some_get h6 j j (by simp [hj])
        have hcl : cs.length = n := by rw [h5.1, hf]
        have h8 : j < cs.length := by omega
        rw [List.getElem?_eq_getElem h8] at h7
        exact ⟨cs, h4, h5, cs[j], List.getElem?_eq_getElem h8, h7⟩
      have hsp : a.spot = none := by
        obtain ⟨b0, hb0⟩ : ∃ b0, xs[0]? = some b0 := ⟨xs[0], List.getElem?_eq_getElem (by omega)⟩
        obtain ⟨_, _, _, u, _, hu⟩ := at_ 0 b0 hb0 0 (by omega)
        simp only [Nat.zero_mul, Addr.add] at hu
        unfold World.cell? at hu
        split at hu
        · simp only [if_true] at hu
          split at hu
          · cases hu
          · rename_i hh; simpa using hh
        · cases hu
      refine ⟨hsp, ?_⟩
      obtain ⟨cs', h4', h5', u, h6, h7⟩ := at_ i b hb j hj
      have e1 : (a.add (i * n)).add j = ⟨a.block, a.off + (i * n + j), none⟩ := by
        unfold Addr.add
        by_cases hi0 : i * n = 0
        · rw [if_pos hi0, hi0]
          by_cases hj0 : j = 0
          · rw [if_pos hj0, hj0]; cases a; simp_all
          · rw [if_neg hj0]; simp
        · rw [if_neg hi0]
          by_cases hj0 : j = 0
          · rw [if_pos hj0, hj0]; simp
          · rw [if_neg hj0]; simp; omega
      rw [e1] at h7
      refine ⟨u, h7, ?_⟩
      have := h5'.2 j v hv
      rw [List.getD_eq_getElem?_getD, h6] at this
      exact this
    have hsp : a.spot = none := by
      obtain ⟨b0, hb0⟩ : ∃ b0, xs[0]? = some b0 := ⟨xs[0], List.getElem?_eq_getElem (by omega)⟩
      obtain ⟨v0, hv0⟩ : ∃ v0, (f b0)[0]? = some v0 := ⟨(f b0)[0]'(by rw [hf]; omega), List.getElem?_eq_getElem _⟩
      exact (cell 0 b0 0 v0 hb0 hv0).1
    obtain ⟨ab, ao, asp⟩ := a
    simp only at hsp; subst hsp
    have hml : (xs.map f).length = len + 1 := by simp [h1]
    rw [← hml]
    refine .sl n (xs.map f) ab ao cap (by omega) hm (by omega) (fun i r hr => ?_) (fun i r j v hr hv => ?_) (fun i r j v hr hv => ?_)
    all_goals
      simp only [List.getElem?_map, Option.map_eq_some_iff] at hr
      obtain ⟨b, hb, rfl⟩ := hr
    · exact hf b
    · obtain ⟨_, u, hu, _⟩ := cell i b j v hb hv
      exact ⟨id, by rw [hu]; rfl⟩
    · obtain ⟨_, u, hu, hfr⟩ := cell i b j v hb hv
      unfold rdw; rw [hu]; exact hfr

theorem Dec.mono {α β : Type} {e : α → List AV} {wf : α → Prop} {e' : β → List AV} {wf' : β → Prop} (h : Dec P t e wf) (g : α → β) (hg : ∀ a, wf a → wf' (g a)) (he : ∀ a, e' (g a) = e a) : Dec P t e' wf' := by
  intro H enc w spare held fuel cs x hx hs
  obtain ⟨a, h1, h2⟩ := h enc w spare held fuel cs x hx hs
  exact ⟨g a, hg a h1, by rw [he]; exact h2⟩

theorem Dec.struct {fs : Array Go.Field} (ht : P.underlying t = some (.struct fs)) {H : Type} {enc : TypeId × Value → H} {w : World} {spare : Nat → Bool} {held : Bool} {fuel : Nat} {cs : List Value} {x : DataW H × List MemPlace}
    (h : DataW.trod enc P w 0 spare held fuel t cs = some x) (hs : Small P t x.1) {α : Type} {e : α → List AV} {wf : α → Prop} {i : Nat} {f : Go.Field} (hi : fs[i]? = some f) (hd : Dec P f.type e wf) :
    ∃ a : α, wf a ∧ RowFR w ((cs.drop f.offset).take (P.cellsOf f.type)) (e a) := by
  obtain ⟨xs, n, rfl, rfl, hl, hlen, hall⟩ := DataW.trod_struct ht h
  have h1 := hall i f hi
  have h2 : i < xs.length := by rw [hlen]; exact (Array.getElem?_eq_some_iff.1 hi).1
  rw [List.getElem?_eq_getElem h2] at h1
  refine hd enc w spare held n _ _ h1 fun k hk => hs k ?_
  simp only [DataW.weights, ht]
  refine DataW.weights_mem_each (j := i) (t := f.type) (d := xs[i].1) ?_ ?_ k hk
  · rw [List.getElem?_map, Array.getElem?_toList, hi]; rfl
  · rw [List.getElem?_map, List.getElem?_eq_getElem h2]; rfl
theorem Dec.struct1 {fs : Array Go.Field} (ht : P.underlying t = some (.struct fs)) {f0 : Go.Field} (h0 : fs[0]? = some f0) (o0 : f0.offset = 0) (c : P.cellsOf t = P.cellsOf f0.type)
    {α δ : Type} {e0 : α → List AV} {w0 : α → Prop} (d0 : Dec P f0.type e0 w0) {e : δ → List AV} {wf : δ → Prop} (g : α → δ) (hg : ∀ a, w0 a → wf (g a)) (he : ∀ a, e (g a) = e0 a) : Dec P t e wf := by
  intro H enc w spare held fuel cs x h hs
  obtain ⟨_, _, _, _, hl, _, _⟩ := DataW.trod_struct ht h
  obtain ⟨a, wa, ra⟩ := Dec.struct ht h hs h0 d0
  refine ⟨g a, hg a wa, ?_⟩
  rw [he]
  have e1 : (cs.drop f0.offset).take (P.cellsOf f0.type) = cs := by rw [o0, List.drop_zero, ← c, ← hl, List.take_length]
  rw [e1] at ra; exact ra
theorem Dec.struct2 {fs : Array Go.Field} (ht : P.underlying t = some (.struct fs)) {f0 f1 : Go.Field} (h0 : fs[0]? = some f0) (h1 : fs[1]? = some f1) {n0 n1 : Nat} (c0 : P.cellsOf f0.type = n0) (c1 : P.cellsOf f1.type = n1) (o0 : f0.offset = 0) (o1 : f1.offset = n0) (c : P.cellsOf t = n0 + n1)
    {α β δ : Type} {e0 : α → List AV} {w0 : α → Prop} (d0 : Dec P f0.type e0 w0) {e1 : β → List AV} {w1 : β → Prop} (d1 : Dec P f1.type e1 w1) {e : δ → List AV} {wf : δ → Prop} (g : α → β → δ) (hg : ∀ a b, w0 a → w1 b → wf (g a b)) (he : ∀ a b, e (g a b) = e0 a ++ e1 b) : Dec P t e wf := by
  intro H enc w spare held fuel cs x h hs
  obtain ⟨_, _, _, _, hl, _, _⟩ := DataW.trod_struct ht h
  obtain ⟨a, wa, ra⟩ := Dec.struct ht h hs h0 d0
  obtain ⟨b, wb, rb⟩ := Dec.struct ht h hs h1 d1
  refine ⟨g a b, hg a b wa wb, ?_⟩
  rw [he]
  have := ra.append rb
  rw [o0, o1, c0, c1, List.drop_zero, List.take_of_length_le (l := cs.drop n0) (by rw [List.length_drop]; omega), List.take_append_drop] at this
  exact this
theorem Dec.struct3 {fs : Array Go.Field} (ht : P.underlying t = some (.struct fs)) {f0 f1 f2 : Go.Field} (h0 : fs[0]? = some f0) (h1 : fs[1]? = some f1) (h2 : fs[2]? = some f2) {n0 n1 n2 : Nat} (c0 : P.cellsOf f0.type = n0) (c1 : P.cellsOf f1.type = n1) (c2 : P.cellsOf f2.type = n2) (o0 : f0.offset = 0) (o1 : f1.offset = n0) (o2 : f2.offset = n0 + n1) (c : P.cellsOf t = n0 + n1 + n2)
    {α β γ δ : Type} {e0 : α → List AV} {w0 : α → Prop} (d0 : Dec P f0.type e0 w0) {e1 : β → List AV} {w1 : β → Prop} (d1 : Dec P f1.type e1 w1) {e2 : γ → List AV} {w2 : γ → Prop} (d2 : Dec P f2.type e2 w2) {e : δ → List AV} {wf : δ → Prop} (g : α → β → γ → δ) (hg : ∀ a b c, w0 a → w1 b → w2 c → wf (g a b c)) (he : ∀ a b c, e (g a b c) = e0 a ++ (e1 b ++ e2 c)) : Dec P t e wf := by
  intro H enc w spare held fuel cs x h hs
  obtain ⟨_, _, _, _, hl, _, _⟩ := DataW.trod_struct ht h
  obtain ⟨a, wa, ra⟩ := Dec.struct ht h hs h0 d0
  obtain ⟨b, wb, rb⟩ := Dec.struct ht h hs h1 d1
  obtain ⟨c', wc, rc⟩ := Dec.struct ht h hs h2 d2
  refine ⟨g a b c', hg a b c' wa wb wc, ?_⟩
  rw [he]
  have := ra.append (rb.append rc)
  have e3 : (cs.drop n0).take n1 ++ (cs.drop (n0 + n1)).take n2 = cs.drop n0 := by
    rw [List.take_of_length_le (l := cs.drop (n0 + n1)) (by rw [List.length_drop]; omega), ← List.drop_drop, List.take_append_drop]
  rw [o0, o1, o2, c0, c1, c2, List.drop_zero, e3, List.take_append_drop] at this
  exact this

/-- An argument's value out of its reading. -/
theorem FR.of_cell {w : World} {v : Value} {a : AV} (h : RowFR w [v] [a]) : FR w NoOwn a v := by simpa using h.2 0 a rfl
theorem FR.of_agg {w : World} {cs : Array Value} {l : List AV} (h : RowFR w cs.toList l) : FR w NoOwn (.agg l) (.agg cs) := by
  have := FR.agg (w := w) (A := NoOwn) l cs.toList h.1 h.2
  simpa using this
end

/-! ### The wrapper: a law that answers true -/
theorem below_of_fr {w w' : World} (h : Fr (fun _ => False) w w') : Below w.heap.size w w' := ⟨h.os, h.tape, h.output, h.size, fun k hk => h.block k hk id⟩
section
variable {P : Program}
theorem trodAll_stays {H : Type} {enc : TypeId × Value → H} (hl : laidOutB P = true) {W W' : World} (hb : Below W.heap.size W W') : ∀ {ts : List TypeId} {vs : List Value} {ds : List (DataW H)} {ps : List MemPlace},
    (∀ t ∈ ts, P.readableRec t = true ∧ t < P.types.size) → DataW.TrodAll enc P W 0 (fun _ => true) true ts vs ds ps → (∀ x ∈ ps, x.block < W.heap.size) → DataW.TrodAll enc P W' 0 (fun b => decide (b < W.heap.size)) true ts vs ds ps
  | [], vs, ds, ps, _, h, _ => by
    obtain ⟨rfl, rfl, rfl⟩ := Go.ChangeShapes.trodAll_nil h
    exact rfl
  | t :: ts, vs, ds, ps, hr, h, hlt => by
    obtain ⟨v, vs', d, ds', p, q, rfl, rfl, rfl, h0, h1⟩ := Go.ChangeShapes.trodAll_cons h
    obtain ⟨k1, k2⟩ := hr t List.mem_cons_self
    exact ⟨p, q, Below.trod hl k1 k2 h0 hb (fun x hx => hlt x (List.mem_append_left _ hx)), trodAll_stays hl hb (fun u hu => hr u (List.mem_cons_of_mem _ hu)) h1 (fun x hx => hlt x (List.mem_append_right _ hx)), rfl⟩

def ArgOK (P : Program) (t : TypeId) {α : Type} (e : α → AV) (wf : α → Prop) : Prop :=
  ∀ {H : Type} (enc : TypeId × Value → H) (W : World) (base : Nat) (v : Value) (d : DataW H) (p : List MemPlace), DataW.Trod enc P W 0 (fun _ => true) true t v d p → Value.okWide P W .any base t v → Small P t d → ∃ a, wf a ∧ FR W NoOwn (e a) v
theorem ArgOK.struct {t : TypeId} {fs : Array Go.Field} (ht : P.underlying t = some (.struct fs)) {α : Type} {e : α → List AV} {wf : α → Prop} (hd : Dec P t e wf) : ArgOK P t (fun a => .agg (e a)) wf := by
  intro H enc W base v d p h hv hs
  obtain ⟨fuel, h⟩ := h
  obtain ⟨a, h1, h2⟩ := hd enc W _ _ fuel _ _ h hs
  simp only [Value.okWide, ht] at hv
  obtain ⟨cs, rfl, _⟩ := hv
  exact ⟨a, h1, FR.of_agg (by simpa [Value.cells] using h2)⟩
theorem ArgOK.cell {t : TypeId} {α : Type} {e : α → AV} {wf : α → Prop} (hd : Dec P t (fun a => [e a]) wf) (hv : ∀ (W : World) (base : Nat) (v : Value), Value.okWide P W .any base t v → v.cells = #[v]) : ArgOK P t e wf := by
  intro H enc W base v d p h hw hs
  obtain ⟨fuel, h⟩ := h
  obtain ⟨a, h1, h2⟩ := hd enc W _ _ fuel _ _ h hs
  rw [hv W base v hw] at h2
  exact ⟨a, h1, FR.of_cell h2⟩
theorem cells_int {t : TypeId} {k : IntKind} (ht : P.underlying t = some (.int k)) (W : World) (base : Nat) (v : Value) (h : Value.okWide P W .any base t v) : v.cells = #[v] := by
  simp only [Value.okWide, ht, Cell.okWide] at h
  cases v <;> simp_all [Cell.ok, Value.cells]
theorem cells_slice {t e : TypeId} (ht : P.underlying t = some (.slice e)) (W : World) (base : Nat) (v : Value) (h : Value.okWide P W .any base t v) : v.cells = #[v] := by
  simp only [Value.okWide, ht, Cell.okWide] at h
  cases v <;> simp_all [Cell.ok, Value.cells]

/-- All arguments: their values as 'K' has them. -/
def ArgsOK (P : Program) (ts : List TypeId) (K : List AV → Prop) : Prop :=
  ∀ {H : Type} (enc : TypeId × Value → H) (W : World) (base : Nat) (vs : List Value) (ds : List (DataW H)) (p : List MemPlace), DataW.TrodAll enc P W 0 (fun _ => true) true ts vs ds p →
    (∀ (j : Nat) t v, ts[j]? = some t → vs[j]? = some v → Value.okWide P W .any base t v) → (∀ n ∈ DataW.weightsEach P ts ds, n ≤ reachBytes) →
    ∃ l, K l ∧ vs.length = l.length ∧ ∀ (i : Nat) (a : AV), l[i]? = some a → FR W NoOwn a (vs.getD i undef)
theorem ArgsOK.nil : ArgsOK P [] (· = []) := by
  intro H enc W base vs ds p h _ _
  obtain ⟨rfl, rfl, rfl⟩ := Go.ChangeShapes.trodAll_nil h
  exact ⟨[], rfl, rfl, fun i a ha => by simp at ha⟩
theorem ArgsOK.cons {t : TypeId} {ts : List TypeId} {α : Type} {e : α → AV} {wf : α → Prop} {K : List AV → Prop} (h0 : ArgOK P t e wf) (hK : ArgsOK P ts K) : ArgsOK P (t :: ts) (fun l => ∃ a l', wf a ∧ K l' ∧ l = e a :: l') := by
  intro H enc W base vs ds p h hv hs
  obtain ⟨v, vs', d, ds', p0, q, rfl, rfl, rfl, k0, k1⟩ := Go.ChangeShapes.trodAll_cons h
  obtain ⟨a, w1, w2⟩ := h0 enc W base v d p0 k0 (hv 0 t v rfl rfl) (fun n hn => hs n (by simp only [DataW.weightsEach, List.mem_append]; exact .inl hn))
  obtain ⟨l, w3, w4, w5⟩ := hK enc W base vs' ds' q k1 (fun j t' v' ht hv' => hv (j + 1) t' v' (by simpa using ht) (by simpa using hv')) (fun n hn => hs n (by simp only [DataW.weightsEach, List.mem_append]; exact .inr hn))
  refine ⟨e a :: l, ⟨a, l, w1, w3, rfl⟩, by simp [w4], fun i b hb => ?_⟩
  cases i with
  | zero => simp at hb; subst hb; simpa using w2
  | succ i => simpa using w5 i b (by simpa using hb)

theorem law_row {C : Checked} {os : Os} {f : FuncId} {fn : Func} {s : ChangeSpec} {tb : TypeId} {K : List AV → Prop} {H : Type} {enc : TypeId × Value → H} (own : ownKnob C.prog.godebug = none) (started : os.Started) (noInit : C.prog.inits.idxOf? f = none) (hfn : C.prog.funcs[f]? = some fn)
    (witness : ∃ (w : World) (tape : Tape) (i : Input), w.os = os ∧ (w.forCall tape i).Shaped C.prog ∧ i.vars = [] ∧ Input.okWide C.prog (w.forCall tape i) .any w.heap.size f i ∧
      s.pre6 enc C.prog fn [] false (w.forCall tape i).memory i.args ∧ Assume.holds {} C.prog (lone (Frame.enter C.prog f i.args .normal) [] (w.forCall tape i)))
    (hl : laidOutB C.prog = true) (hrd : ∀ t ∈ fn.params.toList, C.prog.readableRec t = true ∧ t < C.prog.types.size) (hres : fn.resultTypes = #[tb]) (htb : C.prog.underlying tb = some .bool) (hvars : s.vars = [])
    (hspec : ∀ ds : List (DataW H), ds.length = fn.params.size → s.fn H ds = { results := [.lit (.bool true)], args := ds }) (hdec : ArgsOK C.prog fn.params.toList K) (hlaw : ∀ l, K l → PCall C.prog false f l (· = .bool true)) :
    ReturnsInHanded {} C os f .any (s.pre6 enc C.prog fn [] false) (s.post enc C.prog fn false true false false) := by
  refine returnsInHanded_of_change_sized own started noInit hfn witness ?_
  intro W base args ds gs before hval hW _ hsz _
  have hW' := hW
  obtain ⟨p, q, hA, hV, rfl, hfz, hnd⟩ := hW
  rw [hvars] at hV
  obtain ⟨rfl, rfl⟩ := Go.ChangeShapes.trodVars_none hV
  have hlen : ∀ {ts : List TypeId} {vs : List Value} {ds : List (DataW H)} {ps : List MemPlace}, DataW.TrodAll enc C.prog W 0 (fun _ => true) true ts vs ds ps → ds.length = ts.length := by
    intro ts
    induction ts with
    | nil => intro vs ds ps h; obtain ⟨_, rfl, _⟩ := Go.ChangeShapes.trodAll_nil h; rfl
    | cons t ts ih => intro vs ds ps h; obtain ⟨v, vs', d, ds', p0, q, rfl, rfl, rfl, _, k1⟩ := Go.ChangeShapes.trodAll_cons h; simp [ih k1]
  have hdl : ds.length = fn.params.size := by rw [hlen hA]; simp
  have hvt : s.plain.varTypes C.prog = [] := by simp [DataSpec.varTypes, ChangeSpec.plain, hvars]
  rw [hvt, List.append_nil, List.append_nil] at hsz
  obtain ⟨l, k1, k2, k3⟩ := hdec enc W base args.toList ds p hA (fun j t v ht hv => hval j t v (by simpa using ht) (by simpa using hv)) (fun n hn => by simpa using List.all_eq_true.1 hsz n hn)
  have hcall := (hlaw l k1).2 W NoOwn args.toList (fun b hb => hb.elim) k2 k3
  rw [Array.toArray_toList] at hcall
  refine hcall.mono fun e W' he => ?_
  cases e with
  | panicked _ => exact he.elim
  | outgrown => cases he
  | returned v =>
    obtain ⟨r, rfl, h1, h2⟩ := he
    cases h1
    have hb := below_of_fr h2
    refine ⟨_, rfl, ds, [], p ++ [], [], p, [], hW', ?_, ?_, ?_, hb.frame _, fun h => by cases h⟩
    · rw [List.append_nil, hspec ds hdl, hres]
      exact Go.ChangeShapes.trodAll_mk1 (shut_bool htb true)
    · rw [List.append_nil, hspec ds hdl]
      exact trodAll_stays hl hb hrd hA (fun x hx => by simpa using hW'.lt x (by simpa using hx))
    · rw [List.append_nil, hspec ds hdl, hvars]
      exact rfl
end
end Go.Ab

