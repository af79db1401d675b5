/-
  Graphs, schemas and what is made of them as plain data, and their plain laws. No condition but those of each theorem.
-/
import Derived.WalkKit
import Derived.Below
import Derived.Scope
import Derived.Orders
import Derived.Still
import Derived.Maps.RangeRun
import Derived.Test.YtieabhancmkmhaaGreatFa
import Derived.Test.YtieabhancmkmhaaGreatFb
import Derived.Test.YtieabhancmkmhaaGreatFc
import Derived.Test.YtieabhancmkmhaaGreatFd
import Derived.Test.YtieabhancmkmhaaGreatFe
import Derived.Test.YtieabhancmkmhaaGreatFf
set_option linter.unusedVariables false
set_option linter.unusedSimpArgs false
namespace Go.Ab
open Go Go.RowKit
structure GVal where
  N : Int
  S : ByteArray
  R : Int
structure GObj where
  Id : Int
  T : Int
  F : List GVal
structure GField where
  Name : ByteArray
  Kind : Int
  To : ByteArray
structure GType where
  Name : ByteArray
  F : List GField
structure Graph where
  S : List GType
  O : List GObj
  Roots : List Int
def eI (x : Int) : List AV := [.int .i64 x]
def eVal (v : GVal) : List AV := [.int .i64 v.N, .str v.S, .int .i64 v.R]
def eObj (o : GObj) : List AV := [.int .i64 o.Id, .int .i64 o.T, .sl 3 (o.F.map eVal)]
def eField (f : GField) : List AV := [.str f.Name, .int .i64 f.Kind, .str f.To]
def eType (t : GType) : List AV := [.str t.Name, .sl 3 (t.F.map eField)]
def eSchema (s : List GType) : List AV := [.sl 2 (s.map eType)]
def eGraph (g : Graph) : List AV := [.sl 2 (g.S.map eType), .sl 3 (g.O.map eObj), .sl 1 (g.Roots.map eI)]
theorem GVal.ext_iff' (a b : GVal) : a = b ↔ a.N = b.N ∧ a.S = b.S ∧ a.R = b.R := by
  cases a; cases b; simp
theorem GField.ext_iff' (a b : GField) : a = b ↔ a.Name = b.Name ∧ a.Kind = b.Kind ∧ a.To = b.To := by
  cases a; cases b; simp
instance : DecidableEq GVal := fun a b => decidable_of_iff _ (GVal.ext_iff' a b).symm
instance : DecidableEq GField := fun a b => decidable_of_iff _ (GField.ext_iff' a b).symm
theorem GObj.ext_iff' (a b : GObj) : a = b ↔ a.Id = b.Id ∧ a.T = b.T ∧ a.F = b.F := by
  cases a; cases b; simp
instance : DecidableEq GObj := fun a b => decidable_of_iff _ (GObj.ext_iff' a b).symm
theorem GType.ext_iff' (a b : GType) : a = b ↔ a.Name = b.Name ∧ a.F = b.F := by
  cases a; cases b; simp
instance : DecidableEq GType := fun a b => decidable_of_iff _ (GType.ext_iff' a b).symm
theorem Graph.ext_iff' (a b : Graph) : a = b ↔ a.S = b.S ∧ a.O = b.O ∧ a.Roots = b.Roots := by
  cases a; cases b; simp
instance : DecidableEq Graph := fun a b => decidable_of_iff _ (Graph.ext_iff' a b).symm
theorem take_same {α : Type} {a b : List α} {i : Nat} {x : α} (h : a.take i = b.take i) (h1 : a[i]? = some x) (h2 : b[i]? = some x) : a.take (i + 1) = b.take (i + 1) := by
  rw [List.take_add_one, List.take_add_one, h, h1, h2]
theorem all_same {α : Type} {a b : List α} {i : Nat} (h : a.take i = b.take i) (h1 : i = a.length) (h2 : a.length = b.length) : a = b := by
  rw [h1, List.take_length, h2, List.take_length] at h; exact h
theorem frz_map {α : Type} {e : α → List AV} (h : ∀ x, ∀ a ∈ e x, a.tree = false) (n : Nat) (xs : List α) : (AV.own n (xs.map e)).freeze = .sl n (xs.map e) := by
  have : ∀ x, (e x).map AV.freeze = e x := fun x => by
    have : (e x).map AV.freeze = (e x).map (fun a => a) := List.map_congr_left fun a ha => freeze_plain (h x a ha)
    rw [this, List.map_id']
  simp only [AV.freeze, List.map_map]
  congr 1
  refine List.map_congr_left fun x _ => ?_
  exact this x
theorem frz_I (n : Nat) (xs : List Int) : (AV.own n (xs.map eI)).freeze = .sl n (xs.map eI) := frz_map (fun x a ha => by simp [eI] at ha; subst ha; rfl) n xs
theorem frz_Val (n : Nat) (xs : List GVal) : (AV.own n (xs.map eVal)).freeze = .sl n (xs.map eVal) := frz_map (fun x a ha => by simp [eVal] at ha; rcases ha with rfl | rfl | rfl <;> rfl) n xs
theorem frz_Obj (n : Nat) (xs : List GObj) : (AV.own n (xs.map eObj)).freeze = .sl n (xs.map eObj) := frz_map (fun x a ha => by simp [eObj] at ha; rcases ha with rfl | rfl | rfl <;> rfl) n xs
theorem frz_Field (n : Nat) (xs : List GField) : (AV.own n (xs.map eField)).freeze = .sl n (xs.map eField) := frz_map (fun x a ha => by simp [eField] at ha; rcases ha with rfl | rfl | rfl <;> rfl) n xs
theorem frz_Type (n : Nat) (xs : List GType) : (AV.own n (xs.map eType)).freeze = .sl n (xs.map eType) := frz_map (fun x a ha => by simp [eType] at ha; rcases ha with rfl | rfl <;> rfl) n xs
attribute [go_sem] frz_I frz_Val frz_Obj frz_Field frz_Type
def letterB (c : Int) : Bool := (decide (97 ≤ c) && decide (c ≤ 122)) || ((decide (223 ≤ c) && decide (c ≤ 255)) && !decide (c = 247))
def digitB (c : Int) : Bool := decide (48 ≤ c) && decide (c ≤ 57)
theorem decode_pos (s : ByteArray) (i : Nat) : 0 < (Utf8.decode s i).2 := by
  unfold Utf8.decode
  simp only
  repeat' split
  all_goals simp
def scan (s : ByteArray) : Nat → Nat → Option Nat
  | 0, _ => some 0
  | f + 1, pos => if pos < s.size then (if (!letterB (Utf8.decode s pos).1 && (decide (pos = 0) || !digitB (Utf8.decode s pos).1)) = true then none else (scan s f (pos + (Utf8.decode s pos).2)).map (· + 1)) else some 0
def badAt (s : ByteArray) (pos : Nat) : Bool := !letterB (Utf8.decode s pos).1 && (decide (pos = 0) || !digitB (Utf8.decode s pos).1)
theorem scan_bad {s : ByteArray} {f pos : Nat} (h : pos < s.size) (hf : s.size ≤ pos + f) (hb : badAt s pos = true) : scan s f pos = none := by
  cases f with
  | zero => omega
  | succ f => unfold badAt at hb; simp only [scan]; rw [if_pos h, if_pos hb]
theorem scan_step {s : ByteArray} {f pos : Nat} (h : pos < s.size) (hf : s.size ≤ pos + f) (hb : badAt s pos = false) : ∃ f', s.size ≤ pos + (Utf8.decode s pos).2 + f' ∧ scan s f pos = (scan s f' (pos + (Utf8.decode s pos).2)).map (· + 1) := by
  cases f with
  | zero => omega
  | succ f =>
    have := decode_pos s pos
    refine ⟨f, by omega, ?_⟩
    unfold badAt at hb
    simp only [scan]; rw [if_pos h, if_neg (by rw [hb]; simp)]
theorem scan_end {s : ByteArray} {f pos : Nat} (h : s.size ≤ pos) : scan s f pos = some 0 := by
  cases f with
  | zero => rfl
  | succ f => simp only [scan]; rw [if_neg (by omega)]
def nameLen (s : ByteArray) : Nat := match scan s s.size 0 with
  | some n => if 8 < n then 0 else n
  | none => 0
def nameMay (s : ByteArray) : Bool := decide (0 < nameLen s)
def allp {α : Type} (p : α → α → Bool) : List α → List α → Bool
  | [], [] => true
  | x :: a, y :: b => p x y && allp p a b
  | _, _ => false
theorem allp_len {α : Type} {p : α → α → Bool} : ∀ {a b : List α}, a.length ≠ b.length → allp p a b = false
  | [], [], h => absurd rfl h
  | [], _ :: _, _ => rfl
  | _ :: _, [], _ => rfl
  | x :: a, y :: b, h => by simp only [allp]; rw [allp_len (a := a) (b := b) (fun e => h (by simp [e]))]; simp
theorem allp_no {α : Type} {p : α → α → Bool} : ∀ {a b : List α} {i : Nat} {x y : α}, a[i]? = some x → b[i]? = some y → p x y = false → allp p a b = false
  | [], _, i, x, y, h, _, _ => by simp at h
  | _ :: _, [], i, x, y, _, h, _ => by simp at h
  | u :: a, v :: b, 0, x, y, h1, h2, h => by simp at h1 h2; subst h1 h2; simp [allp, h]
  | u :: a, v :: b, i + 1, x, y, h1, h2, h => by simp only [allp]; rw [allp_no (a := a) (b := b) (by simpa using h1) (by simpa using h2) h]; simp
theorem allp_take {α : Type} {p : α → α → Bool} : ∀ {a b : List α} {i : Nat} {x y : α}, allp p (a.take i) (b.take i) = true → a[i]? = some x → b[i]? = some y → p x y = true → allp p (a.take (i + 1)) (b.take (i + 1)) = true
  | [], _, i, x, y, _, h, _, _ => by simp at h
  | _ :: _, [], i, x, y, _, _, h, _ => by simp at h
  | u :: a, v :: b, 0, x, y, _, h1, h2, h => by simp at h1 h2; subst h1 h2; simp [allp, h]
  | u :: a, v :: b, i + 1, x, y, h0, h1, h2, h => by
    simp only [List.take_succ_cons, allp, Bool.and_eq_true] at h0 ⊢
    exact ⟨h0.1, allp_take h0.2 (by simpa using h1) (by simpa using h2) h⟩
theorem allp_eq {α : Type} [DecidableEq α] {a b : List α} : allp (fun x y => decide (x = y)) a b = decide (a = b) := by
  induction a generalizing b with
  | nil => cases b <;> simp [allp]
  | cons x a ih => cases b with
    | nil => simp [allp]
    | cons y b => simp only [allp, ih, List.cons.injEq]; by_cases h1 : x = y <;> by_cases h2 : a = b <;> simp [h1, h2]
def fnd {α : Type} (p : α → Bool) (l : List α) : Int :=
  match l.findIdx? p with
  | some i => (i : Int)
  | none => -1
theorem fnd_at {α : Type} {p : α → Bool} {l : List α} {i : Nat} {x : α} (h : l[i]? = some x) (hp : p x = true) (hb : ∀ (j : Nat) (y : α), j < i → l[j]? = some y → p y = false) : fnd p l = i := by
  have hlt := (List.getElem?_eq_some_iff.1 h).1
  have : l.findIdx? p = some i := by
    rw [List.findIdx?_eq_some_iff_getElem]
    refine ⟨hlt, ?_, fun j hj => ?_⟩
    · have := (List.getElem?_eq_some_iff.1 h).2; rw [this]; exact hp
    · have := hb j l[j] hj (List.getElem?_eq_getElem (by omega)); simp [this]
  unfold fnd; rw [this]
theorem fnd_no {α : Type} {p : α → Bool} {l : List α} (hb : ∀ (j : Nat) (y : α), l[j]? = some y → p y = false) : fnd p l = -1 := by
  have : l.findIdx? p = none := by
    rw [List.findIdx?_eq_none_iff]
    intro x hx
    obtain ⟨j, hj⟩ := List.getElem?_of_mem hx
    exact hb j x hj
  unfold fnd; rw [this]
theorem any_at {α : Type} {p : α → Bool} {l : List α} {i : Nat} {x : α} (h : l[i]? = some x) (hp : p x = true) : l.any p = true := List.any_eq_true.2 ⟨x, List.mem_of_getElem? h, hp⟩
theorem below_succ {α : Type} {p : α → Bool} {l : List α} {i : Nat} {x : α} (hb : ∀ (j : Nat) (y : α), j < i → l[j]? = some y → p y = false) (h : l[i]? = some x) (hp : p x = false) : ∀ (j : Nat) (y : α), j < i + 1 → l[j]? = some y → p y = false := by
  intro j y hj hy
  by_cases e : j = i
  · subst e; rw [h] at hy; cases hy; exact hp
  · exact hb j y (by omega) hy
theorem below_all {α : Type} {p : α → Bool} {l : List α} (hb : ∀ (j : Nat) (y : α), j < l.length → l[j]? = some y → p y = false) : ∀ (j : Nat) (y : α), l[j]? = some y → p y = false :=
  fun j y hy => hb j y (List.getElem?_eq_some_iff.1 hy).1 hy
def allI {α : Type} (p : Nat → α → Bool) : Nat → List α → Bool
  | _, [] => true
  | k, x :: r => p k x && allI p (k + 1) r
theorem allI_no {α : Type} {p : Nat → α → Bool} : ∀ {l : List α} {k i : Nat} {x : α}, l[i]? = some x → p (k + i) x = false → allI p k l = false
  | [], _, i, x, h, _ => by simp at h
  | y :: l, k, 0, x, h, hp => by simp at h; subst h; simp [allI] at hp ⊢; simp [hp]
  | y :: l, k, i + 1, x, h, hp => by
    simp only [allI]
    rw [allI_no (l := l) (k := k + 1) (i := i) (by simpa using h) (by rw [show k + 1 + i = k + (i + 1) by omega]; exact hp)]
    simp
theorem allI_yes {α : Type} {p : Nat → α → Bool} : ∀ {l : List α} {k : Nat}, (∀ (j : Nat) (y : α), l[j]? = some y → p (k + j) y = true) → allI p k l = true
  | [], _, _ => rfl
  | y :: l, k, h => by
    simp only [allI, Bool.and_eq_true]
    refine ⟨by simpa using h 0 y rfl, allI_yes fun j z hz => ?_⟩
    have := h (j + 1) z (by simpa using hz)
    rw [show k + 1 + j = k + (j + 1) by omega]; exact this
theorem allI_at {α : Type} {p : Nat → α → Bool} : ∀ {l : List α} {k i : Nat} {x : α}, allI p k l = true → l[i]? = some x → p (k + i) x = true := by
  intro l k i x h hx
  cases hp : p (k + i) x with
  | true => rfl
  | false => rw [allI_no hx hp] at h; cases h
theorem belowI_succ {α : Type} {p : Nat → α → Bool} {l : List α} {i : Nat} {x : α} (hb : ∀ (j : Nat) (y : α), j < i → l[j]? = some y → p j y = true) (h : l[i]? = some x) (hp : p i x = true) : ∀ (j : Nat) (y : α), j < i + 1 → l[j]? = some y → p j y = true := by
  intro j y hj hy
  by_cases e : j = i
  · subst e; rw [h] at hy; cases hy; exact hp
  · exact hb j y (by omega) hy
theorem belowI_all {α : Type} {p : Nat → α → Bool} {l : List α} (hb : ∀ (j : Nat) (y : α), j < l.length → l[j]? = some y → p j y = true) : allI p 0 l = true :=
  allI_yes fun j y hy => by rw [Nat.zero_add]; exact hb j y (List.getElem?_eq_some_iff.1 hy).1 hy
def sFind (s : List GType) (n : ByteArray) : Int := fnd (fun o => decide (o.Name = n)) s
def fFind (s : List GField) (n : ByteArray) : Int := fnd (fun o => decide (o.Name = n)) s
def fieldMay (s : List GType) (f : GField) : Bool := ((if f.Kind = 5 then !decide (sFind s f.To = -1) else decide (f.To = ⟨#[]⟩)) && nameMay f.Name) && (decide (0 ≤ f.Kind) && decide (f.Kind < 6))
def fieldsMay (s : List GType) (t : GType) : Bool := allI (fun k f => fieldMay s f && decide (fFind t.F f.Name = k)) 0 t.F
def typeMay (s : List GType) (i : Nat) (t : GType) : Bool := ((nameMay t.Name && decide (sFind s t.Name = i)) && decide (t.F.length ≤ 5)) && fieldsMay s t
def schemaMay (s : List GType) : Bool := (decide (0 < s.length) && decide (s.length ≤ 4)) && allI (typeMay s) 0 s
end Go.Ab
namespace Go.Ab
open Go Go.RowKit
def numFits (k n : Int) : Bool :=
  if k = 0 then decide (-128 ≤ n) && decide (n < 128) else if k = 1 then decide (-32768 ≤ n) && decide (n < 32768) else if k = 2 then decide (-2147483648 ≤ n) && decide (n < 2147483648) else
  if k = 3 then decide (-9223372036854775808 ≤ n) && decide (n < 9223372036854775808) else false
def valFits (f : GField) (v : GVal) : Bool :=
  if f.Kind = 4 then decide (v.S.size ≤ 12) && (decide (v.N = 0) && decide (v.R = 0)) else
  if f.Kind = 5 then (decide (-1 ≤ v.R) && decide (v.R ≤ 1073741824)) && (decide (v.N = 0) && decide (v.S = ⟨#[]⟩)) else
  numFits f.Kind v.N && (decide (v.S = ⟨#[]⟩) && decide (v.R = 0))
def typ : List GObj → Int → Option Int
  | [], _ => none
  | o :: r, i => match typ r i with
    | some t => some t
    | none => if o.Id = i then some o.T else none
def tmap (l : List GObj) : List (Int × AV) := l.foldl (fun m o => mapput m o.Id (.int .i64 o.T)) []
theorem maplk_mapput (m : List (Int × AV)) (k i : Int) (v : AV) : maplk (mapput m k v) i = if i = k then some v else maplk m i := by
  induction m with
  | nil => simp [mapput, maplk]
  | cons p m ih =>
    obtain ⟨a, b⟩ := p
    simp only [mapput]
    by_cases h : k = a
    · subst h; simp only [if_true, maplk]; split <;> simp_all
    · simp only [h, if_false, maplk, ih]; by_cases h2 : i = a
      · subst h2; simp [show ¬ i = k from fun e => h e.symm]
      · simp [h2]
theorem maplk_foldl (l : List GObj) : ∀ (m : List (Int × AV)) (i : Int), maplk (l.foldl (fun m o => mapput m o.Id (.int .i64 o.T)) m) i = match typ l i with
    | some t => some (.int .i64 t)
    | none => maplk m i := by
  induction l with
  | nil => intro m i; simp [typ]
  | cons o l ih =>
    intro m i
    simp only [List.foldl_cons, ih, maplk_mapput, typ]
    cases h : typ l i with
    | some t => rfl
    | none => by_cases h2 : o.Id = i
              · subst h2; simp
              · simp [h2, show ¬ i = o.Id from fun e => h2 e.symm]
theorem maplk_tmap (l : List GObj) (i : Int) : maplk (tmap l) i = (typ l i).map (.int .i64 ·) := by
  unfold tmap; rw [maplk_foldl]; cases typ l i <;> rfl
theorem tmap_succ (l : List GObj) {i : Nat} {o : GObj} (h : l[i]? = some o) : tmap (l.take (i + 1)) = mapput (tmap (l.take i)) o.Id (.int .i64 o.T) := by
  unfold tmap; rw [List.take_add_one, h]; simp
theorem tmap_len (l : List GObj) : (tmap l).length ≤ l.length := by
  have : ∀ (l : List GObj) (m : List (Int × AV)), (l.foldl (fun m o => mapput m o.Id (.int .i64 o.T)) m).length ≤ m.length + l.length := by
    intro l
    induction l with
    | nil => intro m; simp
    | cons o l ih => intro m; simp only [List.foldl_cons]; have := ih (mapput m o.Id (.int .i64 o.T)); have := mapput_len m o.Id (.int .i64 o.T); simp only [List.length_cons]; omega
  unfold tmap; simpa using this l []
def leadsB (g : Graph) (f : GField) (v : GVal) : Bool :=
  valFits f v && (!decide (f.Kind = 5) || (decide (v.R = -1) || (match typ g.O v.R with
    | some t => decide (t = sFind g.S f.To)
    | none => false)))
def leadsAt (g : Graph) (l : List GField) (k : Nat) (v : GVal) : Bool := match l[k]? with
  | some f => leadsB g f v
  | none => false
def prevId (l : List GObj) : Nat → Int
  | 0 => -1
  | i + 1 => match l[i]? with
    | some o => o.Id
    | none => -1
def typeAt (s : List GType) (i : Int) : Option GType := if 0 ≤ i then s[i.toNat]? else none
def objectB (g : Graph) (o : GObj) (last : Int) : Bool :=
  (decide (last < o.Id) && decide (o.Id ≤ 1073741824)) && (match typeAt g.S o.T with
    | some t => decide (o.F.length = t.F.length) && allI (fun k v => leadsAt g t.F k v) 0 o.F
    | none => false)
def rootB (g : Graph) (r : Int) : Bool := decide (r = -1) || (typ g.O r).isSome
def gMay (g : Graph) : Bool :=
  ((schemaMay g.S && decide (g.O.length ≤ 8)) && decide (g.Roots.length ≤ 3)) && (allI (fun i o => objectB g o (prevId g.O i)) 0 g.O && g.Roots.all (rootB g))
def gFind (g : Graph) (i : Int) : Int := fnd (fun o => decide (o.Id = i)) g.O
end Go.Ab
namespace Go.Ab
open Go Go.RowKit
def meet (l : List Int) (i : Int) : List Int := if i = -1 ∨ i ∈ l then l else l ++ [i]
def mets (l is : List Int) : List Int := is.foldl meet l
theorem mapput_new {es : List (Int × AV)} {i : Int} {v : AV} (h : maplk es i = none) : mapput es i v = es ++ [(i, v)] := by
  induction es with
  | nil => rfl
  | cons p es ih =>
    obtain ⟨a, b⟩ := p
    simp only [maplk] at h
    by_cases e : i = a
    · simp [e] at h
    · rw [if_neg e] at h
      simp only [mapput, if_neg e, ih h, List.cons_append]
def refsZ (z : List (GField × GVal)) : List Int := z.filterMap fun p => if p.1.Kind = 5 then some p.2.R else none
theorem refsZ_no {z : List (GField × GVal)} {k : Nat} {f : GField} {v : GVal} (h : z[k]? = some (f, v)) (hk : f.Kind ≠ 5) : refsZ (z.take (k + 1)) = refsZ (z.take k) := by
  rw [List.take_add_one, h]
  simp [refsZ, hk]
def objAt (g : Graph) (i : Int) : Option GObj := g.O.find? fun o => decide (o.Id = i)
def refsO (g : Graph) (o : GObj) : List Int := match typeAt g.S o.T with
  | some t => refsZ (t.F.zip o.F)
  | none => []
def refsOf (g : Graph) (i : Int) : List Int := match objAt g i with
  | some o => refsO g o
  | none => []
def ordF (g : Graph) : Nat → Nat → List Int → List Int
  | 0, _, l => l
  | n + 1, i, l => match l[i]? with
    | none => l
    | some x => ordF g n (i + 1) (mets l (refsOf g x))
def order (g : Graph) : List Int := ordF g g.O.length 0 (mets [] g.Roots)
theorem typ_some {l : List GObj} {i t : Int} (h : typ l i = some t) : ∃ o ∈ l, o.Id = i ∧ o.T = t := by
  induction l with
  | nil => simp [typ] at h
  | cons o l ih =>
    simp only [typ] at h
    cases h2 : typ l i with
    | some t' =>
      rw [h2] at h; cases h
      obtain ⟨x, hx, h3⟩ := ih h2
      exact ⟨x, List.mem_cons_of_mem _ hx, h3⟩
    | none =>
      rw [h2] at h
      simp only at h
      split at h
      · rename_i e; cases h; exact ⟨o, List.mem_cons_self, e, rfl⟩
      · cases h
theorem typ_mem {l : List GObj} {o : GObj} (h : o ∈ l) : (typ l o.Id).isSome = true := by
  induction l with
  | nil => cases h
  | cons x l ih =>
    simp only [typ]
    rcases List.mem_cons.1 h with rfl | h
    · cases typ l o.Id <;> simp
    · have := ih h
      cases h2 : typ l o.Id with
      | some t => rfl
      | none => rw [h2] at this; cases this
structure May (g : Graph) : Prop where
  s : schemaMay g.S = true
  o : g.O.length ≤ 8
  r : g.Roots.length ≤ 3
  obj : ∀ (i : Nat) (x : GObj), g.O[i]? = some x → objectB g x (prevId g.O i) = true
  root : ∀ r ∈ g.Roots, rootB g r = true
theorem may_iff (g : Graph) : gMay g = true ↔ May g := by
  unfold gMay
  simp only [Bool.and_eq_true, decide_eq_true_eq, List.all_eq_true]
  constructor
  · rintro ⟨⟨⟨h1, h2⟩, h3⟩, h4, h5⟩
    exact ⟨h1, h2, h3, fun i x hx => by simpa using allI_at h4 hx, h5⟩
  · rintro ⟨h1, h2, h3, h4, h5⟩
    exact ⟨⟨⟨h1, h2⟩, h3⟩, allI_yes fun j y hy => by rw [Nat.zero_add]; exact h4 j y hy, h5⟩
structure MayO (g : Graph) (x : GObj) (t : GType) : Prop where
  id : x.Id ≤ 1073741824
  t0 : 0 ≤ x.T
  at_ : g.S[x.T.toNat]? = some t
  len : x.F.length = t.F.length
  lead : ∀ (k : Nat) (f : GField) (v : GVal), t.F[k]? = some f → x.F[k]? = some v → leadsB g f v = true
theorem May.objT {g : Graph} (h : May g) {i : Nat} {x : GObj} (hx : g.O[i]? = some x) : prevId g.O i < x.Id ∧ ∃ t, typeAt g.S x.T = some t ∧ MayO g x t := by
  have := h.obj i x hx
  unfold objectB at this
  simp only [Bool.and_eq_true, decide_eq_true_eq] at this
  obtain ⟨⟨h1, h2⟩, h3⟩ := this
  refine ⟨h1, ?_⟩
  cases ht : typeAt g.S x.T with
  | none => rw [ht] at h3; cases h3
  | some t =>
    rw [ht] at h3
    simp only [Bool.and_eq_true, decide_eq_true_eq] at h3
    have h0 : 0 ≤ x.T := by
      unfold typeAt at ht; split at ht
      · assumption
      · cases ht
    refine ⟨t, rfl, h2, h0, ?_, h3.1, fun k f v hf hv => ?_⟩
    · unfold typeAt at ht; rw [if_pos h0] at ht; exact ht
    · have := allI_at h3.2 hv
      unfold leadsAt at this
      rw [Nat.zero_add, hf] at this
      exact this
theorem May.ids {g : Graph} (h : May g) : ∀ (i : Nat) (x : GObj), g.O[i]? = some x → -1 < x.Id ∧ ∀ (j : Nat) (y : GObj), j < i → g.O[j]? = some y → y.Id < x.Id := by
  intro i
  induction i with
  | zero => intro x hx; exact ⟨by simpa [prevId] using (h.objT hx).1, fun j y hj => by omega⟩
  | succ i ih =>
    intro x hx
    have h1 := (h.objT hx).1
    have hlt := (List.getElem?_eq_some_iff.1 hx).1
    obtain ⟨z, hz⟩ : ∃ z, g.O[i]? = some z := ⟨g.O[i], List.getElem?_eq_getElem (by omega)⟩
    simp only [prevId, hz] at h1
    obtain ⟨h2, h3⟩ := ih z hz
    refine ⟨by omega, fun j y hj hy => ?_⟩
    by_cases e : j = i
    · subst e; rw [hz] at hy; cases hy; exact h1
    · have := h3 j y (by omega) hy; omega
theorem May.pos {g : Graph} (h : May g) {x : GObj} (hx : x ∈ g.O) : 0 ≤ x.Id := by
  obtain ⟨i, hi⟩ := List.getElem?_of_mem hx
  have := (h.ids i x hi).1; omega
theorem May.inj {g : Graph} (h : May g) {i j : Nat} {x y : GObj} (hx : g.O[i]? = some x) (hy : g.O[j]? = some y) (e : x.Id = y.Id) : i = j := by
  rcases Nat.lt_trichotomy i j with hl | hl | hl
  · have := (h.ids j y hy).2 i x hl hx; omega
  · exact hl
  · have := (h.ids i x hx).2 j y hl hy; omega
theorem May.find {g : Graph} (h : May g) {i : Int} (hi : (typ g.O i).isSome = true) : ∃ (p : Nat) (x : GObj), g.O[p]? = some x ∧ x.Id = i ∧ gFind g i = p ∧ objAt g i = some x ∧ typ g.O i = some x.T := by
  cases ht : typ g.O i with
  | none => rw [ht] at hi; cases hi
  | some t =>
    obtain ⟨x, hx, e1, e2⟩ := typ_some ht
    obtain ⟨p, hp⟩ := List.getElem?_of_mem hx
    have hbel : ∀ (j : Nat) (y : GObj), j < p → g.O[j]? = some y → decide (y.Id = i) = false := fun j y hj hy => by
      have := (h.ids p x hp).2 j y hj hy
      simp; omega
    refine ⟨p, x, hp, e1, ?_, ?_, by rw [e2]⟩
    · exact fnd_at hp (by simpa using e1) hbel
    · unfold objAt
      rw [List.find?_eq_some_iff_getElem]
      have hlt := (List.getElem?_eq_some_iff.1 hp).1
      refine ⟨by simpa using e1, p, hlt, (List.getElem?_eq_some_iff.1 hp).2, fun j hj => ?_⟩
      have := hbel j g.O[j] hj (List.getElem?_eq_getElem (by omega))
      simp only [Bool.not_eq_true', this]
theorem May.mem {g : Graph} (h : May g) {x : GObj} (hx : x ∈ g.O) : objAt g x.Id = some x := by
  obtain ⟨p, y, h1, h2, _, h4, _⟩ := h.find (typ_mem hx)
  obtain ⟨q, hq⟩ := List.getElem?_of_mem hx
  have := h.inj h1 hq h2
  subst this
  rw [h1] at hq; cases hq; exact h4
theorem nodup_len : ∀ (l m : List Int), l.Nodup → (∀ x ∈ l, x ∈ m) → l.length ≤ m.length
  | [], _, _, _ => Nat.zero_le _
  | x :: l, m, h, hs => by
    have hx := hs x List.mem_cons_self
    have h2 := List.nodup_cons.1 h
    have := nodup_len l (m.erase x) h2.2 fun y hy => by
      have hy2 := hs y (List.mem_cons_of_mem _ hy)
      have hne : y ≠ x := fun e => h2.1 (e ▸ hy)
      exact (List.mem_erase_of_ne hne).2 hy2
    rw [List.length_erase_of_mem hx] at this
    have := List.length_pos_of_mem hx
    simp only [List.length_cons]; omega
structure Good (g : Graph) (l : List Int) : Prop where
  nodup : l.Nodup
  ids : ∀ i ∈ l, (typ g.O i).isSome = true
theorem Good.len {g : Graph} {l : List Int} (h : Good g l) : l.length ≤ g.O.length := by
  have := nodup_len l (g.O.map (·.Id)) h.nodup fun x hx => by
    cases ht : typ g.O x with
    | none => have := h.ids x hx; rw [ht] at this; cases this
    | some t => obtain ⟨o, ho, e, _⟩ := typ_some ht; exact List.mem_map.2 ⟨o, ho, e⟩
  simpa using this
theorem Good.nil (g : Graph) : Good g [] := ⟨List.nodup_nil, fun i hi => by cases hi⟩
theorem Good.meet {g : Graph} {l : List Int} (h : Good g l) {i : Int} (hi : rootB g i = true) : Good g (meet l i) := by
  unfold Ab.meet
  split
  · exact h
  · rename_i hn
    rw [not_or] at hn
    unfold rootB at hi
    simp only [Bool.or_eq_true, decide_eq_true_eq] at hi
    have hi := hi.resolve_left hn.1
    refine ⟨?_, fun j hj => ?_⟩
    · rw [List.nodup_append]
      exact ⟨h.nodup, by simp, fun a ha b hb => by simp at hb; subst hb; exact fun e => hn.2 (e ▸ ha)⟩
    · rcases List.mem_append.1 hj with hj | hj
      · exact h.ids j hj
      · simp at hj; subst hj; exact hi
theorem Good.mets {g : Graph} : ∀ {is l : List Int}, Good g l → (∀ i ∈ is, rootB g i = true) → Good g (mets l is)
  | [], _, h, _ => h
  | i :: is, l, h, hi => Good.mets (is := is) (h.meet (hi i List.mem_cons_self)) fun j hj => hi j (List.mem_cons_of_mem _ hj)
theorem MayO.ref {g : Graph} {x : GObj} {t : GType} (h : MayO g x t) {k : Nat} {f : GField} {v : GVal} (hf : t.F[k]? = some f) (hv : x.F[k]? = some v) (hk : f.Kind = 5) : rootB g v.R = true := by
  have := h.lead k f v hf hv
  unfold leadsB at this
  simp only [Bool.and_eq_true, Bool.or_eq_true, hk, decide_true, Bool.not_true, Bool.false_eq_true, false_or, decide_eq_true_eq] at this
  unfold rootB
  simp only [Bool.or_eq_true, decide_eq_true_eq]
  rcases this.2 with h1 | h1
  · exact .inl h1
  · cases ht : typ g.O v.R with
    | none => rw [ht] at h1; cases h1
    | some t => exact .inr rfl
theorem MayO.refs {g : Graph} {x : GObj} {t : GType} (h : MayO g x t) : ∀ r ∈ refsZ (t.F.zip x.F), rootB g r = true := by
  intro r hr
  unfold refsZ at hr
  obtain ⟨⟨f, v⟩, hp, e⟩ := List.mem_filterMap.1 hr
  simp only at e
  split at e
  · rename_i hk; cases e
    obtain ⟨k, hk2⟩ := List.getElem?_of_mem hp
    rw [List.getElem?_zip_eq_some] at hk2
    exact h.ref hk2.1 hk2.2 hk
  · cases e
theorem May.refsOf {g : Graph} (h : May g) (i : Int) : ∀ r ∈ refsOf g i, rootB g r = true := by
  intro r hr
  unfold Ab.refsOf at hr
  split at hr
  · rename_i o ho
    have hm : o ∈ g.O := List.mem_of_find?_eq_some ho
    obtain ⟨p, hp⟩ := List.getElem?_of_mem hm
    obtain ⟨_, t, h1, h2⟩ := h.objT hp
    unfold refsO at hr
    rw [h1] at hr
    exact h2.refs r hr
  · cases hr
theorem May.ordF {g : Graph} (h : May g) : ∀ (n i : Nat) (l : List Int), Good g l → Good g (ordF g n i l)
  | 0, _, _, hl => hl
  | n + 1, i, l, hl => by
    unfold Ab.ordF
    split
    · exact hl
    · exact May.ordF h n (i + 1) _ (hl.mets (h.refsOf _))
theorem May.order {g : Graph} (h : May g) : Good g (order g) := h.ordF _ _ _ ((Good.nil g).mets h.root)
end Go.Ab
namespace Go.Ab
open Go Go.RowKit
theorem set_same {α : Type} {l : List α} {i : Nat} {x : α} (h : l[i]? = some x) : l.set i x = l := by
  apply List.ext_getElem?
  intro j
  rw [List.getElem?_set]
  split
  · rename_i e; subst e
    rw [h]
    have := (List.getElem?_eq_some_iff.1 h).1
    simp [this]
  · rfl
theorem mets_pre : ∀ (l is : List Int), ∃ s, mets l is = l ++ s
  | l, [] => ⟨[], by simp [mets]⟩
  | l, i :: is => by
    obtain ⟨s, hs⟩ := mets_pre (meet l i) is
    have e : mets l (i :: is) = mets (meet l i) is := rfl
    rw [e, hs]
    unfold meet
    split
    · exact ⟨s, rfl⟩
    · exact ⟨i :: s, by simp⟩
theorem mem_meet (l : List Int) (i j : Int) : j ∈ meet l i ↔ j ∈ l ∨ (j = i ∧ i ≠ -1) := by
  unfold meet
  split
  · rename_i h
    constructor
    · exact .inl
    · rintro (h1 | ⟨rfl, h2⟩)
      · exact h1
      · exact h.resolve_left h2
  · rename_i h
    rw [not_or] at h
    simp only [List.mem_append, List.mem_singleton]
    constructor
    · rintro (h1 | h1)
      · exact .inl h1
      · exact .inr ⟨h1, h.1⟩
    · rintro (h1 | h1)
      · exact .inl h1
      · exact .inr h1.1
theorem mem_mets : ∀ (is l : List Int) (j : Int), j ∈ mets l is ↔ j ∈ l ∨ (j ∈ is ∧ j ≠ -1)
  | [], l, j => by simp [mets]
  | i :: is, l, j => by
    have e : mets l (i :: is) = mets (meet l i) is := rfl
    rw [e, mem_mets is, mem_meet, List.mem_cons]
    constructor
    · rintro ((h | ⟨rfl, h⟩) | ⟨h, h2⟩)
      · exact .inl h
      · exact .inr ⟨.inl rfl, h⟩
      · exact .inr ⟨.inr h, h2⟩
    · rintro (h | ⟨rfl | h, h2⟩)
      · exact .inl (.inl h)
      · exact .inl (.inr ⟨rfl, h2⟩)
      · exact .inr ⟨h, h2⟩
def Clo (g : Graph) (i : Nat) (l : List Int) : Prop := ∀ (j : Nat) (x : Int), j < i → l[j]? = some x → ∀ r ∈ refsOf g x, r = -1 ∨ r ∈ l
theorem ordF_pre (g : Graph) : ∀ (n i : Nat) (l : List Int), ∃ s, ordF g n i l = l ++ s
  | 0, _, l => ⟨[], by simp [ordF]⟩
  | n + 1, i, l => by
    unfold ordF
    split
    · exact ⟨[], by simp⟩
    · rename_i x hx
      obtain ⟨s, hs⟩ := mets_pre l (refsOf g x)
      obtain ⟨s', hs'⟩ := ordF_pre g n (i + 1) (mets l (refsOf g x))
      exact ⟨s ++ s', by rw [hs', hs, List.append_assoc]⟩
theorem ordF_clo {g : Graph} (h : May g) : ∀ (n i : Nat) (l : List Int), Good g l → Clo g i l → n + i = g.O.length → Clo g (ordF g n i l).length (ordF g n i l)
  | 0, i, l, hg, hc, e => by
    intro j x hj hx
    have := hg.len
    exact hc j x (by have := (List.getElem?_eq_some_iff.1 hx).1; simp only [ordF] at this; omega) hx
  | n + 1, i, l, hg, hc, e => by
    unfold ordF
    split
    · rename_i hn
      intro j x hj hx
      have h1 := List.getElem?_eq_none_iff.1 hn
      exact hc j x (by omega) hx
    · rename_i y hy
      refine ordF_clo h n (i + 1) _ (hg.mets (h.refsOf y)) ?_ (by omega)
      intro j x hj hx r hr
      obtain ⟨s, hs⟩ := mets_pre l (refsOf g y)
      have hil := (List.getElem?_eq_some_iff.1 hy).1
      rw [hs, List.getElem?_append_left (by omega)] at hx
      by_cases e1 : j = i
      · subst e1
        rw [hy] at hx; cases hx
        by_cases e2 : r = -1
        · exact .inl e2
        · exact .inr ((mem_mets _ _ _).2 (.inr ⟨hr, e2⟩))
      · rcases hc j x (by omega) hx r hr with h1 | h1
        · exact .inl h1
        · exact .inr ((mem_mets _ _ _).2 (.inl h1))
theorem May.clo {g : Graph} (h : May g) {x : Int} (hx : x ∈ Ab.order g) : ∀ r ∈ Ab.refsOf g x, r = -1 ∨ r ∈ Ab.order g := by
  obtain ⟨j, hj⟩ := List.getElem?_of_mem hx
  exact ordF_clo h g.O.length 0 _ ((Good.nil g).mets h.root) (fun j x hj => by omega) rfl j x (List.getElem?_eq_some_iff.1 hj).1 hj
theorem May.rootIn {g : Graph} (_ : May g) {r : Int} (hr : r ∈ g.Roots) : r = -1 ∨ r ∈ Ab.order g := by
  obtain ⟨s, hs⟩ := ordF_pre g g.O.length 0 (mets [] g.Roots)
  by_cases e : r = -1
  · exact .inl e
  · refine .inr ?_
    unfold Ab.order
    rw [hs]
    exact List.mem_append_left _ ((mem_mets _ _ _).2 (.inr ⟨hr, e⟩))
end Go.Ab
namespace Go.Ab
open Go Go.RowKit
def oneS : List GType := [⟨⟨#[97]⟩, [⟨⟨#[110]⟩, 2, ⟨#[]⟩⟩, ⟨⟨#[111]⟩, 5, ⟨#[97]⟩⟩]⟩]
def few06 (s : List GType) (k : Int) : Bool := allI (fun _ t => decide ((t.F.length : Int) ≤ k)) 0 s && decide ((s.length : Int) ≤ k)
def fewG (g : Graph) : Bool := ((few06 g.S 10 && decide (g.O.length ≤ 12)) && decide (g.Roots.length ≤ 10)) && allI (fun _ (o : GObj) => decide (o.F.length ≤ 10)) 0 g.O
set_option maxRecDepth 100000
end Go.Ab
namespace Go.Ab
open Go Go.RowKit
def eObjO (o : GObj) : List AV := [.int .i64 o.Id, .int .i64 o.T, .own 3 (o.F.map eVal)]
def mixO (l : List GObj) (i : Nat) : List (List AV) := (l.take i).map eObjO ++ (l.drop i).map eObj
theorem mixO_len (l : List GObj) (i : Nat) : (mixO l i).length = l.length := by simp [mixO]; omega
theorem mixO_zero (l : List GObj) : mixO l 0 = l.map eObj := by simp [mixO]
theorem mixO_all (l : List GObj) : mixO l l.length = l.map eObjO := by simp [mixO]
theorem mixO_get {l : List GObj} {i : Nat} {x : GObj} (h : l[i]? = some x) : (mixO l i)[i]? = some (eObj x) := by
  have := (List.getElem?_eq_some_iff.1 h).1
  unfold mixO
  rw [List.getElem?_append_right (by simp; omega)]
  simp [Nat.min_eq_left (Nat.le_of_lt this), h]
theorem mixO_set {l : List GObj} {i : Nat} {x : GObj} (h : l[i]? = some x) : (mixO l i).set i (eObjO x) = mixO l (i + 1) := by
  obtain ⟨hl, hx⟩ := List.getElem?_eq_some_iff.1 h
  unfold mixO
  have e : ((l.take i).map eObjO).length = i := by simp; omega
  rw [List.set_append, if_neg (by omega), e, Nat.sub_self, List.drop_eq_getElem_cons hl, List.map_cons, List.set_cons_zero, List.take_add_one, h]
  simp
theorem frz_ObjO (n : Nat) (xs : List GObj) : (AV.own n (xs.map eObjO)).freeze = .sl n (xs.map eObj) := by
  simp only [AV.freeze, List.map_map]
  congr 1
  refine List.map_congr_left fun x _ => ?_
  simp [eObjO, eObj, AV.freeze]
  intro a _
  simp [eVal, AV.freeze]
attribute [go_sem] frz_ObjO
def OWN (g : Graph) : List AV := [.own 2 (g.S.map eType), .own 3 (g.O.map eObjO), .own 1 (g.Roots.map eI)]
structure GSz (g : Graph) : Prop where
  s : g.S.length * 40 ≤ MX
  sf : ∀ x ∈ g.S, x.F.length * 40 ≤ MX
  o : g.O.length * 40 ≤ MX
  of_ : ∀ x ∈ g.O, x.F.length * 32 ≤ MX
  r : g.Roots.length * 8 ≤ MX
def sSet (g : Graph) (i : Nat) (x : GObj) (k : Nat) (v : GVal) : Graph := ⟨g.S, g.O.set i ⟨x.Id, x.T, x.F.set k v⟩, g.Roots⟩
def tyF (g : Graph) (t : Int) : List GField := match typeAt g.S t with
  | some t => t.F
  | none => []
def gSet (g : Graph) (id k : Int) (v : GVal) : Graph × Int :=
  if gMay g = false then (g, 1) else match g.O.findIdx? (fun o => decide (o.Id = id)) with
  | none => (g, 11)
  | some i => match g.O[i]? with
    | none => (g, 11)
    | some x => if k < 0 ∨ (x.F.length : Int) ≤ k then (g, 11) else if leadsAt g (tyF g x.T) k.toNat v = true then (sSet g i x k.toNat v, 0) else (g, 6)
structure GChange where
  New : List Int
  Gone : List Int
  Set : List (Int × Int)
  Roots : List Int
def eP (p : Int × Int) : List AV := [.int .i64 p.1, .int .i64 p.2]
def eChange (c : GChange) : List AV := [.sl 1 (c.New.map eI), .sl 1 (c.Gone.map eI), .sl 2 (c.Set.map eP), .sl 1 (c.Roots.map eI)]
theorem GChange.ext_iff' (a b : GChange) : a = b ↔ a.New = b.New ∧ a.Gone = b.Gone ∧ a.Set = b.Set ∧ a.Roots = b.Roots := by
  cases a; cases b; simp
instance : DecidableEq GChange := fun a b => decidable_of_iff _ (GChange.ext_iff' a b).symm
theorem frz_P (n : Nat) (xs : List (Int × Int)) : (AV.own n (xs.map eP)).freeze = .sl n (xs.map eP) := frz_map (fun x a ha => by simp [eP] at ha; rcases ha with rfl | rfl <;> rfl) n xs
attribute [go_sem] frz_P
def noChange : GChange := ⟨[], [], [], []⟩
theorem wrap_add {a b : Nat} (h : a + b ≤ MX) : IntKind.i64.wrap ((a : Int) + (b : Int)) = ((a + b : Nat) : Int) := by
  cases a with
  | zero => cases b with
    | zero => rfl
    | succ b => have := @wrap_succ b (by omega); rw [show ((0 : Nat) : Int) + ((b + 1 : Nat) : Int) = (b : Int) + 1 by omega, this]; simp
  | succ a => have := @wrap_succ (a + b) (by omega); rw [show ((a + 1 : Nat) : Int) + (b : Int) = ((a + b : Nat) : Int) + 1 by omega, this, show a + b + 1 = a + 1 + b by omega]
def hasId (g : Graph) (id : Int) : Bool := (objAt g id).isSome
def objD (g : Graph) (id : Int) : GObj := (objAt g id).getD ⟨0, 0, []⟩
theorem find_cases {α : Type} (p : α → Bool) (l : List α) : (fnd p l = -1 ∧ l.find? p = none ∧ l.findIdx? p = none) ∨ ∃ (i : Nat) (x : α), fnd p l = i ∧ l[i]? = some x ∧ l.find? p = some x ∧ l.findIdx? p = some i ∧ p x = true := by
  cases h : l.findIdx? p with
  | none =>
    left
    refine ⟨by unfold fnd; rw [h], ?_, rfl⟩
    rw [List.findIdx?_eq_none_iff] at h
    rw [List.find?_eq_none]
    intro x hx
    simp [h x hx]
  | some i =>
    right
    rw [List.findIdx?_eq_some_iff_getElem] at h
    obtain ⟨h1, h2, h3⟩ := h
    refine ⟨i, l[i], by unfold fnd; rw [List.findIdx?_eq_some_iff_getElem.2 ⟨h1, h2, h3⟩], List.getElem?_eq_getElem h1, ?_, rfl, h2⟩
    rw [List.find?_eq_some_iff_getElem]
    exact ⟨h2, i, h1, rfl, fun j hj => by have := h3 j hj; simpa using this⟩
def dNew (o : Graph) (l : List GObj) : List Int := (l.filter fun x => !hasId o x.Id).map (·.Id)
theorem dNew_yes {o : Graph} {l : List GObj} {i : Nat} {x : GObj} (h : l[i]? = some x) (hh : hasId o x.Id = true) : dNew o (l.take (i + 1)) = dNew o (l.take i) := by
  unfold dNew; rw [List.take_add_one, h]; simp [hh]
theorem dNew_no {o : Graph} {l : List GObj} {i : Nat} {x : GObj} (h : l[i]? = some x) (hh : hasId o x.Id = false) : dNew o (l.take (i + 1)) = dNew o (l.take i) ++ [x.Id] := by
  unfold dNew; rw [List.take_add_one, h]; simp [hh]
theorem dNew_len (o : Graph) (l : List GObj) : (dNew o l).length ≤ l.length := by
  unfold dNew; rw [List.length_map]; exact List.length_filter_le _ _
def dSetF (id : Int) (F F' : List GVal) (k : Nat) : List (Int × Int) := ((List.range k).filter fun j => decide (F[j]? ≠ F'[j]?)).map fun (j : Nat) => (id, (j : Int))
theorem dSetF_zero (id : Int) (F F' : List GVal) : dSetF id F F' 0 = [] := rfl
theorem dSetF_yes {id : Int} {F F' : List GVal} {k : Nat} (h : F[k]? ≠ F'[k]?) : dSetF id F F' (k + 1) = dSetF id F F' k ++ [(id, (k : Int))] := by
  unfold dSetF; rw [List.range_succ, List.filter_append]; simp [h]
theorem dSetF_no {id : Int} {F F' : List GVal} {k : Nat} (h : F[k]? = F'[k]?) : dSetF id F F' (k + 1) = dSetF id F F' k := by
  unfold dSetF; rw [List.range_succ, List.filter_append]; simp [h]
theorem dSetF_len (id : Int) (F F' : List GVal) (k : Nat) : (dSetF id F F' k).length ≤ k := by
  unfold dSetF; rw [List.length_map]; exact Nat.le_trans (List.length_filter_le _ _) (by simp)
def dSet1 (a : Graph) (x : GObj) : List (Int × Int) := if hasId a x.Id = true then dSetF x.Id x.F (objD a x.Id).F x.F.length else []
def dSet (a : Graph) (l : List GObj) : List (Int × Int) := l.flatMap (dSet1 a)
theorem dSet_succ {a : Graph} {l : List GObj} {i : Nat} {x : GObj} (h : l[i]? = some x) : dSet a (l.take (i + 1)) = dSet a (l.take i) ++ dSet1 a x := by
  unfold dSet; rw [List.take_add_one, h]; simp
theorem dSet_len (a : Graph) (l : List GObj) (n : Nat) (h : ∀ x ∈ l, x.F.length ≤ n) : (dSet a l).length ≤ l.length * n := by
  induction l with
  | nil => simp [dSet]
  | cons x l ih =>
    have h1 := ih fun y hy => h y (List.mem_cons_of_mem _ hy)
    have h2 : (dSet1 a x).length ≤ n := by
      unfold dSet1
      split
      · exact Nat.le_trans (dSetF_len _ _ _ _) (h x List.mem_cons_self)
      · simp
    unfold dSet at h1 ⊢
    rw [List.flatMap_cons, List.length_append, List.length_cons, Nat.add_mul]
    omega
def dBad1 (a : Graph) (x : GObj) : Bool := hasId a x.Id && !decide (x.T = (objD a x.Id).T)
def dBad (a : Graph) (l : List GObj) : Bool := l.any (dBad1 a)
def rootAt (g : Graph) (i : Nat) : Int := match g.Roots[i]? with
  | some r => r
  | none => -1
def dRoots (o a : Graph) (n : Nat) : List Int := ((List.range n).filter fun i => !decide (rootAt o i = rootAt a i)).map fun (i : Nat) => (i : Int)
theorem dRoots_zero (o a : Graph) : dRoots o a 0 = [] := rfl
theorem dRoots_yes {o a : Graph} {n : Nat} (h : rootAt o n ≠ rootAt a n) : dRoots o a (n + 1) = dRoots o a n ++ [(n : Int)] := by
  unfold dRoots; rw [List.range_succ, List.filter_append]; simp [h]
theorem dRoots_no {o a : Graph} {n : Nat} (h : rootAt o n = rootAt a n) : dRoots o a (n + 1) = dRoots o a n := by
  unfold dRoots; rw [List.range_succ, List.filter_append]; simp [h]
theorem dRoots_len (o a : Graph) (n : Nat) : (dRoots o a n).length ≤ n := by
  unfold dRoots; rw [List.length_map]; exact Nat.le_trans (List.length_filter_le _ _) (by simp)
def gDiff (o a : Graph) : GChange × Int :=
  if (gMay o && gMay a) = false then (noChange, 1) else if ¬ o.S = a.S then (noChange, 6) else if dBad a o.O = true then (noChange, 6) else
  (⟨dNew o a.O, dNew a o.O, dSet a o.O, dRoots o a (max o.Roots.length a.Roots.length)⟩, 0)
def gNone (c : GChange) : Bool := decide (c = noChange)
theorem gNone_iff (c : GChange) : gNone c = decide (c.New.length + c.Gone.length + c.Set.length + c.Roots.length = 0) := by
  obtain ⟨a, b, d, e⟩ := c
  rw [Bool.eq_iff_iff]
  simp only [gNone, noChange, decide_eq_true_eq, GChange.mk.injEq]
  cases a <;> cases b <;> cases d <;> cases e <;> simp
theorem May.small {g : Graph} (h : May g) : g.S.length ≤ 4 ∧ (∀ x ∈ g.S, x.F.length ≤ 5) ∧ ∀ x ∈ g.O, x.F.length ≤ 5 := by
  have h0 := h.s
  unfold schemaMay at h0
  simp only [Bool.and_eq_true, decide_eq_true_eq] at h0
  have h1 : ∀ x ∈ g.S, x.F.length ≤ 5 := fun x hx => by
    obtain ⟨j, hj⟩ := List.getElem?_of_mem hx
    have := allI_at h0.2 hj
    unfold typeMay at this; simp at this; omega
  refine ⟨h0.1.2, h1, fun x hx => ?_⟩
  obtain ⟨j, hj⟩ := List.getElem?_of_mem hx
  obtain ⟨_, t, _, ho⟩ := h.objT hj
  have := h1 t (List.mem_of_getElem? ho.at_)
  have := ho.len
  omega
theorem hasId_at {a : Graph} {id : Int} (h : hasId a id = true) : ∃ j : Nat, a.O[j]? = some (objD a id) ∧ (objD a id).Id = id := by
  unfold hasId at h
  obtain ⟨y, hy⟩ := Option.isSome_iff_exists.1 h
  have e : objD a id = y := by unfold objD; rw [hy]; rfl
  rw [e]
  unfold objAt at hy
  obtain ⟨j, hj⟩ := List.getElem?_of_mem (List.mem_of_find?_eq_some hy)
  exact ⟨j, hj, by simpa using List.find?_some hy⟩
theorem same_len {o a : Graph} (hmo : May o) (hma : May a) (hS : o.S = a.S) {i : Nat} {x : GObj} (hx : o.O[i]? = some x) (hh : hasId a x.Id = true) (hT : x.T = (objD a x.Id).T) : (objD a x.Id).F.length = x.F.length := by
  obtain ⟨j, hj, _⟩ := hasId_at hh
  obtain ⟨_, t, h1, h2⟩ := hmo.objT hx
  obtain ⟨_, t', h3, h4⟩ := hma.objT hj
  rw [← hT, ← hS, h1] at h3
  cases h3
  rw [h2.len, h4.len]
theorem dBad_succ {a : Graph} {l : List GObj} {i : Nat} {x : GObj} (h : l[i]? = some x) (hb : dBad a (l.take i) = false) (h1 : dBad1 a x = false) : dBad a (l.take (i + 1)) = false := by
  unfold dBad at hb ⊢; rw [List.take_add_one, h]; simp only [List.any_append, hb]; simp [h1]
theorem dBad_yes {a : Graph} {l : List GObj} {i : Nat} {x : GObj} (h : l[i]? = some x) (h1 : dBad1 a x = true) : dBad a l = true := any_at h h1
def twG : Graph := ⟨oneS, [⟨0, 0, [⟨7, ⟨#[]⟩, 0⟩, ⟨0, ⟨#[]⟩, -1⟩]⟩, ⟨5, 0, [⟨8, ⟨#[]⟩, 0⟩, ⟨0, ⟨#[]⟩, 0⟩]⟩], [0]⟩
set_option maxRecDepth 100000
theorem twG_sz : GSz twG := ⟨by decide, by decide, by decide, by decide, by decide⟩
end Go.Ab
namespace Go.Ab
open Go Go.RowKit
def idsO (l : List GObj) : List Int := l.map (·.Id)
theorem May.objD {g : Graph} (h : May g) {x : GObj} (hx : x ∈ g.O) : Ab.objD g x.Id = x := by
  unfold Ab.objD; rw [h.mem hx]; rfl
theorem May.hasId {g : Graph} (h : May g) {x : GObj} (hx : x ∈ g.O) : Ab.hasId g x.Id = true := by
  unfold Ab.hasId; rw [h.mem hx]; rfl
theorem dBad_iff {o a : Graph} (ho : May o) (ha : May a) : dBad a o.O = true ↔ ∃ x ∈ o.O, ∃ y ∈ a.O, x.Id = y.Id ∧ x.T ≠ y.T := by
  unfold dBad dBad1
  rw [List.any_eq_true]
  constructor
  · rintro ⟨x, hx, h⟩
    simp only [Bool.and_eq_true, Bool.not_eq_true', decide_eq_false_iff_not] at h
    obtain ⟨j, h1, h2⟩ := hasId_at h.1
    exact ⟨x, hx, _, List.mem_of_getElem? h1, h2.symm, h.2⟩
  · rintro ⟨x, hx, y, hy, e, hT⟩
    refine ⟨x, hx, ?_⟩
    simp only [Bool.and_eq_true, Bool.not_eq_true', decide_eq_false_iff_not]
    rw [e, ha.objD hy]
    exact ⟨ha.hasId hy, hT⟩
theorem dBad_T {o a : Graph} (ho : May o) (ha : May a) (hb : dBad a o.O = false) {x y : GObj} (hx : x ∈ o.O) (hy : y ∈ a.O) (e : x.Id = y.Id) : x.T = y.T := by
  refine Classical.byContradiction fun h => ?_
  rw [(dBad_iff ho ha).2 ⟨x, hx, y, hy, e, h⟩] at hb; cases hb
theorem gDiff_S {o a : Graph} (h : (gMay o && gMay a) = true) (hS : ¬ o.S = a.S) : gDiff o a = (noChange, 6) := by unfold gDiff; rw [if_neg (by simp [h]), if_pos hS]
theorem gDiff_T {o a : Graph} (h : (gMay o && gMay a) = true) (hS : o.S = a.S) (hb : dBad a o.O = true) : gDiff o a = (noChange, 6) := by unfold gDiff; rw [if_neg (by simp [h]), if_neg (by simpa using hS), if_pos hb]
theorem gDiff_ok {o a : Graph} (h : (gMay o && gMay a) = true) (hS : o.S = a.S) (hb : dBad a o.O = false) : gDiff o a = (⟨dNew o a.O, dNew a o.O, dSet a o.O, dRoots o a (max o.Roots.length a.Roots.length)⟩, 0) := by
  unfold gDiff; rw [if_neg (by simp [h]), if_neg (by simpa using hS), if_neg (by simp [hb])]
end Go.Ab
namespace Go.Ab
open Go Go.RowKit
theorem wrap_id {a : Int} (h1 : -4611686018427387904 ≤ a) (h2 : a < 4611686018427387904) : IntKind.i64.wrap a = a := by
  simp only [IntKind.wrap, IntKind.bits, IntKind.signed]
  simp
  omega
def zeroV (f : GField) : GVal := if f.Kind = 5 then ⟨0, ⟨#[]⟩, -1⟩ else ⟨0, ⟨#[]⟩, 0⟩
end Go.Ab
namespace Go.Ab
open Go Go.RowKit
def stand {α : Type} [DecidableEq α] (o a b : α) : α × Bool := if a = o then (b, true) else (a, decide (b = o) || decide (a = b))
end Go.Ab
namespace Go.Ab
open Go Go.RowKit
theorem zero_leads {g : Graph} {f : GField} (h : 0 ≤ f.Kind ∧ f.Kind < 6) : leadsB g f (zeroV f) = true := by
  unfold leadsB zeroV
  by_cases h5 : f.Kind = 5
  · simp [valFits, h5]
  · rw [if_neg h5]
    by_cases h4 : f.Kind = 4
    · simp [valFits, h4]; decide
    · have : f.Kind = 0 ∨ f.Kind = 1 ∨ f.Kind = 2 ∨ f.Kind = 3 := by omega
      rcases this with h | h | h | h <;> simp [valFits, numFits, h]
end Go.Ab
namespace Go.Ab
open Go Go.RowKit
def Sorted (l m : List Int) : Prop := m.Pairwise (· ≤ ·) ∧ m.Perm l
def UpTo (m : List Int) (i : Nat) : Prop := ∀ (p q : Nat) (x y : Int), p < q → q < i → m[p]? = some x → m[q]? = some y → x ≤ y
def Ins (m : List Int) (i j : Nat) : Prop := ∀ (p q : Nat) (x y : Int), p < q → q ≤ i → q ≠ j → m[p]? = some x → m[q]? = some y → x ≤ y
def lessAt (m : List Int) : Nat → Bool
  | 0 => false
  | k + 1 => match m[k]?, m[k + 1]? with
    | some a, some b => decide (b < a)
    | _, _ => false
def swp (m : List Int) (j : Nat) (a b : Int) : List Int := (m.set (j + 1) a).set j b
theorem Ins.start {m : List Int} {i : Nat} (h : UpTo m i) : Ins m i i := fun p q x y h1 h2 h3 h4 h5 => h p q x y h1 (by omega) h4 h5
theorem set_I (l : List Int) (i : Nat) (x : Int) : (l.map eI).set i [.int .i64 x] = (l.set i x).map eI := by rw [List.map_set]; rfl
theorem lessAt_true {m : List Int} {j : Nat} (h : lessAt m j = true) : ∃ (k : Nat) (a b : Int), j = k + 1 ∧ m[k]? = some a ∧ m[k + 1]? = some b ∧ b < a := by
  cases j with
  | zero => cases h
  | succ k =>
    simp only [lessAt] at h
    split at h
    · rename_i a b h1 h2
      exact ⟨k, a, b, rfl, h1, h2, by simpa using h⟩
    · cases h
theorem lessAt_false {m : List Int} {i j : Nat} (h : lessAt m j = false) (hi : Ins m i j) (hj : j ≤ i) (hl : i < m.length) : UpTo m (i + 1) := by
  intro p q x y h1 h2 h3 h4
  by_cases e : q = j
  · subst e
    cases q with
    | zero => omega
    | succ k =>
      simp only [lessAt] at h
      have hk : m[k]? = some m[k] := List.getElem?_eq_getElem (by omega)
      rw [hk, h4] at h
      simp only [decide_eq_false_iff_not] at h
      by_cases e2 : p = k
      · subst e2; rw [h3] at hk; cases hk; omega
      · have := hi p k x m[k] (by omega) (by omega) (by omega) h3 hk
        omega
  · exact hi p q x y h1 (by omega) e h3 h4
theorem swp_get {m : List Int} {j : Nat} {a b : Int} (h : j + 1 < m.length) (p : Nat) : (swp m j a b)[p]? = if p = j then some b else if p = j + 1 then some a else m[p]? := by
  unfold swp
  by_cases h1 : p = j
  · subst h1; rw [if_pos rfl, List.getElem?_set_self (by simp; omega)]
  · rw [if_neg h1, List.getElem?_set_ne (fun e => h1 e.symm)]
    by_cases h2 : p = j + 1
    · subst h2; rw [if_pos rfl, List.getElem?_set_self h]
    · rw [if_neg h2, List.getElem?_set_ne (fun e => h2 e.symm)]
theorem Ins.step {m : List Int} {i j : Nat} {a b : Int} (h : Ins m i (j + 1)) (hj : j + 1 ≤ i) (ha : m[j]? = some a) (hb : m[j + 1]? = some b) (hab : b < a) : Ins (swp m j a b) i j := by
  have hl := (List.getElem?_eq_some_iff.1 hb).1
  intro p q x y h1 h2 h3 h4 h5
  rw [swp_get hl] at h4 h5
  rw [if_neg h3] at h5
  by_cases e1 : q = j + 1
  · subst e1
    rw [if_pos rfl] at h5; cases h5
    by_cases e2 : p = j
    · subst e2; rw [if_pos rfl] at h4; cases h4; omega
    · rw [if_neg e2, if_neg (by omega)] at h4
      exact h p j x a (by omega) (by omega) (by omega) h4 ha
  · rw [if_neg e1] at h5
    by_cases e2 : p = j
    · subst e2; rw [if_pos rfl] at h4; cases h4
      exact h (p + 1) q b y (by omega) h2 e1 hb h5
    · rw [if_neg e2] at h4
      by_cases e3 : p = j + 1
      · subst e3; rw [if_pos rfl] at h4; cases h4
        exact h j q a y (by omega) h2 e1 ha h5
      · rw [if_neg e3] at h4
        exact h p q x y h1 h2 e1 h4 h5
theorem swp_perm {m : List Int} {j : Nat} {a b : Int} (ha : m[j]? = some a) (hb : m[j + 1]? = some b) : (swp m j a b).Perm m := by
  induction m generalizing j with
  | nil => simp at ha
  | cons x m ih =>
    cases j with
    | zero =>
      cases m with
      | nil => simp at hb
      | cons y m =>
        simp at ha hb; subst ha hb
        simp only [swp, Nat.zero_add, List.set_cons_succ, List.set_cons_zero]
        exact List.Perm.swap _ _ _
    | succ j =>
      simp only [List.getElem?_cons_succ] at ha hb
      have := ih ha hb
      simp only [swp, List.set_cons_succ] at this ⊢
      exact this.cons x
theorem upTo_pairwise {m : List Int} (h : ∀ (p q : Nat) (x y : Int), p < q → q < m.length → m[p]? = some x → m[q]? = some y → x ≤ y) : m.Pairwise (· ≤ ·) := by
  rw [List.pairwise_iff_getElem]
  intro i j hi hj hij
  exact h i j m[i] m[j] hij hj (List.getElem?_eq_getElem hi) (List.getElem?_eq_getElem hj)
theorem sorted_unique : ∀ {a b : List Int}, a.Pairwise (· < ·) → b.Pairwise (· ≤ ·) → a.Perm b → a = b := by
  intro a b ha hb h
  exact h.eq_of_pairwise (le := (· ≤ ·)) (fun x y _ _ h1 h2 => by omega) (ha.imp fun h => by omega) hb
end Go.Ab
namespace Go.Ab
open Go Go.RowKit
def dfs (g : Graph) : Nat → List Int → Int → List Int
  | 0, l, _ => l
  | n + 1, l, i => if i = -1 ∨ i ∈ l then l else (refsOf g i).foldl (dfs g n) (l ++ [i])
def dfsL (g : Graph) : List Int := g.Roots.foldl (dfs g (g.O.length + 1)) []
def gReach (g : Graph) : List Int := if gMay g = true then (g.O.filter fun o => decide (o.Id ∈ order g)).map (·.Id) else []
structure Step (g : Graph) (l : List Int) (is : List Int) (m : List Int) : Prop where
  good : Good g m
  pre : ∃ s, m = l ++ s
  in_ : ∀ i ∈ is, i = -1 ∨ i ∈ m
  clo : ∀ x ∈ m, x ∉ l → ∀ r ∈ refsOf g x, r = -1 ∨ r ∈ m
theorem Step.nil {g : Graph} {l : List Int} (h : Good g l) : Step g l [] l := ⟨h, ⟨[], by simp⟩, fun i hi => absurd hi (by simp), fun x hx hn => absurd hx hn⟩
theorem Step.app {g : Graph} {l m k is js : List Int} (h : Step g l is m) (h' : Step g m js k) : Step g l (is ++ js) k := by
  obtain ⟨s, hs⟩ := h.pre
  obtain ⟨s', hs'⟩ := h'.pre
  have hm : ∀ x ∈ m, x ∈ k := fun x hx => by rw [hs']; exact List.mem_append_left _ hx
  refine ⟨h'.good, ⟨s ++ s', by rw [hs', hs, List.append_assoc]⟩, fun j hj => ?_, fun x hx hn r hr => ?_⟩
  · rcases List.mem_append.1 hj with hj | hj
    · exact (h.in_ j hj).imp id (hm j)
    · exact h'.in_ j hj
  · by_cases e : x ∈ m
    · exact (h.clo x e hn r hr).imp id (hm r)
    · exact h'.clo x hx e r hr
theorem Step.fold {g : Graph} {f : List Int → Int → List Int} : ∀ (is : List Int) {l : List Int}, Good g l →
    (∀ (m : List Int) (i : Int), Good g m → l.length ≤ m.length → i ∈ is → Step g m [i] (f m i)) → Step g l is (is.foldl f l)
  | [], l, h, _ => Step.nil h
  | i :: is, l, h, hf => by
    have h1 := hf l i h (Nat.le_refl _) List.mem_cons_self
    obtain ⟨s, hs⟩ := h1.pre
    have := Step.fold (f := f) is h1.good fun m j hg hl hj => hf m j hg (Nat.le_trans (by rw [hs]; simp) hl) (List.mem_cons_of_mem _ hj)
    exact h1.app this
theorem dfs_step {g : Graph} (hm : May g) : ∀ (n : Nat) {l : List Int} {i : Int}, Good g l → rootB g i = true → g.O.length < n + l.length → Step g l [i] (dfs g n l i)
  | 0, l, i, h, _, hn => by have := h.len; omega
  | n + 1, l, i, h, hi, hn => by
    unfold dfs
    split
    · rename_i h1
      exact ⟨h, ⟨[], by simp⟩, fun j hj => by simp at hj; subst hj; exact h1, fun x hx hn => absurd hx hn⟩
    · rename_i h1
      have hg : Good g (l ++ [i]) := by
        have := h.meet hi
        unfold meet at this
        rwa [if_neg h1] at this
      have h2 := Step.fold (f := dfs g n) (refsOf g i) hg fun m j hgm hl hj => dfs_step hm n hgm (hm.refsOf i j hj) (by simp at hl; omega)
      obtain ⟨s, hs⟩ := h2.pre
      refine ⟨h2.good, ⟨i :: s, by rw [hs]; simp⟩, fun j hj => .inr ?_, fun x hx hn r hr => ?_⟩
      · simp at hj; subst hj; rw [hs]; simp
      · by_cases e : x = i
        · subst e; exact h2.in_ r hr
        · exact h2.clo x hx (by simp [hn, e]) r hr
theorem dfsL_step {g : Graph} (hm : May g) : Step g [] g.Roots (dfsL g) :=
  Step.fold g.Roots (Good.nil g) fun m i hg _ hi => dfs_step hm _ hg (hm.root i hi) (by omega)
theorem dfs_least {g : Graph} {P : Int → Prop} (hP : ∀ x, P x → ∀ r ∈ refsOf g x, r ≠ -1 → P r) : ∀ (n : Nat) {l : List Int} {i : Int}, (∀ x ∈ l, P x) → (i ≠ -1 → P i) → ∀ x ∈ dfs g n l i, P x
  | 0, l, i, hl, _ => hl
  | n + 1, l, i, hl, hi => by
    unfold dfs
    split
    · exact hl
    · rename_i h1
      rw [not_or] at h1
      have hPi := hi h1.1
      have key : ∀ (is : List Int) (l : List Int), (∀ x ∈ l, P x) → (∀ r ∈ is, r ≠ -1 → P r) → ∀ x ∈ is.foldl (dfs g n) l, P x := by
        intro is
        induction is with
        | nil => intro l hl _; exact hl
        | cons j is ih => intro l hl hj; exact ih _ (dfs_least hP n hl (hj j List.mem_cons_self)) fun r hr => hj r (List.mem_cons_of_mem _ hr)
      exact key _ _ (fun x hx => by
        rcases List.mem_append.1 hx with hx | hx
        · exact hl x hx
        · simp at hx; subst hx; exact hPi) (hP i hPi)
theorem dfsL_least {g : Graph} {P : Int → Prop} (hP : ∀ x, P x → ∀ r ∈ refsOf g x, r ≠ -1 → P r) (hr : ∀ r ∈ g.Roots, r ≠ -1 → P r) : ∀ x ∈ dfsL g, P x := by
  unfold dfsL
  have key : ∀ (is : List Int) (l : List Int), (∀ x ∈ l, P x) → (∀ r ∈ is, r ≠ -1 → P r) → ∀ x ∈ is.foldl (dfs g (g.O.length + 1)) l, P x := by
    intro is
    induction is with
    | nil => intro l hl _; exact hl
    | cons j is ih => intro l hl hj; exact ih _ (dfs_least hP _ hl (hj j List.mem_cons_self)) fun r hr => hj r (List.mem_cons_of_mem _ hr)
  exact key _ _ (fun x hx => by cases hx) hr
theorem mets_least {P : Int → Prop} : ∀ (is l : List Int), (∀ x ∈ l, P x) → (∀ r ∈ is, r ≠ -1 → P r) → ∀ x ∈ mets l is, P x := by
  intro is l hl hr x hx
  rcases (mem_mets is l x).1 hx with h | ⟨h, h2⟩
  · exact hl x h
  · exact hr x h h2
theorem ordF_least {g : Graph} {P : Int → Prop} (hP : ∀ x, P x → ∀ r ∈ refsOf g x, r ≠ -1 → P r) : ∀ (n i : Nat) (l : List Int), (∀ x ∈ l, P x) → ∀ x ∈ ordF g n i l, P x
  | 0, _, _, hl => hl
  | n + 1, i, l, hl => by
    unfold ordF
    split
    · exact hl
    · rename_i y hy
      exact ordF_least hP n _ _ (mets_least _ _ hl (hP y (hl y (List.mem_of_getElem? hy))))
theorem order_least {g : Graph} {P : Int → Prop} (hP : ∀ x, P x → ∀ r ∈ refsOf g x, r ≠ -1 → P r) (hr : ∀ r ∈ g.Roots, r ≠ -1 → P r) : ∀ x ∈ order g, P x :=
  ordF_least hP _ _ _ (mets_least _ _ (fun x hx => by cases hx) hr)
theorem dfsL_order {g : Graph} (hm : May g) (x : Int) : x ∈ dfsL g ↔ x ∈ order g := by
  have h := dfsL_step hm
  constructor
  · refine dfsL_least (P := (· ∈ order g)) (fun y hy r hr hn => (hm.clo hy r hr).resolve_left hn) (fun r hr hn => (hm.rootIn hr).resolve_left hn) x
  · refine order_least (P := (· ∈ dfsL g)) (fun y hy r hr hn => (h.clo y hy (by simp) r hr).resolve_left hn) (fun r hr hn => (h.in_ r hr).resolve_left hn) x
theorem May.pw {g : Graph} (h : May g) : (g.O.map (·.Id)).Pairwise (· < ·) := by
  rw [List.pairwise_iff_getElem]
  intro i j hi hj hij
  simp only [List.length_map] at hi hj
  have := (h.ids j g.O[j] (List.getElem?_eq_getElem hj)).2 i g.O[i] hij (List.getElem?_eq_getElem hi)
  simpa using this
theorem gReach_pw {g : Graph} (h : May g) : (gReach g).Pairwise (· < ·) := by
  unfold gReach
  rw [if_pos ((may_iff g).2 h)]
  exact List.Pairwise.sublist ((List.filter_sublist).map _) h.pw
theorem mem_gReach {g : Graph} (h : May g) (x : Int) : x ∈ gReach g ↔ x ∈ order g := by
  unfold gReach
  rw [if_pos ((may_iff g).2 h)]
  constructor
  · intro hx
    obtain ⟨o, ho, rfl⟩ := List.mem_map.1 hx
    simpa using (List.mem_filter.1 ho).2
  · intro hx
    cases ht : typ g.O x with
    | none => have := h.order.ids x hx; rw [ht] at this; cases this
    | some t =>
      obtain ⟨o, ho, rfl, _⟩ := typ_some ht
      exact List.mem_map.2 ⟨o, List.mem_filter.2 ⟨ho, by simpa using hx⟩, rfl⟩
theorem dfsL_sorted {g : Graph} (hm : May g) {m : List Int} (h : Sorted (dfsL g) m) : m = gReach g := by
  refine (sorted_unique (gReach_pw hm) h.1 ?_).symm
  refine List.Perm.trans ?_ h.2.symm
  rw [List.perm_ext_iff_of_nodup ((gReach_pw hm).imp (fun h e => by omega)) (dfsL_step hm).good.nodup]
  intro x
  rw [mem_gReach hm, dfsL_order hm]
def wasMap (l : List Int) : List (Int × AV) := (-1, .bool true) :: l.map fun i => (i, .bool true)
theorem maplk_was (l : List Int) (i : Int) : maplk (wasMap l) i = if i = -1 ∨ i ∈ l then some (.bool true) else none := by
  unfold wasMap
  simp only [maplk]
  by_cases h : i = -1
  · simp [h]
  · rw [if_neg h]
    simp only [h, false_or]
    induction l with
    | nil => simp [maplk]
    | cons x l ih =>
      simp only [List.map_cons, maplk, List.mem_cons]
      by_cases e : i = x
      · simp [e]
      · rw [if_neg e, ih]; simp [e]
theorem was_put {l : List Int} {i : Int} (h : ¬ (i = -1 ∨ i ∈ l)) : mapput (wasMap l) i (.bool true) = wasMap (l ++ [i]) := by
  rw [mapput_new (by rw [maplk_was, if_neg h])]
  simp [wasMap]
theorem was_len (l : List Int) : (wasMap l).length = l.length + 1 := by simp [wasMap]
theorem dfs_in {g : Graph} {n : Nat} {l : List Int} {i : Int} (h : i = -1 ∨ i ∈ l) : dfs g n l i = l := by
  cases n with
  | zero => rfl
  | succ n => unfold dfs; rw [if_pos h]
theorem dfs_out {g : Graph} {n : Nat} {l : List Int} {i : Int} (h : ¬ (i = -1 ∨ i ∈ l)) : dfs g (n + 1) l i = (refsOf g i).foldl (dfs g n) (l ++ [i]) := by
  conv => lhs; unfold dfs
  rw [if_neg h]
theorem refsZ_foldRef {z : List (GField × GVal)} {k : Nat} {f : GField} {v : GVal} (h : z[k]? = some (f, v)) (hk : f.Kind = 5) (F : List Int → Int → List Int) (l : List Int) : (refsZ (z.take (k + 1))).foldl F l = F ((refsZ (z.take k)).foldl F l) v.R := by
  rw [List.take_add_one, h]
  simp [refsZ, hk]
end Go.Ab
namespace Go.Ab
open Go Go.RowKit
structure BS (l : List Int) (x : Int) (i j : Nat) : Prop where
  lo : ∀ (p : Nat) (y : Int), p < i → l[p]? = some y → y < x
  hi : ∀ (p : Nat) (y : Int), j ≤ p → l[p]? = some y → x ≤ y
  ij : i ≤ j
  jl : j ≤ l.length
theorem pw_le {l : List Int} (h : l.Pairwise (· < ·)) {p q : Nat} {x y : Int} (hpq : p ≤ q) (hx : l[p]? = some x) (hy : l[q]? = some y) : x ≤ y := by
  obtain ⟨h1, e1⟩ := List.getElem?_eq_some_iff.1 hx
  obtain ⟨h2, e2⟩ := List.getElem?_eq_some_iff.1 hy
  subst e1 e2
  rcases Nat.lt_or_ge p q with h3 | h3
  · have := List.pairwise_iff_getElem.1 h p q h1 h2 h3; omega
  · have : p = q := by omega
    subst this; exact Int.le_refl _
theorem BS.start (l : List Int) (x : Int) : BS l x 0 l.length := ⟨fun p y h => by omega, fun p y h h1 => by have := (List.getElem?_eq_some_iff.1 h1).1; omega, Nat.zero_le _, Nat.le_refl _⟩
theorem BS.left {l : List Int} {x y : Int} {i j h : Nat} (hs : l.Pairwise (· < ·)) (b : BS l x i j) (hy : l[h]? = some y) (hlt : y < x) (hj : h < j) : BS l x (h + 1) j :=
  ⟨fun p z hp hz => by have := pw_le hs (show p ≤ h by omega) hz hy; omega, b.hi, hj, b.jl⟩
theorem BS.right {l : List Int} {x y : Int} {i j h : Nat} (hs : l.Pairwise (· < ·)) (b : BS l x i j) (hy : l[h]? = some y) (hge : ¬ y < x) (hi : i ≤ h) (hj : h < j) : BS l x i h :=
  ⟨b.lo, fun p z hp hz => by have := pw_le hs hp hy hz; omega, hi, by have := b.jl; omega⟩
theorem BS.none {l : List Int} {x : Int} (b : BS l x l.length l.length) : decide (x ∈ l) = false := by
  simp only [decide_eq_false_iff_not]
  intro hx
  obtain ⟨p, hp⟩ := List.getElem?_of_mem hx
  have := b.lo p x (List.getElem?_eq_some_iff.1 hp).1 hp
  omega
theorem BS.some {l : List Int} {x y : Int} {i : Nat} (hs : l.Pairwise (· < ·)) (b : BS l x i i) (hy : l[i]? = some y) : decide (x ∈ l) = decide (y = x) := by
  by_cases e : y = x
  · subst e; simp [List.mem_of_getElem? hy]
  · simp only [e, decide_false, decide_eq_false_iff_not]
    intro hx
    obtain ⟨p, hp⟩ := List.getElem?_of_mem hx
    rcases Nat.lt_or_ge p i with h | h
    · have := b.lo p x h hp; omega
    · have h1 := pw_le hs h hy hp
      have h2 := b.hi i y (Nat.le_refl _) hy
      omega
theorem fdiv2 (n : Nat) : ((n : Int)).fdiv 2 = ((n / 2 : Nat) : Int) := by
  rw [Int.fdiv_eq_ediv_of_nonneg _ (by decide)]; rfl
def gSweep (g : Graph) : Graph := if gMay g = true then ⟨g.S, g.O.filter fun o => decide (o.Id ∈ gReach g), g.Roots⟩ else ⟨[], [], []⟩
def del (p : GObj → Bool) (l : List GObj) : List GObj := l.filter fun o => !p o
theorem del_take (p : GObj → Bool) {l : List GObj} {j : Nat} {x : GObj} (h : l[j]? = some x) : del p (l.take (j + 1)) = if p x = true then del p (l.take j) else del p (l.take j) ++ [x] := by
  unfold del
  rw [List.take_add_one, h]
  cases hp : p x <;> simp [hp]
theorem del_none {p : GObj → Bool} {l : List GObj} (h : ∀ (j : Nat) (y : GObj), l[j]? = some y → p y = false) : del p l = l := by
  unfold del
  rw [List.filter_eq_self]
  intro a ha
  obtain ⟨j, hj⟩ := List.getElem?_of_mem ha
  simp [h j a hj]
structure Swp (p : GObj → Bool) (xs m : List GObj) (i j : Nat) : Prop where
  len : m.length = xs.length
  jl : j ≤ xs.length
  il : i = (del p (xs.take j)).length
  lo : m.take i = del p (xs.take j)
  hi : m.drop j = xs.drop j
theorem Swp.at {p : GObj → Bool} {xs m : List GObj} {i j : Nat} (h : Swp p xs m i j) {x : GObj} (hx : xs[j]? = some x) : m[j]? = some x := by
  have : (m.drop j)[0]? = (xs.drop j)[0]? := by rw [h.hi]
  simpa [hx] using this
theorem Swp.start {p : GObj → Bool} {xs : List GObj} {i : Nat} {x : GObj} (hx : xs[i]? = some x) (hp : p x = true) (hb : ∀ (j : Nat) (y : GObj), j < i → xs[j]? = some y → p y = false) : Swp p xs xs i (i + 1) := by
  have hl := (List.getElem?_eq_some_iff.1 hx).1
  have e : del p (xs.take i) = xs.take i := del_none fun j y hy => by
    rw [List.getElem?_take] at hy
    split at hy
    · exact hb j y ‹_› hy
    · cases hy
  have e2 : del p (xs.take (i + 1)) = xs.take i := by rw [del_take p hx, if_pos hp, e]
  exact ⟨rfl, hl, by rw [e2]; simp; omega, by rw [e2], rfl⟩
theorem Swp.skip {p : GObj → Bool} {xs m : List GObj} {i j : Nat} (h : Swp p xs m i j) {x : GObj} (hx : xs[j]? = some x) (hp : p x = true) : Swp p xs m i (j + 1) := by
  have hl := (List.getElem?_eq_some_iff.1 hx).1
  have e2 : del p (xs.take (j + 1)) = del p (xs.take j) := by rw [del_take p hx, if_pos hp]
  refine ⟨h.len, hl, by rw [e2]; exact h.il, by rw [e2]; exact h.lo, ?_⟩
  rw [← List.drop_drop, ← List.drop_drop, h.hi]
theorem Swp.keep {p : GObj → Bool} {xs m : List GObj} {i j : Nat} (h : Swp p xs m i j) (hij : i < j) {x : GObj} (hx : xs[j]? = some x) (hp : p x = false) : Swp p xs (m.set i x) (i + 1) (j + 1) := by
  have hl := (List.getElem?_eq_some_iff.1 hx).1
  have e2 : del p (xs.take (j + 1)) = del p (xs.take j) ++ [x] := by rw [del_take p hx, if_neg (by simp [hp])]
  have hil : i < m.length := by rw [h.len]; omega
  refine ⟨by simp [h.len], hl, by rw [e2, List.length_append, ← h.il]; rfl, ?_, ?_⟩
  · rw [e2, ← h.lo, List.take_add_one, List.take_set_of_le (by omega)]
    simp [hil]
  · rw [List.drop_set_of_lt (by omega), ← List.drop_drop, ← List.drop_drop, h.hi]
theorem Swp.done {p : GObj → Bool} {xs m : List GObj} {i : Nat} (h : Swp p xs m i xs.length) : m.take i = del p xs := by
  rw [h.lo, List.take_length]
end Go.Ab
namespace Go.Ab
open Go Go.RowKit
theorem prevId_lt {l : List GObj} (hp : (l.map (·.Id)).Pairwise (· < ·)) (h0 : ∀ x ∈ l, 0 ≤ x.Id) {i : Nat} {x : GObj} (hx : l[i]? = some x) : prevId l i < x.Id := by
  obtain ⟨hl, e⟩ := List.getElem?_eq_some_iff.1 hx
  cases i with
  | zero => have := h0 x (List.mem_of_getElem? hx); simp only [prevId]; omega
  | succ i =>
    have hz : l[i]? = some l[i] := List.getElem?_eq_getElem (by omega)
    simp only [prevId, hz]
    have := List.pairwise_iff_getElem.1 hp i (i + 1) (by simp; omega) (by simpa using hl) (by omega)
    simpa [e] using this
theorem May.of {g : Graph} (hS : schemaMay g.S = true) (ho : g.O.length ≤ 8) (hr : g.Roots.length ≤ 3) (hp : (g.O.map (·.Id)).Pairwise (· < ·)) (hb : ∀ x ∈ g.O, 0 ≤ x.Id ∧ x.Id ≤ 1073741824)
    (ht : ∀ x ∈ g.O, ∃ t, typeAt g.S x.T = some t ∧ x.F.length = t.F.length ∧ ∀ (k : Nat) (f : GField) (v : GVal), t.F[k]? = some f → x.F[k]? = some v → leadsB g f v = true) (hroot : ∀ r ∈ g.Roots, rootB g r = true) : May g := by
  refine ⟨hS, ho, hr, fun i x hx => ?_, hroot⟩
  have hm := List.mem_of_getElem? hx
  obtain ⟨t, h1, h2, h3⟩ := ht x hm
  unfold objectB
  simp only [Bool.and_eq_true, decide_eq_true_eq, h1]
  refine ⟨⟨prevId_lt hp (fun x hx => (hb x hx).1) hx, (hb x hm).2⟩, h2, allI_yes fun j v hv => ?_⟩
  rw [Nat.zero_add]
  have hjl : j < t.F.length := by have := (List.getElem?_eq_some_iff.1 hv).1; omega
  unfold leadsAt
  rw [List.getElem?_eq_getElem hjl]
  exact h3 j _ v (List.getElem?_eq_getElem hjl) hv
theorem May.objM {g : Graph} (h : May g) {x : GObj} (hx : x ∈ g.O) : ∃ t, typeAt g.S x.T = some t ∧ MayO g x t := by
  obtain ⟨i, hi⟩ := List.getElem?_of_mem hx
  exact (h.objT hi).2
def swO (g : Graph) : Graph := ⟨g.S, g.O.filter fun o => decide (o.Id ∈ order g), g.Roots⟩
theorem gSweep_of {g : Graph} (h : May g) : gSweep g = swO g := by
  unfold gSweep swO
  rw [if_pos ((may_iff g).2 h)]
  congr 1
  refine List.filter_congr fun x _ => ?_
  simp [mem_gReach h]
theorem uniq_typ : ∀ {l : List GObj}, (l.map (·.Id)).Nodup → ∀ {o : GObj}, o ∈ l → typ l o.Id = some o.T
  | x :: l, hn, o, ho => by
    simp only [List.map_cons, List.nodup_cons] at hn
    simp only [typ]
    rcases List.mem_cons.1 ho with rfl | ho
    · cases h : typ l o.Id with
      | none => simp
      | some t =>
        obtain ⟨y, hy, e, _⟩ := typ_some h
        exact absurd (e ▸ List.mem_map_of_mem hy) hn.1
    · rw [uniq_typ hn.2 ho]
end Go.Ab
namespace Go.Ab
set_option maxRecDepth 100000
end Go.Ab
namespace Go.Ab
open Go Go.RowKit
theorem objAt_some {g : Graph} {x : Int} {o : GObj} (h : objAt g x = some o) : o ∈ g.O ∧ o.Id = x := by
  unfold objAt at h
  exact ⟨List.mem_of_find?_eq_some h, by simpa using List.find?_some h⟩
section
variable {g h : Graph} {ρ : Int → Int}
end
end Go.Ab
namespace Go.Ab
open Go Go.RowKit
structure GStep where
  Do : Int
  Ty : ByteArray
  F : GField
def eStep (x : GStep) : List AV := [.int .i64 x.Do, .str x.Ty, .str x.F.Name, .int .i64 x.F.Kind, .str x.F.To]
def wider (k than : Int) : Bool := decide (0 ≤ than) && (decide (than < k) && decide (k ≤ 3))
def gStepF (s : List GType) (x : GStep) (F : List GField) : Int × List GField :=
  if x.Do = 0 then (if (fieldMay s x.F && decide (fFind F x.F.Name = -1)) = true then (if F.length = 5 then (5, []) else (0, F ++ [x.F])) else (6, []))
  else match F.findIdx? (fun f => decide (f.Name = x.F.Name)) with
    | none => (11, [])
    | some q => if x.Do = 1 then (0, F.eraseIdx q) else (match F[q]? with
      | some f => if wider x.F.Kind f.Kind = true then (0, F.set q ⟨f.Name, x.F.Kind, f.To⟩) else (6, [])
      | none => (6, []))
def gradeF (x : GStep) (at_ : Int) (F : List GVal) : List GVal := if x.Do = 0 then F ++ [zeroV x.F] else if x.Do = 1 then F.eraseIdx at_.toNat else F
def NamesOK (F : List GField) : Prop := (F.map (·.Name)).Nodup
theorem names_find {F : List GField} (h : NamesOK F) {k : Nat} {f : GField} (hf : F[k]? = some f) : fFind F f.Name = k := by
  refine fnd_at hf (by simp) fun j y hj hy => ?_
  have h1 := (List.getElem?_eq_some_iff.1 hf)
  have h2 := (List.getElem?_eq_some_iff.1 hy)
  have h3 := h1.1
  have := List.pairwise_iff_getElem.1 h j k (by simp; omega) (by simpa using h1.1) hj
  simp only [List.getElem_map] at this
  rw [h1.2, h2.2] at this
  simpa using this
structure FOK (s : List GType) (F : List GField) : Prop where
  len : F.length ≤ 5
  fld : ∀ f ∈ F, fieldMay s f = true
  nms : NamesOK F
theorem wider_kind {k than : Int} (h : wider k than = true) : 0 ≤ than ∧ than < k ∧ k ≤ 3 := by
  unfold wider at h; simpa only [Bool.and_eq_true, decide_eq_true_eq] using h
theorem numFits_wide {k than n : Int} (h : wider k than = true) (hn : numFits than n = true) : numFits k n = true := by
  obtain ⟨h1, h2, h3⟩ := wider_kind h
  have hc : than = 0 ∨ than = 1 ∨ than = 2 := by omega
  have hk : k = 1 ∨ k = 2 ∨ k = 3 := by omega
  unfold numFits at hn ⊢
  rcases hc with rfl | rfl | rfl <;> rcases hk with rfl | rfl | rfl <;> simp at hn h2 ⊢ <;> omega
theorem fits_wide {f : GField} {k : Int} {v : GVal} (h : wider k f.Kind = true) (hn : valFits f v = true) : valFits ⟨f.Name, k, f.To⟩ v = true := by
  obtain ⟨h1, h2, h3⟩ := wider_kind h
  unfold valFits at hn ⊢
  rw [if_neg (by omega), if_neg (by omega)] at hn
  rw [if_neg (by simp only; omega), if_neg (by simp only; omega)]
  rw [Bool.and_eq_true] at hn ⊢
  exact ⟨numFits_wide h hn.1, hn.2⟩
theorem eraseIdx_get {α : Type} (l : List α) (q k : Nat) : (l.eraseIdx q)[k]? = if k < q then l[k]? else l[k + 1]? := by
  rw [List.getElem?_eraseIdx]
structure Grown (s : List GType) (x : GStep) (F : List GField) (V : List GVal) : Prop where
  len : (gradeF x (fFind F x.F.Name) V).length = (gStepF s x F).2.length
  lead : ∀ (g : Graph), (∀ (k : Nat) (f : GField) (v : GVal), F[k]? = some f → V[k]? = some v → leadsB g f v = true) → ∀ (k : Nat) (f : GField) (v : GVal), (gStepF s x F).2[k]? = some f → (gradeF x (fFind F x.F.Name) V)[k]? = some v → leadsB g f v = true
  val : ∀ (k : Nat) (f : GField), (gStepF s x F).2[k]? = some f → (∃ (j : Nat), fFind F f.Name = j ∧ (gradeF x (fFind F x.F.Name) V)[k]? = V[j]?) ∨ (fFind F f.Name = -1 ∧ (gradeF x (fFind F x.F.Name) V)[k]? = some (zeroV f))
theorem grown {s : List GType} {x : GStep} {F : List GField} (hF : FOK s F) (h0 : (gStepF s x F).1 = 0) (hD : 0 ≤ x.Do ∧ x.Do < 3) {V : List GVal} (hV : V.length = F.length) : Grown s x F V := by
  by_cases hd : x.Do = 0
  · -- one more
    have e : gradeF x (fFind F x.F.Name) V = V ++ [zeroV x.F] := by unfold gradeF; rw [if_pos hd]
    unfold gStepF at h0
    rw [if_pos hd] at h0
    split at h0
    case isFalse => simp at h0
    rename_i hc
    split at h0
    · simp at h0
    rename_i h5
    have e2 : (gStepF s x F).2 = F ++ [x.F] := by unfold gStepF; rw [if_pos hd, if_pos hc, if_neg h5]
    simp only [Bool.and_eq_true, decide_eq_true_eq] at hc
    have hK : 0 ≤ x.F.Kind ∧ x.F.Kind < 6 := by
      have := hc.1; unfold fieldMay at this
      simp only [Bool.and_eq_true, decide_eq_true_eq] at this
      exact this.2
    refine ⟨by rw [e, e2]; simp [hV], fun g hg k f v hf hv => ?_, fun k f hf => ?_⟩
    · rw [e2] at hf; rw [e] at hv
      rcases Nat.lt_or_ge k F.length with hk | hk
      · rw [List.getElem?_append_left hk] at hf
        rw [List.getElem?_append_left (by omega)] at hv
        exact hg k f v hf hv
      · rw [List.getElem?_append_right hk] at hf
        rw [List.getElem?_append_right (by omega)] at hv
        have : k - F.length = 0 := by
          rcases Nat.eq_zero_or_pos (k - F.length) with h | h
          · exact h
          · rw [List.getElem?_eq_none (by simp; omega)] at hf; cases hf
        rw [this] at hf
        rw [show k - V.length = 0 by omega] at hv
        simp at hf hv
        subst hf hv
        exact zero_leads hK
    · rw [e2] at hf; rw [e]
      rcases Nat.lt_or_ge k F.length with hk | hk
      · rw [List.getElem?_append_left hk] at hf
        exact .inl ⟨k, names_find hF.nms hf, by rw [List.getElem?_append_left (by omega)]⟩
      · rw [List.getElem?_append_right hk] at hf
        have hz : k - F.length = 0 := by
          rcases Nat.eq_zero_or_pos (k - F.length) with h | h
          · exact h
          · rw [List.getElem?_eq_none (by simp; omega)] at hf; cases hf
        rw [hz] at hf
        simp at hf; subst hf
        exact .inr ⟨hc.2, by rw [List.getElem?_append_right (by omega), show k - V.length = 0 by omega]; rfl⟩
  unfold gStepF at h0
  rw [if_neg hd] at h0
  split at h0
  · simp at h0
  rename_i q hq
  have hfind : fFind F x.F.Name = q := by unfold fFind fnd; rw [hq]
  obtain ⟨hql, _, _⟩ := List.findIdx?_eq_some_iff_getElem.1 hq
  by_cases hd1 : x.Do = 1
  · -- one less
    have e : gradeF x (fFind F x.F.Name) V = V.eraseIdx q := by unfold gradeF; rw [if_neg hd, if_pos hd1, hfind]; rfl
    have e2 : (gStepF s x F).2 = F.eraseIdx q := by unfold gStepF; rw [if_neg hd, hq]; simp only; rw [if_pos hd1]
    refine ⟨by rw [e, e2, List.length_eraseIdx, List.length_eraseIdx, hV], fun g hg k f v hf hv => ?_, fun k f hf => ?_⟩
    · rw [e2, eraseIdx_get] at hf; rw [e, eraseIdx_get] at hv
      split at hf
      · rename_i hk; rw [if_pos hk] at hv; exact hg k f v hf hv
      · rename_i hk; rw [if_neg hk] at hv; exact hg (k + 1) f v hf hv
    · rw [e2, eraseIdx_get] at hf; rw [e, eraseIdx_get]
      left
      split at hf
      · rename_i hk; rw [if_pos hk]; exact ⟨k, names_find hF.nms hf, rfl⟩
      · rename_i hk; rw [if_neg hk]; exact ⟨k + 1, names_find hF.nms hf, rfl⟩
  · -- wider
    have e : gradeF x (fFind F x.F.Name) V = V := by unfold gradeF; rw [if_neg hd, if_neg hd1]
    rw [if_neg hd1] at h0
    split at h0
    case h_2 => simp at h0
    rename_i f0 hf0
    split at h0
    case isFalse => simp at h0
    rename_i hw
    have e2 : (gStepF s x F).2 = F.set q ⟨f0.Name, x.F.Kind, f0.To⟩ := by unfold gStepF; rw [if_neg hd, hq]; simp only; rw [if_neg hd1, hf0]; simp only; rw [if_pos hw]
    refine ⟨by rw [e, e2, List.length_set, hV], fun g hg k f v hf hv => ?_, fun k f hf => ?_⟩
    · rw [e2, List.getElem?_set] at hf; rw [e] at hv
      split at hf
      · rename_i hk; subst hk
        cases hf
        have := hg q f0 v hf0 hv
        obtain ⟨h1, h2, h3⟩ := wider_kind hw
        unfold leadsB at this ⊢
        simp only [Bool.and_eq_true] at this ⊢
        exact ⟨fits_wide hw this.1, by simp; omega⟩
      · exact hg k f v hf hv
    · rw [e2, List.getElem?_set] at hf; rw [e]
      left
      split at hf
      · rename_i hk; subst hk
        cases hf; exact ⟨q, (show fFind F f0.Name = (q : Int) from names_find hF.nms hf0), rfl⟩
      · exact ⟨k, names_find hF.nms hf, rfl⟩
end Go.Ab
namespace Go.Ab
open Go Go.RowKit
def eTypeO (t : GType) : List AV := [.str t.Name, .own 3 (t.F.map eField)]
theorem frz_TypeO (n : Nat) (xs : List GType) : (AV.own n (xs.map eTypeO)).freeze = .sl n (xs.map eType) := by
  simp only [AV.freeze, List.map_map]
  congr 1
  refine List.map_congr_left fun x _ => ?_
  simp [eTypeO, eType, AV.freeze]
  intro a _
  simp [eField, AV.freeze]
attribute [go_sem] frz_TypeO
theorem frz_Step (n : Nat) (xs : List GStep) : (AV.own n (xs.map eStep)).freeze = .sl n (xs.map eStep) := frz_map (fun x a ha => by simp [eStep] at ha; rcases ha with rfl | rfl | rfl | rfl | rfl <;> rfl) n xs
attribute [go_sem] frz_Step
end Go.Ab
namespace Go.Ab
open Go Go.RowKit
def gCheck (o a b : Graph) : Int :=
  if ((gMay o && gMay a) && gMay b) = false then 1 else if (gDiff o a).2 ≠ 0 then (gDiff o a).2 else if (gDiff a b).2 ≠ 0 then (gDiff a b).2 else if (gDiff o b).2 ≠ 0 then (gDiff o b).2 else if min a.Roots.length b.Roots.length < o.Roots.length then 6 else 0
def mVal (old : Bool) (w v y : GVal) : GVal := if old = true then (stand w v y).1 else v
def mFine (old : Bool) (w v y : GVal) : Bool := if old = true then (stand w v y).2 else decide (v = y)
def mixM (old : Bool) (W X Y : List GVal) (k : Nat) : List GVal := X.mapIdx fun j v => if j < k then mVal old (W.getD j v) v (Y.getD j v) else v
def mCB (old : Bool) (W X Y : List GVal) (j : Nat) : Bool := match X[j]? with | some v => !mFine old (W.getD j v) v (Y.getD j v) | none => false
def mClash (old : Bool) (W X Y : List GVal) (k : Nat) : List Int := ((List.range k).filter (mCB old W X Y)).map fun (j : Nat) => (j : Int)
theorem mixM_zero (old : Bool) (W X Y : List GVal) : mixM old W X Y 0 = X := by
  apply List.ext_getElem?
  intro j
  simp only [mixM, List.getElem?_mapIdx]
  cases X[j]? <;> simp
theorem mixM_len (old : Bool) (W X Y : List GVal) (k : Nat) : (mixM old W X Y k).length = X.length := by simp [mixM]
theorem mixM_get {old : Bool} {W X Y : List GVal} {k : Nat} {v : GVal} (h : X[k]? = some v) : (mixM old W X Y k)[k]? = some v := by
  simp [mixM, List.getElem?_mapIdx, h]
theorem mixM_set {old : Bool} {W X Y : List GVal} {k : Nat} {v w y : GVal} (h : X[k]? = some v) (hw : W.getD k v = w) (hy : Y.getD k v = y) : (mixM old W X Y k).set k (mVal old w v y) = mixM old W X Y (k + 1) := by
  apply List.ext_getElem?
  intro j
  rw [List.getElem?_set]
  simp only [mixM_len]
  have hlt := (List.getElem?_eq_some_iff.1 h).1
  by_cases e : k = j
  · subst e
    simp only [mixM, List.getElem?_mapIdx, h, hlt, if_true, Option.map_some, Nat.lt_succ_self, hw, hy]
  · rw [if_neg e]
    simp only [mixM, List.getElem?_mapIdx]
    cases X[j]? with
    | none => rfl
    | some u =>
      simp only [Option.map_some]
      by_cases h1 : j < k
      · rw [if_pos h1, if_pos (by omega)]
      · rw [if_neg h1, if_neg (by omega)]
theorem mixM_no {W X Y : List GVal} {k : Nat} : mixM false W X Y k = X := by
  apply List.ext_getElem?
  intro j
  simp only [mixM, List.getElem?_mapIdx, mVal]
  cases X[j]? <;> simp
theorem mixM_stay {old : Bool} {W X Y : List GVal} {k : Nat} (h : old = false) : mixM old W X Y (k + 1) = mixM old W X Y k := by subst h; rw [mixM_no, mixM_no]
theorem mClash_yes {old : Bool} {W X Y : List GVal} {k : Nat} {v w y : GVal} (h : X[k]? = some v) (hw : W.getD k v = w) (hy : Y.getD k v = y) (hf : mFine old w v y = false) : mClash old W X Y (k + 1) = mClash old W X Y k ++ [(k : Int)] := by
  have hc : mCB old W X Y k = true := by unfold mCB; rw [h]; simp only; rw [hw, hy, hf]; rfl
  unfold mClash
  rw [List.range_succ, List.filter_append, List.map_append, List.filter_cons_of_pos hc]
  rfl
theorem mClash_no {old : Bool} {W X Y : List GVal} {k : Nat} {v w y : GVal} (h : X[k]? = some v) (hw : W.getD k v = w) (hy : Y.getD k v = y) (hf : mFine old w v y = true) : mClash old W X Y (k + 1) = mClash old W X Y k := by
  have hc : ¬ mCB old W X Y k = true := by unfold mCB; rw [h]; simp only; rw [hw, hy, hf]; simp
  unfold mClash
  rw [List.range_succ, List.filter_append, List.map_append, List.filter_cons_of_neg hc]
  simp
theorem mClash_len (old : Bool) (W X Y : List GVal) (k : Nat) : (mClash old W X Y k).length ≤ k := by
  simp only [mClash, List.length_map]
  exact Nat.le_trans (List.length_filter_le _ _) (by simp)
def mObj (o a b : Graph) (id : Int) : GObj × List Int :=
  if hasId a id = false then (objD b id, []) else if hasId b id = false then (objD a id, [])
  else (⟨(objD a id).Id, (objD a id).T, mixM (hasId o id) (objD o id).F (objD a id).F (objD b id).F (objD a id).F.length⟩, mClash (hasId o id) (objD o id).F (objD a id).F (objD b id).F (objD a id).F.length)
structure MSz (o a b : Graph) (id : Int) : Prop where
  la : (objD a id).F.length ≤ 5
  lb : (objD b id).F.length ≤ 5
  ab : hasId a id = true → hasId b id = true → (objD b id).F.length = (objD a id).F.length
  ao : hasId a id = true → hasId o id = true → (objD o id).F.length = (objD a id).F.length
def adds (l xs : List Int) : List Int := xs.foldl (fun l x => if x ∈ l then l else l ++ [x]) l
theorem adds_snoc (l xs : List Int) (x : Int) : adds l (xs ++ [x]) = if x ∈ adds l xs then adds l xs else adds l xs ++ [x] := by unfold adds; rw [List.foldl_append]; rfl
theorem adds_take (l : List Int) {xs : List Int} {k : Nat} {x : Int} (h : xs[k]? = some x) : adds l (xs.take (k + 1)) = if x ∈ adds l (xs.take k) then adds l (xs.take k) else adds l (xs.take k) ++ [x] := by
  rw [List.take_add_one, h]
  exact adds_snoc l (xs.take k) x
theorem adds_len : ∀ (l xs : List Int), (adds l xs).length ≤ l.length + xs.length
  | l, [] => by simp [adds]
  | l, x :: xs => by
    have := adds_len (if x ∈ l then l else l ++ [x]) xs
    simp only [adds, List.foldl_cons, List.length_cons] at this ⊢
    split at this <;> rename_i h <;> simp only [h, if_true, if_false, List.length_append, List.length_singleton] at this ⊢ <;> omega
def mG (a b : Graph) : Nat → Graph
  | 0 => a
  | _ => b
def mL (a b : Graph) : Nat → List Int
  | 0 => []
  | 1 => adds [] (idsO a.O)
  | _ => adds (adds [] (idsO a.O)) (idsO b.O)
theorem mL_succ (a b : Graph) {i : Nat} (h : i < 2) : mL a b (i + 1) = adds (mL a b i) (idsO (mG a b i).O) := by
  rcases (show i = 0 ∨ i = 1 by omega) with rfl | rfl <;> rfl
def mEs (o a b : Graph) (l : List Int) : List (Int × AV) := l.map fun id => (id, AV.agg (eObj (mObj o a b id).1))
theorem maplk_mEs (o a b : Graph) (id : Int) : ∀ l : List Int, maplk (mEs o a b l) id = if id ∈ l then some (AV.agg (eObj (mObj o a b id).1)) else none
  | [] => by simp [mEs, maplk]
  | x :: l => by
    have ih := maplk_mEs o a b id l
    simp only [mEs] at ih
    simp only [mEs, List.map_cons, maplk, ih, List.mem_cons]
    by_cases e : x = id
    · subst e; simp
    · have e' : ¬ id = x := fun h => e h.symm
      simp [e, e']
def mSet (o a b : Graph) (l : List Int) : List (Int × Int) := l.flatMap fun id => (mObj o a b id).2.map fun k => (id, k)
theorem mSet_snoc (o a b : Graph) (l : List Int) (id : Int) : mSet o a b (l ++ [id]) = mSet o a b l ++ (mObj o a b id).2.map fun k => (id, k) := by simp [mSet]
theorem mEs_snoc (o a b : Graph) (l : List Int) (id : Int) : mEs o a b (l ++ [id]) = mEs o a b l ++ [(id, AV.agg (eObj (mObj o a b id).1))] := by simp [mEs]
theorem mObj_len {o a b : Graph} {id : Int} (h : MSz o a b id) : (mObj o a b id).2.length ≤ 5 := by
  unfold mObj
  split
  · simp
  · split
    · simp
    · exact Nat.le_trans (mClash_len _ _ _ _ _) h.la
theorem mSet_len {o a b : Graph} (h : ∀ id, MSz o a b id) : ∀ l : List Int, (mSet o a b l).length ≤ l.length * 5
  | [] => by simp [mSet]
  | x :: l => by
    have := mSet_len h l
    have h2 := mObj_len (h x)
    simp only [mSet, List.flatMap_cons, List.length_append, List.length_map, List.length_cons] at this ⊢
    omega
def mRoot (o a b : Graph) (i : Nat) : Int := (stand (rootAt o i) (rootAt a i) (rootAt b i)).1
def mRoots (o a b : Graph) (n : Nat) : List Int := (List.range n).map (mRoot o a b)
theorem mRoots_succ (o a b : Graph) (n : Nat) : mRoots o a b (n + 1) = mRoots o a b n ++ [mRoot o a b n] := by simp [mRoots, List.range_succ]
theorem mRoots_len (o a b : Graph) (n : Nat) : (mRoots o a b n).length = n := by simp [mRoots]
def mRC (o a b : Graph) (n : Nat) : List Int := ((List.range n).filter fun i => !(stand (rootAt o i) (rootAt a i) (rootAt b i)).2).map fun (i : Nat) => (i : Int)
theorem mRC_yes {o a b : Graph} {n : Nat} (h : (stand (rootAt o n) (rootAt a n) (rootAt b n)).2 = false) : mRC o a b (n + 1) = mRC o a b n ++ [(n : Int)] := by simp [mRC, List.range_succ, List.filter_append, h]
theorem mRC_no {o a b : Graph} {n : Nat} (h : (stand (rootAt o n) (rootAt a n) (rootAt b n)).2 = true) : mRC o a b (n + 1) = mRC o a b n := by simp [mRC, List.range_succ, List.filter_append, h]
theorem mRC_len (o a b : Graph) (n : Nat) : (mRC o a b n).length ≤ n := by
  simp only [mRC, List.length_map]
  exact Nat.le_trans (List.length_filter_le _ _) (by simp)
def mN (a b : Graph) : Nat := max a.Roots.length b.Roots.length
def mCh (o a b : Graph) : GChange := ⟨[], [], mSet o a b (mL a b 2), mRC o a b (mN a b)⟩
end Go.Ab
namespace Go.Ab
open Go Go.RowKit
def plk (os : List (Int × GObj)) (id : Int) : Option GObj := (os.find? fun p => decide (p.1 = id)).map (·.2)
def pEs (os : List (Int × GObj)) : List (Int × AV) := os.map fun p => (p.1, AV.agg (eObj p.2))
theorem maplk_pEs (os : List (Int × GObj)) (id : Int) : maplk (pEs os) id = (plk os id).map fun o => AV.agg (eObj o) := by
  induction os with
  | nil => rfl
  | cons p os ih =>
    simp only [pEs, plk] at ih
    simp only [pEs, plk, List.map_cons, maplk, List.find?_cons, ih]
    by_cases e : p.1 = id
    · subst e; simp
    · have e' : ¬ id = p.1 := fun h => e h.symm
      simp [e, e']
theorem plk_mem {os : List (Int × GObj)} {id : Int} {o : GObj} (h : plk os id = some o) : (id, o) ∈ os := by
  simp only [plk, Option.map_eq_some_iff] at h
  obtain ⟨p, h1, rfl⟩ := h
  have h2 := List.find?_some h1
  simp only [decide_eq_true_eq] at h2
  subst h2
  exact List.mem_of_find?_eq_some h1
def oM (out : List Int) : List (Int × AV) := out.map fun id => (id, AV.bool true)
theorem maplk_oM (id : Int) : ∀ out : List Int, maplk (oM out) id = if id ∈ out then some (AV.bool true) else none
  | [] => by simp [oM, maplk]
  | x :: l => by
    have ih := maplk_oM id l
    simp only [oM] at ih
    simp only [oM, List.map_cons, maplk, ih, List.mem_cons]
    by_cases e : x = id
    · subst e; simp
    · have e' : ¬ id = x := fun h => e h.symm
      simp [e']
theorem oM_snoc (out : List Int) (id : Int) : oM (out ++ [id]) = oM out ++ [(id, AV.bool true)] := by simp [oM]
def refsP (S : List GType) (o : GObj) : List Int := match typeAt S o.T with
  | some t => refsZ (t.F.zip o.F)
  | none => []
theorem refsZ_len (z : List (GField × GVal)) : (refsZ z).length ≤ z.length := List.length_filterMap_le _ _
theorem refsZ_yes {z : List (GField × GVal)} {k : Nat} {f : GField} {v : GVal} (h : z[k]? = some (f, v)) (hk : f.Kind = 5) : refsZ (z.take (k + 1)) = refsZ (z.take k) ++ [v.R] := by
  rw [List.take_add_one, h]
  simp [refsZ, hk]
def oCells : Option GObj → List AV
  | some o => eObj o
  | none => [.undef, .undef, .undef]
theorem SubL_oCells (n : Nat) (q : Option GObj) : SubL (fun x => x) n (oCells q) (oCells q) = True := SubL_refl (by cases q <;> simp [oCells, eObj, pureL, AV.pure])
attribute [go_sem] SubL_oCells
theorem cellsI (l : List Int) : ∀ r ∈ l.map eI, ∀ a ∈ r, a.cell = true := by
  intro r hr a ha
  obtain ⟨z, _, rfl⟩ := List.mem_map.1 hr
  simp [eI] at ha; subst ha; rfl
inductive CReach (S : List GType) (os : List (Int × GObj)) (roots : List Int) : Int → Prop
  | root {r : Int} : r ∈ roots → CReach S os roots r
  | ref {id r : Int} {o : GObj} : CReach S os roots id → plk os id = some o → r ∈ refsP S o → CReach S os roots r
structure CInv (S : List GType) (os : List (Int × GObj)) (roots out q : List Int) : Prop where
  nd : out.Nodup
  mem : ∀ id ∈ out, ∃ o, plk os id = some o
  rt : ∀ r ∈ roots, r ∈ out ∨ r ∈ q ∨ plk os r = none
  cl : ∀ id ∈ out, ∀ o, plk os id = some o → ∀ r ∈ refsP S o, r ∈ out ∨ r ∈ q ∨ plk os r = none
  snd : ∀ id, id ∈ out ∨ id ∈ q → CReach S os roots id
theorem CInv.start (S : List GType) (os : List (Int × GObj)) (roots : List Int) : CInv S os roots [] roots :=
  ⟨List.nodup_nil, fun id h => (by cases h), fun r h => .inr (.inl h), fun id h => (by cases h), fun id h => h.elim (fun h => (by cases h)) .root⟩
theorem CInv.skip {S : List GType} {os : List (Int × GObj)} {roots out q : List Int} {id : Int} (h : CInv S os roots out (id :: q)) (hs : plk os id = none ∨ id ∈ out) : CInv S os roots out q := by
  have key : ∀ r, r ∈ out ∨ r ∈ id :: q ∨ plk os r = none → r ∈ out ∨ r ∈ q ∨ plk os r = none := by
    intro r hr
    rcases hr with hr | hr | hr
    · exact .inl hr
    · rcases List.mem_cons.1 hr with rfl | hr
      · rcases hs with hs | hs
        · exact .inr (.inr hs)
        · exact .inl hs
      · exact .inr (.inl hr)
    · exact .inr (.inr hr)
  exact ⟨h.nd, h.mem, fun r hr => key r (h.rt r hr), fun i hi o ho r hr => key r (h.cl i hi o ho r hr), fun i hi => h.snd i (hi.imp (fun h => h) (List.mem_cons_of_mem _))⟩
theorem CInv.step {S : List GType} {os : List (Int × GObj)} {roots out q : List Int} {id : Int} {o : GObj} (h : CInv S os roots out (id :: q)) (ho : plk os id = some o) (hn : id ∉ out) : CInv S os roots (out ++ [id]) (q ++ refsP S o) := by
  have key : ∀ r, r ∈ out ∨ r ∈ id :: q ∨ plk os r = none → r ∈ out ++ [id] ∨ r ∈ q ++ refsP S o ∨ plk os r = none := by
    intro r hr
    rcases hr with hr | hr | hr
    · exact .inl (List.mem_append_left _ hr)
    · rcases List.mem_cons.1 hr with rfl | hr
      · exact .inl (by simp)
      · exact .inr (.inl (List.mem_append_left _ hr))
    · exact .inr (.inr hr)
  have hid : CReach S os roots id := h.snd id (.inr (List.mem_cons_self))
  refine ⟨?_, fun i hi => ?_, fun r hr => key r (h.rt r hr), fun i hi o' ho' r hr => ?_, fun i hi => ?_⟩
  · rw [List.nodup_append]
    exact ⟨h.nd, by simp, fun a ha b hb e => by simp at hb; subst e; subst hb; exact hn ha⟩
  · rcases List.mem_append.1 hi with hi | hi
    · exact h.mem i hi
    · simp at hi; subst hi; exact ⟨o, ho⟩
  · rcases List.mem_append.1 hi with hi | hi
    · exact key r (h.cl i hi o' ho' r hr)
    · simp at hi; subst hi
      rw [ho] at ho'; cases ho'
      exact .inr (.inl (List.mem_append_right _ hr))
  · rcases hi with hi | hi
    · rcases List.mem_append.1 hi with hi | hi
      · exact h.snd i (.inl hi)
      · simp at hi; subst hi; exact hid
    · rcases List.mem_append.1 hi with hi | hi
      · exact h.snd i (.inr (List.mem_cons_of_mem _ hi))
      · exact .ref hid ho hi
theorem CInv.len {S : List GType} {os : List (Int × GObj)} {roots out q : List Int} (h : CInv S os roots out q) : out.length ≤ os.length := by
  have := nodup_len out (os.map (·.1)) h.nd fun x hx => by
    obtain ⟨o, ho⟩ := h.mem x hx
    exact List.mem_map.2 ⟨_, plk_mem ho, rfl⟩
  simpa using this
theorem CInv.done {S : List GType} {os : List (Int × GObj)} {roots out : List Int} (h : CInv S os roots out []) (id : Int) : id ∈ out ↔ CReach S os roots id ∧ (plk os id).isSome = true := by
  constructor
  · intro hi
    obtain ⟨o, ho⟩ := h.mem id hi
    exact ⟨h.snd id (.inl hi), by rw [ho]; rfl⟩
  · rintro ⟨hr, hs⟩
    have key : ∀ r, r ∈ out ∨ r ∈ ([] : List Int) ∨ plk os r = none → (plk os r).isSome = true → r ∈ out := by
      intro r hr hs
      rcases hr with hr | hr | hr
      · exact hr
      · cases hr
      · rw [hr] at hs; cases hs
    induction hr with
    | root h1 => exact key _ (h.rt _ h1) hs
    | ref h1 h2 h3 ih => exact key _ (h.cl _ (ih (by rw [h2]; rfl)) _ h2 _ h3) hs
structure POK (S : List GType) (os : List (Int × GObj)) : Prop where
  len : os.length ≤ 16
  ty : ∀ id o, (id, o) ∈ os → ∃ (t : GType) (n : Nat), o.T = n ∧ S[n]? = some t ∧ o.F.length = t.F.length ∧ t.F.length ≤ 5
theorem refsP_of {S : List GType} {o : GObj} {n : Nat} {t : GType} (h1 : o.T = n) (h2 : S[n]? = some t) : refsP S o = refsZ (t.F.zip o.F) := by
  unfold refsP typeAt
  simp [h1, h2]
end Go.Ab
namespace Go.Ab
open Go Go.RowKit
def UpToO (m : List GObj) (i : Nat) : Prop := ∀ (p q : Nat) (x y : GObj), p < q → q < i → m[p]? = some x → m[q]? = some y → x.Id ≤ y.Id
def InsO (m : List GObj) (i j : Nat) : Prop := ∀ (p q : Nat) (x y : GObj), p < q → q ≤ i → q ≠ j → m[p]? = some x → m[q]? = some y → x.Id ≤ y.Id
def lessAtO (m : List GObj) : Nat → Bool
  | 0 => false
  | k + 1 => match m[k]?, m[k + 1]? with
    | some a, some b => decide (b.Id < a.Id)
    | _, _ => false
def swpO (m : List GObj) (j : Nat) (a b : GObj) : List GObj := (m.set (j + 1) a).set j b
theorem InsO.start {m : List GObj} {i : Nat} (h : UpToO m i) : InsO m i i := fun p q x y h1 h2 h3 h4 h5 => h p q x y h1 (by omega) h4 h5
theorem lessAt_trueO {m : List GObj} {j : Nat} (h : lessAtO m j = true) : ∃ (k : Nat) (a b : GObj), j = k + 1 ∧ m[k]? = some a ∧ m[k + 1]? = some b ∧ b.Id < a.Id := by
  cases j with
  | zero => cases h
  | succ k =>
    simp only [lessAtO] at h
    split at h
    · rename_i a b h1 h2
      exact ⟨k, a, b, rfl, h1, h2, by simpa using h⟩
    · cases h
theorem lessAt_falseO {m : List GObj} {i j : Nat} (h : lessAtO m j = false) (hi : InsO m i j) (hj : j ≤ i) (hl : i < m.length) : UpToO m (i + 1) := by
  intro p q x y h1 h2 h3 h4
  by_cases e : q = j
  · subst e
    cases q with
    | zero => omega
    | succ k =>
      simp only [lessAtO] at h
      have hk : m[k]? = some m[k] := List.getElem?_eq_getElem (by omega)
      rw [hk, h4] at h
      simp only [decide_eq_false_iff_not] at h
      by_cases e2 : p = k
      · subst e2; rw [h3] at hk; cases hk; omega
      · have := hi p k x m[k] (by omega) (by omega) (by omega) h3 hk
        omega
  · exact hi p q x y h1 (by omega) e h3 h4
theorem swp_getO {m : List GObj} {j : Nat} {a b : GObj} (h : j + 1 < m.length) (p : Nat) : (swpO m j a b)[p]? = if p = j then some b else if p = j + 1 then some a else m[p]? := by
  unfold swpO
  by_cases h1 : p = j
  · subst h1; rw [if_pos rfl, List.getElem?_set_self (by simp; omega)]
  · rw [if_neg h1, List.getElem?_set_ne (fun e => h1 e.symm)]
    by_cases h2 : p = j + 1
    · subst h2; rw [if_pos rfl, List.getElem?_set_self h]
    · rw [if_neg h2, List.getElem?_set_ne (fun e => h2 e.symm)]
theorem InsO.step {m : List GObj} {i j : Nat} {a b : GObj} (h : InsO m i (j + 1)) (hj : j + 1 ≤ i) (ha : m[j]? = some a) (hb : m[j + 1]? = some b) (hab : b.Id < a.Id) : InsO (swpO m j a b) i j := by
  have hl := (List.getElem?_eq_some_iff.1 hb).1
  intro p q x y h1 h2 h3 h4 h5
  rw [swp_getO hl] at h4 h5
  rw [if_neg h3] at h5
  by_cases e1 : q = j + 1
  · subst e1
    rw [if_pos rfl] at h5; cases h5
    by_cases e2 : p = j
    · subst e2; rw [if_pos rfl] at h4; cases h4; omega
    · rw [if_neg e2, if_neg (by omega)] at h4
      exact h p j x a (by omega) (by omega) (by omega) h4 ha
  · rw [if_neg e1] at h5
    by_cases e2 : p = j
    · subst e2; rw [if_pos rfl] at h4; cases h4
      exact h (p + 1) q b y (by omega) h2 e1 hb h5
    · rw [if_neg e2] at h4
      by_cases e3 : p = j + 1
      · subst e3; rw [if_pos rfl] at h4; cases h4
        exact h j q a y (by omega) h2 e1 ha h5
      · rw [if_neg e3] at h4
        exact h p q x y h1 h2 e1 h4 h5
theorem swp_permO {m : List GObj} {j : Nat} {a b : GObj} (ha : m[j]? = some a) (hb : m[j + 1]? = some b) : (swpO m j a b).Perm m := by
  induction m generalizing j with
  | nil => simp at ha
  | cons x m ih =>
    cases j with
    | zero =>
      cases m with
      | nil => simp at hb
      | cons y m =>
        simp at ha hb; subst ha hb
        simp only [swpO, Nat.zero_add, List.set_cons_succ, List.set_cons_zero]
        exact List.Perm.swap _ _ _
    | succ j =>
      simp only [List.getElem?_cons_succ] at ha hb
      have := ih ha hb
      simp only [swpO, List.set_cons_succ] at this ⊢
      exact this.cons x
theorem upTo_pairwiseO {m : List GObj} (h : ∀ (p q : Nat) (x y : GObj), p < q → q < m.length → m[p]? = some x → m[q]? = some y → x.Id ≤ y.Id) : m.Pairwise (fun x y => x.Id ≤ y.Id) := by
  rw [List.pairwise_iff_getElem]
  intro i j hi hj hij
  exact h i j m[i] m[j] hij hj (List.getElem?_eq_getElem hi) (List.getElem?_eq_getElem hj)
def SortedO (l m : List GObj) : Prop := m.Pairwise (fun x y => x.Id ≤ y.Id) ∧ m.Perm l
theorem set_O (l : List GObj) (i : Nat) (x : GObj) : (l.map eObj).set i [.int .i64 x.Id, .int .i64 x.T, .sl 3 (x.F.map eVal)] = (l.set i x).map eObj := by rw [List.map_set]; rfl
theorem ex_func2 {m : Nat → Nat} {n : Nat} : (∃ x' y' : List AV, (x' = [] ∧ y' = []) ∧ SubL m n [] x' ∧ SubL m n [] y') = True := eq_true ⟨[], [], ⟨rfl, rfl⟩, trivial, trivial⟩
attribute [go_sem] ex_func2
end Go.Ab
namespace Go.Ab
open Go Go.RowKit
def mOs (o a b : Graph) (l : List Int) : List (Int × GObj) := l.map fun id => (id, (mObj o a b id).1)
theorem mEs_eq (o a b : Graph) (l : List Int) : mEs o a b l = pEs (mOs o a b l) := by simp [mEs, pEs, mOs]
theorem adds_nodup : ∀ (xs : List Int) {l : List Int}, l.Nodup → (adds l xs).Nodup
  | [], l, h => h
  | x :: xs, l, h => by
    simp only [adds, List.foldl_cons]
    refine adds_nodup xs ?_
    split
    · exact h
    · rename_i hx
      rw [List.nodup_append]
      exact ⟨h, by simp, fun a ha b hb e => by simp at hb; subst e; subst hb; exact hx ha⟩
theorem mL_nodup (a b : Graph) : (mL a b 2).Nodup := adds_nodup _ (adds_nodup _ List.nodup_nil)
theorem mOs_keys (o a b : Graph) (l : List Int) : (mOs o a b l).map (·.1) = l := by
  unfold mOs
  rw [List.map_map]
  exact List.map_id' l
def pdel : List (Int × GObj) → Int → List (Int × GObj)
  | [], _ => []
  | p :: l, k => if k = p.1 then l else p :: pdel l k
theorem pEs_pdel (k : Int) : ∀ l : List (Int × GObj), pEs (pdel l k) = mapdel (pEs l) k
  | [] => rfl
  | p :: l => by
    have ih := pEs_pdel k l
    simp only [pEs] at ih
    simp only [pdel, pEs, List.map_cons, mapdel]
    split
    · rfl
    · simp only [List.map_cons, ih]
theorem pdel_mem {k : Int} : ∀ {l : List (Int × GObj)}, (l.map (·.1)).Nodup → ∀ p, p ∈ pdel l k ↔ p ∈ l ∧ p.1 ≠ k
  | [], _, p => by simp [pdel]
  | q :: l, h, p => by
    simp only [List.map_cons, List.nodup_cons] at h
    simp only [pdel]
    split
    · rename_i e
      constructor
      · intro hp
        exact ⟨List.mem_cons_of_mem _ hp, fun e2 => h.1 (by rw [← e, ← e2]; exact List.mem_map_of_mem hp)⟩
      · rintro ⟨hp, hne⟩
        rcases List.mem_cons.1 hp with rfl | hp
        · exact absurd e.symm hne
        · exact hp
    · rename_i e
      rw [List.mem_cons, pdel_mem h.2, List.mem_cons]
      constructor
      · rintro (rfl | ⟨h1, h2⟩)
        · exact ⟨.inl rfl, fun h => e h.symm⟩
        · exact ⟨.inr h1, h2⟩
      · rintro ⟨rfl | h1, h2⟩
        · exact .inl rfl
        · exact .inr ⟨h1, h2⟩
theorem pdel_sub (k : Int) : ∀ l : List (Int × GObj), (pdel l k).Sublist l
  | [] => List.Sublist.refl _
  | p :: l => by
    simp only [pdel]
    split
    · exact List.sublist_cons_self _ _
    · exact (pdel_sub k l).cons_cons _
theorem nodup_of_map {α β : Type} {f : α → β} : ∀ {l : List α}, (l.map f).Nodup → l.Nodup
  | [], _ => List.nodup_nil
  | x :: l, h => by
    simp only [List.map_cons, List.nodup_cons] at h
    exact List.nodup_cons.2 ⟨fun hx => h.1 (List.mem_map_of_mem hx), nodup_of_map h.2⟩
structure FInv (l0 : List (Int × GObj)) (out : List Int) (x : List (Int × GObj) × (Int → Bool)) : Prop where
  sub : x.1.Sublist l0
  mem : ∀ p ∈ l0, p ∈ x.1 ↔ ¬ (x.2 p.1 = true ∧ p.1 ∉ out)
theorem FInv.start (l0 : List (Int × GObj)) (out : List Int) : FInv l0 out (l0, fun _ => false) := ⟨List.Sublist.refl _, fun p hp => by simp [hp]⟩
theorem FInv.keep {l0 : List (Int × GObj)} {out : List Int} {x : List (Int × GObj) × (Int → Bool)} (h : FInv l0 out x) {k : Int} (hk : k ∈ out) : FInv l0 out (x.1, fun q => x.2 q || decide (q = k)) := by
  refine ⟨h.sub, fun p hp => ?_⟩
  rw [h.mem p hp]
  simp only [Bool.or_eq_true, decide_eq_true_eq]
  constructor
  · rintro h1 ⟨h2 | h2, h3⟩
    · exact h1 ⟨h2, h3⟩
    · exact h3 (h2 ▸ hk)
  · rintro h1 ⟨h2, h3⟩; exact h1 ⟨.inl h2, h3⟩
theorem FInv.del {l0 : List (Int × GObj)} {out : List Int} {x : List (Int × GObj) × (Int → Bool)} (hn : (l0.map (·.1)).Nodup) (h : FInv l0 out x) {k : Int} (hk : k ∉ out) : FInv l0 out (pdel x.1 k, fun q => x.2 q || decide (q = k)) := by
  have hx : (x.1.map (·.1)).Nodup := (h.sub.map _).nodup hn
  refine ⟨(pdel_sub k _).trans h.sub, fun p hp => ?_⟩
  rw [pdel_mem hx, h.mem p hp]
  simp only [Bool.or_eq_true, decide_eq_true_eq]
  constructor
  · rintro ⟨h1, h4⟩ ⟨h2 | h2, h3⟩
    · exact h1 ⟨h2, h3⟩
    · exact h4 h2
  · intro h1
    exact ⟨fun ⟨h2, h3⟩ => h1 ⟨.inl h2, h3⟩, fun e => h1 ⟨.inr e, e ▸ hk⟩⟩
theorem FInv.done {l0 : List (Int × GObj)} {out : List Int} {x : List (Int × GObj) × (Int → Bool)} (hn : (l0.map (·.1)).Nodup) (h : FInv l0 out x) (hd : ∀ p ∈ x.1, x.2 p.1 = true) : x.1 = l0.filter fun p => decide (p.1 ∈ out) := by
  have hm : ∀ p, p ∈ x.1 ↔ p ∈ l0 ∧ p.1 ∈ out := by
    intro p
    constructor
    · intro hp
      have h0 := h.sub.subset hp
      refine ⟨h0, Classical.byContradiction fun hc => (h.mem p h0).1 hp ⟨hd p hp, hc⟩⟩
    · rintro ⟨h0, h1⟩; exact (h.mem p h0).2 fun hc => hc.2 h1
  have hnd : l0.Nodup := nodup_of_map hn
  have key : ∀ {x l : List (Int × GObj)}, x.Sublist l → l.Nodup → (∀ p, p ∈ x ↔ p ∈ l ∧ p.1 ∈ out) → x = l.filter fun p => decide (p.1 ∈ out) := by
    intro x l hs
    induction hs with
    | slnil => intro _ _; rfl
    | @cons x l p hs ih =>
      intro hn hm
      rw [List.nodup_cons] at hn
      have hp : ¬ p.1 ∈ out := fun hp => hn.1 (hs.subset ((hm p).2 ⟨List.mem_cons_self, hp⟩))
      rw [List.filter_cons_of_neg (by simpa using hp)]
      exact ih hn.2 fun q => ⟨fun hq => ⟨hs.subset hq, ((hm q).1 hq).2⟩, fun ⟨hq, ho⟩ => (hm q).2 ⟨List.mem_cons_of_mem _ hq, ho⟩⟩
    | @cons_cons x l p hs ih =>
      intro hn hm
      rw [List.nodup_cons] at hn
      have hp : p.1 ∈ out := ((hm p).1 List.mem_cons_self).2
      rw [List.filter_cons_of_pos (by simpa using hp)]
      congr 1
      refine ih hn.2 fun q => ⟨fun hq => ⟨hs.subset hq, ((hm q).1 (List.mem_cons_of_mem _ hq)).2⟩, fun ⟨hq, ho⟩ => ?_⟩
      rcases List.mem_cons.1 ((hm q).2 ⟨List.mem_cons_of_mem _ hq, ho⟩) with rfl | h
      · exact absurd hq hn.1
      · exact h
  exact key h.sub hnd hm
def took (l : List (Int × GObj)) (d : Int → Bool) : List GObj := (l.filter fun p => d p.1).map (·.2)
theorem took_step {l : List (Int × GObj)} (hn : (l.map (·.1)).Nodup) {d : Int → Bool} {i : Nat} {k : Int} {o : GObj} (hi : l[i]? = some (k, o)) (hd : d k = false) : (took l fun q => d q || decide (q = k)).Perm (took l d ++ [o]) := by
  induction l generalizing i with
  | nil => simp at hi
  | cons p l ih =>
    simp only [List.map_cons, List.nodup_cons] at hn
    cases i with
    | zero =>
      simp at hi; subst hi
      have e : (l.filter fun p => d p.1 || decide (p.1 = k)) = l.filter fun p => d p.1 := by
        refine List.filter_congr fun p hp => ?_
        have : p.1 ≠ k := fun e => by
          have h9 := List.mem_map_of_mem (f := fun x : Int × GObj => x.1) hp
          simp only [e] at h9
          exact hn.1 h9
        simp [this]
      have e2 : took ((k, o) :: l) (fun q => d q || decide (q = k)) = o :: took l d := by
        simp only [took]
        rw [List.filter_cons_of_pos (by simp), List.map_cons, e]
      have e3 : took ((k, o) :: l) d = took l d := by
        simp only [took]
        rw [List.filter_cons_of_neg (by simp [hd])]
      rw [e2, e3]
      exact (List.perm_append_singleton o _).symm
    | succ i =>
      simp only [List.getElem?_cons_succ] at hi
      have hne : p.1 ≠ k := fun e => hn.1 (by rw [e]; exact List.mem_map.2 ⟨_, List.mem_of_getElem? hi, rfl⟩)
      have := ih hn.2 hi
      cases hp : d p.1 with
      | true =>
        have e2 : took (p :: l) (fun q => d q || decide (q = k)) = p.2 :: took l (fun q => d q || decide (q = k)) := by
          simp only [took]; rw [List.filter_cons_of_pos (by simp [hp]), List.map_cons]
        have e3 : took (p :: l) d = p.2 :: took l d := by
          simp only [took]; rw [List.filter_cons_of_pos (by simp [hp]), List.map_cons]
        rw [e2, e3]
        exact this.cons _
      | false =>
        have e2 : took (p :: l) (fun q => d q || decide (q = k)) = took l (fun q => d q || decide (q = k)) := by
          simp only [took]; rw [List.filter_cons_of_neg (by simp [hp, hne])]
        have e3 : took (p :: l) d = took l d := by
          simp only [took]; rw [List.filter_cons_of_neg (by simp [hp])]
        rw [e2, e3]
        exact this
theorem took_none (l : List (Int × GObj)) : took l (fun _ => false) = [] := by simp [took]
theorem took_all {l : List (Int × GObj)} {d : Int → Bool} (h : ∀ p ∈ l, d p.1 = true) : took l d = l.map (·.2) := by
  unfold took
  rw [List.filter_eq_self.2 fun p hp => h p hp]
theorem took_len (l : List (Int × GObj)) (d : Int → Bool) : (took l d).length ≤ l.length := by
  simp only [took, List.length_map]; exact List.length_filter_le _ _
theorem pEs_get {l : List (Int × GObj)} {i : Nat} {k : Int} {v : AV} (h : (pEs l)[i]? = some (k, v)) : ∃ o, l[i]? = some (k, o) ∧ v = AV.agg (eObj o) := by
  simp only [pEs, List.getElem?_map, Option.map_eq_some_iff] at h
  obtain ⟨p, h1, h2⟩ := h
  cases h2
  exact ⟨p.2, h1, rfl⟩
theorem pEs_nd {l : List (Int × GObj)} (hn : (l.map (·.1)).Nodup) (i j : Nat) (p q : Int × AV) (hi : (pEs l)[i]? = some p) (hj : (pEs l)[j]? = some q) (e : p.1 = q.1) : i = j := by
  obtain ⟨o1, h1, _⟩ := pEs_get (k := p.1) (v := p.2) hi
  obtain ⟨o2, h2, _⟩ := pEs_get (k := q.1) (v := q.2) hj
  have h3 : (l.map (·.1))[i]? = some p.1 := by rw [List.getElem?_map, h1]; rfl
  have h4 : (l.map (·.1))[j]? = some p.1 := by rw [List.getElem?_map, h2, e]; rfl
  exact (List.getElem?_inj (List.getElem?_eq_some_iff.1 h3).1 hn).1 (h3.trans h4.symm)
theorem pEs_len (l : List (Int × GObj)) : (pEs l).length = l.length := by simp [pEs]
open Classical in
noncomputable def mLive (o a b : Graph) : List (Int × GObj) := (mOs o a b (mL a b 2)).filter fun p => decide (CReach a.S (mOs o a b (mL a b 2)) (mRoots o a b (mN a b)) p.1)
def sortO (l : List GObj) : List GObj := l.mergeSort fun x y => decide (x.Id ≤ y.Id)
theorem sortO_sorted (l : List GObj) : SortedO l (sortO l) := by
  refine ⟨?_, List.mergeSort_perm _ _⟩
  have := List.pairwise_mergeSort (le := fun x y : GObj => decide (x.Id ≤ y.Id)) (fun a b c h1 h2 => by simp at h1 h2 ⊢; omega) (fun a b => by simp; omega) l
  exact this.imp fun h => by simpa using h
theorem sortedO_eq {l m : List GObj} (h : SortedO l m) (hn : ∀ x ∈ l, ∀ y ∈ l, x.Id = y.Id → x = y) : m = sortO l := by
  have h2 := sortO_sorted l
  refine (h.2.trans h2.2.symm).eq_of_pairwise (le := fun x y : GObj => x.Id ≤ y.Id) (fun x y hx hy h1 h2 => ?_) h.1 h2.1
  exact hn x (h.2.subset hx) y (by first | exact h.2.subset hy | exact (sortO_sorted l).2.subset hy) (by omega)
noncomputable def gMerge (o a b : Graph) : Graph × GChange × Int :=
  if gCheck o a b ≠ 0 then (⟨[], [], []⟩, noChange, gCheck o a b) else if gNone (mCh o a b) = false then (⟨[], [], []⟩, mCh o a b, 10)
  else if 8 < (mLive o a b).length then (⟨[], [], []⟩, noChange, 8) else (⟨a.S, sortO ((mLive o a b).map (·.2)), mRoots o a b (mN a b)⟩, noChange, 0)
theorem mLive_sub (o a b : Graph) : (mLive o a b).Sublist (mOs o a b (mL a b 2)) := List.filter_sublist
theorem mLive_keys (o a b : Graph) : ((mLive o a b).map (·.1)).Nodup := ((mLive_sub o a b).map _).nodup (by rw [mOs_keys]; exact mL_nodup a b)
structure MOK (o a b : Graph) : Prop where
  sz : ∀ id, MSz o a b id
  ao : a.O.length ≤ 8
  bo : b.O.length ≤ 8
  ar : a.Roots.length ≤ 3
  br : b.Roots.length ≤ 3
  sc : a.S.length ≤ 4 ∧ ∀ t ∈ a.S, t.F.length ≤ 5
  pok : POK a.S (mOs o a b (mL a b 2))
  ids : ∀ p ∈ mOs o a b (mL a b 2), p.2.Id = p.1 ∧ 0 ≤ p.1 ∧ p.1 ≤ 1073741824
open Classical in
theorem mLive_of {o a b : Graph} {out : List Int} (h : CInv a.S (mOs o a b (mL a b 2)) (mRoots o a b (mN a b)) out []) : (mOs o a b (mL a b 2)).filter (fun p => decide (p.1 ∈ out)) = mLive o a b := by
  unfold mLive
  refine List.filter_congr fun p hp => ?_
  have hs : (plk (mOs o a b (mL a b 2)) p.1).isSome = true := by
    simp only [plk, Option.isSome_map]
    rw [List.find?_isSome]
    exact ⟨p, hp, by simp⟩
  have := h.done p.1
  by_cases hc : CReach a.S (mOs o a b (mL a b 2)) (mRoots o a b (mN a b)) p.1
  · simp [hc, this.2 ⟨hc, hs⟩]
  · have h9 : ¬ p.1 ∈ out := fun h1 => hc (this.1 h1).1
    simp [hc, h9]
theorem MOK.live {o a b : Graph} (h : MOK o a b) {x : GObj} (hx : x ∈ (mLive o a b).map (·.2)) : 0 ≤ x.Id ∧ x.Id ≤ 1073741824 := by
  obtain ⟨p, hp, rfl⟩ := List.mem_map.1 hx
  have := h.ids p ((mLive_sub o a b).subset hp)
  omega
theorem MOK.sorted {o a b : Graph} (h : MOK o a b) {l m : List GObj} (hp : l.Perm ((mLive o a b).map (·.2))) (hs : SortedO l m) : m = sortO ((mLive o a b).map (·.2)) := by
  refine sortedO_eq ⟨hs.1, hs.2.trans hp⟩ fun x hx y hy e => ?_
  obtain ⟨p, hp, rfl⟩ := List.mem_map.1 hx
  obtain ⟨q, hq, rfl⟩ := List.mem_map.1 hy
  have e1 := (h.ids p ((mLive_sub o a b).subset hp)).1
  have e2 := (h.ids q ((mLive_sub o a b).subset hq)).1
  have e3 : p.1 = q.1 := by omega
  obtain ⟨i, hi⟩ := List.getElem?_of_mem hp
  obtain ⟨j, hj⟩ := List.getElem?_of_mem hq
  have h3 : ((mLive o a b).map (·.1))[i]? = some p.1 := by rw [List.getElem?_map, hi]; rfl
  have h4 : ((mLive o a b).map (·.1))[j]? = some p.1 := by rw [List.getElem?_map, hj, e3]; rfl
  have := (List.getElem?_inj (List.getElem?_eq_some_iff.1 h3).1 (mLive_keys o a b)).1 (h3.trans h4.symm)
  subst this
  rw [hi] at hj; cases hj; rfl
end Go.Ab
namespace Go.Ab
open Go Go.RowKit
structure M3 (o a b : Graph) : Prop where
  mo : May o
  ma : May a
  mb : May b
  Sa : o.S = a.S
  Sb : b.S = a.S
  Toa : ∀ x ∈ o.O, ∀ y ∈ a.O, x.Id = y.Id → x.T = y.T
  Tab : ∀ x ∈ a.O, ∀ y ∈ b.O, x.Id = y.Id → x.T = y.T
  Tob : ∀ x ∈ o.O, ∀ y ∈ b.O, x.Id = y.Id → x.T = y.T
  ra : o.Roots.length ≤ a.Roots.length
  rb : o.Roots.length ≤ b.Roots.length
theorem dBad_no {o a : Graph} (ho : May o) (ha : May a) : dBad a o.O = false ↔ ∀ x ∈ o.O, ∀ y ∈ a.O, x.Id = y.Id → x.T = y.T := by
  constructor
  · intro h x hx y hy e; exact dBad_T ho ha h hx hy e
  · intro h
    cases hb : dBad a o.O with
    | false => rfl
    | true =>
      obtain ⟨x, hx, y, hy, e, hne⟩ := (dBad_iff ho ha).1 hb
      exact absurd (h x hx y hy e) hne
theorem gDiff_code {o a : Graph} (ho : May o) (ha : May a) : ((gDiff o a).2 = 0 ∧ o.S = a.S ∧ dBad a o.O = false) ∨ ((gDiff o a).2 = 6 ∧ ¬ (o.S = a.S ∧ dBad a o.O = false)) := by
  have hm : (gMay o && gMay a) = true := by rw [(may_iff o).2 ho, (may_iff a).2 ha]; rfl
  by_cases hS : o.S = a.S
  · cases hb : dBad a o.O with
    | false => left; rw [gDiff_ok hm hS hb]; exact ⟨rfl, hS, rfl⟩
    | true => right; rw [gDiff_T hm hS hb]; exact ⟨rfl, fun h => by cases h.2⟩
  · right; rw [gDiff_S hm hS]; exact ⟨rfl, fun h => hS h.1⟩
theorem gCheck_cases (o a b : Graph) : (gCheck o a b = 1 ∧ ¬ (May o ∧ May a ∧ May b)) ∨ (gCheck o a b = 0 ∧ M3 o a b) ∨ (gCheck o a b = 6 ∧ (May o ∧ May a ∧ May b) ∧ ¬ M3 o a b) := by
  by_cases hm : May o ∧ May a ∧ May b
  · obtain ⟨ho, ha, hb⟩ := hm
    have h1 : ¬ ((gMay o && gMay a) && gMay b) = false := by rw [(may_iff o).2 ho, (may_iff a).2 ha, (may_iff b).2 hb]; simp
    right
    unfold gCheck
    rw [if_neg h1]
    rcases gDiff_code ho ha with ⟨e1, s1, b1⟩ | ⟨e1, n1⟩
    · rw [if_neg (by simp [e1])]
      rcases gDiff_code ha hb with ⟨e2, s2, b2⟩ | ⟨e2, n2⟩
      · rw [if_neg (by simp [e2])]
        rcases gDiff_code ho hb with ⟨e3, s3, b3⟩ | ⟨e3, n3⟩
        · rw [if_neg (by simp [e3])]
          by_cases hr : min a.Roots.length b.Roots.length < o.Roots.length
          · rw [if_pos hr]; right; exact ⟨rfl, ⟨ho, ha, hb⟩, fun h => by have := h.ra; have := h.rb; omega⟩
          · rw [if_neg hr]; left
            exact ⟨rfl, ho, ha, hb, s1, s2.symm, (dBad_no ho ha).1 b1, (dBad_no ha hb).1 b2, (dBad_no ho hb).1 b3, by omega, by omega⟩
        · rw [if_pos (by simp [e3]), e3]; right
          exact ⟨rfl, ⟨ho, ha, hb⟩, fun h => n3 ⟨h.Sa.trans h.Sb.symm, (dBad_no ho hb).2 h.Tob⟩⟩
      · rw [if_pos (by simp [e2]), e2]; right
        exact ⟨rfl, ⟨ho, ha, hb⟩, fun h => n2 ⟨h.Sb.symm, (dBad_no ha hb).2 h.Tab⟩⟩
    · rw [if_pos (by simp [e1]), e1]; right
      exact ⟨rfl, ⟨ho, ha, hb⟩, fun h => n1 ⟨h.Sa, (dBad_no ho ha).2 h.Toa⟩⟩
  · left
    refine ⟨?_, hm⟩
    have h1 : ((gMay o && gMay a) && gMay b) = false := by
      cases h : ((gMay o && gMay a) && gMay b) with
      | false => rfl
      | true =>
        simp only [Bool.and_eq_true] at h
        exact absurd ⟨(may_iff o).1 h.1.1, (may_iff a).1 h.1.2, (may_iff b).1 h.2⟩ hm
    unfold gCheck; rw [if_pos h1]
theorem M3.of {o a b : Graph} (h : gCheck o a b = 0) : M3 o a b := by
  rcases gCheck_cases o a b with ⟨h1, _⟩ | ⟨_, h1⟩ | ⟨h1, _⟩
  · omega
  · exact h1
  · omega
theorem objD_of {g : Graph} {id : Int} {x : GObj} (h : objAt g id = some x) : objD g id = x ∧ hasId g id = true := by
  unfold objD hasId; rw [h]; exact ⟨rfl, rfl⟩
theorem objD_no {g : Graph} {id : Int} (h : objAt g id = none) : objD g id = ⟨0, 0, []⟩ ∧ hasId g id = false := by
  unfold objD hasId; rw [h]; exact ⟨rfl, rfl⟩
theorem mem_adds (x : Int) : ∀ (xs l : List Int), x ∈ adds l xs ↔ x ∈ l ∨ x ∈ xs
  | [], l => by simp [adds]
  | y :: xs, l => by
    have ih := mem_adds x xs (if y ∈ l then l else l ++ [y])
    have e : adds l (y :: xs) = adds (if y ∈ l then l else l ++ [y]) xs := rfl
    rw [e, ih]
    split
    · rename_i hy
      constructor
      · rintro (h | h)
        · exact .inl h
        · exact .inr (List.mem_cons_of_mem _ h)
      · rintro (h | h)
        · exact .inl h
        · rcases List.mem_cons.1 h with rfl | h
          · exact .inl hy
          · exact .inr h
    · simp only [List.mem_append, List.mem_cons, List.not_mem_nil, or_false]
      constructor
      · rintro ((h | h) | h)
        · exact .inl h
        · exact .inr (.inl h)
        · exact .inr (.inr h)
      · rintro (h | h | h)
        · exact .inl (.inl h)
        · exact .inl (.inr h)
        · exact .inr h
theorem mem_idsO {g : Graph} (hm : May g) (id : Int) : id ∈ idsO g.O ↔ ∃ x, objAt g id = some x := by
  constructor
  · intro h
    obtain ⟨x, hx, rfl⟩ := List.mem_map.1 h
    exact ⟨x, hm.mem hx⟩
  · rintro ⟨x, h⟩
    obtain ⟨h1, rfl⟩ := objAt_some h
    exact List.mem_map_of_mem h1
theorem mem_mL {a b : Graph} (ha : May a) (hb : May b) (id : Int) : id ∈ mL a b 2 ↔ (∃ x, objAt a id = some x) ∨ ∃ y, objAt b id = some y := by
  show id ∈ adds (adds [] (idsO a.O)) (idsO b.O) ↔ _
  rw [mem_adds, mem_adds, mem_idsO ha, mem_idsO hb]
  simp
def mO (o a b : Graph) (id : Int) : Option GObj := plk (mOs o a b (mL a b 2)) id
theorem plk_mOs (o a b : Graph) (id : Int) : ∀ l : List Int, plk (mOs o a b l) id = if id ∈ l then some (mObj o a b id).1 else none
  | [] => rfl
  | x :: l => by
    have ih := plk_mOs o a b id l
    simp only [plk, mOs] at ih
    simp only [plk, mOs, List.map_cons, List.find?_cons]
    by_cases e : x = id
    · subst e; simp
    · have e' : ¬ id = x := fun h => e h.symm
      simp only [e, decide_false, List.mem_cons, e', false_or]
      exact ih
def both (o : Graph) (x y : GObj) : GObj := ⟨x.Id, x.T, mixM (hasId o x.Id) (objD o x.Id).F x.F y.F x.F.length⟩
theorem mO_none {o a b : Graph} (h : M3 o a b) {id : Int} (h1 : objAt a id = none) (h2 : objAt b id = none) : mO o a b id = none := by
  unfold mO
  rw [plk_mOs, if_neg]
  rw [mem_mL h.ma h.mb, h1, h2]; simp
theorem mO_a {o a b : Graph} (h : M3 o a b) {id : Int} {x : GObj} (h1 : objAt a id = some x) (h2 : objAt b id = none) : mO o a b id = some x := by
  unfold mO
  rw [plk_mOs, if_pos ((mem_mL h.ma h.mb id).2 (.inl ⟨x, h1⟩))]
  unfold mObj
  rw [(objD_of h1).2, (objD_of h1).1, (objD_no h2).2]; rfl
theorem mO_b {o a b : Graph} (h : M3 o a b) {id : Int} {y : GObj} (h1 : objAt a id = none) (h2 : objAt b id = some y) : mO o a b id = some y := by
  unfold mO
  rw [plk_mOs, if_pos ((mem_mL h.ma h.mb id).2 (.inr ⟨y, h2⟩))]
  unfold mObj
  rw [(objD_no h1).2, (objD_of h2).1]; rfl
theorem mO_ab {o a b : Graph} (h : M3 o a b) {id : Int} {x y : GObj} (h1 : objAt a id = some x) (h2 : objAt b id = some y) : mO o a b id = some (both o x y) := by
  unfold mO
  rw [plk_mOs, if_pos ((mem_mL h.ma h.mb id).2 (.inl ⟨x, h1⟩))]
  unfold mObj both
  rw [(objD_of h1).2, (objD_of h1).1, (objD_of h2).2, (objD_of h2).1, (objAt_some h1).2]; rfl
theorem mixM_at {old : Bool} {W X Y : List GVal} {k : Nat} {v : GVal} (h : X[k]? = some v) : (mixM old W X Y X.length)[k]? = some (mVal old (W.getD k v) v (Y.getD k v)) := by
  have := (List.getElem?_eq_some_iff.1 h).1
  simp only [mixM, List.getElem?_mapIdx, h, Option.map_some, if_pos this]
theorem mVal_or (old : Bool) (w v y : GVal) : mVal old w v y = v ∨ mVal old w v y = y := by
  unfold mVal stand
  split
  · split
    · exact .inr rfl
    · exact .inl rfl
  · exact .inl rfl
theorem M3.len {o a b : Graph} (h : M3 o a b) {id : Int} {x y : GObj} (h1 : objAt a id = some x) (h2 : objAt b id = some y) : y.F.length = x.F.length ∧ y.T = x.T ∧ x.Id = id ∧ y.Id = id := by
  obtain ⟨m1, i1⟩ := objAt_some h1
  obtain ⟨m2, i2⟩ := objAt_some h2
  have hT := h.Tab x m1 y m2 (by omega)
  obtain ⟨t, t1, t2⟩ := h.ma.objM m1
  obtain ⟨t', t3, t4⟩ := h.mb.objM m2
  rw [h.Sb, ← hT, t1] at t3
  cases t3
  exact ⟨by rw [t2.len, t4.len], hT.symm, i1, i2⟩
inductive Whence (o a b : Graph) (id : Int) : Option GObj → Prop
  | none : objAt a id = none → objAt b id = none → Whence o a b id none
  | a (x : GObj) : objAt a id = some x → objAt b id = none → Whence o a b id (some x)
  | b (y : GObj) : objAt a id = none → objAt b id = some y → Whence o a b id (some y)
  | ab (x y : GObj) : objAt a id = some x → objAt b id = some y → Whence o a b id (some (both o x y))
theorem M3.whence {o a b : Graph} (h : M3 o a b) (id : Int) : Whence o a b id (mO o a b id) := by
  cases ha : objAt a id with
  | none => cases hb : objAt b id with
    | none => rw [mO_none h ha hb]; exact .none ha hb
    | some y => rw [mO_b h ha hb]; exact .b y ha hb
  | some x => cases hb : objAt b id with
    | none => rw [mO_a h ha hb]; exact .a x ha hb
    | some y => rw [mO_ab h ha hb]; exact .ab x y ha hb
theorem M3.mO_id {o a b : Graph} (h : M3 o a b) {id : Int} {z : GObj} (hz : mO o a b id = some z) : z.Id = id ∧ 0 ≤ id ∧ id ≤ 1073741824 ∧ ∃ t, typeAt a.S z.T = some t ∧ z.F.length = t.F.length := by
  have key : ∀ {g : Graph}, May g → g.S = a.S → ∀ {x : GObj}, objAt g id = some x → x.Id = id ∧ 0 ≤ id ∧ id ≤ 1073741824 ∧ ∃ t, typeAt a.S x.T = some t ∧ x.F.length = t.F.length := by
    intro g hg hS x hx
    obtain ⟨m, rfl⟩ := objAt_some hx
    obtain ⟨t, t1, t2⟩ := hg.objM m
    exact ⟨rfl, hg.pos m, t2.id, t, by rw [← hS]; exact t1, t2.len⟩
  have hw := h.whence id
  rw [hz] at hw
  cases hw with
  | a _ h1 h2 => exact key h.ma rfl h1
  | b _ h1 h2 => exact key h.mb h.Sb h2
  | ab x y h1 h2 =>
    obtain ⟨k1, k2, k3, t, k4, k5⟩ := key h.ma rfl h1
    exact ⟨k1, k2, k3, t, k4, by simp only [both, mixM_len]; exact k5⟩
theorem M3.mO_typ {o a b : Graph} (h : M3 o a b) {id t : Int} (ht : typ a.O id = some t ∨ typ b.O id = some t) : ∃ z, mO o a b id = some z ∧ z.T = t := by
  have key : ∀ {g : Graph}, May g → typ g.O id = some t → ∃ x, objAt g id = some x ∧ x.T = t := by
    intro g hg ht
    obtain ⟨p, x, _, _, _, h1, h2⟩ := hg.find (i := id) (by rw [ht]; rfl)
    rw [ht] at h2; cases h2
    exact ⟨x, h1, rfl⟩
  rcases ht with ht | ht
  · obtain ⟨x, h1, h2⟩ := key h.ma ht
    cases hb : objAt b id with
    | none => exact ⟨x, mO_a h h1 hb, h2⟩
    | some y => exact ⟨_, mO_ab h h1 hb, h2⟩
  · obtain ⟨y, h1, h2⟩ := key h.mb ht
    cases ha : objAt a id with
    | none => exact ⟨y, mO_b h ha h1, h2⟩
    | some x => exact ⟨_, mO_ab h ha h1, by show x.T = t; rw [← (h.len ha h1).2.1]; exact h2⟩
theorem M3.mO_val {o a b : Graph} (h : M3 o a b) {id : Int} {z : GObj} (hz : mO o a b id = some z) {k : Nat} {u : GVal} (hu : z.F[k]? = some u) : (∃ x, objAt a id = some x ∧ x.T = z.T ∧ x.F[k]? = some u) ∨ ∃ y, objAt b id = some y ∧ y.T = z.T ∧ y.F[k]? = some u := by
  have hw := h.whence id
  rw [hz] at hw
  cases hw with
  | a _ h1 h2 => exact .inl ⟨z, h1, rfl, hu⟩
  | b _ h1 h2 => exact .inr ⟨z, h2, rfl, hu⟩
  | ab x y h1 h2 =>
    obtain ⟨l1, l2, l3, l4⟩ := h.len h1 h2
    have hk : k < x.F.length := by have := (List.getElem?_eq_some_iff.1 hu).1; simpa [both, mixM_len] using this
    have hv : x.F[k]? = some x.F[k] := List.getElem?_eq_getElem hk
    have hy : y.F[k]? = some (y.F[k]'(by omega)) := List.getElem?_eq_getElem _
    have := mixM_at (old := hasId o x.Id) (W := (objD o x.Id).F) (Y := y.F) hv
    have hu : (mixM (hasId o x.Id) (objD o x.Id).F x.F y.F x.F.length)[k]? = some u := hu
    rw [this] at hu; cases hu
    rcases mVal_or (hasId o x.Id) ((objD o x.Id).F.getD k x.F[k]) x.F[k] (y.F.getD k x.F[k]) with e | e
    · rw [e]; exact .inl ⟨x, h1, rfl, hv⟩
    · rw [e]; exact .inr ⟨y, h2, l2, by simp [hy]⟩
theorem M3.mO_lead {o a b : Graph} (h : M3 o a b) {id : Int} {z : GObj} (hz : mO o a b id = some z) {t : GType} (ht : typeAt a.S z.T = some t) {k : Nat} {f : GField} {u : GVal} (hf : t.F[k]? = some f) (hu : z.F[k]? = some u) :
    valFits f u = true ∧ (f.Kind = 5 → u.R = -1 ∨ ∃ z', mO o a b u.R = some z' ∧ z'.T = sFind a.S f.To) := by
  have key : ∀ {g : Graph}, May g → g.S = a.S → (∀ {i s : Int}, typ g.O i = some s → typ a.O i = some s ∨ typ b.O i = some s) → ∀ {x : GObj}, objAt g id = some x → x.T = z.T → x.F[k]? = some u →
      valFits f u = true ∧ (f.Kind = 5 → u.R = -1 ∨ ∃ z', mO o a b u.R = some z' ∧ z'.T = sFind a.S f.To) := by
    intro g hg hS hty x hx hT hv
    obtain ⟨m, _⟩ := objAt_some hx
    obtain ⟨t', t1, t2⟩ := hg.objM m
    rw [hS, hT, ht] at t1; cases t1
    have hl := t2.lead k f u hf hv
    unfold leadsB at hl
    simp only [Bool.and_eq_true, Bool.or_eq_true, Bool.not_eq_true', decide_eq_false_iff_not, decide_eq_true_eq] at hl
    refine ⟨hl.1, fun hk => ?_⟩
    rcases hl.2 with h5 | h5 | h5
    · exact absurd hk h5
    · exact .inl h5
    · right
      cases hy : typ g.O u.R with
      | none => rw [hy] at h5; cases h5
      | some s =>
        rw [hy] at h5
        simp only [decide_eq_true_eq] at h5
        obtain ⟨z', z1, z2⟩ := h.mO_typ (hty hy)
        exact ⟨z', z1, by rw [z2, h5, hS]⟩
  rcases h.mO_val hz hu with ⟨x, x1, x2, x3⟩ | ⟨y, y1, y2, y3⟩
  · exact key h.ma rfl (fun h => .inl h) x1 x2 x3
  · exact key h.mb h.Sb (fun h => .inr h) y1 y2 y3
theorem M3.mok {o a b : Graph} (h : M3 o a b) : MOK o a b := by
  have ha5 := h.ma.small.2.2
  have hb5 := h.mb.small.2.2
  have hin : ∀ id ob, (id, ob) ∈ mOs o a b (mL a b 2) → mO o a b id = some ob := by
    intro id ob hp
    obtain ⟨i, hi, e⟩ := List.mem_map.1 hp
    cases e
    unfold mO; rw [plk_mOs, if_pos hi]
  refine ⟨fun id => ⟨?_, ?_, fun h1 h2 => ?_, fun h1 h2 => ?_⟩, h.ma.o, h.mb.o, h.ma.r, h.mb.r, ⟨h.ma.small.1, h.ma.small.2.1⟩, ⟨?_, fun id ob hp => ?_⟩, fun p hp => ?_⟩
  · cases hx : objAt a id with
    | none => rw [(objD_no hx).1]; exact Nat.zero_le _
    | some x => rw [(objD_of hx).1]; exact ha5 x (objAt_some hx).1
  · cases hx : objAt b id with
    | none => rw [(objD_no hx).1]; exact Nat.zero_le _
    | some x => rw [(objD_of hx).1]; exact hb5 x (objAt_some hx).1
  · cases hx : objAt a id with
    | none => rw [(objD_no hx).2] at h1; cases h1
    | some x => cases hy : objAt b id with
      | none => rw [(objD_no hy).2] at h2; cases h2
      | some y => rw [(objD_of hx).1, (objD_of hy).1]; exact (h.len hx hy).1
  · cases hx : objAt a id with
    | none => rw [(objD_no hx).2] at h1; cases h1
    | some x => cases hy : objAt o id with
      | none => rw [(objD_no hy).2] at h2; cases h2
      | some y =>
        rw [(objD_of hx).1, (objD_of hy).1]
        obtain ⟨m1, i1⟩ := objAt_some hx
        obtain ⟨m2, i2⟩ := objAt_some hy
        have hT := h.Toa y m2 x m1 (by omega)
        obtain ⟨t, t1, t2⟩ := h.ma.objM m1
        obtain ⟨t', t3, t4⟩ := h.mo.objM m2
        rw [h.Sa, hT, t1] at t3; cases t3
        rw [t2.len, t4.len]
  · have e1 := adds_len (adds [] (idsO a.O)) (idsO b.O)
    have e2 := adds_len [] (idsO a.O)
    have e3 := h.ma.o
    have e4 := h.mb.o
    have e5 : (mOs o a b (mL a b 2)).length = (adds (adds [] (idsO a.O)) (idsO b.O)).length := by simp only [mOs, List.length_map]; rfl
    simp only [idsO, List.length_map, List.length_nil] at e1 e2 e5
    omega
  · obtain ⟨k1, k2, k3, t, k4, k5⟩ := h.mO_id (hin id ob hp)
    unfold typeAt at k4
    split at k4
    · rename_i h0
      exact ⟨t, ob.T.toNat, by omega, k4, k5, h.ma.small.2.1 t (List.mem_of_getElem? k4)⟩
    · cases k4
  · obtain ⟨k1, k2, k3, _⟩ := h.mO_id (hin p.1 p.2 hp)
    exact ⟨k1, k2, k3⟩
end Go.Ab
namespace Go.Ab
open Go Go.RowKit
def mReach (o a b : Graph) (id : Int) : Prop := CReach a.S (mOs o a b (mL a b 2)) (mRoots o a b (mN a b)) id
noncomputable def mRes (o a b : Graph) : Graph := ⟨a.S, sortO ((mLive o a b).map (·.2)), mRoots o a b (mN a b)⟩
theorem mem_live {o a b : Graph} (x : GObj) : x ∈ (mLive o a b).map (·.2) ↔ ∃ id, mReach o a b id ∧ mO o a b id = some x := by
  classical
  constructor
  · intro h
    obtain ⟨p, hp, rfl⟩ := List.mem_map.1 h
    unfold mLive at hp
    obtain ⟨h1, h2⟩ := List.mem_filter.1 hp
    obtain ⟨i, hi, e⟩ := List.mem_map.1 h1
    refine ⟨p.1, of_decide_eq_true h2, ?_⟩
    subst e
    unfold mO; rw [plk_mOs, if_pos hi]
  · rintro ⟨id, h1, h2⟩
    have hp := plk_mem h2
    refine List.mem_map.2 ⟨(id, x), ?_, rfl⟩
    unfold mLive
    exact List.mem_filter.2 ⟨hp, decide_eq_true h1⟩
theorem mem_sortO (l : List GObj) (x : GObj) : x ∈ sortO l ↔ x ∈ l := (sortO_sorted l).2.mem_iff
theorem mem_res {o a b : Graph} (x : GObj) : x ∈ (mRes o a b).O ↔ ∃ id, mReach o a b id ∧ mO o a b id = some x := by
  show x ∈ sortO _ ↔ _
  rw [mem_sortO, mem_live]
theorem M3.res_pw {o a b : Graph} (h : M3 o a b) : ((mRes o a b).O.map (·.Id)).Pairwise (· < ·) := by
  have h1 := (sortO_sorted ((mLive o a b).map (·.2))).1
  have h2 : ((sortO ((mLive o a b).map (·.2))).map (·.Id)).Nodup := by
    refine ((sortO_sorted ((mLive o a b).map (·.2))).2.map _).nodup_iff.2 ?_
    rw [List.map_map]
    have e : (mLive o a b).map ((fun x : GObj => x.Id) ∘ fun x => x.2) = (mLive o a b).map (·.1) :=
      List.map_congr_left fun p hp => (h.mok.ids p ((mLive_sub o a b).subset hp)).1
    rw [e]; exact mLive_keys o a b
  have h3 : ((mRes o a b).O.map (·.Id)).Pairwise (· ≤ ·) := by rw [List.pairwise_map]; exact h1
  exact (h3.and h2).imp fun ⟨p, q⟩ => by omega
theorem rootAt_or (g : Graph) (i : Nat) : (i < g.Roots.length ∧ g.Roots[i]? = some (rootAt g i)) ∨ (g.Roots.length ≤ i ∧ rootAt g i = -1) := by
  unfold rootAt
  by_cases hi : i < g.Roots.length
  · left; rw [List.getElem?_eq_getElem hi]; exact ⟨hi, rfl⟩
  · right; rw [List.getElem?_eq_none (by omega)]; exact ⟨by omega, rfl⟩
theorem stand_or {α : Type} [DecidableEq α] (w v y : α) : (stand w v y).1 = v ∨ (stand w v y).1 = y := by
  unfold stand; split
  · exact .inr rfl
  · exact .inl rfl
theorem M3.root {o a b : Graph} (h : M3 o a b) {r : Int} (hr : r ∈ mRoots o a b (mN a b)) : r = -1 ∨ ∃ z, mO o a b r = some z := by
  obtain ⟨i, _, rfl⟩ := List.mem_map.1 hr
  have key : ∀ {g : Graph}, May g → (∀ {i s : Int}, typ g.O i = some s → typ a.O i = some s ∨ typ b.O i = some s) → rootAt g i = -1 ∨ ∃ z, mO o a b (rootAt g i) = some z := by
    intro g hg hty
    rcases rootAt_or g i with ⟨_, hi⟩ | ⟨_, hi⟩
    · have := hg.root _ (List.mem_of_getElem? hi)
      unfold rootB at this
      simp only [Bool.or_eq_true, decide_eq_true_eq] at this
      rcases this with e | e
      · exact .inl e
      · obtain ⟨s, hs⟩ := Option.isSome_iff_exists.1 e
        obtain ⟨z, hz, _⟩ := h.mO_typ (hty hs)
        exact .inr ⟨z, hz⟩
    · exact .inl hi
  unfold mRoot
  rcases stand_or (rootAt o i) (rootAt a i) (rootAt b i) with e | e
  · rw [e]; exact key h.ma .inl
  · rw [e]; exact key h.mb .inr
theorem mObjRefs {S : List GType} {z : GObj} {t : GType} (ht : typeAt S z.T = some t) (r : Int) : r ∈ refsP S z ↔ ∃ (k : Nat) (f : GField) (u : GVal), t.F[k]? = some f ∧ z.F[k]? = some u ∧ f.Kind = 5 ∧ u.R = r := by
  unfold refsP
  rw [ht]
  simp only [refsZ, List.mem_filterMap]
  constructor
  · rintro ⟨⟨f, u⟩, hp, h⟩
    obtain ⟨k, hk⟩ := List.getElem?_of_mem hp
    rw [List.getElem?_zip_eq_some] at hk
    simp only at h
    split at h
    · rename_i h5; cases h; exact ⟨k, f, u, hk.1, hk.2, h5, rfl⟩
    · cases h
  · rintro ⟨k, f, u, h1, h2, h3, rfl⟩
    refine ⟨(f, u), List.mem_of_getElem? (i := k) (by rw [List.getElem?_zip_eq_some]; exact ⟨h1, h2⟩), ?_⟩
    simp [h3]
theorem M3.neg {o a b : Graph} (h : M3 o a b) {z : GObj} : mO o a b (-1) ≠ some z := fun e => by
  have := h.mO_id e; omega
theorem M3.res_obj {o a b : Graph} (h : M3 o a b) {id : Int} {z : GObj} (h1 : mReach o a b id) (h2 : mO o a b id = some z) : objAt (mRes o a b) id = some z := by
  have hm : z ∈ (mRes o a b).O := (mem_res z).2 ⟨id, h1, h2⟩
  have hi := (h.mO_id h2).1
  unfold objAt
  cases hf : (mRes o a b).O.find? fun o => decide (o.Id = id) with
  | none =>
    have := List.find?_eq_none.1 hf z hm
    simp [hi] at this
  | some x =>
    have hx := List.mem_of_find?_eq_some hf
    have hxi : x.Id = id := by simpa using List.find?_some hf
    obtain ⟨id', g1, g2⟩ := (mem_res x).1 hx
    have := (h.mO_id g2).1
    rw [hxi] at this; subst this
    rw [h2] at g2; rw [g2]
theorem M3.res_typ {o a b : Graph} (h : M3 o a b) {id : Int} {z : GObj} (h1 : mReach o a b id) (h2 : mO o a b id = some z) : typ (mRes o a b).O id = some z.T := by
  have hm : z ∈ (mRes o a b).O := (mem_res z).2 ⟨id, h1, h2⟩
  have hi := (h.mO_id h2).1
  have hp := h.res_pw
  have := uniq_typ (l := (mRes o a b).O) (hp.imp fun h e => by omega) hm
  rw [hi] at this; exact this
theorem M3.res_may {o a b : Graph} (h : M3 o a b) (h8 : (mLive o a b).length ≤ 8) : May (mRes o a b) := by
  have hr : (mRoots o a b (mN a b)).length ≤ 3 := by
    rw [mRoots_len]
    have e5 := h.ma.r
    have e6 := h.mb.r
    unfold mN; omega
  refine May.of h.ma.s ?_ hr h.res_pw (fun x hx => ?_) (fun x hx => ?_) (fun r hr => ?_)
  · show (sortO _).length ≤ 8
    rw [(sortO_sorted _).2.length_eq, List.length_map]; exact h8
  · obtain ⟨id, _, h2⟩ := (mem_res x).1 hx
    obtain ⟨k1, k2, k3, _⟩ := h.mO_id h2
    omega
  · obtain ⟨id, h1, h2⟩ := (mem_res x).1 hx
    obtain ⟨k1, k2, k3, t, k4, k5⟩ := h.mO_id h2
    refine ⟨t, k4, k5, fun k f v hf hv => ?_⟩
    have hl := h.mO_lead h2 k4 hf hv
    unfold leadsB
    simp only [Bool.and_eq_true, Bool.or_eq_true, Bool.not_eq_true', decide_eq_false_iff_not, decide_eq_true_eq]
    refine ⟨hl.1, ?_⟩
    by_cases hk : f.Kind = 5
    · right
      rcases hl.2 hk with e | ⟨z', e1, e2⟩
      · exact .inl e
      · right
        have hre : mReach o a b v.R := CReach.ref h1 h2 ((mObjRefs k4 _).2 ⟨k, f, v, hf, hv, hk, rfl⟩)
        rw [h.res_typ hre e1]
        exact decide_eq_true e2
    · exact .inl hk
  · unfold rootB
    rcases h.root hr with e | ⟨z, e⟩
    · simp [e]
    · rw [h.res_typ (CReach.root hr) e]; simp
theorem M3.res_order {o a b : Graph} (h : M3 o a b) (h8 : (mLive o a b).length ≤ 8) {id : Int} (h1 : mReach o a b id) {z : GObj} (h2 : mO o a b id = some z) : id ∈ order (mRes o a b) := by
  have hm := h.res_may h8
  induction h1 generalizing z with
  | root hr =>
    rcases hm.rootIn hr with e | e
    · subst e; exact absurd h2 h.neg
    · exact e
  | @ref id r ob h3 h4 h5 ih =>
    have hi := ih (z := ob) h4
    have ho := h.res_obj h3 h4
    have hre : r ∈ refsOf (mRes o a b) id := by unfold refsOf; rw [ho]; exact h5
    rcases hm.clo hi r hre with e | e
    · subst e; exact absurd h2 h.neg
    · exact e
theorem M3.res_sweep {o a b : Graph} (h : M3 o a b) (h8 : (mLive o a b).length ≤ 8) : gSweep (mRes o a b) = mRes o a b := by
  have hm := h.res_may h8
  rw [gSweep_of hm]
  show (⟨_, (mRes o a b).O.filter _, _⟩ : Graph) = mRes o a b
  have e : (mRes o a b).O.filter (fun o_1 => decide (o_1.Id ∈ order (mRes o a b))) = (mRes o a b).O := List.filter_eq_self.2 fun x hx => by
    obtain ⟨id, h1, h2⟩ := (mem_res x).1 hx
    have := h.res_order h8 h1 h2
    rw [(h.mO_id h2).1]; simpa using this
  rw [e]
theorem gMerge_bad {o a b : Graph} (h : gCheck o a b ≠ 0) : gMerge o a b = (⟨[], [], []⟩, noChange, gCheck o a b) := by unfold gMerge; rw [if_pos h]
theorem gMerge_clash {o a b : Graph} (h : gCheck o a b = 0) (h1 : gNone (mCh o a b) = false) : gMerge o a b = (⟨[], [], []⟩, mCh o a b, 10) := by unfold gMerge; rw [if_neg (by simp [h]), if_pos h1]
theorem gMerge_full {o a b : Graph} (h : gCheck o a b = 0) (h1 : gNone (mCh o a b) = true) (h2 : 8 < (mLive o a b).length) : gMerge o a b = (⟨[], [], []⟩, noChange, 8) := by unfold gMerge; rw [if_neg (by simp [h]), if_neg (by simp [h1]), if_pos h2]
theorem gMerge_ok {o a b : Graph} (h : gCheck o a b = 0) (h1 : gNone (mCh o a b) = true) (h2 : (mLive o a b).length ≤ 8) : gMerge o a b = (mRes o a b, noChange, 0) := by unfold gMerge mRes; rw [if_neg (by simp [h]), if_neg (by simp [h1]), if_neg (by omega)]
theorem gMerge_cases (o a b : Graph) : (gCheck o a b ≠ 0 ∧ gMerge o a b = (⟨[], [], []⟩, noChange, gCheck o a b)) ∨ (M3 o a b ∧ gNone (mCh o a b) = false ∧ gMerge o a b = (⟨[], [], []⟩, mCh o a b, 10)) ∨
    (M3 o a b ∧ gNone (mCh o a b) = true ∧ 8 < (mLive o a b).length ∧ gMerge o a b = (⟨[], [], []⟩, noChange, 8)) ∨ (M3 o a b ∧ gNone (mCh o a b) = true ∧ (mLive o a b).length ≤ 8 ∧ gMerge o a b = (mRes o a b, noChange, 0)) := by
  by_cases h : gCheck o a b = 0
  · cases h1 : gNone (mCh o a b) with
    | false => exact .inr (.inl ⟨M3.of h, rfl, gMerge_clash h h1⟩)
    | true =>
      by_cases h2 : 8 < (mLive o a b).length
      · exact .inr (.inr (.inl ⟨M3.of h, rfl, h2, gMerge_full h h1 h2⟩))
      · exact .inr (.inr (.inr ⟨M3.of h, rfl, by omega, gMerge_ok h h1 (by omega)⟩))
  · exact .inl ⟨h, gMerge_bad h⟩
noncomputable def gClash (o a b : Graph) : GChange × Int := (if gCheck o a b = 0 then mCh o a b else noChange, gCheck o a b)
end Go.Ab
namespace Go.Ab
open Go Go.RowKit
theorem stand_iff {α : Type} [DecidableEq α] (w v y : α) : (stand w v y).2 = true ↔ v = w ∨ y = w ∨ v = y := by
  unfold stand
  split
  · rename_i h; simp [h]
  · rename_i h; simp [h]
theorem mem_mClash {old : Bool} {W X Y : List GVal} {n : Nat} {k : Int} : k ∈ mClash old W X Y n ↔ ∃ j : Nat, j < n ∧ k = j ∧ mCB old W X Y j = true := by
  unfold mClash
  simp only [List.mem_map, List.mem_filter, List.mem_range]
  constructor
  · rintro ⟨j, ⟨h1, h2⟩, rfl⟩; exact ⟨j, h1, rfl, h2⟩
  · rintro ⟨j, h1, rfl, h2⟩; exact ⟨j, ⟨h1, h2⟩, rfl⟩
theorem mCB_at {old : Bool} {W X Y : List GVal} {j : Nat} {v y : GVal} (h1 : X[j]? = some v) (h2 : Y[j]? = some y) : mCB old W X Y j = !mFine old (W.getD j v) v y := by
  unfold mCB
  rw [h1]
  simp only
  rw [show Y.getD j v = y by simp [h2]]
theorem M3.old {o a b : Graph} (h : M3 o a b) {id : Int} {x : GObj} (hx : objAt a id = some x) : hasId o id = true → (objD o id).F.length = x.F.length := by
  intro ho
  have := (h.mok.sz id).ao (objD_of hx).2 ho
  rwa [(objD_of hx).1] at this
theorem mObj_ab {o a b : Graph} {id : Int} {x y : GObj} (h1 : objAt a id = some x) (h2 : objAt b id = some y) : (mObj o a b id).2 = mClash (hasId o id) (objD o id).F x.F y.F x.F.length := by
  unfold mObj
  rw [(objD_of h1).2, (objD_of h1).1, (objD_of h2).2, (objD_of h2).1]; rfl
theorem mObj_no {o a b : Graph} {id : Int} (h : objAt a id = none ∨ objAt b id = none) : (mObj o a b id).2 = [] := by
  unfold mObj
  rcases h with h | h
  · rw [(objD_no h).2]; rfl
  · rw [(objD_no h).2]; simp only [if_true]; split <;> rfl
structure Fine (o a b : Graph) : Prop where
  fld : ∀ id x y, objAt a id = some x → objAt b id = some y → ∀ j, mCB (hasId o id) (objD o id).F x.F y.F j = false
  rt : ∀ i, i < mN a b → (stand (rootAt o i) (rootAt a i) (rootAt b i)).2 = true
theorem gNone_eq {c : GChange} : gNone c = true ↔ c = noChange := by unfold gNone; simp
theorem M3.fine {o a b : Graph} (h : M3 o a b) : gNone (mCh o a b) = true ↔ Fine o a b := by
  rw [gNone_eq]
  constructor
  · intro hn
    have h1 : mSet o a b (mL a b 2) = [] := congrArg GChange.Set hn
    have h2 : mRC o a b (mN a b) = [] := congrArg GChange.Roots hn
    refine ⟨fun id x y hx hy j => ?_, fun i hi => ?_⟩
    · cases hc : mCB (hasId o id) (objD o id).F x.F y.F j with
      | false => rfl
      | true =>
        exfalso
        have hj : j < x.F.length := by
          unfold mCB at hc
          cases hv : x.F[j]? with
          | none => rw [hv] at hc; cases hc
          | some v => exact (List.getElem?_eq_some_iff.1 hv).1
        have : (id, (j : Int)) ∈ mSet o a b (mL a b 2) := by
          unfold mSet
          refine List.mem_flatMap.2 ⟨id, (mem_mL h.ma h.mb id).2 (.inl ⟨x, hx⟩), List.mem_map.2 ⟨(j : Int), ?_, rfl⟩⟩
          rw [mObj_ab hx hy]
          exact mem_mClash.2 ⟨j, hj, rfl, hc⟩
        rw [h1] at this; cases this
    · cases hc : (stand (rootAt o i) (rootAt a i) (rootAt b i)).2 with
      | true => rfl
      | false =>
        exfalso
        have : (i : Int) ∈ mRC o a b (mN a b) := by
          unfold mRC
          refine List.mem_map.2 ⟨i, List.mem_filter.2 ⟨List.mem_range.2 hi, by rw [hc]; rfl⟩, rfl⟩
        rw [h2] at this; cases this
  · intro hf
    have h1 : mSet o a b (mL a b 2) = [] := by
      unfold mSet
      rw [List.flatMap_eq_nil_iff]
      intro id _
      rw [List.map_eq_nil_iff]
      cases hx : objAt a id with
      | none => exact mObj_no (.inl hx)
      | some x => cases hy : objAt b id with
        | none => exact mObj_no (.inr hy)
        | some y =>
          rw [mObj_ab hx hy]
          refine List.eq_nil_iff_forall_not_mem.2 fun k hk => ?_
          obtain ⟨j, _, _, hc⟩ := mem_mClash.1 hk
          rw [hf.fld id x y hx hy j] at hc; cases hc
    have h2 : mRC o a b (mN a b) = [] := by
      unfold mRC
      rw [List.map_eq_nil_iff]
      refine List.filter_eq_nil_iff.2 fun i hi => ?_
      rw [hf.rt i (List.mem_range.1 hi)]; simp
    unfold mCh noChange
    rw [h1, h2]
theorem M3.fld {o a b : Graph} (h : M3 o a b) (hf : Fine o a b) {id : Int} {x y : GObj} (hx : objAt a id = some x) (hy : objAt b id = some y) {k : Nat} {v u : GVal} (hv : x.F[k]? = some v) (hu : y.F[k]? = some u) :
    mFine (hasId o id) ((objD o id).F.getD k v) v u = true ∧ (both o x y).F[k]? = some (mVal (hasId o id) ((objD o id).F.getD k v) v u) := by
  have h1 := hf.fld id x y hx hy k
  rw [mCB_at hv hu] at h1
  refine ⟨by simpa using h1, ?_⟩
  have h2 := mixM_at (old := hasId o x.Id) (W := (objD o x.Id).F) (Y := y.F) hv
  rw [(h.len hx hy).2.2.1] at h2
  show (mixM (hasId o x.Id) (objD o x.Id).F x.F y.F x.F.length)[k]? = _
  rw [(h.len hx hy).2.2.1, h2, show y.F.getD k v = u by simp [hu]]
end Go.Ab
namespace Go.Ab
open Go Go.RowKit
theorem M3.oLen {o a b : Graph} (h : M3 o a b) {id : Int} {z x : GObj} (hz : objAt o id = some z) (hx : objAt a id = some x) : z.F.length = x.F.length := by
  have := h.old hx (objD_of hz).2
  rwa [(objD_of hz).1] at this
def cStep (S : List GType) (os : List (Int × GObj)) : List Int × List Int → List Int × List Int
  | (out, []) => (out, [])
  | (out, id :: q) => match plk os id with
    | none => (out, q)
    | some o => if id ∈ out then (out, q) else (out ++ [id], q ++ refsP S o)
def cRun (S : List GType) (os : List (Int × GObj)) : Nat → List Int × List Int → List Int × List Int
  | 0, p => p
  | n + 1, p => cRun S os n (cStep S os p)
theorem cRun_inv {S : List GType} {os : List (Int × GObj)} {roots : List Int} : ∀ (n : Nat) {p : List Int × List Int}, CInv S os roots p.1 p.2 → CInv S os roots (cRun S os n p).1 (cRun S os n p).2
  | 0, p, h => h
  | n + 1, (out, []), h => cRun_inv n h
  | n + 1, (out, id :: q), h => by
    refine cRun_inv n ?_
    unfold cStep
    simp only
    split
    · rename_i hp; exact h.skip (.inl hp)
    · rename_i o ho
      split
      · rename_i hi; exact h.skip (.inr hi)
      · rename_i hi; exact h.step ho hi
theorem mLive_run {o a b : Graph} (n : Nat) (h : (cRun a.S (mOs o a b (mL a b 2)) n ([], mRoots o a b (mN a b))).2 = []) :
    mLive o a b = (mOs o a b (mL a b 2)).filter fun p => decide (p.1 ∈ (cRun a.S (mOs o a b (mL a b 2)) n ([], mRoots o a b (mN a b))).1) := by
  have h1 := cRun_inv (roots := mRoots o a b (mN a b)) n (p := ([], mRoots o a b (mN a b))) (CInv.start a.S (mOs o a b (mL a b 2)) (mRoots o a b (mN a b)))
  rw [h] at h1
  exact (mLive_of h1).symm
def twA : Graph := ⟨oneS, [⟨0, 0, [⟨9, ⟨#[]⟩, 0⟩, ⟨0, ⟨#[]⟩, -1⟩]⟩, ⟨5, 0, [⟨8, ⟨#[]⟩, 0⟩, ⟨0, ⟨#[]⟩, 0⟩]⟩], [0]⟩
def twB : Graph := ⟨oneS, [⟨0, 0, [⟨7, ⟨#[]⟩, 0⟩, ⟨0, ⟨#[]⟩, 5⟩]⟩, ⟨5, 0, [⟨8, ⟨#[]⟩, 0⟩, ⟨0, ⟨#[]⟩, 0⟩]⟩], [0]⟩
def twD : Graph := ⟨oneS, [⟨0, 0, [⟨8, ⟨#[]⟩, 0⟩, ⟨0, ⟨#[]⟩, -1⟩]⟩, ⟨5, 0, [⟨8, ⟨#[]⟩, 0⟩, ⟨0, ⟨#[]⟩, 0⟩]⟩], [0]⟩
def twR : Graph := ⟨oneS, [⟨0, 0, [⟨9, ⟨#[]⟩, 0⟩, ⟨0, ⟨#[]⟩, 5⟩]⟩, ⟨5, 0, [⟨8, ⟨#[]⟩, 0⟩, ⟨0, ⟨#[]⟩, 0⟩]⟩], [0]⟩
theorem twA_set : gSet twG 0 0 ⟨9, ⟨#[]⟩, 0⟩ = (twA, 0) := by decide
theorem twB_set : gSet twG 0 1 ⟨0, ⟨#[]⟩, 5⟩ = (twB, 0) := by decide
theorem twD_set : gSet twG 0 0 ⟨8, ⟨#[]⟩, 0⟩ = (twD, 0) := by decide
theorem tw_check : gCheck twG twA twB = 0 := by decide
theorem tw_none : gNone (mCh twG twA twB) = true := by decide
theorem tw_clash : gCheck twG twA twD = 0 ∧ mCh twG twA twD = ⟨[], [], [(0, 0)], []⟩ := by decide
theorem tw_run : (cRun twA.S (mOs twG twA twB (mL twA twB 2)) 9 ([], mRoots twG twA twB (mN twA twB))).2 = [] := by decide
theorem tw_live : (mLive twG twA twB).map (·.2) = twR.O := by rw [mLive_run 9 tw_run]; decide
theorem tw_merge : gMerge twG twA twB = (twR, noChange, 0) := by
  have hm := (M3.of tw_check).mok
  have hl : (mLive twG twA twB).length ≤ 8 := by rw [← List.length_map (f := (·.2)), tw_live]; decide
  rw [gMerge_ok tw_check tw_none hl]
  have e : twR.O = sortO ((mLive twG twA twB).map (·.2)) := hm.sorted (l := twR.O) (by rw [tw_live]) ⟨by simp [twR], List.Perm.refl _⟩
  unfold mRes
  rw [← e]
  congr 1
end Go.Ab
namespace Go.Ab
open Go Go.RowKit
theorem merge_stands {o a b : Graph} {G : Graph} {C : GChange} (hg : gMerge o a b = (G, C, 0)) : gMay G = true ∧ gSweep G = G ∧ ∀ (p q : Nat) (z : GObj) (u : GVal), G.O[p]? = some z → z.F[q]? = some u →
    (objAt b z.Id = none → ∃ x, objAt a z.Id = some x ∧ x.F[q]? = some u) ∧ (objAt a z.Id = none → ∃ y, objAt b z.Id = some y ∧ y.F[q]? = some u) ∧
    ∀ x y, objAt a z.Id = some x → objAt b z.Id = some y → ∃ v t, x.F[q]? = some v ∧ y.F[q]? = some t ∧ (objAt o z.Id = none → v = u ∧ t = u) ∧ ∀ w, objAt o z.Id = some w → ∃ s, w.F[q]? = some s ∧ (v = u ∨ t = u) ∧ (v = s ∨ v = u) ∧ (t = s ∨ t = u) := by
  rcases gMerge_cases o a b with ⟨h1, h2⟩ | ⟨h, h1, h2⟩ | ⟨h, h1, h2, h3⟩ | ⟨h, h1, h2, h3⟩
  · rw [h2] at hg; simp only [Prod.mk.injEq] at hg; exact absurd hg.2.2 h1
  · rw [h2] at hg; simp at hg
  · rw [h3] at hg; simp at hg
  · rw [h3] at hg
    simp only [Prod.mk.injEq] at hg
    obtain ⟨rfl, _, _⟩ := hg
    have hf := h.fine.1 h1
    refine ⟨(may_iff _).2 (h.res_may h2), h.res_sweep h2, fun p q z u hp hu => ?_⟩
    obtain ⟨id, _, hz⟩ := (mem_res z).1 (List.mem_of_getElem? hp)
    have hi := (h.mO_id hz).1
    subst hi
    refine ⟨fun hb => ?_, fun ha => ?_, fun x y hx hy => ?_⟩
    · have hw := h.whence z.Id
      rw [hz] at hw
      cases hw with
      | a _ e1 e2 => exact ⟨z, e1, hu⟩
      | b _ e1 e2 => rw [hb] at e2; cases e2
      | ab x y e1 e2 => rw [hb] at e2; cases e2
    · have hw := h.whence z.Id
      rw [hz] at hw
      cases hw with
      | a _ e1 e2 => rw [ha] at e1; cases e1
      | b _ e1 e2 => exact ⟨z, e2, hu⟩
      | ab x y e1 e2 => rw [ha] at e1; cases e1
    · have hz2 := mO_ab h hx hy
      rw [hz] at hz2
      have ez : z = both o x y := by cases hz2; rfl
      obtain ⟨l1, l2, l3, l4⟩ := h.len hx hy
      have hq : q < x.F.length := by
        have := (List.getElem?_eq_some_iff.1 hu).1
        rw [ez] at this; simpa [both, mixM_len] using this
      have hv : x.F[q]? = some x.F[q] := List.getElem?_eq_getElem hq
      have ht : y.F[q]? = some (y.F[q]'(by omega)) := List.getElem?_eq_getElem _
      obtain ⟨f1, f2⟩ := h.fld hf hx hy hv ht
      rw [← ez, hu] at f2
      have f2 := Option.some.inj f2
      refine ⟨_, _, hv, ht, fun ho => ?_, fun w ho => ?_⟩
      · rw [(objD_no ho).2] at f1 f2
        simp only [mFine, mVal, Bool.false_eq_true, if_false, decide_eq_true_eq] at f1 f2
        exact ⟨f2.symm, by rw [← f1]; exact f2.symm⟩
      · have l5 := h.oLen ho hx
        have hw : w.F[q]? = some (w.F[q]'(by omega)) := List.getElem?_eq_getElem _
        rw [(objD_of ho).2, (objD_of ho).1, show w.F.getD q x.F[q] = w.F[q]'(by omega) by simp [hw]] at f1 f2
        refine ⟨_, hw, ?_⟩
        simp only [mFine, mVal, if_true] at f1 f2
        rw [stand_iff] at f1
        unfold stand at f2
        split at f2
        · rename_i e
          exact ⟨.inr f2.symm, .inl e, .inr f2.symm⟩
        · rename_i e
          refine ⟨.inl f2.symm, .inr f2.symm, ?_⟩
          rcases f1 with f1 | f1 | f1
          · exact absurd f1 e
          · exact .inl f1
          · exact .inr (by rw [← f1]; exact f2.symm)
end Go.Ab
namespace Go.Ab
open Go Go.RowKit
def fldAt (G : Graph) (i k : Int) : Option (GObj × GVal) :=
  if 0 ≤ i ∧ 0 ≤ k then (match G.O[i.toNat]? with
    | some o => (match o.F[k.toNat]? with
      | some v => some (o, v)
      | none => none)
    | none => none) else none
theorem fldAt_cases (G : Graph) (i k : Int) : ∃ (p q : Nat) (z : GObj) (u : GVal), ((i < 0 ∨ (G.O.length : Int) ≤ i) ∧ True ∧ True ∧ True ∧ True ∧ True ∧ fldAt G i k = none) ∨
    (i = p ∧ G.O[p]? = some z ∧ p < G.O.length ∧ (k < 0 ∨ (z.F.length : Int) ≤ k) ∧ True ∧ True ∧ fldAt G i k = none) ∨ (i = p ∧ G.O[p]? = some z ∧ p < G.O.length ∧ k = q ∧ z.F[q]? = some u ∧ q < z.F.length ∧ fldAt G i k = some (z, u)) := by
  by_cases hi : 0 ≤ i ∧ i < G.O.length
  · obtain ⟨p, rfl⟩ := Int.eq_ofNat_of_zero_le hi.1
    have hpl : p < G.O.length := by omega
    have hz : G.O[p]? = some G.O[p] := List.getElem?_eq_getElem hpl
    by_cases hk : 0 ≤ k ∧ k < G.O[p].F.length
    · obtain ⟨q, rfl⟩ := Int.eq_ofNat_of_zero_le hk.1
      have hql : q < G.O[p].F.length := by omega
      have hu : G.O[p].F[q]? = some G.O[p].F[q] := List.getElem?_eq_getElem hql
      refine ⟨p, q, G.O[p], G.O[p].F[q], .inr (.inr ⟨rfl, hz, hpl, rfl, hu, hql, ?_⟩)⟩
      unfold fldAt
      rw [if_pos ⟨hi.1, hk.1⟩]
      simp only [Int.toNat_natCast, hz, hu]
    · refine ⟨p, 0, G.O[p], ⟨0, ⟨#[]⟩, 0⟩, .inr (.inl ⟨rfl, hz, hpl, by omega, trivial, trivial, ?_⟩)⟩
      unfold fldAt
      split
      · rename_i h0
        simp only [Int.toNat_natCast, hz]
        rw [List.getElem?_eq_none (by omega)]
      · rfl
  · refine ⟨0, 0, ⟨0, 0, []⟩, ⟨0, ⟨#[]⟩, 0⟩, .inl ⟨by omega, trivial, trivial, trivial, trivial, trivial, ?_⟩⟩
    unfold fldAt
    split
    · rw [List.getElem?_eq_none (by omega)]
    · rfl
theorem fldAt_some {G : Graph} {i k : Int} (h : (fldAt G i k).isNone = false) : ∃ (p q : Nat) (z : GObj) (u : GVal), i = p ∧ k = q ∧ G.O[p]? = some z ∧ p < G.O.length ∧ z.F[q]? = some u ∧ q < z.F.length := by
  obtain ⟨p, q, z, u, ⟨_, _, _, _, _, _, h1⟩ | ⟨_, _, _, _, _, _, h1⟩ | ⟨h1, h2, h3, h4, h5, h6, _⟩⟩ := fldAt_cases G i k
  · rw [h1] at h; cases h
  · rw [h1] at h; cases h
  · exact ⟨p, q, z, u, h1, h4, h2, h3, h5, h6⟩
theorem fnd_obj (g : Graph) (id : Int) : (fnd (fun o => decide (o.Id = id)) g.O = -1 ∧ objAt g id = none) ∨ ∃ (p : Nat) (x : GObj), fnd (fun o => decide (o.Id = id)) g.O = p ∧ g.O[p]? = some x ∧ p < g.O.length ∧ objAt g id = some x := by
  rcases find_cases (fun o : GObj => decide (o.Id = id)) g.O with ⟨f1, f2, _⟩ | ⟨i, x, f1, f2, f3, _⟩
  · exact .inl ⟨f1, f2⟩
  · exact .inr ⟨i, x, f1, f2, (List.getElem?_eq_some_iff.1 f2).1, f3⟩
structure At (g : Graph) (id : Int) (q p : Nat) (x : GObj) (v : GVal) : Prop where
  f : fnd (fun o => decide (o.Id = id)) g.O = p
  o : g.O[p]? = some x
  ol : p < g.O.length
  v : x.F[q]? = some v
  vl : q < x.F.length
theorem stands_cases {o a b G : Graph} {C : GChange} (hg : gMerge o a b = (G, C, 0)) {p q : Nat} {z : GObj} {u : GVal} (hz : G.O[p]? = some z) (hu : z.F[q]? = some u) :
    ∃ (pa pb po : Nat) (xa xb xo : GObj) (va vb vo : GVal),
      (fnd (fun o => decide (o.Id = z.Id)) b.O = -1 ∧ At a z.Id q pa xa u) ∨ (fnd (fun o => decide (o.Id = z.Id)) a.O = -1 ∧ At b z.Id q pb xb u) ∨
      (At a z.Id q pa xa va ∧ At b z.Id q pb xb vb ∧ ((fnd (fun o => decide (o.Id = z.Id)) o.O = -1 ∧ va = u ∧ vb = u) ∨ (At o z.Id q po xo vo ∧ (va = u ∨ vb = u) ∧ (va = vo ∨ va = u) ∧ (vb = vo ∨ vb = u)))) := by
  obtain ⟨_, _, hs⟩ := merge_stands hg
  obtain ⟨h1, h2, h3⟩ := hs p q z u hz hu
  have d : GObj := ⟨0, 0, []⟩
  have e : GVal := ⟨0, ⟨#[]⟩, 0⟩
  rcases fnd_obj a z.Id with ⟨fa, oa⟩ | ⟨pa, xa, fa, ea, la, oa⟩
  · obtain ⟨y, oy, hy⟩ := h2 oa
    rcases fnd_obj b z.Id with ⟨fb, ob⟩ | ⟨pb, xb, fb, eb, lb, ob⟩
    · rw [ob] at oy; cases oy
    · rw [ob] at oy; obtain rfl := Option.some.inj oy
      exact ⟨0, pb, 0, d, xb, d, e, e, e, .inr (.inl ⟨fa, fb, eb, lb, hy, (List.getElem?_eq_some_iff.1 hy).1⟩)⟩
  · rcases fnd_obj b z.Id with ⟨fb, ob⟩ | ⟨pb, xb, fb, eb, lb, ob⟩
    · obtain ⟨x, ox, hx⟩ := h1 ob
      rw [oa] at ox; obtain rfl := Option.some.inj ox
      exact ⟨pa, 0, 0, xa, d, d, e, e, e, .inl ⟨fb, fa, ea, la, hx, (List.getElem?_eq_some_iff.1 hx).1⟩⟩
    · obtain ⟨v, t, hv, ht, k1, k2⟩ := h3 xa xb oa ob
      have A : At a z.Id q pa xa v := ⟨fa, ea, la, hv, (List.getElem?_eq_some_iff.1 hv).1⟩
      have B : At b z.Id q pb xb t := ⟨fb, eb, lb, ht, (List.getElem?_eq_some_iff.1 ht).1⟩
      rcases fnd_obj o z.Id with ⟨fo, oo⟩ | ⟨po, xo, fo, eo, lo, oo⟩
      · obtain ⟨e1, e2⟩ := k1 oo
        exact ⟨pa, pb, 0, xa, xb, d, v, t, e, .inr (.inr ⟨A, B, .inl ⟨fo, e1, e2⟩⟩)⟩
      · obtain ⟨s, hs, e1, e2, e3⟩ := k2 xo oo
        exact ⟨pa, pb, po, xa, xb, xo, v, t, s, .inr (.inr ⟨A, B, .inr ⟨⟨fo, eo, lo, hs, (List.getElem?_eq_some_iff.1 hs).1⟩, e1, e2, e3⟩⟩)⟩
theorem merge_empty {o a b G : Graph} {C : GChange} {E : Int} (hg : gMerge o a b = (G, C, E)) (hE : E ≠ 0) : G = ⟨[], [], []⟩ := by
  rcases gMerge_cases o a b with ⟨h1, h2⟩ | ⟨h, h1, h2⟩ | ⟨h, h1, h2, h3⟩ | ⟨h, h1, h2, h3⟩
  · rw [h2] at hg; cases hg; rfl
  · rw [h2] at hg; cases hg; rfl
  · rw [h3] at hg; cases hg; rfl
  · rw [h3] at hg; cases hg; exact absurd rfl hE
end Go.Ab
