/-
  Graphs, schemas and what is made of them as plain data, and their plain laws. No condition but those of each theorem.
-/
import Derived.WalkKit
import Derived.Below
import Derived.Scope
import Derived.Orders
import Derived.Test.YtfimpbledhfipaaGreatFa
import Derived.Test.YtfimpbledhfipaaGreatFb
import Derived.Test.YtfimpbledhfipaaGreatFc
import Derived.Test.YtfimpbledhfipaaGreatFd
import Derived.Test.YtfimpbledhfipaaGreatFe
set_option linter.unusedVariables false
set_option linter.unusedSimpArgs false
namespace Go.Ab
open Go Go.RowKit
structure GVal where
  N : Int
  S : ByteArray
  R : Int
structure GObj where
  Id : Int
  T : Int
  F : List GVal
structure GField where
  Name : ByteArray
  Kind : Int
  To : ByteArray
structure GType where
  Name : ByteArray
  F : List GField
structure Graph where
  S : List GType
  O : List GObj
  Roots : List Int
def eI (x : Int) : List AV := [.int .i64 x]
def eVal (v : GVal) : List AV := [.int .i64 v.N, .str v.S, .int .i64 v.R]
def eObj (o : GObj) : List AV := [.int .i64 o.Id, .int .i64 o.T, .sl 3 (o.F.map eVal)]
def eField (f : GField) : List AV := [.str f.Name, .int .i64 f.Kind, .str f.To]
def eType (t : GType) : List AV := [.str t.Name, .sl 3 (t.F.map eField)]
def eSchema (s : List GType) : List AV := [.sl 2 (s.map eType)]
def eGraph (g : Graph) : List AV := [.sl 2 (g.S.map eType), .sl 3 (g.O.map eObj), .sl 1 (g.Roots.map eI)]
theorem GVal.ext_iff' (a b : GVal) : a = b ↔ a.N = b.N ∧ a.S = b.S ∧ a.R = b.R := by
  cases a; cases b; simp
theorem GField.ext_iff' (a b : GField) : a = b ↔ a.Name = b.Name ∧ a.Kind = b.Kind ∧ a.To = b.To := by
  cases a; cases b; simp
instance : DecidableEq GVal := fun a b => decidable_of_iff _ (GVal.ext_iff' a b).symm
instance : DecidableEq GField := fun a b => decidable_of_iff _ (GField.ext_iff' a b).symm
theorem GObj.ext_iff' (a b : GObj) : a = b ↔ a.Id = b.Id ∧ a.T = b.T ∧ a.F = b.F := by
  cases a; cases b; simp
instance : DecidableEq GObj := fun a b => decidable_of_iff _ (GObj.ext_iff' a b).symm
theorem GType.ext_iff' (a b : GType) : a = b ↔ a.Name = b.Name ∧ a.F = b.F := by
  cases a; cases b; simp
instance : DecidableEq GType := fun a b => decidable_of_iff _ (GType.ext_iff' a b).symm
theorem Graph.ext_iff' (a b : Graph) : a = b ↔ a.S = b.S ∧ a.O = b.O ∧ a.Roots = b.Roots := by
  cases a; cases b; simp
instance : DecidableEq Graph := fun a b => decidable_of_iff _ (Graph.ext_iff' a b).symm
theorem take_same {α : Type} {a b : List α} {i : Nat} {x : α} (h : a.take i = b.take i) (h1 : a[i]? = some x) (h2 : b[i]? = some x) : a.take (i + 1) = b.take (i + 1) := by
  rw [List.take_add_one, List.take_add_one, h, h1, h2]
theorem all_same {α : Type} {a b : List α} {i : Nat} (h : a.take i = b.take i) (h1 : i = a.length) (h2 : a.length = b.length) : a = b := by
  rw [h1, List.take_length, h2, List.take_length] at h; exact h
theorem frz_map {α : Type} {e : α → List AV} (h : ∀ x, ∀ a ∈ e x, a.tree = false) (n : Nat) (xs : List α) : (AV.own n (xs.map e)).freeze = .sl n (xs.map e) := by
  have : ∀ x, (e x).map AV.freeze = e x := fun x => by
    have : (e x).map AV.freeze = (e x).map (fun a => a) := List.map_congr_left fun a ha => freeze_plain (h x a ha)
    rw [this, List.map_id']
  simp only [AV.freeze, List.map_map]
  congr 1
  refine List.map_congr_left fun x _ => ?_
  exact this x
theorem frz_I (n : Nat) (xs : List Int) : (AV.own n (xs.map eI)).freeze = .sl n (xs.map eI) := frz_map (fun x a ha => by simp [eI] at ha; subst ha; rfl) n xs
theorem frz_Val (n : Nat) (xs : List GVal) : (AV.own n (xs.map eVal)).freeze = .sl n (xs.map eVal) := frz_map (fun x a ha => by simp [eVal] at ha; rcases ha with rfl | rfl | rfl <;> rfl) n xs
theorem frz_Obj (n : Nat) (xs : List GObj) : (AV.own n (xs.map eObj)).freeze = .sl n (xs.map eObj) := frz_map (fun x a ha => by simp [eObj] at ha; rcases ha with rfl | rfl | rfl <;> rfl) n xs
theorem frz_Field (n : Nat) (xs : List GField) : (AV.own n (xs.map eField)).freeze = .sl n (xs.map eField) := frz_map (fun x a ha => by simp [eField] at ha; rcases ha with rfl | rfl | rfl <;> rfl) n xs
theorem frz_Type (n : Nat) (xs : List GType) : (AV.own n (xs.map eType)).freeze = .sl n (xs.map eType) := frz_map (fun x a ha => by simp [eType] at ha; rcases ha with rfl | rfl <;> rfl) n xs
attribute [go_sem] frz_I frz_Val frz_Obj frz_Field frz_Type
def letterB (c : Int) : Bool := (decide (97 ≤ c) && decide (c ≤ 122)) || ((decide (223 ≤ c) && decide (c ≤ 255)) && !decide (c = 247))
def digitB (c : Int) : Bool := decide (48 ≤ c) && decide (c ≤ 57)
theorem decode_pos (s : ByteArray) (i : Nat) : 0 < (Utf8.decode s i).2 := by
  unfold Utf8.decode
  simp only
  repeat' split
  all_goals simp
def scan (s : ByteArray) : Nat → Nat → Option Nat
  | 0, _ => some 0
  | f + 1, pos => if pos < s.size then (if (!letterB (Utf8.decode s pos).1 && (decide (pos = 0) || !digitB (Utf8.decode s pos).1)) = true then none else (scan s f (pos + (Utf8.decode s pos).2)).map (· + 1)) else some 0
def badAt (s : ByteArray) (pos : Nat) : Bool := !letterB (Utf8.decode s pos).1 && (decide (pos = 0) || !digitB (Utf8.decode s pos).1)
theorem scan_bad {s : ByteArray} {f pos : Nat} (h : pos < s.size) (hf : s.size ≤ pos + f) (hb : badAt s pos = true) : scan s f pos = none := by
  cases f with
  | zero => omega
  | succ f => unfold badAt at hb; simp only [scan]; rw [if_pos h, if_pos hb]
theorem scan_step {s : ByteArray} {f pos : Nat} (h : pos < s.size) (hf : s.size ≤ pos + f) (hb : badAt s pos = false) : ∃ f', s.size ≤ pos + (Utf8.decode s pos).2 + f' ∧ scan s f pos = (scan s f' (pos + (Utf8.decode s pos).2)).map (· + 1) := by
  cases f with
  | zero => omega
  | succ f =>
    have := decode_pos s pos
    refine ⟨f, by omega, ?_⟩
    unfold badAt at hb
    simp only [scan]; rw [if_pos h, if_neg (by rw [hb]; simp)]
theorem scan_end {s : ByteArray} {f pos : Nat} (h : s.size ≤ pos) : scan s f pos = some 0 := by
  cases f with
  | zero => rfl
  | succ f => simp only [scan]; rw [if_neg (by omega)]
def nameLen (s : ByteArray) : Nat := match scan s s.size 0 with
  | some n => if 8 < n then 0 else n
  | none => 0
def nameMay (s : ByteArray) : Bool := decide (0 < nameLen s)
def allp {α : Type} (p : α → α → Bool) : List α → List α → Bool
  | [], [] => true
  | x :: a, y :: b => p x y && allp p a b
  | _, _ => false
theorem allp_len {α : Type} {p : α → α → Bool} : ∀ {a b : List α}, a.length ≠ b.length → allp p a b = false
  | [], [], h => absurd rfl h
  | [], _ :: _, _ => rfl
  | _ :: _, [], _ => rfl
  | x :: a, y :: b, h => by simp only [allp]; rw [allp_len (a := a) (b := b) (fun e => h (by simp [e]))]; simp
theorem allp_no {α : Type} {p : α → α → Bool} : ∀ {a b : List α} {i : Nat} {x y : α}, a[i]? = some x → b[i]? = some y → p x y = false → allp p a b = false
  | [], _, i, x, y, h, _, _ => by simp at h
  | _ :: _, [], i, x, y, _, h, _ => by simp at h
  | u :: a, v :: b, 0, x, y, h1, h2, h => by simp at h1 h2; subst h1 h2; simp [allp, h]
  | u :: a, v :: b, i + 1, x, y, h1, h2, h => by simp only [allp]; rw [allp_no (a := a) (b := b) (by simpa using h1) (by simpa using h2) h]; simp
theorem allp_take {α : Type} {p : α → α → Bool} : ∀ {a b : List α} {i : Nat} {x y : α}, allp p (a.take i) (b.take i) = true → a[i]? = some x → b[i]? = some y → p x y = true → allp p (a.take (i + 1)) (b.take (i + 1)) = true
  | [], _, i, x, y, _, h, _, _ => by simp at h
  | _ :: _, [], i, x, y, _, _, h, _ => by simp at h
  | u :: a, v :: b, 0, x, y, _, h1, h2, h => by simp at h1 h2; subst h1 h2; simp [allp, h]
  | u :: a, v :: b, i + 1, x, y, h0, h1, h2, h => by
    simp only [List.take_succ_cons, allp, Bool.and_eq_true] at h0 ⊢
    exact ⟨h0.1, allp_take h0.2 (by simpa using h1) (by simpa using h2) h⟩
theorem allp_eq {α : Type} [DecidableEq α] {a b : List α} : allp (fun x y => decide (x = y)) a b = decide (a = b) := by
  induction a generalizing b with
  | nil => cases b <;> simp [allp]
  | cons x a ih => cases b with
    | nil => simp [allp]
    | cons y b => simp only [allp, ih, List.cons.injEq]; by_cases h1 : x = y <;> by_cases h2 : a = b <;> simp [h1, h2]
def fnd {α : Type} (p : α → Bool) (l : List α) : Int :=
  match l.findIdx? p with
  | some i => (i : Int)
  | none => -1
theorem fnd_at {α : Type} {p : α → Bool} {l : List α} {i : Nat} {x : α} (h : l[i]? = some x) (hp : p x = true) (hb : ∀ (j : Nat) (y : α), j < i → l[j]? = some y → p y = false) : fnd p l = i := by
  have hlt := (List.getElem?_eq_some_iff.1 h).1
  have : l.findIdx? p = some i := by
    rw [List.findIdx?_eq_some_iff_getElem]
    refine ⟨hlt, ?_, fun j hj => ?_⟩
    · have := (List.getElem?_eq_some_iff.1 h).2; rw [this]; exact hp
    · have := hb j l[j] hj (List.getElem?_eq_getElem (by omega)); simp [this]
  unfold fnd; rw [this]
theorem fnd_no {α : Type} {p : α → Bool} {l : List α} (hb : ∀ (j : Nat) (y : α), l[j]? = some y → p y = false) : fnd p l = -1 := by
  have : l.findIdx? p = none := by
    rw [List.findIdx?_eq_none_iff]
    intro x hx
    obtain ⟨j, hj⟩ := List.getElem?_of_mem hx
    exact hb j x hj
  unfold fnd; rw [this]
theorem any_at {α : Type} {p : α → Bool} {l : List α} {i : Nat} {x : α} (h : l[i]? = some x) (hp : p x = true) : l.any p = true := List.any_eq_true.2 ⟨x, List.mem_of_getElem? h, hp⟩
theorem any_no {α : Type} {p : α → Bool} {l : List α} (hb : ∀ (j : Nat) (y : α), l[j]? = some y → p y = false) : l.any p = false := by
  cases ha : l.any p with
  | false => rfl
  | true =>
    obtain ⟨x, hx, hp⟩ := List.any_eq_true.1 ha
    obtain ⟨j, hj⟩ := List.getElem?_of_mem hx
    rw [hb j x hj] at hp; cases hp
theorem below_succ {α : Type} {p : α → Bool} {l : List α} {i : Nat} {x : α} (hb : ∀ (j : Nat) (y : α), j < i → l[j]? = some y → p y = false) (h : l[i]? = some x) (hp : p x = false) : ∀ (j : Nat) (y : α), j < i + 1 → l[j]? = some y → p y = false := by
  intro j y hj hy
  by_cases e : j = i
  · subst e; rw [h] at hy; cases hy; exact hp
  · exact hb j y (by omega) hy
theorem below_all {α : Type} {p : α → Bool} {l : List α} (hb : ∀ (j : Nat) (y : α), j < l.length → l[j]? = some y → p y = false) : ∀ (j : Nat) (y : α), l[j]? = some y → p y = false :=
  fun j y hy => hb j y (List.getElem?_eq_some_iff.1 hy).1 hy
def allI {α : Type} (p : Nat → α → Bool) : Nat → List α → Bool
  | _, [] => true
  | k, x :: r => p k x && allI p (k + 1) r
theorem allI_no {α : Type} {p : Nat → α → Bool} : ∀ {l : List α} {k i : Nat} {x : α}, l[i]? = some x → p (k + i) x = false → allI p k l = false
  | [], _, i, x, h, _ => by simp at h
  | y :: l, k, 0, x, h, hp => by simp at h; subst h; simp [allI] at hp ⊢; simp [hp]
  | y :: l, k, i + 1, x, h, hp => by
    simp only [allI]
    rw [allI_no (l := l) (k := k + 1) (i := i) (by simpa using h) (by rw [show k + 1 + i = k + (i + 1) by omega]; exact hp)]
    simp
theorem allI_yes {α : Type} {p : Nat → α → Bool} : ∀ {l : List α} {k : Nat}, (∀ (j : Nat) (y : α), l[j]? = some y → p (k + j) y = true) → allI p k l = true
  | [], _, _ => rfl
  | y :: l, k, h => by
    simp only [allI, Bool.and_eq_true]
    refine ⟨by simpa using h 0 y rfl, allI_yes fun j z hz => ?_⟩
    have := h (j + 1) z (by simpa using hz)
    rw [show k + 1 + j = k + (j + 1) by omega]; exact this
theorem allI_at {α : Type} {p : Nat → α → Bool} : ∀ {l : List α} {k i : Nat} {x : α}, allI p k l = true → l[i]? = some x → p (k + i) x = true := by
  intro l k i x h hx
  cases hp : p (k + i) x with
  | true => rfl
  | false => rw [allI_no hx hp] at h; cases h
theorem belowI_succ {α : Type} {p : Nat → α → Bool} {l : List α} {i : Nat} {x : α} (hb : ∀ (j : Nat) (y : α), j < i → l[j]? = some y → p j y = true) (h : l[i]? = some x) (hp : p i x = true) : ∀ (j : Nat) (y : α), j < i + 1 → l[j]? = some y → p j y = true := by
  intro j y hj hy
  by_cases e : j = i
  · subst e; rw [h] at hy; cases hy; exact hp
  · exact hb j y (by omega) hy
theorem belowI_all {α : Type} {p : Nat → α → Bool} {l : List α} (hb : ∀ (j : Nat) (y : α), j < l.length → l[j]? = some y → p j y = true) : allI p 0 l = true :=
  allI_yes fun j y hy => by rw [Nat.zero_add]; exact hb j y (List.getElem?_eq_some_iff.1 hy).1 hy
def sFind (s : List GType) (n : ByteArray) : Int := fnd (fun o => decide (o.Name = n)) s
def fFind (s : List GField) (n : ByteArray) : Int := fnd (fun o => decide (o.Name = n)) s
def fieldMay (s : List GType) (f : GField) : Bool := ((if f.Kind = 5 then !decide (sFind s f.To = -1) else decide (f.To = ⟨#[]⟩)) && nameMay f.Name) && (decide (0 ≤ f.Kind) && decide (f.Kind < 6))
def fieldsMay (s : List GType) (t : GType) : Bool := allI (fun k f => fieldMay s f && decide (fFind t.F f.Name = k)) 0 t.F
def typeMay (s : List GType) (i : Nat) (t : GType) : Bool := ((nameMay t.Name && decide (sFind s t.Name = i)) && decide (t.F.length ≤ 5)) && fieldsMay s t
def schemaMay (s : List GType) : Bool := (decide (0 < s.length) && decide (s.length ≤ 4)) && allI (typeMay s) 0 s
end Go.Ab
namespace Go.Ab
open Go Go.RowKit
def numFits (k n : Int) : Bool :=
  if k = 0 then decide (-128 ≤ n) && decide (n < 128) else if k = 1 then decide (-32768 ≤ n) && decide (n < 32768) else if k = 2 then decide (-2147483648 ≤ n) && decide (n < 2147483648) else
  if k = 3 then decide (-9223372036854775808 ≤ n) && decide (n < 9223372036854775808) else false
def valFits (f : GField) (v : GVal) : Bool :=
  if f.Kind = 4 then decide (v.S.size ≤ 12) && (decide (v.N = 0) && decide (v.R = 0)) else
  if f.Kind = 5 then (decide (-1 ≤ v.R) && decide (v.R ≤ 1073741824)) && (decide (v.N = 0) && decide (v.S = ⟨#[]⟩)) else
  numFits f.Kind v.N && (decide (v.S = ⟨#[]⟩) && decide (v.R = 0))
def typ : List GObj → Int → Option Int
  | [], _ => none
  | o :: r, i => match typ r i with
    | some t => some t
    | none => if o.Id = i then some o.T else none
def tmap (l : List GObj) : List (Int × AV) := l.foldl (fun m o => mapput m o.Id (.int .i64 o.T)) []
theorem maplk_mapput (m : List (Int × AV)) (k i : Int) (v : AV) : maplk (mapput m k v) i = if i = k then some v else maplk m i := by
  induction m with
  | nil => simp [mapput, maplk]
  | cons p m ih =>
    obtain ⟨a, b⟩ := p
    simp only [mapput]
    by_cases h : k = a
    · subst h; simp only [if_true, maplk]; split <;> simp_all
    · simp only [h, if_false, maplk, ih]; by_cases h2 : i = a
      · subst h2; simp [show ¬ i = k from fun e => h e.symm]
      · simp [h2]
theorem maplk_foldl (l : List GObj) : ∀ (m : List (Int × AV)) (i : Int), maplk (l.foldl (fun m o => mapput m o.Id (.int .i64 o.T)) m) i = match typ l i with
    | some t => some (.int .i64 t)
    | none => maplk m i := by
  induction l with
  | nil => intro m i; simp [typ]
  | cons o l ih =>
    intro m i
    simp only [List.foldl_cons, ih, maplk_mapput, typ]
    cases h : typ l i with
    | some t => rfl
    | none => by_cases h2 : o.Id = i
              · subst h2; simp
              · simp [h2, show ¬ i = o.Id from fun e => h2 e.symm]
theorem maplk_tmap (l : List GObj) (i : Int) : maplk (tmap l) i = (typ l i).map (.int .i64 ·) := by
  unfold tmap; rw [maplk_foldl]; cases typ l i <;> rfl
theorem tmap_succ (l : List GObj) {i : Nat} {o : GObj} (h : l[i]? = some o) : tmap (l.take (i + 1)) = mapput (tmap (l.take i)) o.Id (.int .i64 o.T) := by
  unfold tmap; rw [List.take_add_one, h]; simp
theorem tmap_len (l : List GObj) : (tmap l).length ≤ l.length := by
  have : ∀ (l : List GObj) (m : List (Int × AV)), (l.foldl (fun m o => mapput m o.Id (.int .i64 o.T)) m).length ≤ m.length + l.length := by
    intro l
    induction l with
    | nil => intro m; simp
    | cons o l ih => intro m; simp only [List.foldl_cons]; have := ih (mapput m o.Id (.int .i64 o.T)); have := mapput_len m o.Id (.int .i64 o.T); simp only [List.length_cons]; omega
  unfold tmap; simpa using this l []
def leadsB (g : Graph) (f : GField) (v : GVal) : Bool :=
  valFits f v && (!decide (f.Kind = 5) || (decide (v.R = -1) || (match typ g.O v.R with
    | some t => decide (t = sFind g.S f.To)
    | none => false)))
def leadsAt (g : Graph) (l : List GField) (k : Nat) (v : GVal) : Bool := match l[k]? with
  | some f => leadsB g f v
  | none => false
def prevId (l : List GObj) : Nat → Int
  | 0 => -1
  | i + 1 => match l[i]? with
    | some o => o.Id
    | none => -1
def typeAt (s : List GType) (i : Int) : Option GType := if 0 ≤ i then s[i.toNat]? else none
def objectB (g : Graph) (o : GObj) (last : Int) : Bool :=
  (decide (last < o.Id) && decide (o.Id ≤ 1073741824)) && (match typeAt g.S o.T with
    | some t => decide (o.F.length = t.F.length) && allI (fun k v => leadsAt g t.F k v) 0 o.F
    | none => false)
def rootB (g : Graph) (r : Int) : Bool := decide (r = -1) || (typ g.O r).isSome
def gMay (g : Graph) : Bool :=
  ((schemaMay g.S && decide (g.O.length ≤ 8)) && decide (g.Roots.length ≤ 3)) && (allI (fun i o => objectB g o (prevId g.O i)) 0 g.O && g.Roots.all (rootB g))
def gFind (g : Graph) (i : Int) : Int := fnd (fun o => decide (o.Id = i)) g.O
end Go.Ab
namespace Go.Ab
open Go Go.RowKit
def meet (l : List Int) (i : Int) : List Int := if i = -1 ∨ i ∈ l then l else l ++ [i]
def mets (l is : List Int) : List Int := is.foldl meet l
theorem mapput_new {es : List (Int × AV)} {i : Int} {v : AV} (h : maplk es i = none) : mapput es i v = es ++ [(i, v)] := by
  induction es with
  | nil => rfl
  | cons p es ih =>
    obtain ⟨a, b⟩ := p
    simp only [maplk] at h
    by_cases e : i = a
    · simp [e] at h
    · rw [if_neg e] at h
      simp only [mapput, if_neg e, ih h, List.cons_append]
def refsZ (z : List (GField × GVal)) : List Int := z.filterMap fun p => if p.1.Kind = 5 then some p.2.R else none
theorem refsZ_no {z : List (GField × GVal)} {k : Nat} {f : GField} {v : GVal} (h : z[k]? = some (f, v)) (hk : f.Kind ≠ 5) : refsZ (z.take (k + 1)) = refsZ (z.take k) := by
  rw [List.take_add_one, h]
  simp [refsZ, hk]
def objAt (g : Graph) (i : Int) : Option GObj := g.O.find? fun o => decide (o.Id = i)
def refsO (g : Graph) (o : GObj) : List Int := match typeAt g.S o.T with
  | some t => refsZ (t.F.zip o.F)
  | none => []
def refsOf (g : Graph) (i : Int) : List Int := match objAt g i with
  | some o => refsO g o
  | none => []
def ordF (g : Graph) : Nat → Nat → List Int → List Int
  | 0, _, l => l
  | n + 1, i, l => match l[i]? with
    | none => l
    | some x => ordF g n (i + 1) (mets l (refsOf g x))
def order (g : Graph) : List Int := ordF g g.O.length 0 (mets [] g.Roots)
theorem typ_some {l : List GObj} {i t : Int} (h : typ l i = some t) : ∃ o ∈ l, o.Id = i ∧ o.T = t := by
  induction l with
  | nil => simp [typ] at h
  | cons o l ih =>
    simp only [typ] at h
    cases h2 : typ l i with
    | some t' =>
      rw [h2] at h; cases h
      obtain ⟨x, hx, h3⟩ := ih h2
      exact ⟨x, List.mem_cons_of_mem _ hx, h3⟩
    | none =>
      rw [h2] at h
      simp only at h
      split at h
      · rename_i e; cases h; exact ⟨o, List.mem_cons_self, e, rfl⟩
      · cases h
theorem typ_mem {l : List GObj} {o : GObj} (h : o ∈ l) : (typ l o.Id).isSome = true := by
  induction l with
  | nil => cases h
  | cons x l ih =>
    simp only [typ]
    rcases List.mem_cons.1 h with rfl | h
    · cases typ l o.Id <;> simp
    · have := ih h
      cases h2 : typ l o.Id with
      | some t => rfl
      | none => rw [h2] at this; cases this
theorem typ_none {l : List GObj} {i : Int} (h : typ l i = none) : ∀ o ∈ l, o.Id ≠ i := fun o ho e => by
  have := typ_mem ho; rw [e, h] at this; cases this
structure May (g : Graph) : Prop where
  s : schemaMay g.S = true
  o : g.O.length ≤ 8
  r : g.Roots.length ≤ 3
  obj : ∀ (i : Nat) (x : GObj), g.O[i]? = some x → objectB g x (prevId g.O i) = true
  root : ∀ r ∈ g.Roots, rootB g r = true
theorem may_iff (g : Graph) : gMay g = true ↔ May g := by
  unfold gMay
  simp only [Bool.and_eq_true, decide_eq_true_eq, List.all_eq_true]
  constructor
  · rintro ⟨⟨⟨h1, h2⟩, h3⟩, h4, h5⟩
    exact ⟨h1, h2, h3, fun i x hx => by simpa using allI_at h4 hx, h5⟩
  · rintro ⟨h1, h2, h3, h4, h5⟩
    exact ⟨⟨⟨h1, h2⟩, h3⟩, allI_yes fun j y hy => by rw [Nat.zero_add]; exact h4 j y hy, h5⟩
structure MayO (g : Graph) (x : GObj) (t : GType) : Prop where
  id : x.Id ≤ 1073741824
  t0 : 0 ≤ x.T
  at_ : g.S[x.T.toNat]? = some t
  len : x.F.length = t.F.length
  lead : ∀ (k : Nat) (f : GField) (v : GVal), t.F[k]? = some f → x.F[k]? = some v → leadsB g f v = true
theorem May.objT {g : Graph} (h : May g) {i : Nat} {x : GObj} (hx : g.O[i]? = some x) : prevId g.O i < x.Id ∧ ∃ t, typeAt g.S x.T = some t ∧ MayO g x t := by
  have := h.obj i x hx
  unfold objectB at this
  simp only [Bool.and_eq_true, decide_eq_true_eq] at this
  obtain ⟨⟨h1, h2⟩, h3⟩ := this
  refine ⟨h1, ?_⟩
  cases ht : typeAt g.S x.T with
  | none => rw [ht] at h3; cases h3
  | some t =>
    rw [ht] at h3
    simp only [Bool.and_eq_true, decide_eq_true_eq] at h3
    have h0 : 0 ≤ x.T := by
      unfold typeAt at ht; split at ht
      · assumption
      · cases ht
    refine ⟨t, rfl, h2, h0, ?_, h3.1, fun k f v hf hv => ?_⟩
    · unfold typeAt at ht; rw [if_pos h0] at ht; exact ht
    · have := allI_at h3.2 hv
      unfold leadsAt at this
      rw [Nat.zero_add, hf] at this
      exact this
theorem May.ids {g : Graph} (h : May g) : ∀ (i : Nat) (x : GObj), g.O[i]? = some x → -1 < x.Id ∧ ∀ (j : Nat) (y : GObj), j < i → g.O[j]? = some y → y.Id < x.Id := by
  intro i
  induction i with
  | zero => intro x hx; exact ⟨by simpa [prevId] using (h.objT hx).1, fun j y hj => by omega⟩
  | succ i ih =>
    intro x hx
    have h1 := (h.objT hx).1
    have hlt := (List.getElem?_eq_some_iff.1 hx).1
    obtain ⟨z, hz⟩ : ∃ z, g.O[i]? = some z := ⟨g.O[i], List.getElem?_eq_getElem (by omega)⟩
    simp only [prevId, hz] at h1
    obtain ⟨h2, h3⟩ := ih z hz
    refine ⟨by omega, fun j y hj hy => ?_⟩
    by_cases e : j = i
    · subst e; rw [hz] at hy; cases hy; exact h1
    · have := h3 j y (by omega) hy; omega
theorem May.pos {g : Graph} (h : May g) {x : GObj} (hx : x ∈ g.O) : 0 ≤ x.Id := by
  obtain ⟨i, hi⟩ := List.getElem?_of_mem hx
  have := (h.ids i x hi).1; omega
theorem May.inj {g : Graph} (h : May g) {i j : Nat} {x y : GObj} (hx : g.O[i]? = some x) (hy : g.O[j]? = some y) (e : x.Id = y.Id) : i = j := by
  rcases Nat.lt_trichotomy i j with hl | hl | hl
  · have := (h.ids j y hy).2 i x hl hx; omega
  · exact hl
  · have := (h.ids i x hx).2 j y hl hy; omega
theorem May.find {g : Graph} (h : May g) {i : Int} (hi : (typ g.O i).isSome = true) : ∃ (p : Nat) (x : GObj), g.O[p]? = some x ∧ x.Id = i ∧ gFind g i = p ∧ objAt g i = some x ∧ typ g.O i = some x.T := by
  cases ht : typ g.O i with
  | none => rw [ht] at hi; cases hi
  | some t =>
    obtain ⟨x, hx, e1, e2⟩ := typ_some ht
    obtain ⟨p, hp⟩ := List.getElem?_of_mem hx
    have hbel : ∀ (j : Nat) (y : GObj), j < p → g.O[j]? = some y → decide (y.Id = i) = false := fun j y hj hy => by
      have := (h.ids p x hp).2 j y hj hy
      simp; omega
    refine ⟨p, x, hp, e1, ?_, ?_, by rw [e2]⟩
    · exact fnd_at hp (by simpa using e1) hbel
    · unfold objAt
      rw [List.find?_eq_some_iff_getElem]
      have hlt := (List.getElem?_eq_some_iff.1 hp).1
      refine ⟨by simpa using e1, p, hlt, (List.getElem?_eq_some_iff.1 hp).2, fun j hj => ?_⟩
      have := hbel j g.O[j] hj (List.getElem?_eq_getElem (by omega))
      simp only [Bool.not_eq_true', this]
theorem May.mem {g : Graph} (h : May g) {x : GObj} (hx : x ∈ g.O) : objAt g x.Id = some x := by
  obtain ⟨p, y, h1, h2, _, h4, _⟩ := h.find (typ_mem hx)
  obtain ⟨q, hq⟩ := List.getElem?_of_mem hx
  have := h.inj h1 hq h2
  subst this
  rw [h1] at hq; cases hq; exact h4
theorem nodup_len : ∀ (l m : List Int), l.Nodup → (∀ x ∈ l, x ∈ m) → l.length ≤ m.length
  | [], _, _, _ => Nat.zero_le _
  | x :: l, m, h, hs => by
    have hx := hs x List.mem_cons_self
    have h2 := List.nodup_cons.1 h
    have := nodup_len l (m.erase x) h2.2 fun y hy => by
      have hy2 := hs y (List.mem_cons_of_mem _ hy)
      have hne : y ≠ x := fun e => h2.1 (e ▸ hy)
      exact (List.mem_erase_of_ne hne).2 hy2
    rw [List.length_erase_of_mem hx] at this
    have := List.length_pos_of_mem hx
    simp only [List.length_cons]; omega
structure Good (g : Graph) (l : List Int) : Prop where
  nodup : l.Nodup
  ids : ∀ i ∈ l, (typ g.O i).isSome = true
theorem Good.len {g : Graph} {l : List Int} (h : Good g l) : l.length ≤ g.O.length := by
  have := nodup_len l (g.O.map (·.Id)) h.nodup fun x hx => by
    cases ht : typ g.O x with
    | none => have := h.ids x hx; rw [ht] at this; cases this
    | some t => obtain ⟨o, ho, e, _⟩ := typ_some ht; exact List.mem_map.2 ⟨o, ho, e⟩
  simpa using this
theorem Good.nil (g : Graph) : Good g [] := ⟨List.nodup_nil, fun i hi => by cases hi⟩
theorem Good.meet {g : Graph} {l : List Int} (h : Good g l) {i : Int} (hi : rootB g i = true) : Good g (meet l i) := by
  unfold Ab.meet
  split
  · exact h
  · rename_i hn
    rw [not_or] at hn
    unfold rootB at hi
    simp only [Bool.or_eq_true, decide_eq_true_eq] at hi
    have hi := hi.resolve_left hn.1
    refine ⟨?_, fun j hj => ?_⟩
    · rw [List.nodup_append]
      exact ⟨h.nodup, by simp, fun a ha b hb => by simp at hb; subst hb; exact fun e => hn.2 (e ▸ ha)⟩
    · rcases List.mem_append.1 hj with hj | hj
      · exact h.ids j hj
      · simp at hj; subst hj; exact hi
theorem Good.mets {g : Graph} : ∀ {is l : List Int}, Good g l → (∀ i ∈ is, rootB g i = true) → Good g (mets l is)
  | [], _, h, _ => h
  | i :: is, l, h, hi => Good.mets (is := is) (h.meet (hi i List.mem_cons_self)) fun j hj => hi j (List.mem_cons_of_mem _ hj)
theorem MayO.ref {g : Graph} {x : GObj} {t : GType} (h : MayO g x t) {k : Nat} {f : GField} {v : GVal} (hf : t.F[k]? = some f) (hv : x.F[k]? = some v) (hk : f.Kind = 5) : rootB g v.R = true := by
  have := h.lead k f v hf hv
  unfold leadsB at this
  simp only [Bool.and_eq_true, Bool.or_eq_true, hk, decide_true, Bool.not_true, Bool.false_eq_true, false_or, decide_eq_true_eq] at this
  unfold rootB
  simp only [Bool.or_eq_true, decide_eq_true_eq]
  rcases this.2 with h1 | h1
  · exact .inl h1
  · cases ht : typ g.O v.R with
    | none => rw [ht] at h1; cases h1
    | some t => exact .inr rfl
theorem MayO.refs {g : Graph} {x : GObj} {t : GType} (h : MayO g x t) : ∀ r ∈ refsZ (t.F.zip x.F), rootB g r = true := by
  intro r hr
  unfold refsZ at hr
  obtain ⟨⟨f, v⟩, hp, e⟩ := List.mem_filterMap.1 hr
  simp only at e
  split at e
  · rename_i hk; cases e
    obtain ⟨k, hk2⟩ := List.getElem?_of_mem hp
    rw [List.getElem?_zip_eq_some] at hk2
    exact h.ref hk2.1 hk2.2 hk
  · cases e
theorem May.refsOf {g : Graph} (h : May g) (i : Int) : ∀ r ∈ refsOf g i, rootB g r = true := by
  intro r hr
  unfold Ab.refsOf at hr
  split at hr
  · rename_i o ho
    have hm : o ∈ g.O := List.mem_of_find?_eq_some ho
    obtain ⟨p, hp⟩ := List.getElem?_of_mem hm
    obtain ⟨_, t, h1, h2⟩ := h.objT hp
    unfold refsO at hr
    rw [h1] at hr
    exact h2.refs r hr
  · cases hr
theorem May.ordF {g : Graph} (h : May g) : ∀ (n i : Nat) (l : List Int), Good g l → Good g (ordF g n i l)
  | 0, _, _, hl => hl
  | n + 1, i, l, hl => by
    unfold Ab.ordF
    split
    · exact hl
    · exact May.ordF h n (i + 1) _ (hl.mets (h.refsOf _))
theorem May.order {g : Graph} (h : May g) : Good g (order g) := h.ordF _ _ _ ((Good.nil g).mets h.root)
end Go.Ab
namespace Go.Ab
open Go Go.RowKit
theorem set_same {α : Type} {l : List α} {i : Nat} {x : α} (h : l[i]? = some x) : l.set i x = l := by
  apply List.ext_getElem?
  intro j
  rw [List.getElem?_set]
  split
  · rename_i e; subst e
    rw [h]
    have := (List.getElem?_eq_some_iff.1 h).1
    simp [this]
  · rfl
theorem mets_pre : ∀ (l is : List Int), ∃ s, mets l is = l ++ s
  | l, [] => ⟨[], by simp [mets]⟩
  | l, i :: is => by
    obtain ⟨s, hs⟩ := mets_pre (meet l i) is
    have e : mets l (i :: is) = mets (meet l i) is := rfl
    rw [e, hs]
    unfold meet
    split
    · exact ⟨s, rfl⟩
    · exact ⟨i :: s, by simp⟩
theorem mem_meet (l : List Int) (i j : Int) : j ∈ meet l i ↔ j ∈ l ∨ (j = i ∧ i ≠ -1) := by
  unfold meet
  split
  · rename_i h
    constructor
    · exact .inl
    · rintro (h1 | ⟨rfl, h2⟩)
      · exact h1
      · exact h.resolve_left h2
  · rename_i h
    rw [not_or] at h
    simp only [List.mem_append, List.mem_singleton]
    constructor
    · rintro (h1 | h1)
      · exact .inl h1
      · exact .inr ⟨h1, h.1⟩
    · rintro (h1 | h1)
      · exact .inl h1
      · exact .inr h1.1
theorem mem_mets : ∀ (is l : List Int) (j : Int), j ∈ mets l is ↔ j ∈ l ∨ (j ∈ is ∧ j ≠ -1)
  | [], l, j => by simp [mets]
  | i :: is, l, j => by
    have e : mets l (i :: is) = mets (meet l i) is := rfl
    rw [e, mem_mets is, mem_meet, List.mem_cons]
    constructor
    · rintro ((h | ⟨rfl, h⟩) | ⟨h, h2⟩)
      · exact .inl h
      · exact .inr ⟨.inl rfl, h⟩
      · exact .inr ⟨.inr h, h2⟩
    · rintro (h | ⟨rfl | h, h2⟩)
      · exact .inl (.inl h)
      · exact .inl (.inr ⟨rfl, h2⟩)
      · exact .inr ⟨h, h2⟩
def Clo (g : Graph) (i : Nat) (l : List Int) : Prop := ∀ (j : Nat) (x : Int), j < i → l[j]? = some x → ∀ r ∈ refsOf g x, r = -1 ∨ r ∈ l
theorem ordF_pre (g : Graph) : ∀ (n i : Nat) (l : List Int), ∃ s, ordF g n i l = l ++ s
  | 0, _, l => ⟨[], by simp [ordF]⟩
  | n + 1, i, l => by
    unfold ordF
    split
    · exact ⟨[], by simp⟩
    · rename_i x hx
      obtain ⟨s, hs⟩ := mets_pre l (refsOf g x)
      obtain ⟨s', hs'⟩ := ordF_pre g n (i + 1) (mets l (refsOf g x))
      exact ⟨s ++ s', by rw [hs', hs, List.append_assoc]⟩
theorem ordF_clo {g : Graph} (h : May g) : ∀ (n i : Nat) (l : List Int), Good g l → Clo g i l → n + i = g.O.length → Clo g (ordF g n i l).length (ordF g n i l)
  | 0, i, l, hg, hc, e => by
    intro j x hj hx
    have := hg.len
    exact hc j x (by have := (List.getElem?_eq_some_iff.1 hx).1; simp only [ordF] at this; omega) hx
  | n + 1, i, l, hg, hc, e => by
    unfold ordF
    split
    · rename_i hn
      intro j x hj hx
      have h1 := List.getElem?_eq_none_iff.1 hn
      exact hc j x (by omega) hx
    · rename_i y hy
      refine ordF_clo h n (i + 1) _ (hg.mets (h.refsOf y)) ?_ (by omega)
      intro j x hj hx r hr
      obtain ⟨s, hs⟩ := mets_pre l (refsOf g y)
      have hil := (List.getElem?_eq_some_iff.1 hy).1
      rw [hs, List.getElem?_append_left (by omega)] at hx
      by_cases e1 : j = i
      · subst e1
        rw [hy] at hx; cases hx
        by_cases e2 : r = -1
        · exact .inl e2
        · exact .inr ((mem_mets _ _ _).2 (.inr ⟨hr, e2⟩))
      · rcases hc j x (by omega) hx r hr with h1 | h1
        · exact .inl h1
        · exact .inr ((mem_mets _ _ _).2 (.inl h1))
theorem May.clo {g : Graph} (h : May g) {x : Int} (hx : x ∈ Ab.order g) : ∀ r ∈ Ab.refsOf g x, r = -1 ∨ r ∈ Ab.order g := by
  obtain ⟨j, hj⟩ := List.getElem?_of_mem hx
  exact ordF_clo h g.O.length 0 _ ((Good.nil g).mets h.root) (fun j x hj => by omega) rfl j x (List.getElem?_eq_some_iff.1 hj).1 hj
theorem May.rootIn {g : Graph} (_ : May g) {r : Int} (hr : r ∈ g.Roots) : r = -1 ∨ r ∈ Ab.order g := by
  obtain ⟨s, hs⟩ := ordF_pre g g.O.length 0 (mets [] g.Roots)
  by_cases e : r = -1
  · exact .inl e
  · refine .inr ?_
    unfold Ab.order
    rw [hs]
    exact List.mem_append_left _ ((mem_mets _ _ _).2 (.inr ⟨hr, e⟩))
end Go.Ab
namespace Go.Ab
open Go Go.RowKit
def oneS : List GType := [⟨⟨#[97]⟩, [⟨⟨#[110]⟩, 2, ⟨#[]⟩⟩, ⟨⟨#[111]⟩, 5, ⟨#[97]⟩⟩]⟩]
def few06 (s : List GType) (k : Int) : Bool := allI (fun _ t => decide ((t.F.length : Int) ≤ k)) 0 s && decide ((s.length : Int) ≤ k)
def fewG (g : Graph) : Bool := ((few06 g.S 10 && decide (g.O.length ≤ 12)) && decide (g.Roots.length ≤ 10)) && allI (fun _ (o : GObj) => decide (o.F.length ≤ 10)) 0 g.O
set_option maxRecDepth 100000
end Go.Ab
namespace Go.Ab
open Go Go.RowKit
def eObjO (o : GObj) : List AV := [.int .i64 o.Id, .int .i64 o.T, .own 3 (o.F.map eVal)]
def mixO (l : List GObj) (i : Nat) : List (List AV) := (l.take i).map eObjO ++ (l.drop i).map eObj
theorem mixO_len (l : List GObj) (i : Nat) : (mixO l i).length = l.length := by simp [mixO]; omega
theorem mixO_zero (l : List GObj) : mixO l 0 = l.map eObj := by simp [mixO]
theorem mixO_all (l : List GObj) : mixO l l.length = l.map eObjO := by simp [mixO]
theorem mixO_get {l : List GObj} {i : Nat} {x : GObj} (h : l[i]? = some x) : (mixO l i)[i]? = some (eObj x) := by
  have := (List.getElem?_eq_some_iff.1 h).1
  unfold mixO
  rw [List.getElem?_append_right (by simp; omega)]
  simp [Nat.min_eq_left (Nat.le_of_lt this), h]
theorem mixO_set {l : List GObj} {i : Nat} {x : GObj} (h : l[i]? = some x) : (mixO l i).set i (eObjO x) = mixO l (i + 1) := by
  obtain ⟨hl, hx⟩ := List.getElem?_eq_some_iff.1 h
  unfold mixO
  have e : ((l.take i).map eObjO).length = i := by simp; omega
  rw [List.set_append, if_neg (by omega), e, Nat.sub_self, List.drop_eq_getElem_cons hl, List.map_cons, List.set_cons_zero, List.take_add_one, h]
  simp
theorem frz_ObjO (n : Nat) (xs : List GObj) : (AV.own n (xs.map eObjO)).freeze = .sl n (xs.map eObj) := by
  simp only [AV.freeze, List.map_map]
  congr 1
  refine List.map_congr_left fun x _ => ?_
  simp [eObjO, eObj, AV.freeze]
  intro a _
  simp [eVal, AV.freeze]
attribute [go_sem] frz_ObjO
def OWN (g : Graph) : List AV := [.own 2 (g.S.map eType), .own 3 (g.O.map eObjO), .own 1 (g.Roots.map eI)]
structure GSz (g : Graph) : Prop where
  s : g.S.length * 40 ≤ MX
  sf : ∀ x ∈ g.S, x.F.length * 40 ≤ MX
  o : g.O.length * 40 ≤ MX
  of_ : ∀ x ∈ g.O, x.F.length * 32 ≤ MX
  r : g.Roots.length * 8 ≤ MX
def sSet (g : Graph) (i : Nat) (x : GObj) (k : Nat) (v : GVal) : Graph := ⟨g.S, g.O.set i ⟨x.Id, x.T, x.F.set k v⟩, g.Roots⟩
def tyF (g : Graph) (t : Int) : List GField := match typeAt g.S t with
  | some t => t.F
  | none => []
def gSet (g : Graph) (id k : Int) (v : GVal) : Graph × Int :=
  if gMay g = false then (g, 1) else match g.O.findIdx? (fun o => decide (o.Id = id)) with
  | none => (g, 11)
  | some i => match g.O[i]? with
    | none => (g, 11)
    | some x => if k < 0 ∨ (x.F.length : Int) ≤ k then (g, 11) else if leadsAt g (tyF g x.T) k.toNat v = true then (sSet g i x k.toNat v, 0) else (g, 6)
structure GChange where
  New : List Int
  Gone : List Int
  Set : List (Int × Int)
  Roots : List Int
def eP (p : Int × Int) : List AV := [.int .i64 p.1, .int .i64 p.2]
theorem GChange.ext_iff' (a b : GChange) : a = b ↔ a.New = b.New ∧ a.Gone = b.Gone ∧ a.Set = b.Set ∧ a.Roots = b.Roots := by
  cases a; cases b; simp
instance : DecidableEq GChange := fun a b => decidable_of_iff _ (GChange.ext_iff' a b).symm
theorem frz_P (n : Nat) (xs : List (Int × Int)) : (AV.own n (xs.map eP)).freeze = .sl n (xs.map eP) := frz_map (fun x a ha => by simp [eP] at ha; rcases ha with rfl | rfl <;> rfl) n xs
attribute [go_sem] frz_P
theorem wrap_add {a b : Nat} (h : a + b ≤ MX) : IntKind.i64.wrap ((a : Int) + (b : Int)) = ((a + b : Nat) : Int) := by
  cases a with
  | zero => cases b with
    | zero => rfl
    | succ b => have := @wrap_succ b (by omega); rw [show ((0 : Nat) : Int) + ((b + 1 : Nat) : Int) = (b : Int) + 1 by omega, this]; simp
  | succ a => have := @wrap_succ (a + b) (by omega); rw [show ((a + 1 : Nat) : Int) + (b : Int) = ((a + b : Nat) : Int) + 1 by omega, this, show a + b + 1 = a + 1 + b by omega]
theorem find_cases {α : Type} (p : α → Bool) (l : List α) : (fnd p l = -1 ∧ l.find? p = none ∧ l.findIdx? p = none) ∨ ∃ (i : Nat) (x : α), fnd p l = i ∧ l[i]? = some x ∧ l.find? p = some x ∧ l.findIdx? p = some i ∧ p x = true := by
  cases h : l.findIdx? p with
  | none =>
    left
    refine ⟨by unfold fnd; rw [h], ?_, rfl⟩
    rw [List.findIdx?_eq_none_iff] at h
    rw [List.find?_eq_none]
    intro x hx
    simp [h x hx]
  | some i =>
    right
    rw [List.findIdx?_eq_some_iff_getElem] at h
    obtain ⟨h1, h2, h3⟩ := h
    refine ⟨i, l[i], by unfold fnd; rw [List.findIdx?_eq_some_iff_getElem.2 ⟨h1, h2, h3⟩], List.getElem?_eq_getElem h1, ?_, rfl, h2⟩
    rw [List.find?_eq_some_iff_getElem]
    exact ⟨h2, i, h1, rfl, fun j hj => by have := h3 j hj; simpa using this⟩
theorem May.small {g : Graph} (h : May g) : g.S.length ≤ 4 ∧ (∀ x ∈ g.S, x.F.length ≤ 5) ∧ ∀ x ∈ g.O, x.F.length ≤ 5 := by
  have h0 := h.s
  unfold schemaMay at h0
  simp only [Bool.and_eq_true, decide_eq_true_eq] at h0
  have h1 : ∀ x ∈ g.S, x.F.length ≤ 5 := fun x hx => by
    obtain ⟨j, hj⟩ := List.getElem?_of_mem hx
    have := allI_at h0.2 hj
    unfold typeMay at this; simp at this; omega
  refine ⟨h0.1.2, h1, fun x hx => ?_⟩
  obtain ⟨j, hj⟩ := List.getElem?_of_mem hx
  obtain ⟨_, t, _, ho⟩ := h.objT hj
  have := h1 t (List.mem_of_getElem? ho.at_)
  have := ho.len
  omega
def twG : Graph := ⟨oneS, [⟨0, 0, [⟨7, ⟨#[]⟩, 0⟩, ⟨0, ⟨#[]⟩, -1⟩]⟩, ⟨5, 0, [⟨8, ⟨#[]⟩, 0⟩, ⟨0, ⟨#[]⟩, 0⟩]⟩], [0]⟩
set_option maxRecDepth 100000
theorem twG_sz : GSz twG := ⟨by decide, by decide, by decide, by decide, by decide⟩
theorem twG_may : gMay twG = true := by decide
end Go.Ab
namespace Go.Ab
open Go Go.RowKit
theorem May.pre {g : Graph} (_ : May g) (i : Nat) : ∃ s, Ab.order g = mets [] (g.Roots.take i) ++ s := by
  obtain ⟨s, hs⟩ := ordF_pre g g.O.length 0 (mets [] g.Roots)
  have e : mets [] g.Roots = mets (mets [] (g.Roots.take i)) (g.Roots.drop i) := by
    unfold mets
    rw [← List.foldl_append, List.take_append_drop]
  obtain ⟨s', hs'⟩ := mets_pre (mets [] (g.Roots.take i)) (g.Roots.drop i)
  exact ⟨s' ++ s, by unfold Ab.order; rw [hs, e, hs', List.append_assoc]⟩
end Go.Ab
namespace Go.Ab
open Go Go.RowKit
theorem May.nonneg {g : Graph} (h : May g) {x : Int} (hx : x ∈ Ab.order g) : 0 ≤ x := by
  obtain ⟨p, o, hp, e1, _⟩ := h.find (h.order.ids x hx)
  have := h.pos (List.mem_of_getElem? hp); omega
end Go.Ab
namespace Go.Ab
open Go Go.RowKit
set_option maxRecDepth 20000
def bt (s : ByteArray) (k : Nat) : Nat := (s.get! k).toNat
def conts (s : ByteArray) : Nat → Bool
  | 0 => true
  | k + 1 => conts s k && (decide (128 ≤ bt s (k + 1)) && decide (bt s (k + 1) ≤ 191))
def cAt (s : ByteArray) (c0 : Nat) : Nat → Nat
  | 0 => c0
  | k + 1 => 64 * cAt s c0 k + bt s (k + 1) - 128
def okC (low c : Nat) : Bool := decide (low ≤ c) && (decide (c ≤ 1114111) && !(decide (55296 ≤ c) && decide (c ≤ 57343)))
theorem bt_lt (s : ByteArray) (k : Nat) : bt s k < 256 := (s.get! k).toNat_lt
theorem bt_at {s : ByteArray} {k : Nat} (h : k < s.size) : ∃ c, s.data.toList[k]? = some c ∧ c.toNat = bt s k := by
  have h' : k < s.data.size := h
  refine ⟨s.data[k], ?_, ?_⟩
  · rw [Array.getElem?_toList, Array.getElem?_eq_getElem h']
  · show s.data[k].toNat = (s.data[k]!).toNat
    rw [getElem!_pos s.data k h']
theorem conts_no {s : ByteArray} {j : Nat} (m : Nat) (h : conts s (j + 1) = false) (hj : j + 1 ≤ m) : conts s m = false := by
  induction m with
  | zero => omega
  | succ m ih =>
    by_cases e : j = m
    · subst e; exact h
    · simp only [conts, ih (by omega), Bool.false_and]
theorem cAt_le {s : ByteArray} {c0 : Nat} (h0 : c0 < 32) : ∀ {j : Nat}, cAt s c0 j < 32 * 128 ^ j
  | 0 => by simpa [cAt] using h0
  | j + 1 => by
    have := cAt_le (s := s) h0 (j := j)
    have := bt_lt s (j + 1)
    have e : 128 ^ (j + 1) = 128 * 128 ^ j := by rw [Nat.pow_succ, Nat.mul_comm]
    have := Nat.one_le_two_pow (n := 0)
    have h1 : 1 ≤ 128 ^ j := Nat.one_le_pow _ _ (by decide)
    simp only [cAt]; omega
theorem cAt_lt {s : ByteArray} {c0 j : Nat} (h0 : c0 < 32) (_ : conts s j = true) (h3 : j ≤ 3) : cAt s c0 j < 70000000 := by
  have h1 := cAt_le (s := s) h0 (j := j)
  have : 128 ^ j ≤ 128 ^ 3 := Nat.pow_le_pow_right (by decide) h3
  omega
theorem dec_one {s : ByteArray} (h : bt s 0 < 128) : Utf8.decode s 0 = (bt s 0, 1) := by
  unfold bt at *
  simp [Utf8.decode, h]
theorem dec_none {s : ByteArray} (h : 128 ≤ bt s 0) (h2 : bt s 0 < 194 ∨ 245 ≤ bt s 0) : Utf8.decode s 0 = (65533, 1) := by
  have b1 := bt_lt s 1; have b2 := bt_lt s 2; have b3 := bt_lt s 3; have b0 := bt_lt s 0
  unfold bt at *
  generalize e0 : (s.get! 0).toNat = x0 at *
  generalize e1 : (s.get! 1).toNat = x1 at *
  generalize e2 : (s.get! 2).toNat = x2 at *
  generalize e3 : (s.get! 3).toNat = x3 at *
  simp only [Utf8.decode, Nat.zero_add, e0, e1, e2, e3, Utf8.valid, Utf8.runeError]
  rw [if_neg (by omega)]
  repeat' split
  all_goals first | rfl | (exfalso; simp_all; omega)
theorem dec_two {s : ByteArray} (h1 : 194 ≤ bt s 0) (h2 : bt s 0 < 224) : Utf8.decode s 0 = if (decide (2 ≤ s.size) && conts s 1) = true then (if okC 128 (cAt s (bt s 0 - 192) 1) = true then (cAt s (bt s 0 - 192) 1, 2) else (65533, 1)) else (65533, 1) := by
  have b1 := bt_lt s 1
  simp only [conts, cAt, okC, Nat.zero_add, Nat.reduceAdd]
  unfold bt at *
  generalize e0 : (s.get! 0).toNat = x0 at *
  generalize e1 : (s.get! 1).toNat = x1 at *
  simp only [Utf8.decode, Nat.zero_add, e0, e1, Utf8.valid, Utf8.runeError]
  rw [if_neg (by omega)]
  have k1 : (x0 / 32 == 6 && (decide (1 < s.size) && x1 / 64 == 2)) = (decide (2 ≤ s.size) && (true && (decide (128 ≤ x1) && decide (x1 ≤ 191)))) := by rw [Bool.eq_iff_iff]; simp; omega
  rw [k1]
  split
  · rename_i hc
    simp at hc
    have k2 : x0 % 32 * 64 + x1 % 64 = 64 * (x0 - 192) + x1 - 128 := by omega
    rw [k2, if_pos (by omega), if_pos (by simp; omega)]
  · rw [if_neg (by simp; omega), if_neg (by simp; omega)]
theorem dec_three {s : ByteArray} (h1 : 224 ≤ bt s 0) (h2 : bt s 0 < 240) : Utf8.decode s 0 = if (decide (3 ≤ s.size) && conts s 2) = true then (if okC 2048 (cAt s (bt s 0 - 224) 2) = true then (cAt s (bt s 0 - 224) 2, 3) else (65533, 1)) else (65533, 1) := by
  have b1 := bt_lt s 1; have b2 := bt_lt s 2
  simp only [conts, cAt, okC, Nat.zero_add, Nat.reduceAdd]
  unfold bt at *
  generalize e0 : (s.get! 0).toNat = x0 at *
  generalize e1 : (s.get! 1).toNat = x1 at *
  generalize e2 : (s.get! 2).toNat = x2 at *
  simp only [Utf8.decode, Nat.zero_add, e0, e1, e2, Utf8.valid, Utf8.runeError]
  rw [if_neg (by omega), if_neg (by simp; omega)]
  have k1 : (x0 / 16 == 14 && (decide (1 < s.size) && x1 / 64 == 2) && (decide (2 < s.size) && x2 / 64 == 2)) = (decide (3 ≤ s.size) && (true && (decide (128 ≤ x1) && decide (x1 ≤ 191)) && (decide (128 ≤ x2) && decide (x2 ≤ 191)))) := by rw [Bool.eq_iff_iff]; simp; omega
  rw [k1]
  split
  · rename_i hc
    simp at hc
    have k2 : x0 % 16 * 4096 + x1 % 64 * 64 + x2 % 64 = 64 * (64 * (x0 - 224) + x1 - 128) + x2 - 128 := by omega
    rw [k2]
    generalize 64 * (64 * (x0 - 224) + x1 - 128) + x2 - 128 = c
    have k3 : (decide (c ≥ 2048) && ((decide (0 ≤ (c : Int)) && decide ((c : Int) < 55296)) || (decide (57344 ≤ (c : Int)) && decide ((c : Int) ≤ 1114111)))) = (decide (2048 ≤ c) && (decide (c ≤ 1114111) && !(decide (55296 ≤ c) && decide (c ≤ 57343)))) := by rw [Bool.eq_iff_iff]; simp; omega
    rw [k3]
  · rw [if_neg (by simp; omega)]
theorem dec_four {s : ByteArray} (h1 : 240 ≤ bt s 0) (h2 : bt s 0 < 245) : Utf8.decode s 0 = if (decide (4 ≤ s.size) && conts s 3) = true then (if okC 65536 (cAt s (bt s 0 - 240) 3) = true then (cAt s (bt s 0 - 240) 3, 4) else (65533, 1)) else (65533, 1) := by
  have b1 := bt_lt s 1; have b2 := bt_lt s 2; have b3 := bt_lt s 3
  simp only [conts, cAt, okC, Nat.zero_add, Nat.reduceAdd]
  unfold bt at *
  generalize e0 : (s.get! 0).toNat = x0 at *
  generalize e1 : (s.get! 1).toNat = x1 at *
  generalize e2 : (s.get! 2).toNat = x2 at *
  generalize e3 : (s.get! 3).toNat = x3 at *
  simp only [Utf8.decode, Nat.zero_add, e0, e1, e2, e3, Utf8.valid, Utf8.runeError]
  rw [if_neg (by omega), if_neg (by simp; omega), if_neg (by simp; omega)]
  have k1 : (x0 / 8 == 30 && (decide (1 < s.size) && x1 / 64 == 2) && (decide (2 < s.size) && x2 / 64 == 2) && (decide (3 < s.size) && x3 / 64 == 2)) = (decide (4 ≤ s.size) && (true && (decide (128 ≤ x1) && decide (x1 ≤ 191)) && (decide (128 ≤ x2) && decide (x2 ≤ 191)) && (decide (128 ≤ x3) && decide (x3 ≤ 191)))) := by rw [Bool.eq_iff_iff]; simp; omega
  rw [k1]
  split
  · rename_i hc
    simp at hc
    have k2 : x0 % 8 * 262144 + x1 % 64 * 4096 + x2 % 64 * 64 + x3 % 64 = 64 * (64 * (64 * (x0 - 240) + x1 - 128) + x2 - 128) + x3 - 128 := by omega
    rw [k2]
    generalize 64 * (64 * (64 * (x0 - 240) + x1 - 128) + x2 - 128) + x3 - 128 = c
    have k3 : (decide (c ≥ 65536) && ((decide (0 ≤ (c : Int)) && decide ((c : Int) < 55296)) || (decide (57344 ≤ (c : Int)) && decide ((c : Int) ≤ 1114111)))) = (decide (65536 ≤ c) && (decide (c ≤ 1114111) && !(decide (55296 ≤ c) && decide (c ≤ 57343)))) := by rw [Bool.eq_iff_iff]; simp; omega
    rw [k3]
  · rfl
def runesF (s : ByteArray) : Nat → Nat → List Int
  | 0, _ => []
  | f + 1, p => if p < s.size then ((Utf8.decode s p).1 : Int) :: runesF s f (p + (Utf8.decode s p).2) else []
def runes (s : ByteArray) : List Int := runesF s s.size 0
theorem get_ext {s : ByteArray} {p k : Nat} (h : p + k < s.size) : (s.extract p s.size).get! k = s.get! (p + k) := by
  have h1 : p + k < s.data.size := h
  have h2 : k < (s.data.extract p s.data.size).size := by rw [Array.size_extract]; omega
  show (s.extract p s.size).data[k]! = s.data[p + k]!
  have e : (s.extract p s.size).data = s.data.extract p s.data.size := by rw [ByteArray.data_extract]; rfl
  rw [e, getElem!_pos _ k h2, getElem!_pos _ (p + k) h1, Array.getElem_extract]
theorem size_ext {s : ByteArray} {p : Nat} : (s.extract p s.size).size = s.size - p := by rw [ByteArray.size_extract]; omega
def decB (b : Nat → Nat) (n : Nat) : Nat × Nat :=
  if b 0 < 0x80 then (b 0, 1)
  else if (b 0 / 32 == 6 && (decide (1 < n) && b 1 / 64 == 2)) = true then
    (if b 0 % 32 * 64 + b 1 % 64 ≥ 0x80 then (b 0 % 32 * 64 + b 1 % 64, 2) else (Utf8.runeError, 1))
  else if (b 0 / 16 == 14 && (decide (1 < n) && b 1 / 64 == 2) && (decide (2 < n) && b 2 / 64 == 2)) = true then
    (if (decide (b 0 % 16 * 4096 + b 1 % 64 * 64 + b 2 % 64 ≥ 0x800) && Utf8.valid (b 0 % 16 * 4096 + b 1 % 64 * 64 + b 2 % 64 : Nat)) = true then (b 0 % 16 * 4096 + b 1 % 64 * 64 + b 2 % 64, 3) else (Utf8.runeError, 1))
  else if (b 0 / 8 == 30 && (decide (1 < n) && b 1 / 64 == 2) && (decide (2 < n) && b 2 / 64 == 2) && (decide (3 < n) && b 3 / 64 == 2)) = true then
    (if (decide (b 0 % 8 * 262144 + b 1 % 64 * 4096 + b 2 % 64 * 64 + b 3 % 64 ≥ 0x10000) && Utf8.valid (b 0 % 8 * 262144 + b 1 % 64 * 4096 + b 2 % 64 * 64 + b 3 % 64 : Nat)) = true then (b 0 % 8 * 262144 + b 1 % 64 * 4096 + b 2 % 64 * 64 + b 3 % 64, 4) else (Utf8.runeError, 1))
  else (Utf8.runeError, 1)
theorem decode_B (s : ByteArray) (i : Nat) : Utf8.decode s i = decB (fun k => (s.get! (i + k)).toNat) (s.size - i) := by
  have h : ∀ k, decide (i + k < s.size) = decide (k < s.size - i) := fun k => by rw [decide_eq_decide]; omega
  unfold Utf8.decode decB
  simp only [h]
theorem decB_congr {b b' : Nat → Nat} {n : Nat} (hn : 0 < n) (h : ∀ k, k < n → b k = b' k) : decB b n = decB b' n := by
  have c : ∀ k, (decide (k < n) && b k / 64 == 2) = (decide (k < n) && b' k / 64 == 2) := fun k => by
    by_cases hk : k < n
    · rw [h k hk]
    · rw [decide_eq_false hk]; rfl
  unfold decB
  rw [h 0 hn]
  simp only [c]
  by_cases h1 : 1 < n
  · rw [h 1 h1]
    by_cases h2 : 2 < n
    · rw [h 2 h2]
      by_cases h3 : 3 < n
      · rw [h 3 h3]
      · simp only [h3, decide_false, Bool.false_and, Bool.and_false, Bool.false_eq_true, if_false]
    · simp only [h2, decide_false, Bool.false_and, Bool.and_false, Bool.false_eq_true, if_false]
  · simp only [h1, decide_false, Bool.false_and, Bool.and_false, Bool.false_eq_true, if_false]
theorem decode_ext {s : ByteArray} {p : Nat} (h : p < s.size) : Utf8.decode (s.extract p s.size) 0 = Utf8.decode s p := by
  rw [decode_B, decode_B, size_ext]
  refine decB_congr (by omega) fun k hk => ?_
  rw [Nat.zero_add, get_ext (by omega)]
theorem decode_le {s : ByteArray} {p : Nat} (h : p < s.size) : p + (Utf8.decode s p).2 ≤ s.size := by
  unfold Utf8.decode
  simp only
  repeat' split
  all_goals first | (simp only; omega) | (rename_i hc _; simp only [Bool.and_eq_true, decide_eq_true_eq] at hc; simp only; omega)
theorem ext_ext {s : ByteArray} {p n : Nat} (h : p + n ≤ s.size) : (s.extract p s.size).extract n (s.size - p) = s.extract (p + n) s.size := by
  apply ByteArray.ext
  rw [ByteArray.data_extract, ByteArray.data_extract, ByteArray.data_extract, Array.extract_extract]
  congr 1
  have : s.data.size = s.size := rfl
  omega
theorem ext_zero (s : ByteArray) : s.extract 0 s.size = s := by
  apply ByteArray.ext
  rw [ByteArray.data_extract]
  exact Array.extract_size
def okS (i : Nat) (c : Int) : Bool := letterB c || (digitB c && !decide (i = 0))
theorem allI_okS : ∀ (l : List Int) (k : Nat), 0 < k → allI okS k l = l.all fun c => letterB c || digitB c
  | [], _, _ => rfl
  | c :: l, k, h => by
    simp only [allI, List.all_cons, allI_okS l (k + 1) (by omega)]
    have : decide (k = 0) = false := by simp; omega
    simp [okS, this]
theorem scan_pos (s : ByteArray) : ∀ (f p : Nat), 0 < p → scan s f p = if ((runesF s f p).all fun c => letterB c || digitB c) = true then some (runesF s f p).length else none
  | 0, p, _ => by simp [scan, runesF]
  | f + 1, p, h => by
    have hp := decode_pos s p
    by_cases h1 : p < s.size
    · have e : runesF s (f + 1) p = ((Utf8.decode s p).1 : Int) :: runesF s f (p + (Utf8.decode s p).2) := by simp only [runesF]; rw [if_pos h1]
      rw [e]
      simp only [scan]
      rw [if_pos h1, scan_pos s f _ (by omega)]
      have h0 : decide (p = 0) = false := by simp; omega
      rw [h0]
      simp only [List.all_cons, Bool.false_or, List.length_cons]
      have key : ∀ (a b d : Bool) (n : Nat), (if (!a && !b) = true then none else Option.map (fun x => x + 1) (if d = true then some n else none)) = (if ((a || b) && d) = true then some (n + 1) else none) := by
        intro a b d n; cases a <;> cases b <;> cases d <;> rfl
      exact key _ _ _ _
    · have e : runesF s (f + 1) p = [] := by simp only [runesF]; rw [if_neg h1]
      rw [e]
      simp only [scan]
      rw [if_neg h1]; simp
theorem scan_zero (s : ByteArray) : scan s s.size 0 = if allI okS 0 (runes s) = true then some (runes s).length else none := by
  unfold runes
  cases hs : s.size with
  | zero => simp [scan, runesF, allI]
  | succ n =>
    have hp := decode_pos s 0
    have e : runesF s (n + 1) 0 = ((Utf8.decode s 0).1 : Int) :: runesF s n (0 + (Utf8.decode s 0).2) := by simp only [runesF]; rw [if_pos (by omega)]
    rw [e]
    simp only [scan]
    rw [if_pos (by omega), scan_pos s n _ (by omega)]
    simp only [allI, Nat.zero_add]
    rw [allI_okS _ 1 (by decide)]
    have h0 : okS 0 ((Utf8.decode s 0).1 : Int) = letterB ((Utf8.decode s 0).1 : Int) := by simp [okS]
    rw [h0]
    simp only [decide_true, Bool.true_or, Bool.and_true, List.length_cons]
    cases ha : letterB ((Utf8.decode s 0).1 : Int) <;> cases hd : (runesF s n (Utf8.decode s 0).2).all (fun c => letterB c || digitB c) <;> simp
theorem nameMay_runes (s : ByteArray) : nameMay s = (allI okS 0 (runes s) && (decide (1 ≤ (runes s).length) && decide ((runes s).length ≤ 8))) := by
  unfold nameMay nameLen
  rw [scan_zero]
  cases h : allI okS 0 (runes s) with
  | false => simp
  | true =>
    simp only [if_true, Bool.true_and]
    split
    · rename_i h2; rw [Bool.eq_iff_iff]; simp; omega
    · rename_i h2; rw [Bool.eq_iff_iff]; simp; omega
theorem runesF_len (s : ByteArray) : ∀ (f p : Nat), (runesF s f p).length ≤ s.size - p
  | 0, p => by simp [runesF]
  | f + 1, p => by
    simp only [runesF]
    split
    · have := runesF_len s f (p + (Utf8.decode s p).2)
      have := decode_pos s p
      simp only [List.length_cons]; omega
    · simp
theorem runes_len (s : ByteArray) : (runes s).length ≤ s.size := runesF_len s s.size 0
def smallS (s : List GType) : Prop := ∀ t ∈ s, t.Name.size ≤ 1048576 ∧ ∀ f ∈ t.F, f.Name.size ≤ 1048576
section
variable {s : List GType} {fs : List GField} {f : GField} {k : Nat}
theorem field_yes (h1 : ((nameMay f.Name && decide (fFind fs f.Name = k)) && (decide (0 ≤ f.Kind) && decide (f.Kind < 6))) = true) (h2 : (if f.Kind = 5 then decide (0 ≤ sFind s f.To) else decide (f.To = ⟨#[]⟩)) = true) : (fieldMay s f && decide (fFind fs f.Name = k)) = true := by
  simp only [Bool.and_eq_true] at h1
  unfold fieldMay
  rw [h1.1.1, h1.1.2, h1.2.1, h1.2.2]
  simp only [Bool.and_true]
  split
  · rename_i hk; rw [if_pos hk] at h2; simp at h2 ⊢; omega
  · rename_i hk; rw [if_neg hk] at h2; exact h2
theorem field_no1 (h1 : ((nameMay f.Name && decide (fFind fs f.Name = k)) && (decide (0 ≤ f.Kind) && decide (f.Kind < 6))) = false) : (fieldMay s f && decide (fFind fs f.Name = k)) = false := by
  unfold fieldMay
  generalize (if f.Kind = 5 then !decide (sFind s f.To = -1) else decide (f.To = ⟨#[]⟩)) = a
  generalize nameMay f.Name = b at *
  generalize decide (fFind fs f.Name = k) = c at *
  generalize (decide (0 ≤ f.Kind) && decide (f.Kind < 6)) = d at *
  cases a <;> cases b <;> cases c <;> cases d <;> simp_all
theorem fnd_ge {α : Type} (p : α → Bool) (l : List α) : fnd p l = -1 ∨ 0 ≤ fnd p l := by
  unfold fnd; split
  · right; omega
  · left; rfl
theorem field_no2 (h2 : (if f.Kind = 5 then decide (0 ≤ sFind s f.To) else decide (f.To = ⟨#[]⟩)) = false) : (fieldMay s f && decide (fFind fs f.Name = k)) = false := by
  have hg := fnd_ge (fun o : GType => decide (o.Name = f.To)) s
  have : (if f.Kind = 5 then !decide (sFind s f.To = -1) else decide (f.To = ⟨#[]⟩)) = false := by
    split
    · rename_i hk; rw [if_pos hk] at h2; unfold sFind at *; simp at h2 ⊢; omega
    · rename_i hk; rw [if_neg hk] at h2; exact h2
  unfold fieldMay; rw [this]; simp
end
end Go.Ab
namespace Go.Ab
open Go Go.RowKit
theorem wrap_id {a : Int} (h1 : -4611686018427387904 ≤ a) (h2 : a < 4611686018427387904) : IntKind.i64.wrap a = a := by
  simp only [IntKind.wrap, IntKind.bits, IntKind.signed]
  simp
  omega
theorem frz_ObjA (n : Nat) (xs : List GObj) (o : GObj) : (AV.own n (xs.map eObjO ++ [[.int .i64 o.Id, .int .i64 o.T, .sl 3 (o.F.map eVal)]])).freeze = .sl n ((xs ++ [o]).map eObj) := by
  have h := frz_ObjO n xs
  simp only [AV.freeze, AV.sl.injEq, true_and] at h ⊢
  rw [List.map_append, h]
  simp [eObj, AV.freeze]
def zeroV (f : GField) : GVal := if f.Kind = 5 then ⟨0, ⟨#[]⟩, -1⟩ else ⟨0, ⟨#[]⟩, 0⟩
def newId (g : Graph) : Int := prevId g.O g.O.length + 1
def newObj (g : Graph) (t : Int) : GObj := ⟨newId g, t, (tyF g t).map zeroV⟩
def newBad (g : Graph) : Bool := decide (g.O.length = 8) || decide (1073741824 < newId g)
def gNew (g : Graph) (t : Int) : Graph × Int × Int :=
  if gMay g = false then (g, -1, 1) else if (decide (t < 0) || decide ((g.S.length : Int) ≤ t)) = true then (g, -1, 6) else
  if newBad g = true then (g, -1, 8) else (⟨g.S, g.O ++ [newObj g t], g.Roots⟩, newId g, 0)
def rootBad (g : Graph) (i id : Int) : Bool := decide (i < 0) || (decide (3 ≤ i) || (decide ((g.Roots.length : Int) < i) || (!decide (id = -1) && decide (fnd (fun o => decide (o.Id = id)) g.O = -1))))
def setRoot (l : List Int) (i : Nat) (id : Int) : List Int := if i = l.length then l ++ [id] else l.set i id
def gRoot (g : Graph) (i id : Int) : Graph × Int :=
  if gMay g = false then (g, 1) else if rootBad g i id = true then (g, 11) else (⟨g.S, g.O, setRoot g.Roots i.toNat id⟩, 0)
theorem set_app (l : List Int) (id : Int) : (l.map eI ++ [[AV.int .i64 id]]).set l.length [AV.int .i64 id] = (setRoot l l.length id).map eI := by
  unfold setRoot
  rw [if_pos rfl, List.map_append]
  have : (l.map eI).length = l.length := List.length_map _
  rw [List.set_append, if_neg (by omega), this, Nat.sub_self]
  rfl
theorem set_root {l : List Int} {i : Nat} (h : i ≠ l.length) (id : Int) : (l.map eI).set i [AV.int .i64 id] = (setRoot l i id).map eI := by
  unfold setRoot
  rw [if_neg h, List.map_set]; rfl
end Go.Ab
namespace Go.Ab
open Go Go.RowKit
theorem fewG_sz {g : Graph} (h : fewG g = true) : GSz g := by
  unfold fewG few06 at h
  simp only [Bool.and_eq_true, decide_eq_true_eq] at h
  obtain ⟨⟨⟨⟨h1, h2⟩, h3⟩, h4⟩, h5⟩ := h
  refine ⟨by unfold MX; omega, fun x hx => ?_, by unfold MX; omega, fun x hx => ?_, by unfold MX; omega⟩
  · obtain ⟨j, hj⟩ := List.getElem?_of_mem hx
    have := allI_at h1 hj
    simp at this; unfold MX; omega
  · obtain ⟨j, hj⟩ := List.getElem?_of_mem hx
    have := allI_at h5 hj
    simp at this; unfold MX; omega
theorem typ_app (l : List GObj) (o : GObj) (i : Int) : typ (l ++ [o]) i = if o.Id = i then some o.T else typ l i := by
  induction l with
  | nil => simp [typ]
  | cons x l ih =>
    simp only [List.cons_append, typ, ih]
    by_cases h : o.Id = i
    · simp [h]
    · simp [h]
theorem leadsB_mono {g a : Graph} (hS : a.S = g.S) (ht : ∀ i t, typ g.O i = some t → typ a.O i = some t) {f : GField} {v : GVal} (h : leadsB g f v = true) : leadsB a f v = true := by
  unfold leadsB at h ⊢
  rw [Bool.and_eq_true] at h ⊢
  refine ⟨h.1, ?_⟩
  have h2 := h.2
  rw [Bool.or_eq_true, Bool.or_eq_true] at h2 ⊢
  rcases h2 with h2 | h2 | h2
  · exact .inl h2
  · exact .inr (.inl h2)
  · refine .inr (.inr ?_)
    cases hr : typ g.O v.R with
    | none => rw [hr] at h2; cases h2
    | some t => rw [ht _ _ hr, hS]; rw [hr] at h2; exact h2
theorem objectB_mono {g a : Graph} (hS : a.S = g.S) (ht : ∀ i t, typ g.O i = some t → typ a.O i = some t) {o : GObj} {p : Int} (h : objectB g o p = true) : objectB a o p = true := by
  unfold objectB at h ⊢
  rw [Bool.and_eq_true] at h ⊢
  refine ⟨h.1, ?_⟩
  have h2 := h.2
  rw [hS]
  cases hT : typeAt g.S o.T with
  | none => rw [hT] at h2; cases h2
  | some t =>
    rw [hT] at h2
    simp only [Bool.and_eq_true] at h2 ⊢
    refine ⟨h2.1, allI_yes fun j y hy => ?_⟩
    have := allI_at h2.2 hy
    rw [Nat.zero_add] at this ⊢
    unfold leadsAt at this ⊢
    cases hf : t.F[j]? with
    | none => rw [hf] at this; cases this
    | some f => rw [hf] at this; exact leadsB_mono hS ht this
theorem rootB_mono {g a : Graph} (ht : ∀ i t, typ g.O i = some t → typ a.O i = some t) {r : Int} (h : rootB g r = true) : rootB a r = true := by
  unfold rootB at h ⊢
  rw [Bool.or_eq_true] at h ⊢
  rcases h with h | h
  · exact .inl h
  · right
    obtain ⟨t, h⟩ := Option.isSome_iff_exists.1 h
    rw [ht _ _ h]; rfl
theorem zero_leads {g : Graph} {f : GField} (h : 0 ≤ f.Kind ∧ f.Kind < 6) : leadsB g f (zeroV f) = true := by
  unfold leadsB zeroV
  by_cases h5 : f.Kind = 5
  · simp [valFits, h5]
  · rw [if_neg h5]
    by_cases h4 : f.Kind = 4
    · simp [valFits, h4]; decide
    · have : f.Kind = 0 ∨ f.Kind = 1 ∨ f.Kind = 2 ∨ f.Kind = 3 := by omega
      rcases this with h | h | h | h <;> simp [valFits, numFits, h]
theorem May.kind {g : Graph} (h : May g) {t : GType} (ht : t ∈ g.S) {f : GField} (hf : f ∈ t.F) : 0 ≤ f.Kind ∧ f.Kind < 6 := by
  have h0 := h.s
  unfold schemaMay at h0
  simp only [Bool.and_eq_true] at h0
  obtain ⟨j, hj⟩ := List.getElem?_of_mem ht
  have h1 := allI_at h0.2 hj
  unfold typeMay fieldsMay at h1
  simp only [Bool.and_eq_true] at h1
  obtain ⟨k, hk⟩ := List.getElem?_of_mem hf
  have h2 := allI_at h1.2 hk
  unfold fieldMay at h2
  simp only [Bool.and_eq_true, decide_eq_true_eq] at h2
  exact h2.1.2
theorem May.below {g : Graph} (h : May g) {x : GObj} (hx : x ∈ g.O) : x.Id < newId g := by
  obtain ⟨i, hi⟩ := List.getElem?_of_mem hx
  have hl := (List.getElem?_eq_some_iff.1 hi).1
  unfold newId
  obtain ⟨m, hm⟩ : ∃ m, g.O.length = m + 1 := ⟨g.O.length - 1, by omega⟩
  rw [hm]
  obtain ⟨z, hz⟩ : ∃ z, g.O[m]? = some z := ⟨g.O[m], List.getElem?_eq_getElem (by omega)⟩
  simp only [prevId, hz]
  by_cases e : i = m
  · subst e; rw [hi] at hz; cases hz; omega
  · have := (h.ids m z hz).2 i x (by omega) hi; omega
def newG (g : Graph) (t : Int) : Graph := ⟨g.S, g.O ++ [newObj g t], g.Roots⟩
theorem prevId_app (l : List GObj) (o : GObj) {i : Nat} (h : i ≤ l.length) : prevId (l ++ [o]) i = prevId l i := by
  cases i with
  | zero => rfl
  | succ i => simp only [prevId]; rw [List.getElem?_append_left (by omega)]
theorem May.typNew {g : Graph} (h : May g) (t : Int) : ∀ i u, typ g.O i = some u → typ (newG g t).O i = some u := by
  intro i u hu
  obtain ⟨x, hx, e, _⟩ := typ_some hu
  have := h.below hx
  unfold newG newObj
  rw [typ_app, if_neg (by simp only; omega)]
  exact hu
theorem May.new {g : Graph} (h : May g) {t : Int} (ht : (decide (t < 0) || decide ((g.S.length : Int) ≤ t)) = false) (hb : newBad g = false) : May (newG g t) := by
  simp only [Bool.or_eq_false_iff, decide_eq_false_iff_not] at ht
  unfold newBad at hb
  simp only [Bool.or_eq_false_iff, decide_eq_false_iff_not] at hb
  obtain ⟨q, rfl⟩ := Int.eq_ofNat_of_zero_le (show 0 ≤ t by omega)
  obtain ⟨ty, hty⟩ : ∃ x, g.S[q]? = some x := ⟨g.S[q], List.getElem?_eq_getElem (by omega)⟩
  have hTy : typeAt g.S q = some ty := by unfold typeAt; simp [hty]
  have hmono := h.typNew q
  refine ⟨h.s, ?_, h.r, fun i x hx => ?_, fun r hr => rootB_mono (g := g) (a := newG g q) hmono (h.root r hr)⟩
  · have := h.o
    simp only [newG, List.length_append, List.length_cons, List.length_nil]; omega
  · simp only [newG] at hx ⊢
    rcases Nat.lt_or_ge i g.O.length with hl | hl
    · rw [prevId_app _ _ (by omega)]
      rw [List.getElem?_append_left hl] at hx
      exact objectB_mono (g := g) (a := newG g q) rfl hmono (h.obj i x hx)
    · rw [List.getElem?_append_right hl] at hx
      have hi : i - g.O.length = 0 := by
        rcases Nat.eq_zero_or_pos (i - g.O.length) with h | h
        · exact h
        · rw [List.getElem?_eq_none (by simp; omega)] at hx; cases hx
      have hil : i = g.O.length := by omega
      rw [hi] at hx
      simp only [List.getElem?_cons_zero, Option.some.injEq] at hx
      subst hx
      rw [prevId_app _ _ (by omega), hil]
      unfold objectB newObj
      simp only [hTy, Bool.and_eq_true, decide_eq_true_eq]
      refine ⟨⟨by unfold newId; omega, by omega⟩, ?_, allI_yes fun j y hy => ?_⟩
      · unfold tyF; rw [hTy]; simp
      · unfold tyF at hy
        rw [hTy] at hy
        simp only [List.getElem?_map, Option.map_eq_some_iff] at hy
        obtain ⟨f, hf, rfl⟩ := hy
        rw [Nat.zero_add]
        unfold leadsAt
        rw [hf]
        exact zero_leads (h.kind (List.mem_of_getElem? hty) (List.mem_of_getElem? hf))
end Go.Ab
namespace Go.Ab
open Go Go.RowKit
def Sorted (l m : List Int) : Prop := m.Pairwise (· ≤ ·) ∧ m.Perm l
def UpTo (m : List Int) (i : Nat) : Prop := ∀ (p q : Nat) (x y : Int), p < q → q < i → m[p]? = some x → m[q]? = some y → x ≤ y
def Ins (m : List Int) (i j : Nat) : Prop := ∀ (p q : Nat) (x y : Int), p < q → q ≤ i → q ≠ j → m[p]? = some x → m[q]? = some y → x ≤ y
def lessAt (m : List Int) : Nat → Bool
  | 0 => false
  | k + 1 => match m[k]?, m[k + 1]? with
    | some a, some b => decide (b < a)
    | _, _ => false
def swp (m : List Int) (j : Nat) (a b : Int) : List Int := (m.set (j + 1) a).set j b
theorem Ins.start {m : List Int} {i : Nat} (h : UpTo m i) : Ins m i i := fun p q x y h1 h2 h3 h4 h5 => h p q x y h1 (by omega) h4 h5
theorem set_I (l : List Int) (i : Nat) (x : Int) : (l.map eI).set i [.int .i64 x] = (l.set i x).map eI := by rw [List.map_set]; rfl
theorem lessAt_true {m : List Int} {j : Nat} (h : lessAt m j = true) : ∃ (k : Nat) (a b : Int), j = k + 1 ∧ m[k]? = some a ∧ m[k + 1]? = some b ∧ b < a := by
  cases j with
  | zero => cases h
  | succ k =>
    simp only [lessAt] at h
    split at h
    · rename_i a b h1 h2
      exact ⟨k, a, b, rfl, h1, h2, by simpa using h⟩
    · cases h
theorem lessAt_false {m : List Int} {i j : Nat} (h : lessAt m j = false) (hi : Ins m i j) (hj : j ≤ i) (hl : i < m.length) : UpTo m (i + 1) := by
  intro p q x y h1 h2 h3 h4
  by_cases e : q = j
  · subst e
    cases q with
    | zero => omega
    | succ k =>
      simp only [lessAt] at h
      have hk : m[k]? = some m[k] := List.getElem?_eq_getElem (by omega)
      rw [hk, h4] at h
      simp only [decide_eq_false_iff_not] at h
      by_cases e2 : p = k
      · subst e2; rw [h3] at hk; cases hk; omega
      · have := hi p k x m[k] (by omega) (by omega) (by omega) h3 hk
        omega
  · exact hi p q x y h1 (by omega) e h3 h4
theorem swp_get {m : List Int} {j : Nat} {a b : Int} (h : j + 1 < m.length) (p : Nat) : (swp m j a b)[p]? = if p = j then some b else if p = j + 1 then some a else m[p]? := by
  unfold swp
  by_cases h1 : p = j
  · subst h1; rw [if_pos rfl, List.getElem?_set_self (by simp; omega)]
  · rw [if_neg h1, List.getElem?_set_ne (fun e => h1 e.symm)]
    by_cases h2 : p = j + 1
    · subst h2; rw [if_pos rfl, List.getElem?_set_self h]
    · rw [if_neg h2, List.getElem?_set_ne (fun e => h2 e.symm)]
theorem Ins.step {m : List Int} {i j : Nat} {a b : Int} (h : Ins m i (j + 1)) (hj : j + 1 ≤ i) (ha : m[j]? = some a) (hb : m[j + 1]? = some b) (hab : b < a) : Ins (swp m j a b) i j := by
  have hl := (List.getElem?_eq_some_iff.1 hb).1
  intro p q x y h1 h2 h3 h4 h5
  rw [swp_get hl] at h4 h5
  rw [if_neg h3] at h5
  by_cases e1 : q = j + 1
  · subst e1
    rw [if_pos rfl] at h5; cases h5
    by_cases e2 : p = j
    · subst e2; rw [if_pos rfl] at h4; cases h4; omega
    · rw [if_neg e2, if_neg (by omega)] at h4
      exact h p j x a (by omega) (by omega) (by omega) h4 ha
  · rw [if_neg e1] at h5
    by_cases e2 : p = j
    · subst e2; rw [if_pos rfl] at h4; cases h4
      exact h (p + 1) q b y (by omega) h2 e1 hb h5
    · rw [if_neg e2] at h4
      by_cases e3 : p = j + 1
      · subst e3; rw [if_pos rfl] at h4; cases h4
        exact h j q a y (by omega) h2 e1 ha h5
      · rw [if_neg e3] at h4
        exact h p q x y h1 h2 e1 h4 h5
theorem swp_perm {m : List Int} {j : Nat} {a b : Int} (ha : m[j]? = some a) (hb : m[j + 1]? = some b) : (swp m j a b).Perm m := by
  induction m generalizing j with
  | nil => simp at ha
  | cons x m ih =>
    cases j with
    | zero =>
      cases m with
      | nil => simp at hb
      | cons y m =>
        simp at ha hb; subst ha hb
        simp only [swp, Nat.zero_add, List.set_cons_succ, List.set_cons_zero]
        exact List.Perm.swap _ _ _
    | succ j =>
      simp only [List.getElem?_cons_succ] at ha hb
      have := ih ha hb
      simp only [swp, List.set_cons_succ] at this ⊢
      exact this.cons x
theorem upTo_pairwise {m : List Int} (h : ∀ (p q : Nat) (x y : Int), p < q → q < m.length → m[p]? = some x → m[q]? = some y → x ≤ y) : m.Pairwise (· ≤ ·) := by
  rw [List.pairwise_iff_getElem]
  intro i j hi hj hij
  exact h i j m[i] m[j] hij hj (List.getElem?_eq_getElem hi) (List.getElem?_eq_getElem hj)
theorem sorted_unique : ∀ {a b : List Int}, a.Pairwise (· < ·) → b.Pairwise (· ≤ ·) → a.Perm b → a = b := by
  intro a b ha hb h
  exact h.eq_of_pairwise (le := (· ≤ ·)) (fun x y _ _ h1 h2 => by omega) (ha.imp fun h => by omega) hb
end Go.Ab
namespace Go.Ab
open Go Go.RowKit
def dfs (g : Graph) : Nat → List Int → Int → List Int
  | 0, l, _ => l
  | n + 1, l, i => if i = -1 ∨ i ∈ l then l else (refsOf g i).foldl (dfs g n) (l ++ [i])
def dfsL (g : Graph) : List Int := g.Roots.foldl (dfs g (g.O.length + 1)) []
def gReach (g : Graph) : List Int := if gMay g = true then (g.O.filter fun o => decide (o.Id ∈ order g)).map (·.Id) else []
structure Step (g : Graph) (l : List Int) (is : List Int) (m : List Int) : Prop where
  good : Good g m
  pre : ∃ s, m = l ++ s
  in_ : ∀ i ∈ is, i = -1 ∨ i ∈ m
  clo : ∀ x ∈ m, x ∉ l → ∀ r ∈ refsOf g x, r = -1 ∨ r ∈ m
theorem Step.nil {g : Graph} {l : List Int} (h : Good g l) : Step g l [] l := ⟨h, ⟨[], by simp⟩, fun i hi => absurd hi (by simp), fun x hx hn => absurd hx hn⟩
theorem Step.app {g : Graph} {l m k is js : List Int} (h : Step g l is m) (h' : Step g m js k) : Step g l (is ++ js) k := by
  obtain ⟨s, hs⟩ := h.pre
  obtain ⟨s', hs'⟩ := h'.pre
  have hm : ∀ x ∈ m, x ∈ k := fun x hx => by rw [hs']; exact List.mem_append_left _ hx
  refine ⟨h'.good, ⟨s ++ s', by rw [hs', hs, List.append_assoc]⟩, fun j hj => ?_, fun x hx hn r hr => ?_⟩
  · rcases List.mem_append.1 hj with hj | hj
    · exact (h.in_ j hj).imp id (hm j)
    · exact h'.in_ j hj
  · by_cases e : x ∈ m
    · exact (h.clo x e hn r hr).imp id (hm r)
    · exact h'.clo x hx e r hr
theorem Step.fold {g : Graph} {f : List Int → Int → List Int} : ∀ (is : List Int) {l : List Int}, Good g l →
    (∀ (m : List Int) (i : Int), Good g m → l.length ≤ m.length → i ∈ is → Step g m [i] (f m i)) → Step g l is (is.foldl f l)
  | [], l, h, _ => Step.nil h
  | i :: is, l, h, hf => by
    have h1 := hf l i h (Nat.le_refl _) List.mem_cons_self
    obtain ⟨s, hs⟩ := h1.pre
    have := Step.fold (f := f) is h1.good fun m j hg hl hj => hf m j hg (Nat.le_trans (by rw [hs]; simp) hl) (List.mem_cons_of_mem _ hj)
    exact h1.app this
theorem dfs_step {g : Graph} (hm : May g) : ∀ (n : Nat) {l : List Int} {i : Int}, Good g l → rootB g i = true → g.O.length < n + l.length → Step g l [i] (dfs g n l i)
  | 0, l, i, h, _, hn => by have := h.len; omega
  | n + 1, l, i, h, hi, hn => by
    unfold dfs
    split
    · rename_i h1
      exact ⟨h, ⟨[], by simp⟩, fun j hj => by simp at hj; subst hj; exact h1, fun x hx hn => absurd hx hn⟩
    · rename_i h1
      have hg : Good g (l ++ [i]) := by
        have := h.meet hi
        unfold meet at this
        rwa [if_neg h1] at this
      have h2 := Step.fold (f := dfs g n) (refsOf g i) hg fun m j hgm hl hj => dfs_step hm n hgm (hm.refsOf i j hj) (by simp at hl; omega)
      obtain ⟨s, hs⟩ := h2.pre
      refine ⟨h2.good, ⟨i :: s, by rw [hs]; simp⟩, fun j hj => .inr ?_, fun x hx hn r hr => ?_⟩
      · simp at hj; subst hj; rw [hs]; simp
      · by_cases e : x = i
        · subst e; exact h2.in_ r hr
        · exact h2.clo x hx (by simp [hn, e]) r hr
theorem dfsL_step {g : Graph} (hm : May g) : Step g [] g.Roots (dfsL g) :=
  Step.fold g.Roots (Good.nil g) fun m i hg _ hi => dfs_step hm _ hg (hm.root i hi) (by omega)
theorem dfs_least {g : Graph} {P : Int → Prop} (hP : ∀ x, P x → ∀ r ∈ refsOf g x, r ≠ -1 → P r) : ∀ (n : Nat) {l : List Int} {i : Int}, (∀ x ∈ l, P x) → (i ≠ -1 → P i) → ∀ x ∈ dfs g n l i, P x
  | 0, l, i, hl, _ => hl
  | n + 1, l, i, hl, hi => by
    unfold dfs
    split
    · exact hl
    · rename_i h1
      rw [not_or] at h1
      have hPi := hi h1.1
      have key : ∀ (is : List Int) (l : List Int), (∀ x ∈ l, P x) → (∀ r ∈ is, r ≠ -1 → P r) → ∀ x ∈ is.foldl (dfs g n) l, P x := by
        intro is
        induction is with
        | nil => intro l hl _; exact hl
        | cons j is ih => intro l hl hj; exact ih _ (dfs_least hP n hl (hj j List.mem_cons_self)) fun r hr => hj r (List.mem_cons_of_mem _ hr)
      exact key _ _ (fun x hx => by
        rcases List.mem_append.1 hx with hx | hx
        · exact hl x hx
        · simp at hx; subst hx; exact hPi) (hP i hPi)
theorem dfsL_least {g : Graph} {P : Int → Prop} (hP : ∀ x, P x → ∀ r ∈ refsOf g x, r ≠ -1 → P r) (hr : ∀ r ∈ g.Roots, r ≠ -1 → P r) : ∀ x ∈ dfsL g, P x := by
  unfold dfsL
  have key : ∀ (is : List Int) (l : List Int), (∀ x ∈ l, P x) → (∀ r ∈ is, r ≠ -1 → P r) → ∀ x ∈ is.foldl (dfs g (g.O.length + 1)) l, P x := by
    intro is
    induction is with
    | nil => intro l hl _; exact hl
    | cons j is ih => intro l hl hj; exact ih _ (dfs_least hP _ hl (hj j List.mem_cons_self)) fun r hr => hj r (List.mem_cons_of_mem _ hr)
  exact key _ _ (fun x hx => by cases hx) hr
theorem mets_least {P : Int → Prop} : ∀ (is l : List Int), (∀ x ∈ l, P x) → (∀ r ∈ is, r ≠ -1 → P r) → ∀ x ∈ mets l is, P x := by
  intro is l hl hr x hx
  rcases (mem_mets is l x).1 hx with h | ⟨h, h2⟩
  · exact hl x h
  · exact hr x h h2
theorem ordF_least {g : Graph} {P : Int → Prop} (hP : ∀ x, P x → ∀ r ∈ refsOf g x, r ≠ -1 → P r) : ∀ (n i : Nat) (l : List Int), (∀ x ∈ l, P x) → ∀ x ∈ ordF g n i l, P x
  | 0, _, _, hl => hl
  | n + 1, i, l, hl => by
    unfold ordF
    split
    · exact hl
    · rename_i y hy
      exact ordF_least hP n _ _ (mets_least _ _ hl (hP y (hl y (List.mem_of_getElem? hy))))
theorem order_least {g : Graph} {P : Int → Prop} (hP : ∀ x, P x → ∀ r ∈ refsOf g x, r ≠ -1 → P r) (hr : ∀ r ∈ g.Roots, r ≠ -1 → P r) : ∀ x ∈ order g, P x :=
  ordF_least hP _ _ _ (mets_least _ _ (fun x hx => by cases hx) hr)
theorem dfsL_order {g : Graph} (hm : May g) (x : Int) : x ∈ dfsL g ↔ x ∈ order g := by
  have h := dfsL_step hm
  constructor
  · refine dfsL_least (P := (· ∈ order g)) (fun y hy r hr hn => (hm.clo hy r hr).resolve_left hn) (fun r hr hn => (hm.rootIn hr).resolve_left hn) x
  · refine order_least (P := (· ∈ dfsL g)) (fun y hy r hr hn => (h.clo y hy (by simp) r hr).resolve_left hn) (fun r hr hn => (h.in_ r hr).resolve_left hn) x
theorem May.pw {g : Graph} (h : May g) : (g.O.map (·.Id)).Pairwise (· < ·) := by
  rw [List.pairwise_iff_getElem]
  intro i j hi hj hij
  simp only [List.length_map] at hi hj
  have := (h.ids j g.O[j] (List.getElem?_eq_getElem hj)).2 i g.O[i] hij (List.getElem?_eq_getElem hi)
  simpa using this
theorem gReach_pw {g : Graph} (h : May g) : (gReach g).Pairwise (· < ·) := by
  unfold gReach
  rw [if_pos ((may_iff g).2 h)]
  exact List.Pairwise.sublist ((List.filter_sublist).map _) h.pw
theorem mem_gReach {g : Graph} (h : May g) (x : Int) : x ∈ gReach g ↔ x ∈ order g := by
  unfold gReach
  rw [if_pos ((may_iff g).2 h)]
  constructor
  · intro hx
    obtain ⟨o, ho, rfl⟩ := List.mem_map.1 hx
    simpa using (List.mem_filter.1 ho).2
  · intro hx
    cases ht : typ g.O x with
    | none => have := h.order.ids x hx; rw [ht] at this; cases this
    | some t =>
      obtain ⟨o, ho, rfl, _⟩ := typ_some ht
      exact List.mem_map.2 ⟨o, List.mem_filter.2 ⟨ho, by simpa using hx⟩, rfl⟩
theorem dfsL_sorted {g : Graph} (hm : May g) {m : List Int} (h : Sorted (dfsL g) m) : m = gReach g := by
  refine (sorted_unique (gReach_pw hm) h.1 ?_).symm
  refine List.Perm.trans ?_ h.2.symm
  rw [List.perm_ext_iff_of_nodup ((gReach_pw hm).imp (fun h e => by omega)) (dfsL_step hm).good.nodup]
  intro x
  rw [mem_gReach hm, dfsL_order hm]
def wasMap (l : List Int) : List (Int × AV) := (-1, .bool true) :: l.map fun i => (i, .bool true)
theorem maplk_was (l : List Int) (i : Int) : maplk (wasMap l) i = if i = -1 ∨ i ∈ l then some (.bool true) else none := by
  unfold wasMap
  simp only [maplk]
  by_cases h : i = -1
  · simp [h]
  · rw [if_neg h]
    simp only [h, false_or]
    induction l with
    | nil => simp [maplk]
    | cons x l ih =>
      simp only [List.map_cons, maplk, List.mem_cons]
      by_cases e : i = x
      · simp [e]
      · rw [if_neg e, ih]; simp [e]
theorem was_put {l : List Int} {i : Int} (h : ¬ (i = -1 ∨ i ∈ l)) : mapput (wasMap l) i (.bool true) = wasMap (l ++ [i]) := by
  rw [mapput_new (by rw [maplk_was, if_neg h])]
  simp [wasMap]
theorem was_len (l : List Int) : (wasMap l).length = l.length + 1 := by simp [wasMap]
theorem dfs_in {g : Graph} {n : Nat} {l : List Int} {i : Int} (h : i = -1 ∨ i ∈ l) : dfs g n l i = l := by
  cases n with
  | zero => rfl
  | succ n => unfold dfs; rw [if_pos h]
theorem dfs_out {g : Graph} {n : Nat} {l : List Int} {i : Int} (h : ¬ (i = -1 ∨ i ∈ l)) : dfs g (n + 1) l i = (refsOf g i).foldl (dfs g n) (l ++ [i]) := by
  conv => lhs; unfold dfs
  rw [if_neg h]
theorem refsZ_foldRef {z : List (GField × GVal)} {k : Nat} {f : GField} {v : GVal} (h : z[k]? = some (f, v)) (hk : f.Kind = 5) (F : List Int → Int → List Int) (l : List Int) : (refsZ (z.take (k + 1))).foldl F l = F ((refsZ (z.take k)).foldl F l) v.R := by
  rw [List.take_add_one, h]
  simp [refsZ, hk]
end Go.Ab
namespace Go.Ab
open Go Go.RowKit
structure BS (l : List Int) (x : Int) (i j : Nat) : Prop where
  lo : ∀ (p : Nat) (y : Int), p < i → l[p]? = some y → y < x
  hi : ∀ (p : Nat) (y : Int), j ≤ p → l[p]? = some y → x ≤ y
  ij : i ≤ j
  jl : j ≤ l.length
theorem pw_le {l : List Int} (h : l.Pairwise (· < ·)) {p q : Nat} {x y : Int} (hpq : p ≤ q) (hx : l[p]? = some x) (hy : l[q]? = some y) : x ≤ y := by
  obtain ⟨h1, e1⟩ := List.getElem?_eq_some_iff.1 hx
  obtain ⟨h2, e2⟩ := List.getElem?_eq_some_iff.1 hy
  subst e1 e2
  rcases Nat.lt_or_ge p q with h3 | h3
  · have := List.pairwise_iff_getElem.1 h p q h1 h2 h3; omega
  · have : p = q := by omega
    subst this; exact Int.le_refl _
theorem BS.start (l : List Int) (x : Int) : BS l x 0 l.length := ⟨fun p y h => by omega, fun p y h h1 => by have := (List.getElem?_eq_some_iff.1 h1).1; omega, Nat.zero_le _, Nat.le_refl _⟩
theorem BS.left {l : List Int} {x y : Int} {i j h : Nat} (hs : l.Pairwise (· < ·)) (b : BS l x i j) (hy : l[h]? = some y) (hlt : y < x) (hj : h < j) : BS l x (h + 1) j :=
  ⟨fun p z hp hz => by have := pw_le hs (show p ≤ h by omega) hz hy; omega, b.hi, hj, b.jl⟩
theorem BS.right {l : List Int} {x y : Int} {i j h : Nat} (hs : l.Pairwise (· < ·)) (b : BS l x i j) (hy : l[h]? = some y) (hge : ¬ y < x) (hi : i ≤ h) (hj : h < j) : BS l x i h :=
  ⟨b.lo, fun p z hp hz => by have := pw_le hs hp hy hz; omega, hi, by have := b.jl; omega⟩
theorem BS.none {l : List Int} {x : Int} (b : BS l x l.length l.length) : decide (x ∈ l) = false := by
  simp only [decide_eq_false_iff_not]
  intro hx
  obtain ⟨p, hp⟩ := List.getElem?_of_mem hx
  have := b.lo p x (List.getElem?_eq_some_iff.1 hp).1 hp
  omega
theorem BS.some {l : List Int} {x y : Int} {i : Nat} (hs : l.Pairwise (· < ·)) (b : BS l x i i) (hy : l[i]? = some y) : decide (x ∈ l) = decide (y = x) := by
  by_cases e : y = x
  · subst e; simp [List.mem_of_getElem? hy]
  · simp only [e, decide_false, decide_eq_false_iff_not]
    intro hx
    obtain ⟨p, hp⟩ := List.getElem?_of_mem hx
    rcases Nat.lt_or_ge p i with h | h
    · have := b.lo p x h hp; omega
    · have h1 := pw_le hs h hy hp
      have h2 := b.hi i y (Nat.le_refl _) hy
      omega
theorem fdiv2 (n : Nat) : ((n : Int)).fdiv 2 = ((n / 2 : Nat) : Int) := by
  rw [Int.fdiv_eq_ediv_of_nonneg _ (by decide)]; rfl
def gSweep (g : Graph) : Graph := if gMay g = true then ⟨g.S, g.O.filter fun o => decide (o.Id ∈ gReach g), g.Roots⟩ else ⟨[], [], []⟩
def del (p : GObj → Bool) (l : List GObj) : List GObj := l.filter fun o => !p o
theorem del_take (p : GObj → Bool) {l : List GObj} {j : Nat} {x : GObj} (h : l[j]? = some x) : del p (l.take (j + 1)) = if p x = true then del p (l.take j) else del p (l.take j) ++ [x] := by
  unfold del
  rw [List.take_add_one, h]
  cases hp : p x <;> simp [hp]
theorem del_none {p : GObj → Bool} {l : List GObj} (h : ∀ (j : Nat) (y : GObj), l[j]? = some y → p y = false) : del p l = l := by
  unfold del
  rw [List.filter_eq_self]
  intro a ha
  obtain ⟨j, hj⟩ := List.getElem?_of_mem ha
  simp [h j a hj]
theorem del_len (p : GObj → Bool) (l : List GObj) : (del p l).length ≤ l.length := List.length_filter_le _ _
structure Swp (p : GObj → Bool) (xs m : List GObj) (i j : Nat) : Prop where
  len : m.length = xs.length
  jl : j ≤ xs.length
  il : i = (del p (xs.take j)).length
  lo : m.take i = del p (xs.take j)
  hi : m.drop j = xs.drop j
theorem Swp.ij {p : GObj → Bool} {xs m : List GObj} {i j : Nat} (h : Swp p xs m i j) : i ≤ j := by
  rw [h.il]; exact Nat.le_trans (del_len _ _) (by simp; omega)
theorem Swp.at {p : GObj → Bool} {xs m : List GObj} {i j : Nat} (h : Swp p xs m i j) {x : GObj} (hx : xs[j]? = some x) : m[j]? = some x := by
  have : (m.drop j)[0]? = (xs.drop j)[0]? := by rw [h.hi]
  simpa [hx] using this
theorem Swp.start {p : GObj → Bool} {xs : List GObj} {i : Nat} {x : GObj} (hx : xs[i]? = some x) (hp : p x = true) (hb : ∀ (j : Nat) (y : GObj), j < i → xs[j]? = some y → p y = false) : Swp p xs xs i (i + 1) := by
  have hl := (List.getElem?_eq_some_iff.1 hx).1
  have e : del p (xs.take i) = xs.take i := del_none fun j y hy => by
    rw [List.getElem?_take] at hy
    split at hy
    · exact hb j y ‹_› hy
    · cases hy
  have e2 : del p (xs.take (i + 1)) = xs.take i := by rw [del_take p hx, if_pos hp, e]
  exact ⟨rfl, hl, by rw [e2]; simp; omega, by rw [e2], rfl⟩
theorem Swp.skip {p : GObj → Bool} {xs m : List GObj} {i j : Nat} (h : Swp p xs m i j) {x : GObj} (hx : xs[j]? = some x) (hp : p x = true) : Swp p xs m i (j + 1) := by
  have hl := (List.getElem?_eq_some_iff.1 hx).1
  have e2 : del p (xs.take (j + 1)) = del p (xs.take j) := by rw [del_take p hx, if_pos hp]
  refine ⟨h.len, hl, by rw [e2]; exact h.il, by rw [e2]; exact h.lo, ?_⟩
  rw [← List.drop_drop, ← List.drop_drop, h.hi]
theorem Swp.keep {p : GObj → Bool} {xs m : List GObj} {i j : Nat} (h : Swp p xs m i j) (hij : i < j) {x : GObj} (hx : xs[j]? = some x) (hp : p x = false) : Swp p xs (m.set i x) (i + 1) (j + 1) := by
  have hl := (List.getElem?_eq_some_iff.1 hx).1
  have e2 : del p (xs.take (j + 1)) = del p (xs.take j) ++ [x] := by rw [del_take p hx, if_neg (by simp [hp])]
  have hil : i < m.length := by rw [h.len]; omega
  refine ⟨by simp [h.len], hl, by rw [e2, List.length_append, ← h.il]; rfl, ?_, ?_⟩
  · rw [e2, ← h.lo, List.take_add_one, List.take_set_of_le (by omega)]
    simp [hil]
  · rw [List.drop_set_of_lt (by omega), ← List.drop_drop, ← List.drop_drop, h.hi]
theorem Swp.done {p : GObj → Bool} {xs m : List GObj} {i : Nat} (h : Swp p xs m i xs.length) : m.take i = del p xs := by
  rw [h.lo, List.take_length]
end Go.Ab
namespace Go.Ab
open Go Go.RowKit
theorem prevId_lt {l : List GObj} (hp : (l.map (·.Id)).Pairwise (· < ·)) (h0 : ∀ x ∈ l, 0 ≤ x.Id) {i : Nat} {x : GObj} (hx : l[i]? = some x) : prevId l i < x.Id := by
  obtain ⟨hl, e⟩ := List.getElem?_eq_some_iff.1 hx
  cases i with
  | zero => have := h0 x (List.mem_of_getElem? hx); simp only [prevId]; omega
  | succ i =>
    have hz : l[i]? = some l[i] := List.getElem?_eq_getElem (by omega)
    simp only [prevId, hz]
    have := List.pairwise_iff_getElem.1 hp i (i + 1) (by simp; omega) (by simpa using hl) (by omega)
    simpa [e] using this
theorem May.of {g : Graph} (hS : schemaMay g.S = true) (ho : g.O.length ≤ 8) (hr : g.Roots.length ≤ 3) (hp : (g.O.map (·.Id)).Pairwise (· < ·)) (hb : ∀ x ∈ g.O, 0 ≤ x.Id ∧ x.Id ≤ 1073741824)
    (ht : ∀ x ∈ g.O, ∃ t, typeAt g.S x.T = some t ∧ x.F.length = t.F.length ∧ ∀ (k : Nat) (f : GField) (v : GVal), t.F[k]? = some f → x.F[k]? = some v → leadsB g f v = true) (hroot : ∀ r ∈ g.Roots, rootB g r = true) : May g := by
  refine ⟨hS, ho, hr, fun i x hx => ?_, hroot⟩
  have hm := List.mem_of_getElem? hx
  obtain ⟨t, h1, h2, h3⟩ := ht x hm
  unfold objectB
  simp only [Bool.and_eq_true, decide_eq_true_eq, h1]
  refine ⟨⟨prevId_lt hp (fun x hx => (hb x hx).1) hx, (hb x hm).2⟩, h2, allI_yes fun j v hv => ?_⟩
  rw [Nat.zero_add]
  have hjl : j < t.F.length := by have := (List.getElem?_eq_some_iff.1 hv).1; omega
  unfold leadsAt
  rw [List.getElem?_eq_getElem hjl]
  exact h3 j _ v (List.getElem?_eq_getElem hjl) hv
theorem May.objM {g : Graph} (h : May g) {x : GObj} (hx : x ∈ g.O) : ∃ t, typeAt g.S x.T = some t ∧ MayO g x t := by
  obtain ⟨i, hi⟩ := List.getElem?_of_mem hx
  exact (h.objT hi).2
theorem typ_isSome {l : List GObj} {i : Int} : (typ l i).isSome = true ↔ ∃ o ∈ l, o.Id = i := by
  constructor
  · intro h
    obtain ⟨t, ht⟩ := Option.isSome_iff_exists.1 h
    obtain ⟨o, ho, e, _⟩ := typ_some ht
    exact ⟨o, ho, e⟩
  · rintro ⟨o, ho, rfl⟩; exact typ_mem ho
def swO (g : Graph) : Graph := ⟨g.S, g.O.filter fun o => decide (o.Id ∈ order g), g.Roots⟩
theorem gSweep_of {g : Graph} (h : May g) : gSweep g = swO g := by
  unfold gSweep swO
  rw [if_pos ((may_iff g).2 h)]
  congr 1
  refine List.filter_congr fun x _ => ?_
  simp [mem_gReach h]
theorem uniq_typ : ∀ {l : List GObj}, (l.map (·.Id)).Nodup → ∀ {o : GObj}, o ∈ l → typ l o.Id = some o.T
  | x :: l, hn, o, ho => by
    simp only [List.map_cons, List.nodup_cons] at hn
    simp only [typ]
    rcases List.mem_cons.1 ho with rfl | ho
    · cases h : typ l o.Id with
      | none => simp
      | some t =>
        obtain ⟨y, hy, e, _⟩ := typ_some h
        exact absurd (e ▸ List.mem_map_of_mem hy) hn.1
    · rw [uniq_typ hn.2 ho]
end Go.Ab
namespace Go.Ab
def twN : Graph := ⟨oneS, twG.O ++ [⟨6, 0, [⟨0, ⟨#[]⟩, 0⟩, ⟨0, ⟨#[]⟩, -1⟩]⟩], [0]⟩
def twW : Graph := ⟨oneS, [⟨0, 0, [⟨7, ⟨#[]⟩, 0⟩, ⟨0, ⟨#[]⟩, -1⟩]⟩], [0]⟩
set_option maxRecDepth 100000
theorem twG_reach : gReach twG = [0] := by decide
theorem twG_sweep : gSweep twG = twW := by decide
theorem twG_new : gNew twG 0 = (twN, 6, 0) := by decide
end Go.Ab
namespace Go.Ab
open Go Go.RowKit
set_option maxRecDepth 20000
def leadsR (g : Graph) (f : GField) (v : GVal) : Bool :=
  valFits f v && (!decide (f.Kind = 5) || (decide (v.R = -1) || (match objAt g v.R with
    | some o => decide (o.T = sFind g.S f.To)
    | none => false)))
def objectR (g : Graph) (i : Nat) (o : GObj) : Bool :=
  ((decide (0 ≤ o.Id) && decide (o.Id ≤ 1073741824)) && (decide (i = 0) || decide (prevId g.O i < o.Id))) && (match typeAt g.S o.T with
    | some t => decide (o.F.length = t.F.length)
    | none => false)
def leadsAtR (g : Graph) (l : List GField) (k : Nat) (v : GVal) : Bool := match l[k]? with
  | some f => leadsR g f v
  | none => false
def leadsO (g : Graph) (_ : Nat) (o : GObj) : Bool := match typeAt g.S o.T with
  | some t => allI (leadsAtR g t.F) 0 o.F
  | none => false
def rootR (g : Graph) (r : Int) : Bool := decide (r = -1) || (objAt g r).isSome
def rMay (g : Graph) : Bool :=
  ((schemaMay g.S && decide (g.O.length ≤ 8)) && decide (g.Roots.length ≤ 3)) && (allI (objectR g) 0 g.O && (allI (leadsO g) 0 g.O && allI (fun _ r => rootR g r) 0 g.Roots))
theorem rise_ids {l : List GObj} (hr : ∀ (i : Nat) (x : GObj), l[i]? = some x → prevId l i < x.Id) : ∀ (i : Nat) (x : GObj), l[i]? = some x → -1 < x.Id ∧ ∀ (j : Nat) (y : GObj), j < i → l[j]? = some y → y.Id < x.Id := by
  intro i
  induction i with
  | zero => intro x hx; exact ⟨by simpa [prevId] using hr 0 x hx, fun j y hj => by omega⟩
  | succ i ih =>
    intro x hx
    have h1 := hr _ x hx
    have hlt := (List.getElem?_eq_some_iff.1 hx).1
    obtain ⟨z, hz⟩ : ∃ z, l[i]? = some z := ⟨l[i], List.getElem?_eq_getElem (by omega)⟩
    simp only [prevId, hz] at h1
    obtain ⟨h2, h3⟩ := ih z hz
    refine ⟨by omega, fun j y hj hy => ?_⟩
    by_cases e : j = i
    · subst e; rw [hz] at hy; cases hy; exact h1
    · have := h3 j y (by omega) hy; omega
theorem rise_inj {l : List GObj} (hr : ∀ (i : Nat) (x : GObj), l[i]? = some x → prevId l i < x.Id) (i j : Nat) (x y : GObj) (hx : l[i]? = some x) (hy : l[j]? = some y) (e : x.Id = y.Id) : i = j := by
  rcases Nat.lt_trichotomy i j with hl | hl | hl
  · have := (rise_ids hr j y hy).2 i x hl hx; omega
  · exact hl
  · have := (rise_ids hr i x hx).2 j y hl hy; omega
theorem typ_objAt {g : Graph} (hr : ∀ (i : Nat) (x : GObj), g.O[i]? = some x → prevId g.O i < x.Id) (r : Int) : typ g.O r = (objAt g r).map (·.T) := by
  cases ho : objAt g r with
  | none =>
    cases ht : typ g.O r with
    | none => rfl
    | some t =>
      obtain ⟨o, hm, e, _⟩ := typ_some ht
      unfold objAt at ho
      rw [List.find?_eq_none] at ho
      have := ho o hm
      simp [e] at this
  | some o =>
    have hm : o ∈ g.O := List.mem_of_find?_eq_some ho
    have he : o.Id = r := by have := List.find?_some ho; simpa using this
    cases ht : typ g.O r with
    | none => exact absurd he (typ_none ht o hm)
    | some t =>
      obtain ⟨o2, hm2, e2, e3⟩ := typ_some ht
      obtain ⟨i, hi⟩ := List.getElem?_of_mem hm
      obtain ⟨j, hj⟩ := List.getElem?_of_mem hm2
      have := rise_inj hr i j o o2 hi hj (by omega)
      subst this
      rw [hi] at hj; cases hj
      simp [e3]
theorem leadsR_eq {g : Graph} (hr : ∀ (i : Nat) (x : GObj), g.O[i]? = some x → prevId g.O i < x.Id) (f : GField) (v : GVal) : leadsR g f v = leadsB g f v := by
  unfold leadsR leadsB
  rw [typ_objAt hr]
  cases objAt g v.R <;> rfl
theorem rMay_eq (g : Graph) : rMay g = gMay g := by
  rw [Bool.eq_iff_iff, may_iff]
  unfold rMay
  simp only [Bool.and_eq_true, decide_eq_true_eq]
  constructor
  · rintro ⟨⟨⟨h1, h2⟩, h3⟩, h4, h5, h6⟩
    have ho : ∀ (i : Nat) (x : GObj), g.O[i]? = some x → objectR g i x = true := fun i x hx => by simpa using allI_at h4 hx
    have hr : ∀ (i : Nat) (x : GObj), g.O[i]? = some x → prevId g.O i < x.Id := fun i x hx => by
      have := ho i x hx
      unfold objectR at this
      simp only [Bool.and_eq_true, Bool.or_eq_true, decide_eq_true_eq] at this
      cases i with
      | zero => simp only [prevId]; omega
      | succ i => have := this.1.2.resolve_left (by omega); exact this
    refine ⟨h1, h2, h3, fun i x hx => ?_, fun r hr2 => ?_⟩
    · have k1 := ho i x hx
      have k2 := hr i x hx
      have k3 : leadsO g (0 + i) x = true := allI_at h5 hx
      unfold objectR at k1
      unfold leadsO at k3
      unfold objectB
      simp only [Bool.and_eq_true, decide_eq_true_eq] at k1 ⊢
      refine ⟨⟨k2, k1.1.1.2⟩, ?_⟩
      cases ht : typeAt g.S x.T with
      | none => rw [ht] at k3; cases k3
      | some t =>
        rw [ht] at k3 k1
        simp only [Bool.and_eq_true, decide_eq_true_eq] at k1 ⊢
        refine ⟨k1.2, allI_yes fun k v hv => ?_⟩
        have := allI_at k3 hv
        unfold leadsAtR at this
        unfold leadsAt
        cases hf : t.F[0 + k]? with
        | none => rw [hf] at this; cases this
        | some f => rw [hf] at this; simp only at this ⊢; rw [← leadsR_eq hr]; exact this
    · obtain ⟨i, hi⟩ := List.getElem?_of_mem hr2
      have := allI_at h6 hi
      unfold rootR at this
      unfold rootB
      rw [typ_objAt hr]
      simpa using this
  · intro h
    have hr : ∀ (i : Nat) (x : GObj), g.O[i]? = some x → prevId g.O i < x.Id := fun i x hx => (h.objT hx).1
    refine ⟨⟨⟨h.s, h.o⟩, h.r⟩, allI_yes fun i x hx => ?_, allI_yes fun i x hx => ?_, allI_yes fun i r hi => ?_⟩
    · rw [Nat.zero_add]
      obtain ⟨k1, t, k2, k3⟩ := h.objT hx
      unfold objectR
      rw [k2]
      have := h.pos (List.mem_of_getElem? hx)
      simp only [Bool.and_eq_true, Bool.or_eq_true, decide_eq_true_eq]
      exact ⟨⟨⟨this, k3.id⟩, .inr k1⟩, k3.len⟩
    · obtain ⟨k1, t, k2, k3⟩ := h.objT hx
      unfold leadsO
      rw [k2]
      refine allI_yes fun k v hv => ?_
      rw [Nat.zero_add]
      unfold leadsAtR
      obtain ⟨f, hf⟩ : ∃ f, t.F[k]? = some f := ⟨t.F[k]'(by have := (List.getElem?_eq_some_iff.1 hv).1; have := k3.len; omega), List.getElem?_eq_getElem _⟩
      rw [hf]
      simp only
      rw [leadsR_eq hr]
      exact k3.lead k f v hf hv
    · have := h.root r (List.mem_of_getElem? hi)
      unfold rootB at this
      unfold rootR
      rw [typ_objAt hr] at this
      simpa using this
theorem obj_cases (g : Graph) (r : Int) : (objAt g r = none ∧ fnd (fun o => decide (o.Id = r)) g.O = -1) ∨ ∃ (p : Nat) (o : GObj), objAt g r = some o ∧ fnd (fun o => decide (o.Id = r)) g.O = p ∧ g.O[p]? = some o := by
  unfold objAt fnd
  cases h : g.O.findIdx? (fun o => decide (o.Id = r)) with
  | none =>
    left
    rw [List.findIdx?_eq_none_iff] at h
    exact ⟨by rw [List.find?_eq_none]; intro x hx; rw [h x hx]; simp, rfl⟩
  | some p =>
    right
    rw [List.findIdx?_eq_some_iff_getElem] at h
    obtain ⟨h1, h2, h3⟩ := h
    refine ⟨p, g.O[p], ?_, rfl, List.getElem?_eq_getElem h1⟩
    rw [List.find?_eq_some_iff_getElem]
    exact ⟨h2, p, h1, rfl, fun j hj => by simpa using h3 j hj⟩
theorem prev_cases (g : Graph) {i : Nat} {o : GObj} (ho : g.O[i]? = some o) (hi : i < 1000000) : (decide ((0 : Int) < (i : Int)) = false ∧ g.O[i]? = some o ∧ g.O[i]? = some o ∧ i = 0) ∨ ∃ (j : Nat) (z : GObj), decide ((0 : Int) < (i : Int)) = true ∧ g.O[j]? = some z ∧ IntKind.i64.wrap ((i : Int) - 1) = (j : Int) ∧ prevId g.O i = z.Id ∧ i ≠ 0 := by
  cases i with
  | zero => left; exact ⟨rfl, ho, ho, rfl⟩
  | succ j =>
    right
    have hlt := (List.getElem?_eq_some_iff.1 ho).1
    refine ⟨j, g.O[j], by simp <;> omega, List.getElem?_eq_getElem (by omega), ?_, by simp only [prevId, List.getElem?_eq_getElem (show j < g.O.length by omega)], by omega⟩
    rw [show (((j + 1 : Nat) : Int) - 1) = (j : Int) by omega]
    simp only [IntKind.wrap, IntKind.bits, IntKind.signed]
    simp
    omega
end Go.Ab
namespace Go.Ab
open Go Go.RowKit
def renV (ρ : Int → Int) (f : GField) (v : GVal) : GVal := if f.Kind = 5 then { v with R := ρ v.R } else v
structure Ren (g h : Graph) (ρ : Int → Int) : Prop where
  mg : May g
  mh : May h
  S : h.S = g.S
  len : h.O.length = g.O.length
  neg : ρ (-1) = -1
  inj : ∀ x y, rootB g x = true → rootB g y = true → ρ x = ρ y → x = y
  obj : ∀ (x : Int) (o : GObj) (t : GType), objAt g x = some o → typeAt g.S o.T = some t → objAt h (ρ x) = some ⟨ρ x, o.T, List.zipWith (renV ρ) t.F o.F⟩
  roots : h.Roots = g.Roots.map ρ
theorem refsZ_ren (ρ : Int → Int) : ∀ (fs : List GField) (vs : List GVal), refsZ (fs.zip (List.zipWith (renV ρ) fs vs)) = (refsZ (fs.zip vs)).map ρ
  | [], _ => rfl
  | _ :: _, [] => rfl
  | f :: fs, v :: vs => by
    have ih := refsZ_ren ρ fs vs
    unfold refsZ at ih ⊢
    simp only [List.zipWith_cons_cons, List.zip_cons_cons, List.filterMap_cons]
    by_cases hk : f.Kind = 5
    · simp only [hk, if_true, renV, List.map_cons, ih]
    · simp only [hk, if_false, ih]
section
variable {g h : Graph} {ρ : Int → Int}
theorem Ren.minus (R : Ren g h ρ) {x : Int} (hx : rootB g x = true) : ρ x = -1 ↔ x = -1 := by
  constructor
  · intro e; exact R.inj x (-1) hx (by simp [rootB]) (by rw [e, R.neg])
  · intro e; rw [e, R.neg]
theorem Ren.refs (R : Ren g h ρ) {x : Int} (hx : (typ g.O x).isSome = true) : refsOf h (ρ x) = (refsOf g x).map ρ := by
  obtain ⟨p, o, hp, _, _, hA, _⟩ := R.mg.find hx
  obtain ⟨_, t, hT, _⟩ := R.mg.objT hp
  unfold refsOf refsO
  rw [R.obj x o t hA hT, hA]
  simp only [R.S, hT]
  exact refsZ_ren ρ t.F o.F
theorem Ren.mem (R : Ren g h ρ) {l : List Int} (hl : Good g l) {x : Int} (hx : rootB g x = true) : ρ x ∈ l.map ρ ↔ x ∈ l := by
  constructor
  · intro hm
    obtain ⟨y, hy, e⟩ := List.mem_map.1 hm
    have := R.inj y x (by unfold rootB; rw [hl.ids y hy]; simp) hx e
    exact this ▸ hy
  · exact fun hm => List.mem_map_of_mem hm
theorem Ren.meet (R : Ren g h ρ) {l : List Int} (hl : Good g l) {x : Int} (hx : rootB g x = true) : Ab.meet (l.map ρ) (ρ x) = (Ab.meet l x).map ρ := by
  unfold Ab.meet
  by_cases h1 : x = -1 ∨ x ∈ l
  · rw [if_pos h1, if_pos (by rw [R.minus hx, R.mem hl hx]; exact h1)]
  · rw [if_neg h1, if_neg (by rw [R.minus hx, R.mem hl hx]; exact h1)]; simp
theorem Ren.mets (R : Ren g h ρ) : ∀ {is l : List Int}, Good g l → (∀ i ∈ is, rootB g i = true) → Ab.mets (l.map ρ) (is.map ρ) = (Ab.mets l is).map ρ
  | [], l, _, _ => rfl
  | i :: is, l, hl, hi => by
    have h1 := hi i List.mem_cons_self
    show Ab.mets (Ab.meet (l.map ρ) (ρ i)) (is.map ρ) = (Ab.mets (Ab.meet l i) is).map ρ
    rw [R.meet hl h1]
    exact Ren.mets R (hl.meet h1) fun j hj => hi j (List.mem_cons_of_mem _ hj)
theorem Ren.ordF (R : Ren g h ρ) : ∀ (n i : Nat) {l : List Int}, Good g l → Ab.ordF h n i (l.map ρ) = (Ab.ordF g n i l).map ρ
  | 0, _, _, _ => rfl
  | n + 1, i, l, hl => by
    unfold Ab.ordF
    rw [List.getElem?_map]
    cases hx : l[i]? with
    | none => rfl
    | some x =>
      simp only [Option.map_some]
      rw [R.refs (hl.ids x (List.mem_of_getElem? hx)), R.mets hl (R.mg.refsOf x)]
      exact Ren.ordF R n (i + 1) (hl.mets (R.mg.refsOf x))
theorem Ren.order (R : Ren g h ρ) : Ab.order h = (Ab.order g).map ρ := by
  unfold Ab.order
  rw [R.len, R.roots, show ([] : List Int) = [].map ρ from rfl, R.mets (Good.nil g) R.mg.root]
  exact R.ordF _ _ ((Good.nil g).mets R.mg.root)
end
end Go.Ab
namespace Go.Ab
open Go Go.RowKit
structure RenOf (g h : Graph) (ρ : Int → Int) : Prop where
  mg : May g
  S : h.S = g.S
  len : h.O.length = g.O.length
  neg : ρ (-1) = -1
  inj : ∀ x y, rootB g x = true → rootB g y = true → ρ x = ρ y → x = y
  b : ∀ x, (typ g.O x).isSome = true → 0 ≤ ρ x ∧ ρ x ≤ 1073741824
  pw : (h.O.map (·.Id)).Pairwise (· < ·)
  mem : ∀ (x : Int) (o : GObj) (t : GType), objAt g x = some o → typeAt g.S o.T = some t → (⟨ρ x, o.T, List.zipWith (renV ρ) t.F o.F⟩ : GObj) ∈ h.O
  onto : ∀ y ∈ h.O, ∃ (x : Int) (o : GObj) (t : GType), objAt g x = some o ∧ typeAt g.S o.T = some t ∧ y = ⟨ρ x, o.T, List.zipWith (renV ρ) t.F o.F⟩
  roots : h.Roots = g.Roots.map ρ
theorem objAt_some {g : Graph} {x : Int} {o : GObj} (h : objAt g x = some o) : o ∈ g.O ∧ o.Id = x := by
  unfold objAt at h
  exact ⟨List.mem_of_find?_eq_some h, by simpa using List.find?_some h⟩
section
variable {g h : Graph} {ρ : Int → Int}
theorem RenOf.typ (R : RenOf g h ρ) {x t : Int} (hx : Ab.typ g.O x = some t) : Ab.typ h.O (ρ x) = some t := by
  obtain ⟨p, o, hp, _, _, hA, hT⟩ := R.mg.find (show (Ab.typ g.O x).isSome = true by rw [hx]; rfl)
  rw [hx] at hT; cases hT
  obtain ⟨_, t, ht, _⟩ := R.mg.objT hp
  exact uniq_typ (R.pw.imp fun h e => by omega) (R.mem x o t hA ht)
theorem RenOf.may (R : RenOf g h ρ) : May h := by
  have hm := R.mg
  refine May.of (by rw [R.S]; exact hm.s) (by rw [R.len]; exact hm.o) (by rw [R.roots, List.length_map]; exact hm.r) R.pw (fun y hy => ?_) (fun y hy => ?_) (fun r hr => ?_)
  · obtain ⟨x, o, t, h1, _, rfl⟩ := R.onto y hy
    obtain ⟨h3, rfl⟩ := objAt_some h1
    exact R.b _ (typ_mem h3)
  · obtain ⟨x, o, t, h1, h2, rfl⟩ := R.onto y hy
    obtain ⟨h3, rfl⟩ := objAt_some h1
    obtain ⟨t', h4, ho⟩ := hm.objM h3
    rw [h2] at h4; cases h4
    refine ⟨t, by rw [R.S]; exact h2, by simp [ho.len], fun k f w hf hw => ?_⟩
    rw [List.getElem?_zipWith_eq_some] at hw
    obtain ⟨f', v, h5, h6, rfl⟩ := hw
    rw [hf] at h5; cases h5
    have hl := ho.lead k f v hf h6
    unfold leadsB at hl ⊢
    unfold renV
    by_cases hk : f.Kind = 5
    · simp only [hk, if_true]
      simp only [hk, decide_true, Bool.not_true, Bool.false_or, Bool.and_eq_true, Bool.or_eq_true, decide_eq_true_eq] at hl ⊢
      obtain ⟨h7, h8⟩ := hl
      have hR : -1 ≤ ρ v.R ∧ ρ v.R ≤ 1073741824 := by
        rcases h8 with h8 | h8
        · rw [h8, R.neg]; omega
        · cases ht : Ab.typ g.O v.R with
          | none => rw [ht] at h8; cases h8
          | some u => have := R.b v.R (by rw [ht]; rfl); omega
      refine ⟨?_, ?_⟩
      · unfold valFits at h7 ⊢
        simp only [hk] at h7 ⊢
        simp at h7 ⊢
        exact ⟨hR, h7.2⟩
      · rcases h8 with h8 | h8
        · left; rw [h8, R.neg]
        · right
          cases ht : Ab.typ g.O v.R with
          | none => rw [ht] at h8; cases h8
          | some u => rw [R.typ ht, R.S]; rw [ht] at h8; exact h8
    · simp only [hk, if_false] at hl ⊢
      simp only [decide_false, Bool.not_false, Bool.true_or, Bool.and_true] at hl ⊢
      exact hl
  · rw [R.roots] at hr
    obtain ⟨x, hx, rfl⟩ := List.mem_map.1 hr
    have h1 := hm.root x hx
    unfold rootB at h1 ⊢
    simp only [Bool.or_eq_true, decide_eq_true_eq] at h1 ⊢
    rcases h1 with h1 | h1
    · left; rw [h1, R.neg]
    · right
      obtain ⟨t, ht⟩ := Option.isSome_iff_exists.1 h1
      rw [R.typ ht]; rfl
theorem RenOf.ren (R : RenOf g h ρ) : Ren g h ρ where
  mg := R.mg
  mh := R.may
  S := R.S
  len := R.len
  neg := R.neg
  inj := R.inj
  obj := fun x o t h1 h2 => R.may.mem (R.mem x o t h1 h2)
  roots := R.roots
end
end Go.Ab
namespace Go.Ab
open Go Go.RowKit
def someAt (sm : List Bool) (i : Int) : Bool := if 0 ≤ i then sm.getD i.toNat false else false
structure SomeOK (g : Graph) (sm : List Bool) : Prop where
  root : ∀ (i : Nat) (r : Int), g.Roots[i]? = some r → 0 ≤ r → someAt sm (fnd (fun o => decide (o.Id = r)) g.O) = true
  ref : ∀ (i k : Nat) (o : GObj) (t : GType) (f : GField) (v : GVal), g.O[i]? = some o → typeAt g.S o.T = some t → t.F[k]? = some f → o.F[k]? = some v → sm.getD i false = true → f.Kind = 5 → 0 ≤ v.R → someAt sm (fnd (fun o => decide (o.Id = v.R)) g.O) = true
theorem SomeOK.least {g : Graph} {sm : List Bool} (hm : gMay g = true) (h : SomeOK g sm) {x : Int} (hx : x ∈ gReach g) : someAt sm (fnd (fun o => decide (o.Id = x)) g.O) = true := by
  have hM := (may_iff g).1 hm
  rw [mem_gReach hM] at hx
  refine order_least (g := g) (P := fun x => x ∈ order g ∧ someAt sm (fnd (fun o => decide (o.Id = x)) g.O) = true) (fun y hy r hr hn => ?_) (fun r hr hn => ?_) x hx |>.2
  · obtain ⟨hy1, hy2⟩ := hy
    have hro := (hM.clo hy1 r hr).resolve_left hn
    refine ⟨hro, ?_⟩
    obtain ⟨p, o, hp, rfl, hF, hA, _⟩ := hM.find (hM.order.ids y hy1)
    obtain ⟨_, t, ht, ho⟩ := hM.objT hp
    unfold refsOf at hr
    rw [hA] at hr
    simp only [refsO, ht] at hr
    unfold refsZ at hr
    obtain ⟨⟨f, v⟩, hz, e⟩ := List.mem_filterMap.1 hr
    simp only at e
    split at e
    · rename_i hk
      cases e
      obtain ⟨k, hk2⟩ := List.getElem?_of_mem hz
      rw [List.getElem?_zip_eq_some] at hk2
      unfold gFind at hF
      rw [hF] at hy2
      unfold someAt at hy2
      rw [if_pos (by omega)] at hy2
      exact h.ref p k o t f v hp ht hk2.1 hk2.2 (by simpa using hy2) hk (hM.nonneg hro)
    · cases e
  · have hro := (hM.rootIn hr).resolve_left hn
    obtain ⟨i, hi⟩ := List.getElem?_of_mem hr
    exact ⟨hro, h.root i r hi (hM.nonneg hro)⟩
end Go.Ab
namespace Go.Ab
open Go Go.RowKit
def posOf (g : Graph) (r : Int) : Nat := (fnd (fun o => decide (o.Id = r)) g.O).toNat
def comeS (g : Graph) (out : List Bool) (p : GField × GVal) : List Bool := if p.1.Kind = 5 ∧ 0 ≤ p.2.R then out.set (posOf g p.2.R) true else out
def zipO (g : Graph) (o : GObj) : List (GField × GVal) := (tyF g o.T).zip o.F
def comeO (g : Graph) (at_ : List Bool) (out : List Bool) (p : Nat × GObj) : List Bool := if at_.getD p.1 false = true then (zipO g p.2).foldl (comeS g) out else out
def enumF {α : Type} : Nat → List α → List (Nat × α)
  | _, [] => []
  | k, x :: l => (k, x) :: enumF (k + 1) l
theorem enumF_get {α : Type} : ∀ (l : List α) (k i : Nat), (enumF k l)[i]? = (l[i]?).map fun x => (k + i, x)
  | [], k, i => by simp [enumF]
  | x :: l, k, 0 => by simp [enumF]
  | x :: l, k, i + 1 => by simp only [enumF, List.getElem?_cons_succ, enumF_get l (k + 1) i]; congr 1; funext y; congr 1; omega
theorem enumF_len {α : Type} : ∀ (l : List α) (k : Nat), (enumF k l).length = l.length
  | [], k => rfl
  | x :: l, k => by simp [enumF, enumF_len l]
def comeB (g : Graph) (at_ : List Bool) : List Bool := (enumF 0 g.O).foldl (comeO g at_) at_
def comeN (g : Graph) : Nat → List Bool → List Bool
  | 0, l => l
  | n + 1, l => comeN g n (comeB g l)
def rootS (g : Graph) (l : List Bool) (r : Int) : List Bool := if 0 ≤ r then l.set (posOf g r) true else l
def rootB0 (g : Graph) : List Bool := g.Roots.foldl (rootS g) (List.replicate g.O.length false)
def pickB (g : Graph) (l : List Bool) : List Int := ((enumF 0 g.O).filter fun p => l.getD p.1 false).map fun p => p.2.Id
theorem comeS_len (g : Graph) (out : List Bool) (p : GField × GVal) : (comeS g out p).length = out.length := by unfold comeS; split <;> simp
theorem foldS_len (g : Graph) : ∀ (z : List (GField × GVal)) (out : List Bool), (z.foldl (comeS g) out).length = out.length
  | [], _ => rfl
  | p :: z, out => by rw [List.foldl_cons, foldS_len g z, comeS_len]
theorem comeO_len (g : Graph) (at_ out : List Bool) (p : Nat × GObj) : (comeO g at_ out p).length = out.length := by unfold comeO; split <;> first | exact foldS_len g _ _ | rfl
theorem foldO_len (g : Graph) (at_ : List Bool) : ∀ (l : List (Nat × GObj)) (out : List Bool), (l.foldl (comeO g at_) out).length = out.length
  | [], _ => rfl
  | p :: l, out => by rw [List.foldl_cons, foldO_len g at_ l, comeO_len]
theorem comeB_len (g : Graph) (l : List Bool) : (comeB g l).length = l.length := foldO_len g l _ _
theorem getD_set {l : List Bool} {i : Nat} (hi : i < l.length) (j : Nat) : (l.set i true).getD j false = true ↔ j = i ∨ l.getD j false = true := by
  simp only [List.getD_eq_getElem?_getD, List.getElem?_set]
  by_cases h : i = j
  · subst h; simp [hi]
  · simp only [h, if_false]
    exact ⟨.inr, fun h' => h'.resolve_left (fun e => h e.symm)⟩
structure PosOK (g : Graph) : Prop where
  m : May g
theorem pos_lt {g : Graph} (h : May g) {r : Int} (hr : (typ g.O r).isSome = true) : posOf g r < g.O.length ∧ ∃ o, g.O[posOf g r]? = some o ∧ o.Id = r := by
  obtain ⟨p, x, hp, hx, hf, _, _⟩ := h.find hr
  have e : posOf g r = p := by unfold posOf; unfold gFind at hf; rw [hf]; simp
  rw [e]
  exact ⟨(List.getElem?_eq_some_iff.1 hp).1, x, hp, hx⟩
theorem pos_at {g : Graph} (h : May g) {p : Nat} {o : GObj} (hp : g.O[p]? = some o) : posOf g o.Id = p := by
  obtain ⟨_, x, hx, hid⟩ := pos_lt h (typ_mem (List.mem_of_getElem? hp))
  exact h.inj hx hp hid
theorem typ_root {g : Graph} {r : Int} (h : rootB g r = true) (h0 : 0 ≤ r) : (typ g.O r).isSome = true := by
  unfold rootB at h
  simp only [Bool.or_eq_true, decide_eq_true_eq] at h
  exact h.resolve_left (by omega)
theorem foldS_iff {g : Graph} (h : May g) : ∀ (z : List (GField × GVal)) (out : List Bool), out.length = g.O.length → (∀ r ∈ refsZ z, rootB g r = true) → ∀ j, ((z.foldl (comeS g) out).getD j false = true ↔ out.getD j false = true ∨ ∃ r ∈ refsZ z, 0 ≤ r ∧ posOf g r = j)
  | [], out, _, _, j => by simp [refsZ]
  | p :: z, out, hl, hr, j => by
    rw [List.foldl_cons, foldS_iff h z _ (by rw [comeS_len]; exact hl) (fun r hm => hr r (by unfold refsZ at hm ⊢; rw [List.filterMap_cons]; split <;> first | exact hm | exact List.mem_cons_of_mem _ hm))]
    by_cases hk : p.1.Kind = 5
    · have hz : refsZ (p :: z) = p.2.R :: refsZ z := by unfold refsZ; rw [List.filterMap_cons, if_pos hk]
      rw [hz] at hr ⊢
      by_cases h0 : 0 ≤ p.2.R
      · have hlt := (pos_lt h (typ_root (hr _ List.mem_cons_self) h0)).1
        have e : comeS g out p = out.set (posOf g p.2.R) true := by unfold comeS; rw [if_pos ⟨hk, h0⟩]
        rw [e, getD_set (by omega)]
        constructor
        · rintro ((h1 | h1) | ⟨r, h1, h2⟩)
          · exact .inr ⟨p.2.R, List.mem_cons_self, h0, h1.symm⟩
          · exact .inl h1
          · exact .inr ⟨r, List.mem_cons_of_mem _ h1, h2⟩
        · rintro (h1 | ⟨r, h1, h2, h3⟩)
          · exact .inl (.inr h1)
          · rcases List.mem_cons.1 h1 with rfl | h1
            · exact .inl (.inl h3.symm)
            · exact .inr ⟨r, h1, h2, h3⟩
      · have e : comeS g out p = out := by unfold comeS; rw [if_neg (fun h => h0 h.2)]
        rw [e]
        constructor
        · rintro (h1 | ⟨r, h1, h2⟩)
          · exact .inl h1
          · exact .inr ⟨r, List.mem_cons_of_mem _ h1, h2⟩
        · rintro (h1 | ⟨r, h1, h2, h3⟩)
          · exact .inl h1
          · rcases List.mem_cons.1 h1 with rfl | h1
            · exact absurd h2 h0
            · exact .inr ⟨r, h1, h2, h3⟩
    · have hz : refsZ (p :: z) = refsZ z := by unfold refsZ; rw [List.filterMap_cons, if_neg hk]
      have e : comeS g out p = out := by unfold comeS; rw [if_neg (fun h => hk h.1)]
      rw [hz, e]
theorem refs_zip {g : Graph} (h : May g) {o : GObj} (ho : o ∈ g.O) : refsZ (zipO g o) = refsO g o ∧ ∀ r ∈ refsO g o, rootB g r = true := by
  obtain ⟨t, ht, hm⟩ := h.objM ho
  have e : zipO g o = t.F.zip o.F := by unfold zipO tyF; rw [ht]
  have e2 : refsO g o = refsZ (t.F.zip o.F) := by unfold refsO; rw [ht]
  rw [e, e2]
  exact ⟨rfl, hm.refs⟩
theorem foldO_iff {g : Graph} (h : May g) (at_ : List Bool) : ∀ (l : List (Nat × GObj)) (out : List Bool), out.length = g.O.length → (∀ p ∈ l, p.2 ∈ g.O) → ∀ j, ((l.foldl (comeO g at_) out).getD j false = true ↔ out.getD j false = true ∨ ∃ p ∈ l, at_.getD p.1 false = true ∧ ∃ r ∈ refsO g p.2, 0 ≤ r ∧ posOf g r = j)
  | [], out, _, _, j => by simp
  | p :: l, out, hl, hm, j => by
    rw [List.foldl_cons, foldO_iff h at_ l _ (by rw [comeO_len]; exact hl) (fun q hq => hm q (List.mem_cons_of_mem _ hq))]
    obtain ⟨e1, e2⟩ := refs_zip h (hm p List.mem_cons_self)
    by_cases ha : at_.getD p.1 false = true
    · have e : comeO g at_ out p = (zipO g p.2).foldl (comeS g) out := by unfold comeO; rw [if_pos ha]
      rw [e, foldS_iff h _ _ hl (by rw [e1]; exact e2), e1]
      constructor
      · rintro ((h1 | h1) | ⟨q, h1, h2⟩)
        · exact .inl h1
        · exact .inr ⟨p, List.mem_cons_self, ha, h1⟩
        · exact .inr ⟨q, List.mem_cons_of_mem _ h1, h2⟩
      · rintro (h1 | ⟨q, h1, h2, h3⟩)
        · exact .inl (.inl h1)
        · rcases List.mem_cons.1 h1 with rfl | h1
          · exact .inl (.inr h3)
          · exact .inr ⟨q, h1, h2, h3⟩
    · have e : comeO g at_ out p = out := by unfold comeO; rw [if_neg ha]
      rw [e]
      constructor
      · rintro (h1 | ⟨q, h1, h2⟩)
        · exact .inl h1
        · exact .inr ⟨q, List.mem_cons_of_mem _ h1, h2⟩
      · rintro (h1 | ⟨q, h1, h2, h3⟩)
        · exact .inl h1
        · rcases List.mem_cons.1 h1 with rfl | h1
          · exact absurd h2 ha
          · exact .inr ⟨q, h1, h2, h3⟩
theorem enumF_mem {α : Type} {l : List α} {p : Nat × α} : p ∈ enumF 0 l ↔ l[p.1]? = some p.2 := by
  constructor
  · intro h
    obtain ⟨i, hi⟩ := List.getElem?_of_mem h
    rw [enumF_get] at hi
    cases hx : l[i]? with
    | none => rw [hx] at hi; cases hi
    | some x => rw [hx] at hi; simp at hi; subst hi; simpa using hx
  · intro h
    refine List.mem_of_getElem? (i := p.1) ?_
    rw [enumF_get, h]; simp
theorem comeB_iff {g : Graph} (h : May g) {l : List Bool} (hl : l.length = g.O.length) (j : Nat) : (comeB g l).getD j false = true ↔ l.getD j false = true ∨ ∃ (i : Nat) (o : GObj), g.O[i]? = some o ∧ l.getD i false = true ∧ ∃ r ∈ refsO g o, 0 ≤ r ∧ posOf g r = j := by
  unfold comeB
  rw [foldO_iff h l _ _ hl (fun p hp => List.mem_of_getElem? (enumF_mem.1 hp))]
  constructor
  · rintro (h1 | ⟨p, h1, h2⟩)
    · exact .inl h1
    · exact .inr ⟨p.1, p.2, enumF_mem.1 h1, h2⟩
  · rintro (h1 | ⟨i, o, h1, h2⟩)
    · exact .inl h1
    · exact .inr ⟨(i, o), enumF_mem.2 h1, h2⟩
theorem rootsB_iff {g : Graph} (h : May g) : ∀ (rs : List Int) (l : List Bool), l.length = g.O.length → (∀ r ∈ rs, rootB g r = true) → ∀ j, ((rs.foldl (rootS g) l).getD j false = true ↔ l.getD j false = true ∨ ∃ r ∈ rs, 0 ≤ r ∧ posOf g r = j) ∧ (rs.foldl (rootS g) l).length = l.length
  | [], l, _, _, j => by simp
  | r :: rs, l, hl, hr, j => by
    have hlen : (rootS g l r).length = l.length := by unfold rootS; split <;> simp
    obtain ⟨h1, h2⟩ := rootsB_iff h rs (rootS g l r) (by rw [hlen]; exact hl) (fun x hx => hr x (List.mem_cons_of_mem _ hx)) j
    rw [List.foldl_cons]
    refine ⟨?_, by rw [h2, hlen]⟩
    rw [h1]
    by_cases h0 : 0 ≤ r
    · have hlt := (pos_lt h (typ_root (hr _ List.mem_cons_self) h0)).1
      have e : rootS g l r = l.set (posOf g r) true := by unfold rootS; rw [if_pos h0]
      rw [e, getD_set (by omega)]
      constructor
      · rintro ((h3 | h3) | ⟨x, h3, h4⟩)
        · exact .inr ⟨r, List.mem_cons_self, h0, h3.symm⟩
        · exact .inl h3
        · exact .inr ⟨x, List.mem_cons_of_mem _ h3, h4⟩
      · rintro (h3 | ⟨x, h3, h4, h5⟩)
        · exact .inl (.inr h3)
        · rcases List.mem_cons.1 h3 with rfl | h3
          · exact .inl (.inl h5.symm)
          · exact .inr ⟨x, h3, h4, h5⟩
    · have e : rootS g l r = l := by unfold rootS; rw [if_neg h0]
      rw [e]
      constructor
      · rintro (h3 | ⟨x, h3, h4⟩)
        · exact .inl h3
        · exact .inr ⟨x, List.mem_cons_of_mem _ h3, h4⟩
      · rintro (h3 | ⟨x, h3, h4, h5⟩)
        · exact .inl h3
        · rcases List.mem_cons.1 h3 with rfl | h3
          · exact absurd h4 h0
          · exact .inr ⟨x, h3, h4, h5⟩
def ClosB (g : Graph) (l : List Bool) : Prop := ∀ (i : Nat) (o : GObj), g.O[i]? = some o → l.getD i false = true → ∀ r ∈ refsO g o, 0 ≤ r → l.getD (posOf g r) false = true
def cnt (l : List Bool) : Nat := (l.filter id).length
theorem cnt_le (l : List Bool) : cnt l ≤ l.length := List.length_filter_le _ _
theorem cnt_lt : ∀ {l m : List Bool}, l.length = m.length → (∀ j, l.getD j false = true → m.getD j false = true) → (∃ j, l.getD j false = false ∧ m.getD j false = true) → cnt l < cnt m
  | [], [], _, _, ⟨j, _, h⟩ => by simp at h
  | a :: l, [], h, _, _ => by simp at h
  | [], b :: m, h, _, _ => by simp at h
  | a :: l, b :: m, hl, hs, ⟨j, h1, h2⟩ => by
    have hl' : l.length = m.length := by simpa using hl
    have hs' : ∀ j, l.getD j false = true → m.getD j false = true := fun j hj => by simpa using hs (j + 1) (by simpa using hj)
    have hle : cnt l ≤ cnt m := by
      by_cases he : ∃ j, l.getD j false = false ∧ m.getD j false = true
      · exact Nat.le_of_lt (cnt_lt hl' hs' he)
      · have : l = m := by
          refine List.ext_getElem hl' fun i h3 h4 => ?_
          have q1 : l.getD i false = l[i] := by simp [List.getD_eq_getElem?_getD, h3]
          have q2 : m.getD i false = m[i] := by simp [List.getD_eq_getElem?_getD, h4]
          have q3 := hs' i
          rw [q1, q2] at q3
          cases hb : l[i] <;> cases hc : m[i]
          · rfl
          · exact absurd ⟨i, by rw [q1, hb], by rw [q2, hc]⟩ he
          · rw [hb, hc] at q3; simp at q3
          · rfl
        rw [this]; exact Nat.le_refl _
    cases j with
    | zero =>
      simp at h1 h2
      subst h1 h2
      simp only [cnt, List.filter_cons, id] at hle ⊢
      simp; omega
    | succ j =>
      have ih := cnt_lt hl' hs' ⟨j, by simpa using h1, by simpa using h2⟩
      have h0 := hs 0
      simp at h0
      simp only [cnt, List.filter_cons, id] at ih ⊢
      cases a <;> cases b <;> simp_all <;> omega
theorem comeN_clos {g : Graph} (h : May g) : ∀ (n : Nat) {l : List Bool}, l.length = g.O.length → g.O.length ≤ n + cnt l → ClosB g (comeN g n l)
  | 0, l, hl, hc => by
    intro i o hi _ r hr h0
    obtain ⟨_, e2⟩ := refs_zip h (List.mem_of_getElem? hi)
    have hlt := (pos_lt h (typ_root (e2 r hr) h0)).1
    have hall : cnt l = l.length := by have := cnt_le l; omega
    unfold cnt at hall
    have h2 := List.length_filter_eq_length_iff.1 hall
    show l.getD _ false = true
    rw [List.getD_eq_getElem?_getD, List.getElem?_eq_getElem (by omega)]
    exact h2 _ (List.getElem_mem (by omega))
  | n + 1, l, hl, hc => by
    by_cases hcl : ClosB g l
    · have e : ∀ j, (comeB g l).getD j false = l.getD j false := fun j => by
        rw [Bool.eq_iff_iff, comeB_iff h hl]
        constructor
        · rintro (h1 | ⟨i, o, h1, h2, r, h3, h4, rfl⟩)
          · exact h1
          · exact hcl i o h1 h2 r h3 h4
        · exact .inl
      have e2 : comeB g l = l := by
        refine List.ext_getElem (comeB_len g l) fun i h3 h4 => ?_
        have := e i
        simpa [List.getD_eq_getElem?_getD, h3, h4] using this
      have key : ∀ n, comeN g n l = l := fun n => by
        induction n with
        | zero => rfl
        | succ n ih => simp only [comeN, e2, ih]
      rw [key]; exact hcl
    · simp only [comeN]
      refine comeN_clos h n (by rw [comeB_len]; exact hl) ?_
      have : cnt l < cnt (comeB g l) := by
        refine cnt_lt (comeB_len g l).symm (fun j hj => (comeB_iff h hl j).2 (.inl hj)) ?_
        refine Classical.byContradiction fun hno => hcl fun i o hi hli r hr h0 => ?_
        cases hb : l.getD (posOf g r) false with
        | true => rfl
        | false => exact absurd ⟨posOf g r, hb, (comeB_iff h hl _).2 (.inr ⟨i, o, hi, hli, r, hr, h0, rfl⟩)⟩ hno
      omega
theorem comeN_mono {g : Graph} (h : May g) : ∀ (n : Nat) {l : List Bool}, l.length = g.O.length → ∀ j, l.getD j false = true → (comeN g n l).getD j false = true
  | 0, _, _, _, hj => hj
  | n + 1, l, hl, j, hj => comeN_mono h n (by rw [comeB_len]; exact hl) j ((comeB_iff h hl j).2 (.inl hj))
theorem comeN_sub {g : Graph} (h : May g) {S : Int → Prop} (hS : ∀ x, S x → ∀ r ∈ refsOf g x, r ≠ -1 → S r) : ∀ (n : Nat) {l : List Bool}, l.length = g.O.length → (∀ (i : Nat) (o : GObj), g.O[i]? = some o → l.getD i false = true → S o.Id) → ∀ (i : Nat) (o : GObj), g.O[i]? = some o → (comeN g n l).getD i false = true → S o.Id
  | 0, _, _, hl => hl
  | n + 1, l, hlen, hl => comeN_sub h hS n (by rw [comeB_len]; exact hlen) fun i o hi hb => by
    rcases (comeB_iff h hlen i).1 hb with h1 | ⟨j, o', h1, h2, r, h3, h4, h5⟩
    · exact hl i o hi h1
    · have h6 := hl j o' h1 h2
      have h7 : refsOf g o'.Id = refsO g o' := by unfold refsOf; rw [h.mem (List.mem_of_getElem? h1)]
      obtain ⟨_, e2⟩ := refs_zip h (List.mem_of_getElem? h1)
      obtain ⟨_, x, hx, hid⟩ := pos_lt h (typ_root (e2 r h3) h4)
      rw [h5, hi] at hx; cases hx
      rw [hid]
      exact hS _ h6 r (by rw [h7]; exact h3) (by omega)
theorem refReach {g : Graph} (h : May g) : pickB g (comeN g g.O.length (rootB0 g)) = gReach g := by
  have h0 : (rootB0 g).length = g.O.length := by
    have := (rootsB_iff h g.Roots (List.replicate g.O.length false) (by simp) (fun r hr => h.root r hr) 0).2
    unfold rootB0; rw [this]; simp
  have hb : ∀ j, (rootB0 g).getD j false = true ↔ ∃ r ∈ g.Roots, 0 ≤ r ∧ posOf g r = j := fun j => by
    unfold rootB0
    rw [(rootsB_iff h g.Roots (List.replicate g.O.length false) (by simp) (fun r hr => h.root r hr) j).1]
    constructor
    · rintro (h1 | h1)
      · exfalso
        rw [List.getD_eq_getElem?_getD, List.getElem?_replicate] at h1
        split at h1 <;> simp at h1
      · exact h1
    · exact .inr
  have hcl := comeN_clos h g.O.length h0 (by omega)
  have hmono := fun j => comeN_mono h g.O.length h0 j
  have hiff : ∀ (i : Nat) (o : GObj), g.O[i]? = some o → ((comeN g g.O.length (rootB0 g)).getD i false = true ↔ o.Id ∈ order g) := fun i o hi => by
    constructor
    · refine comeN_sub h (S := (· ∈ order g)) (fun x hx r hr hn => (h.clo hx r hr).resolve_left hn) g.O.length h0 (fun i o hi hl => ?_) i o hi
      obtain ⟨r, hr, hr0, hp⟩ := (hb i).1 hl
      obtain ⟨_, x, hx, hid⟩ := pos_lt h (typ_root (h.root r hr) hr0)
      rw [hp, hi] at hx; cases hx
      rw [hid]
      exact (h.rootIn hr).resolve_left (by omega)
    · intro hm
      have key := order_least (g := g) (P := fun x => (typ g.O x).isSome = true ∧ (comeN g g.O.length (rootB0 g)).getD (posOf g x) false = true) (fun x hx r hr hn => by
        obtain ⟨p, o', hp, hid, _, hA, _⟩ := h.find hx.1
        have hrr : refsOf g x = refsO g o' := by unfold refsOf; rw [hA]
        rw [hrr] at hr
        obtain ⟨_, e2⟩ := refs_zip h (List.mem_of_getElem? hp)
        have hroot := e2 r hr
        have hr0 : 0 ≤ r := by
          have h5 := hroot
          unfold rootB at h5
          simp only [Bool.or_eq_true, decide_eq_true_eq] at h5
          have h6 := h5.resolve_left hn
          obtain ⟨y, hy, hyr⟩ := typ_isSome.1 h6
          have := h.pos hy
          omega
        have hpp : posOf g x = p := by have := pos_at h hp; rw [hid] at this; exact this
        exact ⟨typ_root hroot hr0, hcl p o' hp (by rw [← hpp]; exact hx.2) r hr hr0⟩) (fun r hr hn => by
        have hroot := h.root r hr
        have h5 := hroot
        unfold rootB at h5
        simp only [Bool.or_eq_true, decide_eq_true_eq] at h5
        have h6 := h5.resolve_left hn
        obtain ⟨y, hy, hyr⟩ := typ_isSome.1 h6
        have hr0 : 0 ≤ r := by have := h.pos hy; omega
        exact ⟨h6, hmono _ ((hb _).2 ⟨r, hr, hr0, rfl⟩)⟩) o.Id hm
      have := key.2
      rw [pos_at h hi] at this
      exact this
  unfold pickB gReach
  rw [if_pos ((may_iff g).2 h)]
  have gen : ∀ (l : List GObj) (k : Nat) (b : List Bool), (∀ (i : Nat) (o : GObj), l[i]? = some o → (b.getD (k + i) false = true ↔ o.Id ∈ order g)) → ((enumF k l).filter fun p => b.getD p.1 false).map (fun p => p.2.Id) = (l.filter fun o => decide (o.Id ∈ order g)).map (·.Id) := by
    intro l
    induction l with
    | nil => intro k b _; rfl
    | cons x l ih =>
      intro k b hb
      have hx := hb 0 x rfl
      rw [Nat.add_zero] at hx
      have ih' := ih (k + 1) b fun i o hi => by
        have := hb (i + 1) o (by simpa using hi)
        rw [show k + 1 + i = k + (i + 1) by omega]; exact this
      simp only [enumF, List.filter_cons]
      by_cases hm : x.Id ∈ order g
      · rw [if_pos (hx.2 hm), if_pos (by simpa using hm), List.map_cons, List.map_cons, ih']
      · rw [if_neg (fun h => hm (hx.1 h)), if_neg (by simpa using hm), ih']
  exact gen g.O 0 _ fun i o hi => by rw [Nat.zero_add]; exact hiff i o hi
end Go.Ab
