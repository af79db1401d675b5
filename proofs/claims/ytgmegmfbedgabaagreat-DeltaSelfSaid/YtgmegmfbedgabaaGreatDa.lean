/-
  Graphs, schemas and what is made of them as plain data, and their plain laws. No condition but those of each theorem.
-/
import Derived.WalkKit
import Derived.Below
import Derived.Scope
import Derived.Orders
import Derived.Still
import Derived.Test.YtgmegmfbedgabaaGreatFa
import Derived.Test.YtgmegmfbedgabaaGreatFb
import Derived.Test.YtgmegmfbedgabaaGreatFc
import Derived.Test.YtgmegmfbedgabaaGreatFd
import Derived.Test.YtgmegmfbedgabaaGreatFe
set_option linter.unusedVariables false
set_option linter.unusedSimpArgs false
namespace Go.Ab
open Go Go.RowKit
structure GVal where
  N : Int
  S : ByteArray
  R : Int
structure GObj where
  Id : Int
  T : Int
  F : List GVal
structure GField where
  Name : ByteArray
  Kind : Int
  To : ByteArray
structure GType where
  Name : ByteArray
  F : List GField
structure Graph where
  S : List GType
  O : List GObj
  Roots : List Int
def eI (x : Int) : List AV := [.int .i64 x]
def eVal (v : GVal) : List AV := [.int .i64 v.N, .str v.S, .int .i64 v.R]
def eObj (o : GObj) : List AV := [.int .i64 o.Id, .int .i64 o.T, .sl 3 (o.F.map eVal)]
def eField (f : GField) : List AV := [.str f.Name, .int .i64 f.Kind, .str f.To]
def eType (t : GType) : List AV := [.str t.Name, .sl 3 (t.F.map eField)]
def eSchema (s : List GType) : List AV := [.sl 2 (s.map eType)]
def eGraph (g : Graph) : List AV := [.sl 2 (g.S.map eType), .sl 3 (g.O.map eObj), .sl 1 (g.Roots.map eI)]
theorem GVal.ext_iff' (a b : GVal) : a = b ↔ a.N = b.N ∧ a.S = b.S ∧ a.R = b.R := by
  cases a; cases b; simp
theorem GField.ext_iff' (a b : GField) : a = b ↔ a.Name = b.Name ∧ a.Kind = b.Kind ∧ a.To = b.To := by
  cases a; cases b; simp
instance : DecidableEq GVal := fun a b => decidable_of_iff _ (GVal.ext_iff' a b).symm
instance : DecidableEq GField := fun a b => decidable_of_iff _ (GField.ext_iff' a b).symm
theorem GObj.ext_iff' (a b : GObj) : a = b ↔ a.Id = b.Id ∧ a.T = b.T ∧ a.F = b.F := by
  cases a; cases b; simp
instance : DecidableEq GObj := fun a b => decidable_of_iff _ (GObj.ext_iff' a b).symm
theorem GType.ext_iff' (a b : GType) : a = b ↔ a.Name = b.Name ∧ a.F = b.F := by
  cases a; cases b; simp
instance : DecidableEq GType := fun a b => decidable_of_iff _ (GType.ext_iff' a b).symm
theorem Graph.ext_iff' (a b : Graph) : a = b ↔ a.S = b.S ∧ a.O = b.O ∧ a.Roots = b.Roots := by
  cases a; cases b; simp
instance : DecidableEq Graph := fun a b => decidable_of_iff _ (Graph.ext_iff' a b).symm
theorem take_same {α : Type} {a b : List α} {i : Nat} {x : α} (h : a.take i = b.take i) (h1 : a[i]? = some x) (h2 : b[i]? = some x) : a.take (i + 1) = b.take (i + 1) := by
  rw [List.take_add_one, List.take_add_one, h, h1, h2]
theorem all_same {α : Type} {a b : List α} {i : Nat} (h : a.take i = b.take i) (h1 : i = a.length) (h2 : a.length = b.length) : a = b := by
  rw [h1, List.take_length, h2, List.take_length] at h; exact h
theorem frz_map {α : Type} {e : α → List AV} (h : ∀ x, ∀ a ∈ e x, a.tree = false) (n : Nat) (xs : List α) : (AV.own n (xs.map e)).freeze = .sl n (xs.map e) := by
  have : ∀ x, (e x).map AV.freeze = e x := fun x => by
    have : (e x).map AV.freeze = (e x).map (fun a => a) := List.map_congr_left fun a ha => freeze_plain (h x a ha)
    rw [this, List.map_id']
  simp only [AV.freeze, List.map_map]
  congr 1
  refine List.map_congr_left fun x _ => ?_
  exact this x
theorem frz_I (n : Nat) (xs : List Int) : (AV.own n (xs.map eI)).freeze = .sl n (xs.map eI) := frz_map (fun x a ha => by simp [eI] at ha; subst ha; rfl) n xs
theorem frz_Val (n : Nat) (xs : List GVal) : (AV.own n (xs.map eVal)).freeze = .sl n (xs.map eVal) := frz_map (fun x a ha => by simp [eVal] at ha; rcases ha with rfl | rfl | rfl <;> rfl) n xs
theorem frz_Obj (n : Nat) (xs : List GObj) : (AV.own n (xs.map eObj)).freeze = .sl n (xs.map eObj) := frz_map (fun x a ha => by simp [eObj] at ha; rcases ha with rfl | rfl | rfl <;> rfl) n xs
theorem frz_Field (n : Nat) (xs : List GField) : (AV.own n (xs.map eField)).freeze = .sl n (xs.map eField) := frz_map (fun x a ha => by simp [eField] at ha; rcases ha with rfl | rfl | rfl <;> rfl) n xs
theorem frz_Type (n : Nat) (xs : List GType) : (AV.own n (xs.map eType)).freeze = .sl n (xs.map eType) := frz_map (fun x a ha => by simp [eType] at ha; rcases ha with rfl | rfl <;> rfl) n xs
attribute [go_sem] frz_I frz_Val frz_Obj frz_Field frz_Type
def letterB (c : Int) : Bool := (decide (97 ≤ c) && decide (c ≤ 122)) || ((decide (223 ≤ c) && decide (c ≤ 255)) && !decide (c = 247))
def digitB (c : Int) : Bool := decide (48 ≤ c) && decide (c ≤ 57)
theorem decode_pos (s : ByteArray) (i : Nat) : 0 < (Utf8.decode s i).2 := by
  unfold Utf8.decode
  simp only
  repeat' split
  all_goals simp
def scan (s : ByteArray) : Nat → Nat → Option Nat
  | 0, _ => some 0
  | f + 1, pos => if pos < s.size then (if (!letterB (Utf8.decode s pos).1 && (decide (pos = 0) || !digitB (Utf8.decode s pos).1)) = true then none else (scan s f (pos + (Utf8.decode s pos).2)).map (· + 1)) else some 0
def badAt (s : ByteArray) (pos : Nat) : Bool := !letterB (Utf8.decode s pos).1 && (decide (pos = 0) || !digitB (Utf8.decode s pos).1)
theorem scan_bad {s : ByteArray} {f pos : Nat} (h : pos < s.size) (hf : s.size ≤ pos + f) (hb : badAt s pos = true) : scan s f pos = none := by
  cases f with
  | zero => omega
  | succ f => unfold badAt at hb; simp only [scan]; rw [if_pos h, if_pos hb]
theorem scan_step {s : ByteArray} {f pos : Nat} (h : pos < s.size) (hf : s.size ≤ pos + f) (hb : badAt s pos = false) : ∃ f', s.size ≤ pos + (Utf8.decode s pos).2 + f' ∧ scan s f pos = (scan s f' (pos + (Utf8.decode s pos).2)).map (· + 1) := by
  cases f with
  | zero => omega
  | succ f =>
    have := decode_pos s pos
    refine ⟨f, by omega, ?_⟩
    unfold badAt at hb
    simp only [scan]; rw [if_pos h, if_neg (by rw [hb]; simp)]
theorem scan_end {s : ByteArray} {f pos : Nat} (h : s.size ≤ pos) : scan s f pos = some 0 := by
  cases f with
  | zero => rfl
  | succ f => simp only [scan]; rw [if_neg (by omega)]
def nameLen (s : ByteArray) : Nat := match scan s s.size 0 with
  | some n => if 8 < n then 0 else n
  | none => 0
def nameMay (s : ByteArray) : Bool := decide (0 < nameLen s)
def allp {α : Type} (p : α → α → Bool) : List α → List α → Bool
  | [], [] => true
  | x :: a, y :: b => p x y && allp p a b
  | _, _ => false
theorem allp_len {α : Type} {p : α → α → Bool} : ∀ {a b : List α}, a.length ≠ b.length → allp p a b = false
  | [], [], h => absurd rfl h
  | [], _ :: _, _ => rfl
  | _ :: _, [], _ => rfl
  | x :: a, y :: b, h => by simp only [allp]; rw [allp_len (a := a) (b := b) (fun e => h (by simp [e]))]; simp
theorem allp_no {α : Type} {p : α → α → Bool} : ∀ {a b : List α} {i : Nat} {x y : α}, a[i]? = some x → b[i]? = some y → p x y = false → allp p a b = false
  | [], _, i, x, y, h, _, _ => by simp at h
  | _ :: _, [], i, x, y, _, h, _ => by simp at h
  | u :: a, v :: b, 0, x, y, h1, h2, h => by simp at h1 h2; subst h1 h2; simp [allp, h]
  | u :: a, v :: b, i + 1, x, y, h1, h2, h => by simp only [allp]; rw [allp_no (a := a) (b := b) (by simpa using h1) (by simpa using h2) h]; simp
theorem allp_take {α : Type} {p : α → α → Bool} : ∀ {a b : List α} {i : Nat} {x y : α}, allp p (a.take i) (b.take i) = true → a[i]? = some x → b[i]? = some y → p x y = true → allp p (a.take (i + 1)) (b.take (i + 1)) = true
  | [], _, i, x, y, _, h, _, _ => by simp at h
  | _ :: _, [], i, x, y, _, _, h, _ => by simp at h
  | u :: a, v :: b, 0, x, y, _, h1, h2, h => by simp at h1 h2; subst h1 h2; simp [allp, h]
  | u :: a, v :: b, i + 1, x, y, h0, h1, h2, h => by
    simp only [List.take_succ_cons, allp, Bool.and_eq_true] at h0 ⊢
    exact ⟨h0.1, allp_take h0.2 (by simpa using h1) (by simpa using h2) h⟩
theorem allp_eq {α : Type} [DecidableEq α] {a b : List α} : allp (fun x y => decide (x = y)) a b = decide (a = b) := by
  induction a generalizing b with
  | nil => cases b <;> simp [allp]
  | cons x a ih => cases b with
    | nil => simp [allp]
    | cons y b => simp only [allp, ih, List.cons.injEq]; by_cases h1 : x = y <;> by_cases h2 : a = b <;> simp [h1, h2]
def fnd {α : Type} (p : α → Bool) (l : List α) : Int :=
  match l.findIdx? p with
  | some i => (i : Int)
  | none => -1
theorem fnd_at {α : Type} {p : α → Bool} {l : List α} {i : Nat} {x : α} (h : l[i]? = some x) (hp : p x = true) (hb : ∀ (j : Nat) (y : α), j < i → l[j]? = some y → p y = false) : fnd p l = i := by
  have hlt := (List.getElem?_eq_some_iff.1 h).1
  have : l.findIdx? p = some i := by
    rw [List.findIdx?_eq_some_iff_getElem]
    refine ⟨hlt, ?_, fun j hj => ?_⟩
    · have := (List.getElem?_eq_some_iff.1 h).2; rw [this]; exact hp
    · have := hb j l[j] hj (List.getElem?_eq_getElem (by omega)); simp [this]
  unfold fnd; rw [this]
theorem fnd_no {α : Type} {p : α → Bool} {l : List α} (hb : ∀ (j : Nat) (y : α), l[j]? = some y → p y = false) : fnd p l = -1 := by
  have : l.findIdx? p = none := by
    rw [List.findIdx?_eq_none_iff]
    intro x hx
    obtain ⟨j, hj⟩ := List.getElem?_of_mem hx
    exact hb j x hj
  unfold fnd; rw [this]
theorem any_at {α : Type} {p : α → Bool} {l : List α} {i : Nat} {x : α} (h : l[i]? = some x) (hp : p x = true) : l.any p = true := List.any_eq_true.2 ⟨x, List.mem_of_getElem? h, hp⟩
theorem below_succ {α : Type} {p : α → Bool} {l : List α} {i : Nat} {x : α} (hb : ∀ (j : Nat) (y : α), j < i → l[j]? = some y → p y = false) (h : l[i]? = some x) (hp : p x = false) : ∀ (j : Nat) (y : α), j < i + 1 → l[j]? = some y → p y = false := by
  intro j y hj hy
  by_cases e : j = i
  · subst e; rw [h] at hy; cases hy; exact hp
  · exact hb j y (by omega) hy
theorem below_all {α : Type} {p : α → Bool} {l : List α} (hb : ∀ (j : Nat) (y : α), j < l.length → l[j]? = some y → p y = false) : ∀ (j : Nat) (y : α), l[j]? = some y → p y = false :=
  fun j y hy => hb j y (List.getElem?_eq_some_iff.1 hy).1 hy
def allI {α : Type} (p : Nat → α → Bool) : Nat → List α → Bool
  | _, [] => true
  | k, x :: r => p k x && allI p (k + 1) r
theorem allI_no {α : Type} {p : Nat → α → Bool} : ∀ {l : List α} {k i : Nat} {x : α}, l[i]? = some x → p (k + i) x = false → allI p k l = false
  | [], _, i, x, h, _ => by simp at h
  | y :: l, k, 0, x, h, hp => by simp at h; subst h; simp [allI] at hp ⊢; simp [hp]
  | y :: l, k, i + 1, x, h, hp => by
    simp only [allI]
    rw [allI_no (l := l) (k := k + 1) (i := i) (by simpa using h) (by rw [show k + 1 + i = k + (i + 1) by omega]; exact hp)]
    simp
theorem allI_yes {α : Type} {p : Nat → α → Bool} : ∀ {l : List α} {k : Nat}, (∀ (j : Nat) (y : α), l[j]? = some y → p (k + j) y = true) → allI p k l = true
  | [], _, _ => rfl
  | y :: l, k, h => by
    simp only [allI, Bool.and_eq_true]
    refine ⟨by simpa using h 0 y rfl, allI_yes fun j z hz => ?_⟩
    have := h (j + 1) z (by simpa using hz)
    rw [show k + 1 + j = k + (j + 1) by omega]; exact this
theorem allI_at {α : Type} {p : Nat → α → Bool} : ∀ {l : List α} {k i : Nat} {x : α}, allI p k l = true → l[i]? = some x → p (k + i) x = true := by
  intro l k i x h hx
  cases hp : p (k + i) x with
  | true => rfl
  | false => rw [allI_no hx hp] at h; cases h
theorem belowI_succ {α : Type} {p : Nat → α → Bool} {l : List α} {i : Nat} {x : α} (hb : ∀ (j : Nat) (y : α), j < i → l[j]? = some y → p j y = true) (h : l[i]? = some x) (hp : p i x = true) : ∀ (j : Nat) (y : α), j < i + 1 → l[j]? = some y → p j y = true := by
  intro j y hj hy
  by_cases e : j = i
  · subst e; rw [h] at hy; cases hy; exact hp
  · exact hb j y (by omega) hy
theorem belowI_all {α : Type} {p : Nat → α → Bool} {l : List α} (hb : ∀ (j : Nat) (y : α), j < l.length → l[j]? = some y → p j y = true) : allI p 0 l = true :=
  allI_yes fun j y hy => by rw [Nat.zero_add]; exact hb j y (List.getElem?_eq_some_iff.1 hy).1 hy
def sFind (s : List GType) (n : ByteArray) : Int := fnd (fun o => decide (o.Name = n)) s
def fFind (s : List GField) (n : ByteArray) : Int := fnd (fun o => decide (o.Name = n)) s
def fieldMay (s : List GType) (f : GField) : Bool := ((if f.Kind = 5 then !decide (sFind s f.To = -1) else decide (f.To = ⟨#[]⟩)) && nameMay f.Name) && (decide (0 ≤ f.Kind) && decide (f.Kind < 6))
def fieldsMay (s : List GType) (t : GType) : Bool := allI (fun k f => fieldMay s f && decide (fFind t.F f.Name = k)) 0 t.F
def typeMay (s : List GType) (i : Nat) (t : GType) : Bool := ((nameMay t.Name && decide (sFind s t.Name = i)) && decide (t.F.length ≤ 5)) && fieldsMay s t
def schemaMay (s : List GType) : Bool := (decide (0 < s.length) && decide (s.length ≤ 4)) && allI (typeMay s) 0 s
end Go.Ab
namespace Go.Ab
open Go Go.RowKit
def numFits (k n : Int) : Bool :=
  if k = 0 then decide (-128 ≤ n) && decide (n < 128) else if k = 1 then decide (-32768 ≤ n) && decide (n < 32768) else if k = 2 then decide (-2147483648 ≤ n) && decide (n < 2147483648) else
  if k = 3 then decide (-9223372036854775808 ≤ n) && decide (n < 9223372036854775808) else false
def valFits (f : GField) (v : GVal) : Bool :=
  if f.Kind = 4 then decide (v.S.size ≤ 12) && (decide (v.N = 0) && decide (v.R = 0)) else
  if f.Kind = 5 then (decide (-1 ≤ v.R) && decide (v.R ≤ 1073741824)) && (decide (v.N = 0) && decide (v.S = ⟨#[]⟩)) else
  numFits f.Kind v.N && (decide (v.S = ⟨#[]⟩) && decide (v.R = 0))
def typ : List GObj → Int → Option Int
  | [], _ => none
  | o :: r, i => match typ r i with
    | some t => some t
    | none => if o.Id = i then some o.T else none
def tmap (l : List GObj) : List (Int × AV) := l.foldl (fun m o => mapput m o.Id (.int .i64 o.T)) []
theorem maplk_mapput (m : List (Int × AV)) (k i : Int) (v : AV) : maplk (mapput m k v) i = if i = k then some v else maplk m i := by
  induction m with
  | nil => simp [mapput, maplk]
  | cons p m ih =>
    obtain ⟨a, b⟩ := p
    simp only [mapput]
    by_cases h : k = a
    · subst h; simp only [if_true, maplk]; split <;> simp_all
    · simp only [h, if_false, maplk, ih]; by_cases h2 : i = a
      · subst h2; simp [show ¬ i = k from fun e => h e.symm]
      · simp [h2]
theorem maplk_foldl (l : List GObj) : ∀ (m : List (Int × AV)) (i : Int), maplk (l.foldl (fun m o => mapput m o.Id (.int .i64 o.T)) m) i = match typ l i with
    | some t => some (.int .i64 t)
    | none => maplk m i := by
  induction l with
  | nil => intro m i; simp [typ]
  | cons o l ih =>
    intro m i
    simp only [List.foldl_cons, ih, maplk_mapput, typ]
    cases h : typ l i with
    | some t => rfl
    | none => by_cases h2 : o.Id = i
              · subst h2; simp
              · simp [h2, show ¬ i = o.Id from fun e => h2 e.symm]
theorem maplk_tmap (l : List GObj) (i : Int) : maplk (tmap l) i = (typ l i).map (.int .i64 ·) := by
  unfold tmap; rw [maplk_foldl]; cases typ l i <;> rfl
theorem tmap_succ (l : List GObj) {i : Nat} {o : GObj} (h : l[i]? = some o) : tmap (l.take (i + 1)) = mapput (tmap (l.take i)) o.Id (.int .i64 o.T) := by
  unfold tmap; rw [List.take_add_one, h]; simp
theorem tmap_len (l : List GObj) : (tmap l).length ≤ l.length := by
  have : ∀ (l : List GObj) (m : List (Int × AV)), (l.foldl (fun m o => mapput m o.Id (.int .i64 o.T)) m).length ≤ m.length + l.length := by
    intro l
    induction l with
    | nil => intro m; simp
    | cons o l ih => intro m; simp only [List.foldl_cons]; have := ih (mapput m o.Id (.int .i64 o.T)); have := mapput_len m o.Id (.int .i64 o.T); simp only [List.length_cons]; omega
  unfold tmap; simpa using this l []
def leadsB (g : Graph) (f : GField) (v : GVal) : Bool :=
  valFits f v && (!decide (f.Kind = 5) || (decide (v.R = -1) || (match typ g.O v.R with
    | some t => decide (t = sFind g.S f.To)
    | none => false)))
def leadsAt (g : Graph) (l : List GField) (k : Nat) (v : GVal) : Bool := match l[k]? with
  | some f => leadsB g f v
  | none => false
def prevId (l : List GObj) : Nat → Int
  | 0 => -1
  | i + 1 => match l[i]? with
    | some o => o.Id
    | none => -1
def typeAt (s : List GType) (i : Int) : Option GType := if 0 ≤ i then s[i.toNat]? else none
def objectB (g : Graph) (o : GObj) (last : Int) : Bool :=
  (decide (last < o.Id) && decide (o.Id ≤ 1073741824)) && (match typeAt g.S o.T with
    | some t => decide (o.F.length = t.F.length) && allI (fun k v => leadsAt g t.F k v) 0 o.F
    | none => false)
def rootB (g : Graph) (r : Int) : Bool := decide (r = -1) || (typ g.O r).isSome
def gMay (g : Graph) : Bool :=
  ((schemaMay g.S && decide (g.O.length ≤ 8)) && decide (g.Roots.length ≤ 3)) && (allI (fun i o => objectB g o (prevId g.O i)) 0 g.O && g.Roots.all (rootB g))
def gFind (g : Graph) (i : Int) : Int := fnd (fun o => decide (o.Id = i)) g.O
end Go.Ab
namespace Go.Ab
open Go Go.RowKit
def meet (l : List Int) (i : Int) : List Int := if i = -1 ∨ i ∈ l then l else l ++ [i]
def mets (l is : List Int) : List Int := is.foldl meet l
def ats : Nat → List Int → List (Int × AV)
  | _, [] => []
  | k, x :: r => (x, .int .i64 k) :: ats (k + 1) r
def atMap (l : List Int) : List (Int × AV) := (-1, .int .i64 (-1)) :: ats 0 l
def atL (l : List Int) (i : Int) : Option Int := if i = -1 then some (-1) else (l.findIdx? fun x => decide (x = i)).map fun (n : Nat) => (n : Int)
def atD (l : List Int) (i : Int) : Int := (atL l i).getD 0
theorem maplk_ats (l : List Int) (i : Int) : ∀ k, maplk (ats k l) i = (l.findIdx? fun x => decide (x = i)).map fun (n : Nat) => .int .i64 ((k + n : Nat) : Int) := by
  induction l with
  | nil => intro k; simp [ats, maplk]
  | cons x l ih =>
    intro k
    simp only [ats, maplk, List.findIdx?_cons]
    by_cases h : i = x
    · subst h; simp
    · rw [if_neg h, ih]
      have : decide (x = i) = false := by simp; exact fun e => h e.symm
      rw [this]
      simp only [Bool.false_eq_true, if_false, Option.map_map]
      congr 1
      funext n
      simp only [Function.comp]
      congr 1
      omega
theorem maplk_atMap (l : List Int) (i : Int) : maplk (atMap l) i = (atL l i).map (.int .i64 ·) := by
  unfold atMap atL
  simp only [maplk]
  by_cases h : i = -1
  · simp [h]
  · rw [if_neg h, if_neg h, maplk_ats, Option.map_map]
    congr 1
    funext n
    simp
theorem mapput_new {es : List (Int × AV)} {i : Int} {v : AV} (h : maplk es i = none) : mapput es i v = es ++ [(i, v)] := by
  induction es with
  | nil => rfl
  | cons p es ih =>
    obtain ⟨a, b⟩ := p
    simp only [maplk] at h
    by_cases e : i = a
    · simp [e] at h
    · rw [if_neg e] at h
      simp only [mapput, if_neg e, ih h, List.cons_append]
theorem ats_app (l : List Int) (x : Int) : ∀ k, ats k (l ++ [x]) = ats k l ++ [(x, .int .i64 ((k + l.length : Nat) : Int))] := by
  induction l with
  | nil => intro k; simp [ats]
  | cons y l ih => intro k; simp only [ats, List.cons_append, ih, List.length_cons, List.cons.injEq, true_and]; rw [show k + 1 + l.length = k + (l.length + 1) by omega]
theorem atMap_app (l : List Int) (x : Int) : atMap (l ++ [x]) = atMap l ++ [(x, .int .i64 (l.length : Int))] := by
  unfold atMap; rw [ats_app]; simp
theorem ats_len (l : List Int) : ∀ k, (ats k l).length = l.length := by
  induction l with
  | nil => intro k; rfl
  | cons y l ih => intro k; simp [ats, ih]
theorem atMap_len (l : List Int) : (atMap l).length = l.length + 1 := by simp [atMap, ats_len]
theorem atL_none {l : List Int} {i : Int} : atL l i = none ↔ i ≠ -1 ∧ i ∉ l := by
  unfold atL
  by_cases h : i = -1
  · simp [h]
  · simp only [h, if_false, Option.map_eq_none_iff, List.findIdx?_eq_none_iff, decide_eq_false_iff_not, ne_eq, not_false_eq_true, true_and]
    exact ⟨fun h2 hm => h2 i hm rfl, fun h2 x hx e => h2 (e ▸ hx)⟩
theorem meet_in {l : List Int} {i : Int} {p : Int} (h : atL l i = some p) : meet l i = l := by
  unfold meet
  rw [if_pos]
  refine Classical.byContradiction fun hn => ?_
  rw [not_or] at hn
  rw [atL_none.2 hn] at h; cases h
theorem meet_out {l : List Int} {i : Int} (h : atL l i = none) : meet l i = l ++ [i] := by
  unfold meet
  have := atL_none.1 h
  rw [if_neg (by rw [not_or]; exact this)]
theorem meet_len (l : List Int) (i : Int) : l.length ≤ (meet l i).length := by
  unfold meet; split <;> simp
theorem mets_len : ∀ (l is : List Int), l.length ≤ (mets l is).length
  | l, [] => Nat.le_refl _
  | l, i :: is => Nat.le_trans (meet_len l i) (mets_len (meet l i) is)
theorem mets_take (l : List Int) {is : List Int} {k : Nat} {i : Int} (h : is[k]? = some i) : mets l (is.take (k + 1)) = meet (mets l (is.take k)) i := by
  rw [List.take_add_one, h]; simp [mets]
def refsZ (z : List (GField × GVal)) : List Int := z.filterMap fun p => if p.1.Kind = 5 then some p.2.R else none
theorem refsZ_ref {z : List (GField × GVal)} {k : Nat} {f : GField} {v : GVal} (h : z[k]? = some (f, v)) (hk : f.Kind = 5) (l : List Int) : mets l (refsZ (z.take (k + 1))) = meet (mets l (refsZ (z.take k))) v.R := by
  rw [List.take_add_one, h]
  simp [refsZ, hk, mets]
theorem refsZ_no {z : List (GField × GVal)} {k : Nat} {f : GField} {v : GVal} (h : z[k]? = some (f, v)) (hk : f.Kind ≠ 5) : refsZ (z.take (k + 1)) = refsZ (z.take k) := by
  rw [List.take_add_one, h]
  simp [refsZ, hk]
def objAt (g : Graph) (i : Int) : Option GObj := g.O.find? fun o => decide (o.Id = i)
def refsO (g : Graph) (o : GObj) : List Int := match typeAt g.S o.T with
  | some t => refsZ (t.F.zip o.F)
  | none => []
def refsOf (g : Graph) (i : Int) : List Int := match objAt g i with
  | some o => refsO g o
  | none => []
def ordF (g : Graph) : Nat → Nat → List Int → List Int
  | 0, _, l => l
  | n + 1, i, l => match l[i]? with
    | none => l
    | some x => ordF g n (i + 1) (mets l (refsOf g x))
def order (g : Graph) : List Int := ordF g g.O.length 0 (mets [] g.Roots)
def gOrder (g : Graph) : List Int := if gMay g = true then order g else []
theorem typ_some {l : List GObj} {i t : Int} (h : typ l i = some t) : ∃ o ∈ l, o.Id = i ∧ o.T = t := by
  induction l with
  | nil => simp [typ] at h
  | cons o l ih =>
    simp only [typ] at h
    cases h2 : typ l i with
    | some t' =>
      rw [h2] at h; cases h
      obtain ⟨x, hx, h3⟩ := ih h2
      exact ⟨x, List.mem_cons_of_mem _ hx, h3⟩
    | none =>
      rw [h2] at h
      simp only at h
      split at h
      · rename_i e; cases h; exact ⟨o, List.mem_cons_self, e, rfl⟩
      · cases h
theorem typ_mem {l : List GObj} {o : GObj} (h : o ∈ l) : (typ l o.Id).isSome = true := by
  induction l with
  | nil => cases h
  | cons x l ih =>
    simp only [typ]
    rcases List.mem_cons.1 h with rfl | h
    · cases typ l o.Id <;> simp
    · have := ih h
      cases h2 : typ l o.Id with
      | some t => rfl
      | none => rw [h2] at this; cases this
structure May (g : Graph) : Prop where
  s : schemaMay g.S = true
  o : g.O.length ≤ 8
  r : g.Roots.length ≤ 3
  obj : ∀ (i : Nat) (x : GObj), g.O[i]? = some x → objectB g x (prevId g.O i) = true
  root : ∀ r ∈ g.Roots, rootB g r = true
theorem may_iff (g : Graph) : gMay g = true ↔ May g := by
  unfold gMay
  simp only [Bool.and_eq_true, decide_eq_true_eq, List.all_eq_true]
  constructor
  · rintro ⟨⟨⟨h1, h2⟩, h3⟩, h4, h5⟩
    exact ⟨h1, h2, h3, fun i x hx => by simpa using allI_at h4 hx, h5⟩
  · rintro ⟨h1, h2, h3, h4, h5⟩
    exact ⟨⟨⟨h1, h2⟩, h3⟩, allI_yes fun j y hy => by rw [Nat.zero_add]; exact h4 j y hy, h5⟩
structure MayO (g : Graph) (x : GObj) (t : GType) : Prop where
  id : x.Id ≤ 1073741824
  t0 : 0 ≤ x.T
  at_ : g.S[x.T.toNat]? = some t
  len : x.F.length = t.F.length
  lead : ∀ (k : Nat) (f : GField) (v : GVal), t.F[k]? = some f → x.F[k]? = some v → leadsB g f v = true
theorem May.objT {g : Graph} (h : May g) {i : Nat} {x : GObj} (hx : g.O[i]? = some x) : prevId g.O i < x.Id ∧ ∃ t, typeAt g.S x.T = some t ∧ MayO g x t := by
  have := h.obj i x hx
  unfold objectB at this
  simp only [Bool.and_eq_true, decide_eq_true_eq] at this
  obtain ⟨⟨h1, h2⟩, h3⟩ := this
  refine ⟨h1, ?_⟩
  cases ht : typeAt g.S x.T with
  | none => rw [ht] at h3; cases h3
  | some t =>
    rw [ht] at h3
    simp only [Bool.and_eq_true, decide_eq_true_eq] at h3
    have h0 : 0 ≤ x.T := by
      unfold typeAt at ht; split at ht
      · assumption
      · cases ht
    refine ⟨t, rfl, h2, h0, ?_, h3.1, fun k f v hf hv => ?_⟩
    · unfold typeAt at ht; rw [if_pos h0] at ht; exact ht
    · have := allI_at h3.2 hv
      unfold leadsAt at this
      rw [Nat.zero_add, hf] at this
      exact this
theorem May.ids {g : Graph} (h : May g) : ∀ (i : Nat) (x : GObj), g.O[i]? = some x → -1 < x.Id ∧ ∀ (j : Nat) (y : GObj), j < i → g.O[j]? = some y → y.Id < x.Id := by
  intro i
  induction i with
  | zero => intro x hx; exact ⟨by simpa [prevId] using (h.objT hx).1, fun j y hj => by omega⟩
  | succ i ih =>
    intro x hx
    have h1 := (h.objT hx).1
    have hlt := (List.getElem?_eq_some_iff.1 hx).1
    obtain ⟨z, hz⟩ : ∃ z, g.O[i]? = some z := ⟨g.O[i], List.getElem?_eq_getElem (by omega)⟩
    simp only [prevId, hz] at h1
    obtain ⟨h2, h3⟩ := ih z hz
    refine ⟨by omega, fun j y hj hy => ?_⟩
    by_cases e : j = i
    · subst e; rw [hz] at hy; cases hy; exact h1
    · have := h3 j y (by omega) hy; omega
theorem May.pos {g : Graph} (h : May g) {x : GObj} (hx : x ∈ g.O) : 0 ≤ x.Id := by
  obtain ⟨i, hi⟩ := List.getElem?_of_mem hx
  have := (h.ids i x hi).1; omega
theorem May.inj {g : Graph} (h : May g) {i j : Nat} {x y : GObj} (hx : g.O[i]? = some x) (hy : g.O[j]? = some y) (e : x.Id = y.Id) : i = j := by
  rcases Nat.lt_trichotomy i j with hl | hl | hl
  · have := (h.ids j y hy).2 i x hl hx; omega
  · exact hl
  · have := (h.ids i x hx).2 j y hl hy; omega
theorem May.find {g : Graph} (h : May g) {i : Int} (hi : (typ g.O i).isSome = true) : ∃ (p : Nat) (x : GObj), g.O[p]? = some x ∧ x.Id = i ∧ gFind g i = p ∧ objAt g i = some x ∧ typ g.O i = some x.T := by
  cases ht : typ g.O i with
  | none => rw [ht] at hi; cases hi
  | some t =>
    obtain ⟨x, hx, e1, e2⟩ := typ_some ht
    obtain ⟨p, hp⟩ := List.getElem?_of_mem hx
    have hbel : ∀ (j : Nat) (y : GObj), j < p → g.O[j]? = some y → decide (y.Id = i) = false := fun j y hj hy => by
      have := (h.ids p x hp).2 j y hj hy
      simp; omega
    refine ⟨p, x, hp, e1, ?_, ?_, by rw [e2]⟩
    · exact fnd_at hp (by simpa using e1) hbel
    · unfold objAt
      rw [List.find?_eq_some_iff_getElem]
      have hlt := (List.getElem?_eq_some_iff.1 hp).1
      refine ⟨by simpa using e1, p, hlt, (List.getElem?_eq_some_iff.1 hp).2, fun j hj => ?_⟩
      have := hbel j g.O[j] hj (List.getElem?_eq_getElem (by omega))
      simp only [Bool.not_eq_true', this]
theorem May.mem {g : Graph} (h : May g) {x : GObj} (hx : x ∈ g.O) : objAt g x.Id = some x := by
  obtain ⟨p, y, h1, h2, _, h4, _⟩ := h.find (typ_mem hx)
  obtain ⟨q, hq⟩ := List.getElem?_of_mem hx
  have := h.inj h1 hq h2
  subst this
  rw [h1] at hq; cases hq; exact h4
theorem nodup_len : ∀ (l m : List Int), l.Nodup → (∀ x ∈ l, x ∈ m) → l.length ≤ m.length
  | [], _, _, _ => Nat.zero_le _
  | x :: l, m, h, hs => by
    have hx := hs x List.mem_cons_self
    have h2 := List.nodup_cons.1 h
    have := nodup_len l (m.erase x) h2.2 fun y hy => by
      have hy2 := hs y (List.mem_cons_of_mem _ hy)
      have hne : y ≠ x := fun e => h2.1 (e ▸ hy)
      exact (List.mem_erase_of_ne hne).2 hy2
    rw [List.length_erase_of_mem hx] at this
    have := List.length_pos_of_mem hx
    simp only [List.length_cons]; omega
structure Good (g : Graph) (l : List Int) : Prop where
  nodup : l.Nodup
  ids : ∀ i ∈ l, (typ g.O i).isSome = true
theorem Good.len {g : Graph} {l : List Int} (h : Good g l) : l.length ≤ g.O.length := by
  have := nodup_len l (g.O.map (·.Id)) h.nodup fun x hx => by
    cases ht : typ g.O x with
    | none => have := h.ids x hx; rw [ht] at this; cases this
    | some t => obtain ⟨o, ho, e, _⟩ := typ_some ht; exact List.mem_map.2 ⟨o, ho, e⟩
  simpa using this
theorem Good.nil (g : Graph) : Good g [] := ⟨List.nodup_nil, fun i hi => by cases hi⟩
theorem Good.meet {g : Graph} {l : List Int} (h : Good g l) {i : Int} (hi : rootB g i = true) : Good g (meet l i) := by
  unfold Ab.meet
  split
  · exact h
  · rename_i hn
    rw [not_or] at hn
    unfold rootB at hi
    simp only [Bool.or_eq_true, decide_eq_true_eq] at hi
    have hi := hi.resolve_left hn.1
    refine ⟨?_, fun j hj => ?_⟩
    · rw [List.nodup_append]
      exact ⟨h.nodup, by simp, fun a ha b hb => by simp at hb; subst hb; exact fun e => hn.2 (e ▸ ha)⟩
    · rcases List.mem_append.1 hj with hj | hj
      · exact h.ids j hj
      · simp at hj; subst hj; exact hi
theorem Good.mets {g : Graph} : ∀ {is l : List Int}, Good g l → (∀ i ∈ is, rootB g i = true) → Good g (mets l is)
  | [], _, h, _ => h
  | i :: is, l, h, hi => Good.mets (is := is) (h.meet (hi i List.mem_cons_self)) fun j hj => hi j (List.mem_cons_of_mem _ hj)
theorem MayO.ref {g : Graph} {x : GObj} {t : GType} (h : MayO g x t) {k : Nat} {f : GField} {v : GVal} (hf : t.F[k]? = some f) (hv : x.F[k]? = some v) (hk : f.Kind = 5) : rootB g v.R = true := by
  have := h.lead k f v hf hv
  unfold leadsB at this
  simp only [Bool.and_eq_true, Bool.or_eq_true, hk, decide_true, Bool.not_true, Bool.false_eq_true, false_or, decide_eq_true_eq] at this
  unfold rootB
  simp only [Bool.or_eq_true, decide_eq_true_eq]
  rcases this.2 with h1 | h1
  · exact .inl h1
  · cases ht : typ g.O v.R with
    | none => rw [ht] at h1; cases h1
    | some t => exact .inr rfl
theorem MayO.refs {g : Graph} {x : GObj} {t : GType} (h : MayO g x t) : ∀ r ∈ refsZ (t.F.zip x.F), rootB g r = true := by
  intro r hr
  unfold refsZ at hr
  obtain ⟨⟨f, v⟩, hp, e⟩ := List.mem_filterMap.1 hr
  simp only at e
  split at e
  · rename_i hk; cases e
    obtain ⟨k, hk2⟩ := List.getElem?_of_mem hp
    rw [List.getElem?_zip_eq_some] at hk2
    exact h.ref hk2.1 hk2.2 hk
  · cases e
theorem May.refsOf {g : Graph} (h : May g) (i : Int) : ∀ r ∈ refsOf g i, rootB g r = true := by
  intro r hr
  unfold Ab.refsOf at hr
  split at hr
  · rename_i o ho
    have hm : o ∈ g.O := List.mem_of_find?_eq_some ho
    obtain ⟨p, hp⟩ := List.getElem?_of_mem hm
    obtain ⟨_, t, h1, h2⟩ := h.objT hp
    unfold refsO at hr
    rw [h1] at hr
    exact h2.refs r hr
  · cases hr
theorem May.ordF {g : Graph} (h : May g) : ∀ (n i : Nat) (l : List Int), Good g l → Good g (ordF g n i l)
  | 0, _, _, hl => hl
  | n + 1, i, l, hl => by
    unfold Ab.ordF
    split
    · exact hl
    · exact May.ordF h n (i + 1) _ (hl.mets (h.refsOf _))
theorem May.order {g : Graph} (h : May g) : Good g (order g) := h.ordF _ _ _ ((Good.nil g).mets h.root)
def canonV (l : List Int) (f : GField) (v : GVal) : GVal := if f.Kind = 5 then { v with R := atD l v.R } else v
def canonO (g : Graph) (l : List Int) (k : Nat) (i : Int) : GObj := match objAt g i with
  | some o => ⟨k, o.T, match typeAt g.S o.T with
    | some t => List.zipWith (canonV l) t.F o.F
    | none => []⟩
  | none => ⟨k, 0, []⟩
def canonL (g : Graph) (l : List Int) : Nat → List Int → List GObj
  | _, [] => []
  | k, i :: r => canonO g l k i :: canonL g l (k + 1) r
def canonG (g : Graph) : Graph := ⟨g.S, canonL g (order g) 0 (order g), g.Roots.map (atD (order g))⟩
def gCanon (g : Graph) : Graph := if gMay g = true then canonG g else ⟨[], [], []⟩
theorem canonL_app (g : Graph) (l : List Int) (x : Int) : ∀ (k : Nat) (is : List Int), canonL g l k (is ++ [x]) = canonL g l k is ++ [canonO g l (k + is.length) x]
  | _, [] => by simp [canonL]
  | k, i :: is => by simp only [List.cons_append, canonL, canonL_app g l x (k + 1) is, List.length_cons]; rw [show k + 1 + is.length = k + (is.length + 1) by omega]
theorem canonL_take (g : Graph) (l : List Int) {is : List Int} {k : Nat} {i : Int} (h : is[k]? = some i) : canonL g l 0 (is.take (k + 1)) = canonL g l 0 (is.take k) ++ [canonO g l k i] := by
  have hlt := (List.getElem?_eq_some_iff.1 h).1
  rw [List.take_add_one, h]
  simp only [Option.toList_some]
  rw [canonL_app]
  simp only [List.length_take, Nat.zero_add]
  rw [Nat.min_eq_left (by omega)]
def gIso (a b : Graph) : Bool := (gMay a && gMay b) && decide (gCanon a = gCanon b)
end Go.Ab
namespace Go.Ab
open Go Go.RowKit
theorem set_same {α : Type} {l : List α} {i : Nat} {x : α} (h : l[i]? = some x) : l.set i x = l := by
  apply List.ext_getElem?
  intro j
  rw [List.getElem?_set]
  split
  · rename_i e; subst e
    rw [h]
    have := (List.getElem?_eq_some_iff.1 h).1
    simp [this]
  · rfl
def mixV (l : List Int) (fs : List GField) (vs : List GVal) (k : Nat) : List GVal := List.zipWith (canonV l) (fs.take k) (vs.take k) ++ vs.drop k
theorem mixV_zero (l : List Int) (fs : List GField) (vs : List GVal) : mixV l fs vs 0 = vs := by simp [mixV]
theorem mixV_all (l : List Int) (fs : List GField) (vs : List GVal) (h : vs.length = fs.length) : mixV l fs vs fs.length = List.zipWith (canonV l) fs vs := by
  unfold mixV
  rw [List.take_length, List.take_of_length_le (by omega), List.drop_eq_nil_of_le (by omega), List.append_nil]
theorem mixV_get {l : List Int} {fs : List GField} {vs : List GVal} {k : Nat} {v : GVal} (h : vs.length = fs.length) (hv : vs[k]? = some v) : (mixV l fs vs k)[k]? = some v := by
  have hlt := (List.getElem?_eq_some_iff.1 hv).1
  unfold mixV
  rw [List.getElem?_append_right (by simp; omega)]
  simp only [List.length_zipWith, List.length_take]
  rw [show k - min (min k fs.length) (min k vs.length) = 0 by omega, List.getElem?_drop]
  exact hv
theorem mixV_succ {l : List Int} {fs : List GField} {vs : List GVal} {k : Nat} {f : GField} {v : GVal} (hf : fs[k]? = some f) (hv : vs[k]? = some v) : mixV l fs vs (k + 1) = (mixV l fs vs k).set k (canonV l f v) := by
  have h1 := (List.getElem?_eq_some_iff.1 hf).1
  have h2 := (List.getElem?_eq_some_iff.1 hv).1
  have hd : vs.drop k = v :: vs.drop (k + 1) := by
    rw [List.drop_eq_getElem_cons h2]; congr 1; exact (List.getElem?_eq_some_iff.1 hv).2
  unfold mixV
  rw [hd, List.take_add_one, List.take_add_one, hf, hv]
  simp only [Option.toList_some]
  rw [List.zipWith_append (by simp; omega)]
  rw [List.set_append_right _ _ (by simp; omega)]
  simp only [List.length_zipWith, List.length_take]
  rw [show k - min (min k fs.length) (min k vs.length) = 0 by omega]
  simp
theorem mixV_no {l : List Int} {fs : List GField} {vs : List GVal} {k : Nat} {f : GField} {v : GVal} (h : vs.length = fs.length) (hf : fs[k]? = some f) (hv : vs[k]? = some v) (hk : f.Kind ≠ 5) : mixV l fs vs (k + 1) = mixV l fs vs k := by
  rw [mixV_succ hf hv, show canonV l f v = v by simp [canonV, hk], set_same (mixV_get h hv)]
theorem canonL_len (g : Graph) (l : List Int) : ∀ (k : Nat) (is : List Int), (canonL g l k is).length = is.length
  | _, [] => rfl
  | k, i :: is => by simp [canonL, canonL_len g l (k + 1) is]
theorem mets_pre : ∀ (l is : List Int), ∃ s, mets l is = l ++ s
  | l, [] => ⟨[], by simp [mets]⟩
  | l, i :: is => by
    obtain ⟨s, hs⟩ := mets_pre (meet l i) is
    have e : mets l (i :: is) = mets (meet l i) is := rfl
    rw [e, hs]
    unfold meet
    split
    · exact ⟨s, rfl⟩
    · exact ⟨i :: s, by simp⟩
theorem mem_meet (l : List Int) (i j : Int) : j ∈ meet l i ↔ j ∈ l ∨ (j = i ∧ i ≠ -1) := by
  unfold meet
  split
  · rename_i h
    constructor
    · exact .inl
    · rintro (h1 | ⟨rfl, h2⟩)
      · exact h1
      · exact h.resolve_left h2
  · rename_i h
    rw [not_or] at h
    simp only [List.mem_append, List.mem_singleton]
    constructor
    · rintro (h1 | h1)
      · exact .inl h1
      · exact .inr ⟨h1, h.1⟩
    · rintro (h1 | h1)
      · exact .inl h1
      · exact .inr h1.1
theorem mem_mets : ∀ (is l : List Int) (j : Int), j ∈ mets l is ↔ j ∈ l ∨ (j ∈ is ∧ j ≠ -1)
  | [], l, j => by simp [mets]
  | i :: is, l, j => by
    have e : mets l (i :: is) = mets (meet l i) is := rfl
    rw [e, mem_mets is, mem_meet, List.mem_cons]
    constructor
    · rintro ((h | ⟨rfl, h⟩) | ⟨h, h2⟩)
      · exact .inl h
      · exact .inr ⟨.inl rfl, h⟩
      · exact .inr ⟨.inr h, h2⟩
    · rintro (h | ⟨rfl | h, h2⟩)
      · exact .inl (.inl h)
      · exact .inl (.inr ⟨rfl, h2⟩)
      · exact .inr ⟨h, h2⟩
def Clo (g : Graph) (i : Nat) (l : List Int) : Prop := ∀ (j : Nat) (x : Int), j < i → l[j]? = some x → ∀ r ∈ refsOf g x, r = -1 ∨ r ∈ l
theorem ordF_pre (g : Graph) : ∀ (n i : Nat) (l : List Int), ∃ s, ordF g n i l = l ++ s
  | 0, _, l => ⟨[], by simp [ordF]⟩
  | n + 1, i, l => by
    unfold ordF
    split
    · exact ⟨[], by simp⟩
    · rename_i x hx
      obtain ⟨s, hs⟩ := mets_pre l (refsOf g x)
      obtain ⟨s', hs'⟩ := ordF_pre g n (i + 1) (mets l (refsOf g x))
      exact ⟨s ++ s', by rw [hs', hs, List.append_assoc]⟩
theorem ordF_clo {g : Graph} (h : May g) : ∀ (n i : Nat) (l : List Int), Good g l → Clo g i l → n + i = g.O.length → Clo g (ordF g n i l).length (ordF g n i l)
  | 0, i, l, hg, hc, e => by
    intro j x hj hx
    have := hg.len
    exact hc j x (by have := (List.getElem?_eq_some_iff.1 hx).1; simp only [ordF] at this; omega) hx
  | n + 1, i, l, hg, hc, e => by
    unfold ordF
    split
    · rename_i hn
      intro j x hj hx
      have h1 := List.getElem?_eq_none_iff.1 hn
      exact hc j x (by omega) hx
    · rename_i y hy
      refine ordF_clo h n (i + 1) _ (hg.mets (h.refsOf y)) ?_ (by omega)
      intro j x hj hx r hr
      obtain ⟨s, hs⟩ := mets_pre l (refsOf g y)
      have hil := (List.getElem?_eq_some_iff.1 hy).1
      rw [hs, List.getElem?_append_left (by omega)] at hx
      by_cases e1 : j = i
      · subst e1
        rw [hy] at hx; cases hx
        by_cases e2 : r = -1
        · exact .inl e2
        · exact .inr ((mem_mets _ _ _).2 (.inr ⟨hr, e2⟩))
      · rcases hc j x (by omega) hx r hr with h1 | h1
        · exact .inl h1
        · exact .inr ((mem_mets _ _ _).2 (.inl h1))
theorem May.clo {g : Graph} (h : May g) {x : Int} (hx : x ∈ Ab.order g) : ∀ r ∈ Ab.refsOf g x, r = -1 ∨ r ∈ Ab.order g := by
  obtain ⟨j, hj⟩ := List.getElem?_of_mem hx
  exact ordF_clo h g.O.length 0 _ ((Good.nil g).mets h.root) (fun j x hj => by omega) rfl j x (List.getElem?_eq_some_iff.1 hj).1 hj
theorem May.rootIn {g : Graph} (_ : May g) {r : Int} (hr : r ∈ g.Roots) : r = -1 ∨ r ∈ Ab.order g := by
  obtain ⟨s, hs⟩ := ordF_pre g g.O.length 0 (mets [] g.Roots)
  by_cases e : r = -1
  · exact .inl e
  · refine .inr ?_
    unfold Ab.order
    rw [hs]
    exact List.mem_append_left _ ((mem_mets _ _ _).2 (.inr ⟨hr, e⟩))
theorem atL_mem {l : List Int} {r : Int} (h : r = -1 ∨ r ∈ l) : ∃ p, atL l r = some p := by
  cases e : atL l r with
  | some p => exact ⟨p, rfl⟩
  | none =>
    have := atL_none.1 e
    rcases h with h | h
    · exact absurd h this.1
    · exact absurd h this.2
theorem atD_of {l : List Int} {r p : Int} (h : atL l r = some p) : atD l r = p := by simp [atD, h]
theorem May.refIn {g : Graph} (h : May g) {x : Int} {o : GObj} {t : GType} {k : Nat} {f : GField} {v : GVal} (hx : x ∈ Ab.order g) (ho : objAt g x = some o) (ht : typeAt g.S o.T = some t) (hf : t.F[k]? = some f) (hv : o.F[k]? = some v) (hk : f.Kind = 5) : v.R = -1 ∨ v.R ∈ Ab.order g := by
  refine h.clo hx v.R ?_
  unfold Ab.refsOf refsO
  rw [ho]; simp only [ht]
  unfold refsZ
  exact List.mem_filterMap.2 ⟨(f, v), List.mem_of_getElem? (List.getElem?_zip_eq_some.2 ⟨hf, hv⟩), by simp [hk]⟩
end Go.Ab
namespace Go.Ab
open Go Go.RowKit
def oneS : List GType := [⟨⟨#[97]⟩, [⟨⟨#[110]⟩, 2, ⟨#[]⟩⟩, ⟨⟨#[111]⟩, 5, ⟨#[97]⟩⟩]⟩]
def few06 (s : List GType) (k : Int) : Bool := allI (fun _ t => decide ((t.F.length : Int) ≤ k)) 0 s && decide ((s.length : Int) ≤ k)
def fewG (g : Graph) : Bool := ((few06 g.S 10 && decide (g.O.length ≤ 12)) && decide (g.Roots.length ≤ 10)) && allI (fun _ (o : GObj) => decide (o.F.length ≤ 10)) 0 g.O
set_option maxRecDepth 100000
end Go.Ab
namespace Go.Ab
open Go Go.RowKit
def eObjO (o : GObj) : List AV := [.int .i64 o.Id, .int .i64 o.T, .own 3 (o.F.map eVal)]
def mixO (l : List GObj) (i : Nat) : List (List AV) := (l.take i).map eObjO ++ (l.drop i).map eObj
theorem mixO_len (l : List GObj) (i : Nat) : (mixO l i).length = l.length := by simp [mixO]; omega
theorem mixO_zero (l : List GObj) : mixO l 0 = l.map eObj := by simp [mixO]
theorem mixO_all (l : List GObj) : mixO l l.length = l.map eObjO := by simp [mixO]
theorem mixO_get {l : List GObj} {i : Nat} {x : GObj} (h : l[i]? = some x) : (mixO l i)[i]? = some (eObj x) := by
  have := (List.getElem?_eq_some_iff.1 h).1
  unfold mixO
  rw [List.getElem?_append_right (by simp; omega)]
  simp [Nat.min_eq_left (Nat.le_of_lt this), h]
theorem mixO_set {l : List GObj} {i : Nat} {x : GObj} (h : l[i]? = some x) : (mixO l i).set i (eObjO x) = mixO l (i + 1) := by
  obtain ⟨hl, hx⟩ := List.getElem?_eq_some_iff.1 h
  unfold mixO
  have e : ((l.take i).map eObjO).length = i := by simp; omega
  rw [List.set_append, if_neg (by omega), e, Nat.sub_self, List.drop_eq_getElem_cons hl, List.map_cons, List.set_cons_zero, List.take_add_one, h]
  simp
theorem frz_ObjO (n : Nat) (xs : List GObj) : (AV.own n (xs.map eObjO)).freeze = .sl n (xs.map eObj) := by
  simp only [AV.freeze, List.map_map]
  congr 1
  refine List.map_congr_left fun x _ => ?_
  simp [eObjO, eObj, AV.freeze]
  intro a _
  simp [eVal, AV.freeze]
attribute [go_sem] frz_ObjO
def OWN (g : Graph) : List AV := [.own 2 (g.S.map eType), .own 3 (g.O.map eObjO), .own 1 (g.Roots.map eI)]
structure GSz (g : Graph) : Prop where
  s : g.S.length * 40 ≤ MX
  sf : ∀ x ∈ g.S, x.F.length * 40 ≤ MX
  o : g.O.length * 40 ≤ MX
  of_ : ∀ x ∈ g.O, x.F.length * 32 ≤ MX
  r : g.Roots.length * 8 ≤ MX
def sSet (g : Graph) (i : Nat) (x : GObj) (k : Nat) (v : GVal) : Graph := ⟨g.S, g.O.set i ⟨x.Id, x.T, x.F.set k v⟩, g.Roots⟩
def tyF (g : Graph) (t : Int) : List GField := match typeAt g.S t with
  | some t => t.F
  | none => []
def gSet (g : Graph) (id k : Int) (v : GVal) : Graph × Int :=
  if gMay g = false then (g, 1) else match g.O.findIdx? (fun o => decide (o.Id = id)) with
  | none => (g, 11)
  | some i => match g.O[i]? with
    | none => (g, 11)
    | some x => if k < 0 ∨ (x.F.length : Int) ≤ k then (g, 11) else if leadsAt g (tyF g x.T) k.toNat v = true then (sSet g i x k.toNat v, 0) else (g, 6)
structure GChange where
  New : List Int
  Gone : List Int
  Set : List (Int × Int)
  Roots : List Int
def eP (p : Int × Int) : List AV := [.int .i64 p.1, .int .i64 p.2]
theorem GChange.ext_iff' (a b : GChange) : a = b ↔ a.New = b.New ∧ a.Gone = b.Gone ∧ a.Set = b.Set ∧ a.Roots = b.Roots := by
  cases a; cases b; simp
instance : DecidableEq GChange := fun a b => decidable_of_iff _ (GChange.ext_iff' a b).symm
theorem frz_P (n : Nat) (xs : List (Int × Int)) : (AV.own n (xs.map eP)).freeze = .sl n (xs.map eP) := frz_map (fun x a ha => by simp [eP] at ha; rcases ha with rfl | rfl <;> rfl) n xs
attribute [go_sem] frz_P
def objD (g : Graph) (id : Int) : GObj := (objAt g id).getD ⟨0, 0, []⟩
theorem find_cases {α : Type} (p : α → Bool) (l : List α) : (fnd p l = -1 ∧ l.find? p = none ∧ l.findIdx? p = none) ∨ ∃ (i : Nat) (x : α), fnd p l = i ∧ l[i]? = some x ∧ l.find? p = some x ∧ l.findIdx? p = some i ∧ p x = true := by
  cases h : l.findIdx? p with
  | none =>
    left
    refine ⟨by unfold fnd; rw [h], ?_, rfl⟩
    rw [List.findIdx?_eq_none_iff] at h
    rw [List.find?_eq_none]
    intro x hx
    simp [h x hx]
  | some i =>
    right
    rw [List.findIdx?_eq_some_iff_getElem] at h
    obtain ⟨h1, h2, h3⟩ := h
    refine ⟨i, l[i], by unfold fnd; rw [List.findIdx?_eq_some_iff_getElem.2 ⟨h1, h2, h3⟩], List.getElem?_eq_getElem h1, ?_, rfl, h2⟩
    rw [List.find?_eq_some_iff_getElem]
    exact ⟨h2, i, h1, rfl, fun j hj => by have := h3 j hj; simpa using this⟩
theorem May.small {g : Graph} (h : May g) : g.S.length ≤ 4 ∧ (∀ x ∈ g.S, x.F.length ≤ 5) ∧ ∀ x ∈ g.O, x.F.length ≤ 5 := by
  have h0 := h.s
  unfold schemaMay at h0
  simp only [Bool.and_eq_true, decide_eq_true_eq] at h0
  have h1 : ∀ x ∈ g.S, x.F.length ≤ 5 := fun x hx => by
    obtain ⟨j, hj⟩ := List.getElem?_of_mem hx
    have := allI_at h0.2 hj
    unfold typeMay at this; simp at this; omega
  refine ⟨h0.1.2, h1, fun x hx => ?_⟩
  obtain ⟨j, hj⟩ := List.getElem?_of_mem hx
  obtain ⟨_, t, _, ho⟩ := h.objT hj
  have := h1 t (List.mem_of_getElem? ho.at_)
  have := ho.len
  omega
def twG : Graph := ⟨oneS, [⟨0, 0, [⟨7, ⟨#[]⟩, 0⟩, ⟨0, ⟨#[]⟩, -1⟩]⟩, ⟨5, 0, [⟨8, ⟨#[]⟩, 0⟩, ⟨0, ⟨#[]⟩, 0⟩]⟩], [0]⟩
set_option maxRecDepth 100000
theorem twG_sz : GSz twG := ⟨by decide, by decide, by decide, by decide, by decide⟩
end Go.Ab
namespace Go.Ab
open Go Go.RowKit
theorem wrap_id {a : Int} (h1 : -4611686018427387904 ≤ a) (h2 : a < 4611686018427387904) : IntKind.i64.wrap a = a := by
  simp only [IntKind.wrap, IntKind.bits, IntKind.signed]
  simp
  omega
def zeroV (f : GField) : GVal := if f.Kind = 5 then ⟨0, ⟨#[]⟩, -1⟩ else ⟨0, ⟨#[]⟩, 0⟩
end Go.Ab
namespace Go.Ab
open Go Go.RowKit
theorem zero_leads {g : Graph} {f : GField} (h : 0 ≤ f.Kind ∧ f.Kind < 6) : leadsB g f (zeroV f) = true := by
  unfold leadsB zeroV
  by_cases h5 : f.Kind = 5
  · simp [valFits, h5]
  · rw [if_neg h5]
    by_cases h4 : f.Kind = 4
    · simp [valFits, h4]; decide
    · have : f.Kind = 0 ∨ f.Kind = 1 ∨ f.Kind = 2 ∨ f.Kind = 3 := by omega
      rcases this with h | h | h | h <;> simp [valFits, numFits, h]
end Go.Ab
namespace Go.Ab
open Go Go.RowKit
def Sorted (l m : List Int) : Prop := m.Pairwise (· ≤ ·) ∧ m.Perm l
def UpTo (m : List Int) (i : Nat) : Prop := ∀ (p q : Nat) (x y : Int), p < q → q < i → m[p]? = some x → m[q]? = some y → x ≤ y
def Ins (m : List Int) (i j : Nat) : Prop := ∀ (p q : Nat) (x y : Int), p < q → q ≤ i → q ≠ j → m[p]? = some x → m[q]? = some y → x ≤ y
def lessAt (m : List Int) : Nat → Bool
  | 0 => false
  | k + 1 => match m[k]?, m[k + 1]? with
    | some a, some b => decide (b < a)
    | _, _ => false
def swp (m : List Int) (j : Nat) (a b : Int) : List Int := (m.set (j + 1) a).set j b
theorem Ins.start {m : List Int} {i : Nat} (h : UpTo m i) : Ins m i i := fun p q x y h1 h2 h3 h4 h5 => h p q x y h1 (by omega) h4 h5
theorem set_I (l : List Int) (i : Nat) (x : Int) : (l.map eI).set i [.int .i64 x] = (l.set i x).map eI := by rw [List.map_set]; rfl
theorem lessAt_true {m : List Int} {j : Nat} (h : lessAt m j = true) : ∃ (k : Nat) (a b : Int), j = k + 1 ∧ m[k]? = some a ∧ m[k + 1]? = some b ∧ b < a := by
  cases j with
  | zero => cases h
  | succ k =>
    simp only [lessAt] at h
    split at h
    · rename_i a b h1 h2
      exact ⟨k, a, b, rfl, h1, h2, by simpa using h⟩
    · cases h
theorem lessAt_false {m : List Int} {i j : Nat} (h : lessAt m j = false) (hi : Ins m i j) (hj : j ≤ i) (hl : i < m.length) : UpTo m (i + 1) := by
  intro p q x y h1 h2 h3 h4
  by_cases e : q = j
  · subst e
    cases q with
    | zero => omega
    | succ k =>
      simp only [lessAt] at h
      have hk : m[k]? = some m[k] := List.getElem?_eq_getElem (by omega)
      rw [hk, h4] at h
      simp only [decide_eq_false_iff_not] at h
      by_cases e2 : p = k
      · subst e2; rw [h3] at hk; cases hk; omega
      · have := hi p k x m[k] (by omega) (by omega) (by omega) h3 hk
        omega
  · exact hi p q x y h1 (by omega) e h3 h4
theorem swp_get {m : List Int} {j : Nat} {a b : Int} (h : j + 1 < m.length) (p : Nat) : (swp m j a b)[p]? = if p = j then some b else if p = j + 1 then some a else m[p]? := by
  unfold swp
  by_cases h1 : p = j
  · subst h1; rw [if_pos rfl, List.getElem?_set_self (by simp; omega)]
  · rw [if_neg h1, List.getElem?_set_ne (fun e => h1 e.symm)]
    by_cases h2 : p = j + 1
    · subst h2; rw [if_pos rfl, List.getElem?_set_self h]
    · rw [if_neg h2, List.getElem?_set_ne (fun e => h2 e.symm)]
theorem Ins.step {m : List Int} {i j : Nat} {a b : Int} (h : Ins m i (j + 1)) (hj : j + 1 ≤ i) (ha : m[j]? = some a) (hb : m[j + 1]? = some b) (hab : b < a) : Ins (swp m j a b) i j := by
  have hl := (List.getElem?_eq_some_iff.1 hb).1
  intro p q x y h1 h2 h3 h4 h5
  rw [swp_get hl] at h4 h5
  rw [if_neg h3] at h5
  by_cases e1 : q = j + 1
  · subst e1
    rw [if_pos rfl] at h5; cases h5
    by_cases e2 : p = j
    · subst e2; rw [if_pos rfl] at h4; cases h4; omega
    · rw [if_neg e2, if_neg (by omega)] at h4
      exact h p j x a (by omega) (by omega) (by omega) h4 ha
  · rw [if_neg e1] at h5
    by_cases e2 : p = j
    · subst e2; rw [if_pos rfl] at h4; cases h4
      exact h (p + 1) q b y (by omega) h2 e1 hb h5
    · rw [if_neg e2] at h4
      by_cases e3 : p = j + 1
      · subst e3; rw [if_pos rfl] at h4; cases h4
        exact h j q a y (by omega) h2 e1 ha h5
      · rw [if_neg e3] at h4
        exact h p q x y h1 h2 e1 h4 h5
theorem swp_perm {m : List Int} {j : Nat} {a b : Int} (ha : m[j]? = some a) (hb : m[j + 1]? = some b) : (swp m j a b).Perm m := by
  induction m generalizing j with
  | nil => simp at ha
  | cons x m ih =>
    cases j with
    | zero =>
      cases m with
      | nil => simp at hb
      | cons y m =>
        simp at ha hb; subst ha hb
        simp only [swp, Nat.zero_add, List.set_cons_succ, List.set_cons_zero]
        exact List.Perm.swap _ _ _
    | succ j =>
      simp only [List.getElem?_cons_succ] at ha hb
      have := ih ha hb
      simp only [swp, List.set_cons_succ] at this ⊢
      exact this.cons x
theorem upTo_pairwise {m : List Int} (h : ∀ (p q : Nat) (x y : Int), p < q → q < m.length → m[p]? = some x → m[q]? = some y → x ≤ y) : m.Pairwise (· ≤ ·) := by
  rw [List.pairwise_iff_getElem]
  intro i j hi hj hij
  exact h i j m[i] m[j] hij hj (List.getElem?_eq_getElem hi) (List.getElem?_eq_getElem hj)
theorem sorted_unique : ∀ {a b : List Int}, a.Pairwise (· < ·) → b.Pairwise (· ≤ ·) → a.Perm b → a = b := by
  intro a b ha hb h
  exact h.eq_of_pairwise (le := (· ≤ ·)) (fun x y _ _ h1 h2 => by omega) (ha.imp fun h => by omega) hb
end Go.Ab
namespace Go.Ab
open Go Go.RowKit
def dfs (g : Graph) : Nat → List Int → Int → List Int
  | 0, l, _ => l
  | n + 1, l, i => if i = -1 ∨ i ∈ l then l else (refsOf g i).foldl (dfs g n) (l ++ [i])
def dfsL (g : Graph) : List Int := g.Roots.foldl (dfs g (g.O.length + 1)) []
def gReach (g : Graph) : List Int := if gMay g = true then (g.O.filter fun o => decide (o.Id ∈ order g)).map (·.Id) else []
structure Step (g : Graph) (l : List Int) (is : List Int) (m : List Int) : Prop where
  good : Good g m
  pre : ∃ s, m = l ++ s
  in_ : ∀ i ∈ is, i = -1 ∨ i ∈ m
  clo : ∀ x ∈ m, x ∉ l → ∀ r ∈ refsOf g x, r = -1 ∨ r ∈ m
theorem Step.nil {g : Graph} {l : List Int} (h : Good g l) : Step g l [] l := ⟨h, ⟨[], by simp⟩, fun i hi => absurd hi (by simp), fun x hx hn => absurd hx hn⟩
theorem Step.app {g : Graph} {l m k is js : List Int} (h : Step g l is m) (h' : Step g m js k) : Step g l (is ++ js) k := by
  obtain ⟨s, hs⟩ := h.pre
  obtain ⟨s', hs'⟩ := h'.pre
  have hm : ∀ x ∈ m, x ∈ k := fun x hx => by rw [hs']; exact List.mem_append_left _ hx
  refine ⟨h'.good, ⟨s ++ s', by rw [hs', hs, List.append_assoc]⟩, fun j hj => ?_, fun x hx hn r hr => ?_⟩
  · rcases List.mem_append.1 hj with hj | hj
    · exact (h.in_ j hj).imp id (hm j)
    · exact h'.in_ j hj
  · by_cases e : x ∈ m
    · exact (h.clo x e hn r hr).imp id (hm r)
    · exact h'.clo x hx e r hr
theorem Step.fold {g : Graph} {f : List Int → Int → List Int} : ∀ (is : List Int) {l : List Int}, Good g l →
    (∀ (m : List Int) (i : Int), Good g m → l.length ≤ m.length → i ∈ is → Step g m [i] (f m i)) → Step g l is (is.foldl f l)
  | [], l, h, _ => Step.nil h
  | i :: is, l, h, hf => by
    have h1 := hf l i h (Nat.le_refl _) List.mem_cons_self
    obtain ⟨s, hs⟩ := h1.pre
    have := Step.fold (f := f) is h1.good fun m j hg hl hj => hf m j hg (Nat.le_trans (by rw [hs]; simp) hl) (List.mem_cons_of_mem _ hj)
    exact h1.app this
theorem dfs_step {g : Graph} (hm : May g) : ∀ (n : Nat) {l : List Int} {i : Int}, Good g l → rootB g i = true → g.O.length < n + l.length → Step g l [i] (dfs g n l i)
  | 0, l, i, h, _, hn => by have := h.len; omega
  | n + 1, l, i, h, hi, hn => by
    unfold dfs
    split
    · rename_i h1
      exact ⟨h, ⟨[], by simp⟩, fun j hj => by simp at hj; subst hj; exact h1, fun x hx hn => absurd hx hn⟩
    · rename_i h1
      have hg : Good g (l ++ [i]) := by
        have := h.meet hi
        unfold meet at this
        rwa [if_neg h1] at this
      have h2 := Step.fold (f := dfs g n) (refsOf g i) hg fun m j hgm hl hj => dfs_step hm n hgm (hm.refsOf i j hj) (by simp at hl; omega)
      obtain ⟨s, hs⟩ := h2.pre
      refine ⟨h2.good, ⟨i :: s, by rw [hs]; simp⟩, fun j hj => .inr ?_, fun x hx hn r hr => ?_⟩
      · simp at hj; subst hj; rw [hs]; simp
      · by_cases e : x = i
        · subst e; exact h2.in_ r hr
        · exact h2.clo x hx (by simp [hn, e]) r hr
theorem dfsL_step {g : Graph} (hm : May g) : Step g [] g.Roots (dfsL g) :=
  Step.fold g.Roots (Good.nil g) fun m i hg _ hi => dfs_step hm _ hg (hm.root i hi) (by omega)
theorem dfs_least {g : Graph} {P : Int → Prop} (hP : ∀ x, P x → ∀ r ∈ refsOf g x, r ≠ -1 → P r) : ∀ (n : Nat) {l : List Int} {i : Int}, (∀ x ∈ l, P x) → (i ≠ -1 → P i) → ∀ x ∈ dfs g n l i, P x
  | 0, l, i, hl, _ => hl
  | n + 1, l, i, hl, hi => by
    unfold dfs
    split
    · exact hl
    · rename_i h1
      rw [not_or] at h1
      have hPi := hi h1.1
      have key : ∀ (is : List Int) (l : List Int), (∀ x ∈ l, P x) → (∀ r ∈ is, r ≠ -1 → P r) → ∀ x ∈ is.foldl (dfs g n) l, P x := by
        intro is
        induction is with
        | nil => intro l hl _; exact hl
        | cons j is ih => intro l hl hj; exact ih _ (dfs_least hP n hl (hj j List.mem_cons_self)) fun r hr => hj r (List.mem_cons_of_mem _ hr)
      exact key _ _ (fun x hx => by
        rcases List.mem_append.1 hx with hx | hx
        · exact hl x hx
        · simp at hx; subst hx; exact hPi) (hP i hPi)
theorem dfsL_least {g : Graph} {P : Int → Prop} (hP : ∀ x, P x → ∀ r ∈ refsOf g x, r ≠ -1 → P r) (hr : ∀ r ∈ g.Roots, r ≠ -1 → P r) : ∀ x ∈ dfsL g, P x := by
  unfold dfsL
  have key : ∀ (is : List Int) (l : List Int), (∀ x ∈ l, P x) → (∀ r ∈ is, r ≠ -1 → P r) → ∀ x ∈ is.foldl (dfs g (g.O.length + 1)) l, P x := by
    intro is
    induction is with
    | nil => intro l hl _; exact hl
    | cons j is ih => intro l hl hj; exact ih _ (dfs_least hP _ hl (hj j List.mem_cons_self)) fun r hr => hj r (List.mem_cons_of_mem _ hr)
  exact key _ _ (fun x hx => by cases hx) hr
theorem mets_least {P : Int → Prop} : ∀ (is l : List Int), (∀ x ∈ l, P x) → (∀ r ∈ is, r ≠ -1 → P r) → ∀ x ∈ mets l is, P x := by
  intro is l hl hr x hx
  rcases (mem_mets is l x).1 hx with h | ⟨h, h2⟩
  · exact hl x h
  · exact hr x h h2
theorem ordF_least {g : Graph} {P : Int → Prop} (hP : ∀ x, P x → ∀ r ∈ refsOf g x, r ≠ -1 → P r) : ∀ (n i : Nat) (l : List Int), (∀ x ∈ l, P x) → ∀ x ∈ ordF g n i l, P x
  | 0, _, _, hl => hl
  | n + 1, i, l, hl => by
    unfold ordF
    split
    · exact hl
    · rename_i y hy
      exact ordF_least hP n _ _ (mets_least _ _ hl (hP y (hl y (List.mem_of_getElem? hy))))
theorem order_least {g : Graph} {P : Int → Prop} (hP : ∀ x, P x → ∀ r ∈ refsOf g x, r ≠ -1 → P r) (hr : ∀ r ∈ g.Roots, r ≠ -1 → P r) : ∀ x ∈ order g, P x :=
  ordF_least hP _ _ _ (mets_least _ _ (fun x hx => by cases hx) hr)
theorem dfsL_order {g : Graph} (hm : May g) (x : Int) : x ∈ dfsL g ↔ x ∈ order g := by
  have h := dfsL_step hm
  constructor
  · refine dfsL_least (P := (· ∈ order g)) (fun y hy r hr hn => (hm.clo hy r hr).resolve_left hn) (fun r hr hn => (hm.rootIn hr).resolve_left hn) x
  · refine order_least (P := (· ∈ dfsL g)) (fun y hy r hr hn => (h.clo y hy (by simp) r hr).resolve_left hn) (fun r hr hn => (h.in_ r hr).resolve_left hn) x
theorem May.pw {g : Graph} (h : May g) : (g.O.map (·.Id)).Pairwise (· < ·) := by
  rw [List.pairwise_iff_getElem]
  intro i j hi hj hij
  simp only [List.length_map] at hi hj
  have := (h.ids j g.O[j] (List.getElem?_eq_getElem hj)).2 i g.O[i] hij (List.getElem?_eq_getElem hi)
  simpa using this
theorem gReach_pw {g : Graph} (h : May g) : (gReach g).Pairwise (· < ·) := by
  unfold gReach
  rw [if_pos ((may_iff g).2 h)]
  exact List.Pairwise.sublist ((List.filter_sublist).map _) h.pw
theorem mem_gReach {g : Graph} (h : May g) (x : Int) : x ∈ gReach g ↔ x ∈ order g := by
  unfold gReach
  rw [if_pos ((may_iff g).2 h)]
  constructor
  · intro hx
    obtain ⟨o, ho, rfl⟩ := List.mem_map.1 hx
    simpa using (List.mem_filter.1 ho).2
  · intro hx
    cases ht : typ g.O x with
    | none => have := h.order.ids x hx; rw [ht] at this; cases this
    | some t =>
      obtain ⟨o, ho, rfl, _⟩ := typ_some ht
      exact List.mem_map.2 ⟨o, List.mem_filter.2 ⟨ho, by simpa using hx⟩, rfl⟩
theorem dfsL_sorted {g : Graph} (hm : May g) {m : List Int} (h : Sorted (dfsL g) m) : m = gReach g := by
  refine (sorted_unique (gReach_pw hm) h.1 ?_).symm
  refine List.Perm.trans ?_ h.2.symm
  rw [List.perm_ext_iff_of_nodup ((gReach_pw hm).imp (fun h e => by omega)) (dfsL_step hm).good.nodup]
  intro x
  rw [mem_gReach hm, dfsL_order hm]
def wasMap (l : List Int) : List (Int × AV) := (-1, .bool true) :: l.map fun i => (i, .bool true)
theorem maplk_was (l : List Int) (i : Int) : maplk (wasMap l) i = if i = -1 ∨ i ∈ l then some (.bool true) else none := by
  unfold wasMap
  simp only [maplk]
  by_cases h : i = -1
  · simp [h]
  · rw [if_neg h]
    simp only [h, false_or]
    induction l with
    | nil => simp [maplk]
    | cons x l ih =>
      simp only [List.map_cons, maplk, List.mem_cons]
      by_cases e : i = x
      · simp [e]
      · rw [if_neg e, ih]; simp [e]
theorem was_put {l : List Int} {i : Int} (h : ¬ (i = -1 ∨ i ∈ l)) : mapput (wasMap l) i (.bool true) = wasMap (l ++ [i]) := by
  rw [mapput_new (by rw [maplk_was, if_neg h])]
  simp [wasMap]
theorem was_len (l : List Int) : (wasMap l).length = l.length + 1 := by simp [wasMap]
theorem dfs_in {g : Graph} {n : Nat} {l : List Int} {i : Int} (h : i = -1 ∨ i ∈ l) : dfs g n l i = l := by
  cases n with
  | zero => rfl
  | succ n => unfold dfs; rw [if_pos h]
theorem dfs_out {g : Graph} {n : Nat} {l : List Int} {i : Int} (h : ¬ (i = -1 ∨ i ∈ l)) : dfs g (n + 1) l i = (refsOf g i).foldl (dfs g n) (l ++ [i]) := by
  conv => lhs; unfold dfs
  rw [if_neg h]
theorem refsZ_foldRef {z : List (GField × GVal)} {k : Nat} {f : GField} {v : GVal} (h : z[k]? = some (f, v)) (hk : f.Kind = 5) (F : List Int → Int → List Int) (l : List Int) : (refsZ (z.take (k + 1))).foldl F l = F ((refsZ (z.take k)).foldl F l) v.R := by
  rw [List.take_add_one, h]
  simp [refsZ, hk]
end Go.Ab
namespace Go.Ab
open Go Go.RowKit
theorem prevId_lt {l : List GObj} (hp : (l.map (·.Id)).Pairwise (· < ·)) (h0 : ∀ x ∈ l, 0 ≤ x.Id) {i : Nat} {x : GObj} (hx : l[i]? = some x) : prevId l i < x.Id := by
  obtain ⟨hl, e⟩ := List.getElem?_eq_some_iff.1 hx
  cases i with
  | zero => have := h0 x (List.mem_of_getElem? hx); simp only [prevId]; omega
  | succ i =>
    have hz : l[i]? = some l[i] := List.getElem?_eq_getElem (by omega)
    simp only [prevId, hz]
    have := List.pairwise_iff_getElem.1 hp i (i + 1) (by simp; omega) (by simpa using hl) (by omega)
    simpa [e] using this
theorem May.of {g : Graph} (hS : schemaMay g.S = true) (ho : g.O.length ≤ 8) (hr : g.Roots.length ≤ 3) (hp : (g.O.map (·.Id)).Pairwise (· < ·)) (hb : ∀ x ∈ g.O, 0 ≤ x.Id ∧ x.Id ≤ 1073741824)
    (ht : ∀ x ∈ g.O, ∃ t, typeAt g.S x.T = some t ∧ x.F.length = t.F.length ∧ ∀ (k : Nat) (f : GField) (v : GVal), t.F[k]? = some f → x.F[k]? = some v → leadsB g f v = true) (hroot : ∀ r ∈ g.Roots, rootB g r = true) : May g := by
  refine ⟨hS, ho, hr, fun i x hx => ?_, hroot⟩
  have hm := List.mem_of_getElem? hx
  obtain ⟨t, h1, h2, h3⟩ := ht x hm
  unfold objectB
  simp only [Bool.and_eq_true, decide_eq_true_eq, h1]
  refine ⟨⟨prevId_lt hp (fun x hx => (hb x hx).1) hx, (hb x hm).2⟩, h2, allI_yes fun j v hv => ?_⟩
  rw [Nat.zero_add]
  have hjl : j < t.F.length := by have := (List.getElem?_eq_some_iff.1 hv).1; omega
  unfold leadsAt
  rw [List.getElem?_eq_getElem hjl]
  exact h3 j _ v (List.getElem?_eq_getElem hjl) hv
theorem May.objM {g : Graph} (h : May g) {x : GObj} (hx : x ∈ g.O) : ∃ t, typeAt g.S x.T = some t ∧ MayO g x t := by
  obtain ⟨i, hi⟩ := List.getElem?_of_mem hx
  exact (h.objT hi).2
theorem typ_isSome {l : List GObj} {i : Int} : (typ l i).isSome = true ↔ ∃ o ∈ l, o.Id = i := by
  constructor
  · intro h
    obtain ⟨t, ht⟩ := Option.isSome_iff_exists.1 h
    obtain ⟨o, ho, e, _⟩ := typ_some ht
    exact ⟨o, ho, e⟩
  · rintro ⟨o, ho, rfl⟩; exact typ_mem ho
def swO (g : Graph) : Graph := ⟨g.S, g.O.filter fun o => decide (o.Id ∈ order g), g.Roots⟩
theorem uniq_typ : ∀ {l : List GObj}, (l.map (·.Id)).Nodup → ∀ {o : GObj}, o ∈ l → typ l o.Id = some o.T
  | x :: l, hn, o, ho => by
    simp only [List.map_cons, List.nodup_cons] at hn
    simp only [typ]
    rcases List.mem_cons.1 ho with rfl | ho
    · cases h : typ l o.Id with
      | none => simp
      | some t =>
        obtain ⟨y, hy, e, _⟩ := typ_some h
        exact absurd (e ▸ List.mem_map_of_mem hy) hn.1
    · rw [uniq_typ hn.2 ho]
theorem swO_typ {g : Graph} (h : May g) {i : Int} (hi : i ∈ order g) : typ (swO g).O i = typ g.O i := by
  cases ht : typ g.O i with
  | none => have := h.order.ids i hi; rw [ht] at this; cases this
  | some t =>
    obtain ⟨o, ho, rfl, rfl⟩ := typ_some ht
    have : (swO g).O.map (·.Id) = (g.O.filter fun o => decide (o.Id ∈ order g)).map (·.Id) := rfl
    exact uniq_typ ((List.Pairwise.sublist ((List.filter_sublist).map _) h.pw).imp (fun h e => by omega)) (List.mem_filter.2 ⟨ho, by simpa using hi⟩)
theorem swO_may {g : Graph} (h : May g) : May (swO g) := by
  have hin : ∀ {x : GObj}, x ∈ (swO g).O → x ∈ g.O ∧ x.Id ∈ order g := fun {x} hx => by
    have := List.mem_filter.1 hx
    exact ⟨this.1, by simpa using this.2⟩
  refine May.of h.s ?_ h.r (List.Pairwise.sublist ((List.filter_sublist).map _) h.pw) (fun x hx => ?_) (fun x hx => ?_) (fun r hr => ?_)
  · exact Nat.le_trans (List.length_filter_le _ _) h.o
  · obtain ⟨t, _, ho⟩ := h.objM (hin hx).1
    exact ⟨h.pos (hin hx).1, ho.id⟩
  · obtain ⟨h1, h2⟩ := hin hx
    obtain ⟨t, ht, ho⟩ := h.objM h1
    refine ⟨t, ht, ho.len, fun k f v hf hv => ?_⟩
    have hl := ho.lead k f v hf hv
    by_cases hk : f.Kind = 5
    · rcases h.refIn h2 (h.mem h1) ht hf hv hk with e | e
      · unfold leadsB at hl ⊢
        simp only [Bool.and_eq_true] at hl ⊢
        exact ⟨hl.1, by simp [e]⟩
      · unfold leadsB at hl ⊢
        rw [swO_typ h e]
        exact hl
    · unfold leadsB at hl ⊢
      simp only [Bool.and_eq_true] at hl ⊢
      exact ⟨hl.1, by simp [hk]⟩
  · unfold rootB
    rcases h.rootIn hr with e | e
    · simp [e]
    · rw [swO_typ h e, h.order.ids r e]; simp
theorem swO_obj {g : Graph} (h : May g) {i : Int} (hi : i ∈ order g) : objAt (swO g) i = objAt g i := by
  cases ht : typ g.O i with
  | none => have := h.order.ids i hi; rw [ht] at this; cases this
  | some t =>
    obtain ⟨o, ho, rfl, rfl⟩ := typ_some ht
    rw [h.mem ho, (swO_may h).mem (List.mem_filter.2 ⟨ho, by simpa using hi⟩)]
theorem swO_refs {g : Graph} (h : May g) {i : Int} (hi : i ∈ order g) : refsOf (swO g) i = refsOf g i := by
  unfold refsOf
  rw [swO_obj h hi]
  rfl
theorem swO_len {g : Graph} (h : May g) : (swO g).O.length = (gReach g).length := by
  unfold gReach swO
  rw [if_pos ((may_iff g).2 h), List.length_map]
end Go.Ab
namespace Go.Ab
set_option maxRecDepth 100000
end Go.Ab
namespace Go.Ab
open Go Go.RowKit
theorem atL_at {l : List Int} {x : Int} (hx : x ≠ -1) (hm : x ∈ l) : ∃ n : Nat, atL l x = some (n : Int) ∧ l[n]? = some x := by
  unfold atL
  rw [if_neg hx]
  cases h : l.findIdx? (fun y => decide (y = x)) with
  | none =>
    rw [List.findIdx?_eq_none_iff] at h
    have := h x hm
    simp at this
  | some n =>
    rw [List.findIdx?_eq_some_iff_getElem] at h
    obtain ⟨h1, h2, _⟩ := h
    refine ⟨n, rfl, ?_⟩
    rw [List.getElem?_eq_getElem h1]
    simp at h2; rw [h2]
theorem atD_none (l : List Int) : atD l (-1) = -1 := by simp [atD, atL]
end Go.Ab
namespace Go.Ab
open Go Go.RowKit
theorem canonL_get (g : Graph) (l : List Int) : ∀ (is : List Int) (k i : Nat) (x : Int), is[i]? = some x → (canonL g l k is)[i]? = some (canonO g l (k + i) x)
  | [], _, i, x, h => by simp at h
  | y :: is, k, 0, x, h => by simp at h; subst h; simp [canonL]
  | y :: is, k, i + 1, x, h => by
    simp only [canonL, List.getElem?_cons_succ]
    rw [canonL_get g l is (k + 1) i x (by simpa using h)]
    rw [show k + 1 + i = k + (i + 1) by omega]
theorem canonO_of {g : Graph} {l : List Int} {k : Nat} {x : Int} {o : GObj} {t : GType} (h1 : objAt g x = some o) (h2 : typeAt g.S o.T = some t) : canonO g l k x = ⟨k, o.T, List.zipWith (canonV l) t.F o.F⟩ := by
  unfold canonO; rw [h1]; simp only [h2]
theorem May.nonneg {g : Graph} (h : May g) {x : Int} (hx : x ∈ Ab.order g) : 0 ≤ x := by
  obtain ⟨p, o, hp, e1, _⟩ := h.find (h.order.ids x hx)
  have := h.pos (List.mem_of_getElem? hp); omega
end Go.Ab
namespace Go.Ab
open Go Go.RowKit
def renV (ρ : Int → Int) (f : GField) (v : GVal) : GVal := if f.Kind = 5 then { v with R := ρ v.R } else v
structure Ren (g h : Graph) (ρ : Int → Int) : Prop where
  mg : May g
  mh : May h
  S : h.S = g.S
  len : h.O.length = g.O.length
  neg : ρ (-1) = -1
  inj : ∀ x y, rootB g x = true → rootB g y = true → ρ x = ρ y → x = y
  obj : ∀ (x : Int) (o : GObj) (t : GType), objAt g x = some o → typeAt g.S o.T = some t → objAt h (ρ x) = some ⟨ρ x, o.T, List.zipWith (renV ρ) t.F o.F⟩
  roots : h.Roots = g.Roots.map ρ
theorem refsZ_ren (ρ : Int → Int) : ∀ (fs : List GField) (vs : List GVal), refsZ (fs.zip (List.zipWith (renV ρ) fs vs)) = (refsZ (fs.zip vs)).map ρ
  | [], _ => rfl
  | _ :: _, [] => rfl
  | f :: fs, v :: vs => by
    have ih := refsZ_ren ρ fs vs
    unfold refsZ at ih ⊢
    simp only [List.zipWith_cons_cons, List.zip_cons_cons, List.filterMap_cons]
    by_cases hk : f.Kind = 5
    · simp only [hk, if_true, renV, List.map_cons, ih]
    · simp only [hk, if_false, ih]
theorem canonV_ren (ρ : Int → Int) (l l' : List Int) (fs : List GField) : ∀ (vs : List GVal), (∀ r ∈ refsZ (fs.zip vs), atD l' (ρ r) = atD l r) → List.zipWith (canonV l') fs (List.zipWith (renV ρ) fs vs) = List.zipWith (canonV l) fs vs := by
  induction fs with
  | nil => intro vs _; rfl
  | cons f fs ih =>
    intro vs h
    cases vs with
    | nil => rfl
    | cons v vs =>
      simp only [List.zipWith_cons_cons]
      have h2 : ∀ r ∈ refsZ (fs.zip vs), atD l' (ρ r) = atD l r := fun r hr => h r (by
        unfold refsZ at hr ⊢
        simp only [List.zip_cons_cons, List.filterMap_cons]
        split
        · exact hr
        · exact List.mem_cons_of_mem _ hr)
      rw [ih vs h2]
      congr 1
      unfold canonV renV
      by_cases hk : f.Kind = 5
      · simp only [hk, if_true]
        rw [h v.R (by unfold refsZ; simp [hk])]
      · simp only [hk, if_false]
section
variable {g h : Graph} {ρ : Int → Int}
theorem Ren.minus (R : Ren g h ρ) {x : Int} (hx : rootB g x = true) : ρ x = -1 ↔ x = -1 := by
  constructor
  · intro e; exact R.inj x (-1) hx (by simp [rootB]) (by rw [e, R.neg])
  · intro e; rw [e, R.neg]
theorem Ren.refs (R : Ren g h ρ) {x : Int} (hx : (typ g.O x).isSome = true) : refsOf h (ρ x) = (refsOf g x).map ρ := by
  obtain ⟨p, o, hp, _, _, hA, _⟩ := R.mg.find hx
  obtain ⟨_, t, hT, _⟩ := R.mg.objT hp
  unfold refsOf refsO
  rw [R.obj x o t hA hT, hA]
  simp only [R.S, hT]
  exact refsZ_ren ρ t.F o.F
theorem Ren.mem (R : Ren g h ρ) {l : List Int} (hl : Good g l) {x : Int} (hx : rootB g x = true) : ρ x ∈ l.map ρ ↔ x ∈ l := by
  constructor
  · intro hm
    obtain ⟨y, hy, e⟩ := List.mem_map.1 hm
    have := R.inj y x (by unfold rootB; rw [hl.ids y hy]; simp) hx e
    exact this ▸ hy
  · exact fun hm => List.mem_map_of_mem hm
theorem Ren.meet (R : Ren g h ρ) {l : List Int} (hl : Good g l) {x : Int} (hx : rootB g x = true) : Ab.meet (l.map ρ) (ρ x) = (Ab.meet l x).map ρ := by
  unfold Ab.meet
  by_cases h1 : x = -1 ∨ x ∈ l
  · rw [if_pos h1, if_pos (by rw [R.minus hx, R.mem hl hx]; exact h1)]
  · rw [if_neg h1, if_neg (by rw [R.minus hx, R.mem hl hx]; exact h1)]; simp
theorem Ren.mets (R : Ren g h ρ) : ∀ {is l : List Int}, Good g l → (∀ i ∈ is, rootB g i = true) → Ab.mets (l.map ρ) (is.map ρ) = (Ab.mets l is).map ρ
  | [], l, _, _ => rfl
  | i :: is, l, hl, hi => by
    have h1 := hi i List.mem_cons_self
    show Ab.mets (Ab.meet (l.map ρ) (ρ i)) (is.map ρ) = (Ab.mets (Ab.meet l i) is).map ρ
    rw [R.meet hl h1]
    exact Ren.mets R (hl.meet h1) fun j hj => hi j (List.mem_cons_of_mem _ hj)
theorem Ren.ordF (R : Ren g h ρ) : ∀ (n i : Nat) {l : List Int}, Good g l → Ab.ordF h n i (l.map ρ) = (Ab.ordF g n i l).map ρ
  | 0, _, _, _ => rfl
  | n + 1, i, l, hl => by
    unfold Ab.ordF
    rw [List.getElem?_map]
    cases hx : l[i]? with
    | none => rfl
    | some x =>
      simp only [Option.map_some]
      rw [R.refs (hl.ids x (List.mem_of_getElem? hx)), R.mets hl (R.mg.refsOf x)]
      exact Ren.ordF R n (i + 1) (hl.mets (R.mg.refsOf x))
theorem Ren.order (R : Ren g h ρ) : Ab.order h = (Ab.order g).map ρ := by
  unfold Ab.order
  rw [R.len, R.roots, show ([] : List Int) = [].map ρ from rfl, R.mets (Good.nil g) R.mg.root]
  exact R.ordF _ _ ((Good.nil g).mets R.mg.root)
theorem Ren.atL (R : Ren g h ρ) {x : Int} (hx : rootB g x = true) : ∀ {l : List Int}, (∀ y ∈ l, (typ g.O y).isSome = true) → Ab.atL (l.map ρ) (ρ x) = Ab.atL l x := by
  intro l hl
  unfold Ab.atL
  by_cases h1 : x = -1
  · rw [if_pos h1, if_pos ((R.minus hx).2 h1)]
  · rw [if_neg h1, if_neg (fun e => h1 ((R.minus hx).1 e))]
    congr 1
    rw [List.findIdx?_map]
    have : ∀ (l : List Int), (∀ y ∈ l, (typ g.O y).isSome = true) → l.findIdx? ((fun y => decide (y = ρ x)) ∘ ρ) = l.findIdx? (fun y => decide (y = x)) := by
      intro l
      induction l with
      | nil => intro _; rfl
      | cons y l ih =>
        intro hl
        rw [List.findIdx?_cons, List.findIdx?_cons, ih fun z hz => hl z (List.mem_cons_of_mem _ hz)]
        have : ((fun y => decide (y = ρ x)) ∘ ρ) y = decide (y = x) := by
          simp only [Function.comp, decide_eq_decide]
          exact ⟨fun e => R.inj y x (by unfold rootB; rw [hl y List.mem_cons_self]; simp) hx e, fun e => by rw [e]⟩
        rw [this]
    exact this l hl
theorem Ren.atD (R : Ren g h ρ) {x : Int} (hx : rootB g x = true) : Ab.atD (Ab.order h) (ρ x) = Ab.atD (Ab.order g) x := by
  unfold Ab.atD
  rw [R.order, R.atL hx R.mg.order.ids]
theorem Ren.canonO (R : Ren g h ρ) (k : Nat) {x : Int} (hx : (typ g.O x).isSome = true) : Ab.canonO h (Ab.order h) k (ρ x) = Ab.canonO g (Ab.order g) k x := by
  obtain ⟨p, o, hp, _, _, hA, _⟩ := R.mg.find hx
  obtain ⟨_, t, hT, hmo⟩ := R.mg.objT hp
  rw [canonO_of hA hT, canonO_of (R.obj x o t hA hT) (t := t) (by rw [R.S]; exact hT)]
  congr 1
  exact canonV_ren ρ _ _ t.F o.F fun r hr => R.atD (hmo.refs r hr)
theorem Ren.canonL (R : Ren g h ρ) : ∀ (k : Nat) (is : List Int), (∀ y ∈ is, (typ g.O y).isSome = true) → Ab.canonL h (Ab.order h) k (is.map ρ) = Ab.canonL g (Ab.order g) k is
  | _, [], _ => rfl
  | k, i :: is, hi => by
    simp only [List.map_cons, Ab.canonL]
    rw [R.canonO k (hi i List.mem_cons_self), Ren.canonL R (k + 1) is fun y hy => hi y (List.mem_cons_of_mem _ hy)]
theorem Ren.canonG (R : Ren g h ρ) : Ab.canonG h = Ab.canonG g := by
  have e1 : Ab.canonL h (Ab.order h) 0 (Ab.order h) = Ab.canonL g (Ab.order g) 0 (Ab.order g) := by
    have := R.canonL 0 (Ab.order g) R.mg.order.ids
    rw [← R.order] at this
    exact this
  have e2 : h.Roots.map (Ab.atD (Ab.order h)) = g.Roots.map (Ab.atD (Ab.order g)) := by
    rw [R.roots, List.map_map]
    refine List.map_congr_left fun r hr => ?_
    exact R.atD (R.mg.root r hr)
  unfold Ab.canonG
  rw [e1, e2, R.S]
end
end Go.Ab
namespace Go.Ab
open Go Go.RowKit
structure RenOf (g h : Graph) (ρ : Int → Int) : Prop where
  mg : May g
  S : h.S = g.S
  len : h.O.length = g.O.length
  neg : ρ (-1) = -1
  inj : ∀ x y, rootB g x = true → rootB g y = true → ρ x = ρ y → x = y
  b : ∀ x, (typ g.O x).isSome = true → 0 ≤ ρ x ∧ ρ x ≤ 1073741824
  pw : (h.O.map (·.Id)).Pairwise (· < ·)
  mem : ∀ (x : Int) (o : GObj) (t : GType), objAt g x = some o → typeAt g.S o.T = some t → (⟨ρ x, o.T, List.zipWith (renV ρ) t.F o.F⟩ : GObj) ∈ h.O
  onto : ∀ y ∈ h.O, ∃ (x : Int) (o : GObj) (t : GType), objAt g x = some o ∧ typeAt g.S o.T = some t ∧ y = ⟨ρ x, o.T, List.zipWith (renV ρ) t.F o.F⟩
  roots : h.Roots = g.Roots.map ρ
theorem objAt_some {g : Graph} {x : Int} {o : GObj} (h : objAt g x = some o) : o ∈ g.O ∧ o.Id = x := by
  unfold objAt at h
  exact ⟨List.mem_of_find?_eq_some h, by simpa using List.find?_some h⟩
section
variable {g h : Graph} {ρ : Int → Int}
theorem RenOf.typ (R : RenOf g h ρ) {x t : Int} (hx : Ab.typ g.O x = some t) : Ab.typ h.O (ρ x) = some t := by
  obtain ⟨p, o, hp, _, _, hA, hT⟩ := R.mg.find (show (Ab.typ g.O x).isSome = true by rw [hx]; rfl)
  rw [hx] at hT; cases hT
  obtain ⟨_, t, ht, _⟩ := R.mg.objT hp
  exact uniq_typ (R.pw.imp fun h e => by omega) (R.mem x o t hA ht)
theorem RenOf.may (R : RenOf g h ρ) : May h := by
  have hm := R.mg
  refine May.of (by rw [R.S]; exact hm.s) (by rw [R.len]; exact hm.o) (by rw [R.roots, List.length_map]; exact hm.r) R.pw (fun y hy => ?_) (fun y hy => ?_) (fun r hr => ?_)
  · obtain ⟨x, o, t, h1, _, rfl⟩ := R.onto y hy
    obtain ⟨h3, rfl⟩ := objAt_some h1
    exact R.b _ (typ_mem h3)
  · obtain ⟨x, o, t, h1, h2, rfl⟩ := R.onto y hy
    obtain ⟨h3, rfl⟩ := objAt_some h1
    obtain ⟨t', h4, ho⟩ := hm.objM h3
    rw [h2] at h4; cases h4
    refine ⟨t, by rw [R.S]; exact h2, by simp [ho.len], fun k f w hf hw => ?_⟩
    rw [List.getElem?_zipWith_eq_some] at hw
    obtain ⟨f', v, h5, h6, rfl⟩ := hw
    rw [hf] at h5; cases h5
    have hl := ho.lead k f v hf h6
    unfold leadsB at hl ⊢
    unfold renV
    by_cases hk : f.Kind = 5
    · simp only [hk, if_true]
      simp only [hk, decide_true, Bool.not_true, Bool.false_or, Bool.and_eq_true, Bool.or_eq_true, decide_eq_true_eq] at hl ⊢
      obtain ⟨h7, h8⟩ := hl
      have hR : -1 ≤ ρ v.R ∧ ρ v.R ≤ 1073741824 := by
        rcases h8 with h8 | h8
        · rw [h8, R.neg]; omega
        · cases ht : Ab.typ g.O v.R with
          | none => rw [ht] at h8; cases h8
          | some u => have := R.b v.R (by rw [ht]; rfl); omega
      refine ⟨?_, ?_⟩
      · unfold valFits at h7 ⊢
        simp only [hk] at h7 ⊢
        simp at h7 ⊢
        exact ⟨hR, h7.2⟩
      · rcases h8 with h8 | h8
        · left; rw [h8, R.neg]
        · right
          cases ht : Ab.typ g.O v.R with
          | none => rw [ht] at h8; cases h8
          | some u => rw [R.typ ht, R.S]; rw [ht] at h8; exact h8
    · simp only [hk, if_false] at hl ⊢
      simp only [decide_false, Bool.not_false, Bool.true_or, Bool.and_true] at hl ⊢
      exact hl
  · rw [R.roots] at hr
    obtain ⟨x, hx, rfl⟩ := List.mem_map.1 hr
    have h1 := hm.root x hx
    unfold rootB at h1 ⊢
    simp only [Bool.or_eq_true, decide_eq_true_eq] at h1 ⊢
    rcases h1 with h1 | h1
    · left; rw [h1, R.neg]
    · right
      obtain ⟨t, ht⟩ := Option.isSome_iff_exists.1 h1
      rw [R.typ ht]; rfl
theorem RenOf.ren (R : RenOf g h ρ) : Ren g h ρ where
  mg := R.mg
  mh := R.may
  S := R.S
  len := R.len
  neg := R.neg
  inj := R.inj
  obj := fun x o t h1 h2 => R.may.mem (R.mem x o t h1 h2)
  roots := R.roots
end
theorem ordF_fuel (g : Graph) : ∀ (n k i : Nat) (l : List Int), (ordF g n i l).length ≤ i + n → ordF g (n + k) i l = ordF g n i l
  | 0, k, i, l, h => by
    simp only [ordF] at h ⊢
    cases k with
    | zero => rfl
    | succ k =>
      simp only [Nat.zero_add, ordF]
      rw [List.getElem?_eq_none (by omega)]
  | n + 1, k, i, l, h => by
    rw [show n + 1 + k = (n + k) + 1 by omega]
    simp only [ordF] at h ⊢
    cases hx : l[i]? with
    | none => rfl
    | some x =>
      simp only [hx] at h ⊢
      exact ordF_fuel g n k (i + 1) _ (by omega)
theorem ordF_refs {g a : Graph} : ∀ (n i : Nat) (l : List Int), (∀ x ∈ ordF g n i l, refsOf a x = refsOf g x) → ordF a n i l = ordF g n i l
  | 0, _, _, _ => rfl
  | n + 1, i, l, h => by
    simp only [ordF] at h ⊢
    cases hx : l[i]? with
    | none => rfl
    | some x =>
      simp only [hx] at h ⊢
      obtain ⟨s, hs⟩ := ordF_pre g n (i + 1) (mets l (refsOf g x))
      obtain ⟨s', hs'⟩ := mets_pre l (refsOf g x)
      have hxm : x ∈ ordF g n (i + 1) (mets l (refsOf g x)) := by
        rw [hs, hs']; exact List.mem_append_left _ (List.mem_append_left _ (List.mem_of_getElem? hx))
      rw [h x hxm]
      exact ordF_refs n (i + 1) _ h
theorem reach_len {g : Graph} (h : May g) : (gReach g).length = (order g).length :=
  Nat.le_antisymm (nodup_len _ _ ((gReach_pw h).imp fun h e => by omega) fun x hx => (mem_gReach h x).1 hx) (nodup_len _ _ h.order.nodup fun x hx => (mem_gReach h x).2 hx)
theorem swO_ord {g : Graph} (h : May g) : order (swO g) = order g := by
  have hs := swO_may h
  have hm : (swO g).O.length = (order g).length := by rw [swO_len h, reach_len h]
  have h1 : ordF (swO g) (swO g).O.length 0 (mets [] g.Roots) = ordF g (swO g).O.length 0 (mets [] g.Roots) := ordF_refs _ _ _ fun x hx =>
    swO_refs h (ordF_least (g := g) (P := (· ∈ order g)) (fun y hy r hr hn => (h.clo hy r hr).resolve_left hn) _ _ _ (mets_least _ _ (fun x hx => by cases hx) fun r hr hn => (h.rootIn hr).resolve_left hn) x hx)
  have hg : (ordF g (swO g).O.length 0 (mets [] g.Roots)).length ≤ 0 + (swO g).O.length := by
    rw [← h1, Nat.zero_add]
    exact (hs.order).len
  have hle : (swO g).O.length ≤ g.O.length := List.length_filter_le _ _
  obtain ⟨k, hk⟩ : ∃ k, g.O.length = (swO g).O.length + k := ⟨g.O.length - (swO g).O.length, by omega⟩
  have h2 : order g = ordF g (swO g).O.length 0 (mets [] g.Roots) := by
    unfold order
    rw [hk]
    exact ordF_fuel g _ k 0 _ hg
  rw [h2, ← h1]
  rfl
theorem swO_canonL {g : Graph} (h : May g) : ∀ (k : Nat) (is : List Int), (∀ x ∈ is, x ∈ order g) → canonL (swO g) (order g) k is = canonL g (order g) k is
  | _, [], _ => rfl
  | k, i :: is, hi => by
    simp only [canonL]
    rw [swO_canonL h (k + 1) is fun x hx => hi x (List.mem_cons_of_mem _ hx)]
    congr 1
    unfold canonO
    rw [swO_obj h (hi i List.mem_cons_self)]
    rfl
theorem swO_canon {g : Graph} (h : May g) : canonG (swO g) = canonG g := by
  unfold canonG
  rw [swO_ord h, swO_canonL h 0 _ fun x hx => hx]
  rfl
theorem canonL_ids (g : Graph) (l : List Int) : ∀ (k : Nat) (is : List Int), (canonL g l k is).map (·.Id) = (List.range' k is.length).map fun (n : Nat) => (n : Int)
  | _, [] => rfl
  | k, i :: is => by
    simp only [canonL, List.map_cons, List.length_cons, List.range'_succ, canonL_ids g l (k + 1) is]
    congr 1
    unfold canonO
    split <;> rfl
theorem atD_mem {l : List Int} {x : Int} (hx : x ∈ l) (h : x ≠ -1) : ∃ n : Nat, atD l x = n ∧ l[n]? = some x := by
  obtain ⟨n, h1, h2⟩ := atL_at h hx
  exact ⟨n, atD_of h1, h2⟩
theorem canon_renOf {g : Graph} (h : May g) : RenOf (swO g) (canonG g) (atD (order g)) := by
  have hs := swO_may h
  have hin : ∀ {x : Int}, (typ (swO g).O x).isSome = true → x ∈ order g := fun {x} hx => by
    obtain ⟨o, ho, rfl⟩ := typ_isSome.1 hx
    simpa using (List.mem_filter.1 ho).2
  have hne : ∀ {x : Int}, x ∈ order g → x ≠ -1 := fun {x} hx => by have := h.nonneg hx; omega
  have ol : (order g).length ≤ 8 := Nat.le_trans h.order.len h.o
  have hobj : ∀ {n : Nat} {x : Int}, (order g)[n]? = some x → ∀ (o : GObj) (t : GType), objAt g x = some o → typeAt g.S o.T = some t → (canonG g).O[n]? = some ⟨n, o.T, List.zipWith (canonV (order g)) t.F o.F⟩ := fun {n x} hn o t h1 h2 => by
    show (canonL g (order g) 0 (order g))[n]? = _
    rw [canonL_get g (order g) (order g) 0 n x hn, Nat.zero_add, canonO_of h1 h2]
  refine ⟨hs, rfl, ?_, atD_none _, fun x y hx hy e => ?_, fun x hx => ?_, ?_, fun x o t h1 h2 => ?_, fun y hy => ?_, rfl⟩
  · show (canonL g (order g) 0 (order g)).length = _
    rw [canonL_len, swO_len h, reach_len h]
  · have hcase : ∀ {z : Int}, rootB (swO g) z = true → z = -1 ∨ z ∈ order g := fun {z} hz => by
      unfold rootB at hz
      simp only [Bool.or_eq_true, decide_eq_true_eq] at hz
      exact hz.imp id hin
    rcases hcase hx with rfl | hx <;> rcases hcase hy with rfl | hy
    · rfl
    · obtain ⟨n, h1, h2⟩ := atD_mem hy (hne hy)
      rw [atD_none, h1] at e; omega
    · obtain ⟨n, h1, h2⟩ := atD_mem hx (hne hx)
      rw [atD_none, h1] at e; omega
    · obtain ⟨n, h1, h2⟩ := atD_mem hx (hne hx)
      obtain ⟨m, h3, h4⟩ := atD_mem hy (hne hy)
      rw [h1, h3] at e
      have : n = m := by omega
      subst this
      rw [h2] at h4; cases h4; rfl
  · obtain ⟨n, h1, h2⟩ := atD_mem (hin hx) (hne (hin hx))
    have := (List.getElem?_eq_some_iff.1 h2).1
    rw [h1]; omega
  · show ((canonL g (order g) 0 (order g)).map (·.Id)).Pairwise (· < ·)
    rw [canonL_ids, List.pairwise_map]
    exact (List.pairwise_lt_range' ..).imp fun h => by omega
  · have hx : x ∈ order g := by
      obtain ⟨h3, rfl⟩ := objAt_some h1
      exact hin (typ_mem h3)
    obtain ⟨n, h3, h4⟩ := atD_mem hx (hne hx)
    rw [swO_obj h hx] at h1
    have := hobj h4 o t h1 h2
    rw [h3]
    exact List.mem_of_getElem? this
  · obtain ⟨n, hn⟩ := List.getElem?_of_mem hy
    have hnl : n < (order g).length := by
      have := (List.getElem?_eq_some_iff.1 hn).1
      have e : (canonG g).O.length = (order g).length := canonL_len _ _ _ _
      omega
    obtain ⟨x, hx⟩ : ∃ x, (order g)[n]? = some x := ⟨(order g)[n], List.getElem?_eq_getElem hnl⟩
    have hxm := List.mem_of_getElem? hx
    obtain ⟨p, o, hp, _, _, hA, _⟩ := h.find (h.order.ids x hxm)
    obtain ⟨_, t, ht, _⟩ := h.objT hp
    have h5 := hobj hx o t hA ht
    rw [hn] at h5
    cases h5
    refine ⟨x, o, t, by rw [swO_obj h hxm]; exact hA, ht, ?_⟩
    obtain ⟨m, h6, h7⟩ := atD_mem hxm (hne hxm)
    have : m = n := by
      have h8 := (List.getElem?_eq_some_iff.1 h7)
      have h9 := (List.getElem?_eq_some_iff.1 hx)
      have hpw := List.pairwise_iff_getElem.1 h.order.nodup
      rcases Nat.lt_trichotomy m n with hl | hl | hl
      · exact absurd (h8.2.trans h9.2.symm) (hpw m n h8.1 h9.1 hl)
      · exact hl
      · exact absurd (h9.2.trans h8.2.symm) (hpw n m h9.1 h8.1 hl)
    rw [h6, this]
    rfl
theorem canon_may {g : Graph} (h : May g) : May (canonG g) := (canon_renOf h).may
theorem canon_canon {g : Graph} (h : May g) : canonG (canonG g) = canonG g := by rw [(canon_renOf h).ren.canonG, swO_canon h]
theorem canon_reach {g : Graph} (h : May g) : (gReach (canonG g)).length = (order g).length := by
  rw [reach_len (canon_may h), (canon_renOf h).ren.order, List.length_map, swO_ord h]
end Go.Ab
namespace Go.Ab
open Go Go.RowKit
theorem gCanon_of {g : Graph} (hm : gMay g = true) : gCanon g = canonG g := by unfold gCanon; rw [if_pos hm]
theorem once_facts {g : Graph} (hm : gMay g = true) : gMay (gCanon g) = true ∧ gCanon (gCanon g) = gCanon g ∧ (gOrder g).length = (gReach g).length ∧ (gCanon g).O.length = (gOrder g).length ∧ gIso g (gCanon g) = true ∧
    (gReach (gCanon g)).length = (gCanon g).O.length ∧ (∀ (i : Nat) (x : Int), (gOrder g)[i]? = some x → x ∈ gReach g) ∧ (∀ (i : Nat) (o : GObj), (gCanon g).O[i]? = some o → o.Id = i) ∧ (gOrder g).length ≤ 8 := by
  have h := (may_iff g).1 hm
  have hmc : gMay (canonG g) = true := (may_iff _).2 (canon_may h)
  have ho : gOrder g = order g := by unfold gOrder; rw [if_pos hm]
  have hl : (canonG g).O.length = (order g).length := canonL_len _ _ _ _
  have hcc : gCanon (canonG g) = canonG g := by rw [gCanon_of hmc, canon_canon h]
  rw [gCanon_of hm, ho]
  refine ⟨hmc, hcc, (reach_len h).symm, hl, ?_, by rw [canon_reach h, hl], fun i x hx => (mem_gReach h x).2 (List.mem_of_getElem? hx), fun i o hi => ?_, Nat.le_trans h.order.len h.o⟩
  · unfold gIso; rw [hm, hmc, gCanon_of hm, hcc]; simp
  · have h1 : ((canonG g).O.map (·.Id))[i]? = some o.Id := by rw [List.getElem?_map, hi]; rfl
    have h2 : (canonG g).O.map (·.Id) = _ := canonL_ids g (order g) 0 (order g)
    rw [h2, List.getElem?_map, Option.map_eq_some_iff] at h1
    obtain ⟨n, h3, h4⟩ := h1
    have h5 := (List.getElem?_eq_some_iff.1 h3).2
    simp at h5
    omega
end Go.Ab
namespace Go.Ab
open Go Go.RowKit
structure GStep where
  Do : Int
  Ty : ByteArray
  F : GField
def eStep (x : GStep) : List AV := [.int .i64 x.Do, .str x.Ty, .str x.F.Name, .int .i64 x.F.Kind, .str x.F.To]
def wider (k than : Int) : Bool := decide (0 ≤ than) && (decide (than < k) && decide (k ≤ 3))
def gStepF (s : List GType) (x : GStep) (F : List GField) : Int × List GField :=
  if x.Do = 0 then (if (fieldMay s x.F && decide (fFind F x.F.Name = -1)) = true then (if F.length = 5 then (5, []) else (0, F ++ [x.F])) else (6, []))
  else match F.findIdx? (fun f => decide (f.Name = x.F.Name)) with
    | none => (11, [])
    | some q => if x.Do = 1 then (0, F.eraseIdx q) else (match F[q]? with
      | some f => if wider x.F.Kind f.Kind = true then (0, F.set q ⟨f.Name, x.F.Kind, f.To⟩) else (6, [])
      | none => (6, []))
def gradeF (x : GStep) (at_ : Int) (F : List GVal) : List GVal := if x.Do = 0 then F ++ [zeroV x.F] else if x.Do = 1 then F.eraseIdx at_.toNat else F
def NamesOK (F : List GField) : Prop := (F.map (·.Name)).Nodup
theorem names_find {F : List GField} (h : NamesOK F) {k : Nat} {f : GField} (hf : F[k]? = some f) : fFind F f.Name = k := by
  refine fnd_at hf (by simp) fun j y hj hy => ?_
  have h1 := (List.getElem?_eq_some_iff.1 hf)
  have h2 := (List.getElem?_eq_some_iff.1 hy)
  have h3 := h1.1
  have := List.pairwise_iff_getElem.1 h j k (by simp; omega) (by simpa using h1.1) hj
  simp only [List.getElem_map] at this
  rw [h1.2, h2.2] at this
  simpa using this
structure FOK (s : List GType) (F : List GField) : Prop where
  len : F.length ≤ 5
  fld : ∀ f ∈ F, fieldMay s f = true
  nms : NamesOK F
theorem wider_kind {k than : Int} (h : wider k than = true) : 0 ≤ than ∧ than < k ∧ k ≤ 3 := by
  unfold wider at h; simpa only [Bool.and_eq_true, decide_eq_true_eq] using h
theorem numFits_wide {k than n : Int} (h : wider k than = true) (hn : numFits than n = true) : numFits k n = true := by
  obtain ⟨h1, h2, h3⟩ := wider_kind h
  have hc : than = 0 ∨ than = 1 ∨ than = 2 := by omega
  have hk : k = 1 ∨ k = 2 ∨ k = 3 := by omega
  unfold numFits at hn ⊢
  rcases hc with rfl | rfl | rfl <;> rcases hk with rfl | rfl | rfl <;> simp at hn h2 ⊢ <;> omega
theorem fits_wide {f : GField} {k : Int} {v : GVal} (h : wider k f.Kind = true) (hn : valFits f v = true) : valFits ⟨f.Name, k, f.To⟩ v = true := by
  obtain ⟨h1, h2, h3⟩ := wider_kind h
  unfold valFits at hn ⊢
  rw [if_neg (by omega), if_neg (by omega)] at hn
  rw [if_neg (by simp only; omega), if_neg (by simp only; omega)]
  rw [Bool.and_eq_true] at hn ⊢
  exact ⟨numFits_wide h hn.1, hn.2⟩
theorem eraseIdx_get {α : Type} (l : List α) (q k : Nat) : (l.eraseIdx q)[k]? = if k < q then l[k]? else l[k + 1]? := by
  rw [List.getElem?_eraseIdx]
structure Grown (s : List GType) (x : GStep) (F : List GField) (V : List GVal) : Prop where
  len : (gradeF x (fFind F x.F.Name) V).length = (gStepF s x F).2.length
  lead : ∀ (g : Graph), (∀ (k : Nat) (f : GField) (v : GVal), F[k]? = some f → V[k]? = some v → leadsB g f v = true) → ∀ (k : Nat) (f : GField) (v : GVal), (gStepF s x F).2[k]? = some f → (gradeF x (fFind F x.F.Name) V)[k]? = some v → leadsB g f v = true
  val : ∀ (k : Nat) (f : GField), (gStepF s x F).2[k]? = some f → (∃ (j : Nat), fFind F f.Name = j ∧ (gradeF x (fFind F x.F.Name) V)[k]? = V[j]?) ∨ (fFind F f.Name = -1 ∧ (gradeF x (fFind F x.F.Name) V)[k]? = some (zeroV f))
theorem grown {s : List GType} {x : GStep} {F : List GField} (hF : FOK s F) (h0 : (gStepF s x F).1 = 0) (hD : 0 ≤ x.Do ∧ x.Do < 3) {V : List GVal} (hV : V.length = F.length) : Grown s x F V := by
  by_cases hd : x.Do = 0
  · -- one more
    have e : gradeF x (fFind F x.F.Name) V = V ++ [zeroV x.F] := by unfold gradeF; rw [if_pos hd]
    unfold gStepF at h0
    rw [if_pos hd] at h0
    split at h0
    case isFalse => simp at h0
    rename_i hc
    split at h0
    · simp at h0
    rename_i h5
    have e2 : (gStepF s x F).2 = F ++ [x.F] := by unfold gStepF; rw [if_pos hd, if_pos hc, if_neg h5]
    simp only [Bool.and_eq_true, decide_eq_true_eq] at hc
    have hK : 0 ≤ x.F.Kind ∧ x.F.Kind < 6 := by
      have := hc.1; unfold fieldMay at this
      simp only [Bool.and_eq_true, decide_eq_true_eq] at this
      exact this.2
    refine ⟨by rw [e, e2]; simp [hV], fun g hg k f v hf hv => ?_, fun k f hf => ?_⟩
    · rw [e2] at hf; rw [e] at hv
      rcases Nat.lt_or_ge k F.length with hk | hk
      · rw [List.getElem?_append_left hk] at hf
        rw [List.getElem?_append_left (by omega)] at hv
        exact hg k f v hf hv
      · rw [List.getElem?_append_right hk] at hf
        rw [List.getElem?_append_right (by omega)] at hv
        have : k - F.length = 0 := by
          rcases Nat.eq_zero_or_pos (k - F.length) with h | h
          · exact h
          · rw [List.getElem?_eq_none (by simp; omega)] at hf; cases hf
        rw [this] at hf
        rw [show k - V.length = 0 by omega] at hv
        simp at hf hv
        subst hf hv
        exact zero_leads hK
    · rw [e2] at hf; rw [e]
      rcases Nat.lt_or_ge k F.length with hk | hk
      · rw [List.getElem?_append_left hk] at hf
        exact .inl ⟨k, names_find hF.nms hf, by rw [List.getElem?_append_left (by omega)]⟩
      · rw [List.getElem?_append_right hk] at hf
        have hz : k - F.length = 0 := by
          rcases Nat.eq_zero_or_pos (k - F.length) with h | h
          · exact h
          · rw [List.getElem?_eq_none (by simp; omega)] at hf; cases hf
        rw [hz] at hf
        simp at hf; subst hf
        exact .inr ⟨hc.2, by rw [List.getElem?_append_right (by omega), show k - V.length = 0 by omega]; rfl⟩
  unfold gStepF at h0
  rw [if_neg hd] at h0
  split at h0
  · simp at h0
  rename_i q hq
  have hfind : fFind F x.F.Name = q := by unfold fFind fnd; rw [hq]
  obtain ⟨hql, _, _⟩ := List.findIdx?_eq_some_iff_getElem.1 hq
  by_cases hd1 : x.Do = 1
  · -- one less
    have e : gradeF x (fFind F x.F.Name) V = V.eraseIdx q := by unfold gradeF; rw [if_neg hd, if_pos hd1, hfind]; rfl
    have e2 : (gStepF s x F).2 = F.eraseIdx q := by unfold gStepF; rw [if_neg hd, hq]; simp only; rw [if_pos hd1]
    refine ⟨by rw [e, e2, List.length_eraseIdx, List.length_eraseIdx, hV], fun g hg k f v hf hv => ?_, fun k f hf => ?_⟩
    · rw [e2, eraseIdx_get] at hf; rw [e, eraseIdx_get] at hv
      split at hf
      · rename_i hk; rw [if_pos hk] at hv; exact hg k f v hf hv
      · rename_i hk; rw [if_neg hk] at hv; exact hg (k + 1) f v hf hv
    · rw [e2, eraseIdx_get] at hf; rw [e, eraseIdx_get]
      left
      split at hf
      · rename_i hk; rw [if_pos hk]; exact ⟨k, names_find hF.nms hf, rfl⟩
      · rename_i hk; rw [if_neg hk]; exact ⟨k + 1, names_find hF.nms hf, rfl⟩
  · -- wider
    have e : gradeF x (fFind F x.F.Name) V = V := by unfold gradeF; rw [if_neg hd, if_neg hd1]
    rw [if_neg hd1] at h0
    split at h0
    case h_2 => simp at h0
    rename_i f0 hf0
    split at h0
    case isFalse => simp at h0
    rename_i hw
    have e2 : (gStepF s x F).2 = F.set q ⟨f0.Name, x.F.Kind, f0.To⟩ := by unfold gStepF; rw [if_neg hd, hq]; simp only; rw [if_neg hd1, hf0]; simp only; rw [if_pos hw]
    refine ⟨by rw [e, e2, List.length_set, hV], fun g hg k f v hf hv => ?_, fun k f hf => ?_⟩
    · rw [e2, List.getElem?_set] at hf; rw [e] at hv
      split at hf
      · rename_i hk; subst hk
        cases hf
        have := hg q f0 v hf0 hv
        obtain ⟨h1, h2, h3⟩ := wider_kind hw
        unfold leadsB at this ⊢
        simp only [Bool.and_eq_true] at this ⊢
        exact ⟨fits_wide hw this.1, by simp; omega⟩
      · exact hg k f v hf hv
    · rw [e2, List.getElem?_set] at hf; rw [e]
      left
      split at hf
      · rename_i hk; subst hk
        cases hf; exact ⟨q, (show fFind F f0.Name = (q : Int) from names_find hF.nms hf0), rfl⟩
      · exact ⟨k, names_find hF.nms hf, rfl⟩
end Go.Ab
namespace Go.Ab
open Go Go.RowKit
def eTypeO (t : GType) : List AV := [.str t.Name, .own 3 (t.F.map eField)]
theorem frz_TypeO (n : Nat) (xs : List GType) : (AV.own n (xs.map eTypeO)).freeze = .sl n (xs.map eType) := by
  simp only [AV.freeze, List.map_map]
  congr 1
  refine List.map_congr_left fun x _ => ?_
  simp [eTypeO, eType, AV.freeze]
  intro a _
  simp [eField, AV.freeze]
attribute [go_sem] frz_TypeO
theorem frz_Step (n : Nat) (xs : List GStep) : (AV.own n (xs.map eStep)).freeze = .sl n (xs.map eStep) := frz_map (fun x a ha => by simp [eStep] at ha; rcases ha with rfl | rfl | rfl | rfl | rfl <;> rfl) n xs
attribute [go_sem] frz_Step
end Go.Ab
namespace Go.Ab
open Go Go.RowKit
def stand {α : Type} [DecidableEq α] (o a b : α) : α × Bool := if a = o then (b, true) else (a, decide (b = o) || decide (a = b))
end Go.Ab
namespace Go.Ab
open Go Go.RowKit
def putF : Nat → Nat → List UInt8
  | 0, n => [n.toUInt8]
  | k + 1, n => if n < 128 then [n.toUInt8] else (n % 128 + 128).toUInt8 :: putF k (n / 128)
def vPut (n : Nat) : List UInt8 := putF 9 n
def zig (n : Int) : Nat := if 0 ≤ n then (2 * n).toNat else (-2 * n - 1).toNat
def strB (s : ByteArray) : List UInt8 := s.data.toList
def valPut (f : GField) (v : GVal) : List UInt8 :=
  if valFits f v = false then [] else if f.Kind = 4 then vPut v.S.size ++ strB v.S else if f.Kind = 5 then vPut (v.R + 1).toNat else vPut (zig v.N)
def kindText (k : Int) : ByteArray := ([⟨#[105, 56]⟩, ⟨#[105, 49, 54]⟩, ⟨#[105, 51, 50]⟩, ⟨#[105, 54, 52]⟩, ⟨#[116]⟩, ⟨#[42]⟩] : List ByteArray).getD k.toNat ⟨#[]⟩
def fieldText (f : GField) : List UInt8 := strB f.Name ++ 58 :: strB (kindText f.Kind) ++ strB f.To
def joinC : List (List UInt8) → List UInt8
  | [] => []
  | [x] => x
  | x :: y :: r => x ++ 44 :: joinC (y :: r)
def typeText (t : GType) : List UInt8 := strB t.Name ++ 123 :: joinC (t.F.map fieldText) ++ [125]
def schemaText (s : List GType) : List UInt8 := if schemaMay s = true then s.flatMap typeText else []
def numsPut (l : List Int) : List UInt8 := l.flatMap fun n => vPut (n + 1).toNat
def objPut (s : List GType) (o : GObj) : List UInt8 := vPut o.T.toNat ++ (List.zipWith valPut (match typeAt s o.T with | some t => t.F | none => []) o.F).flatten
def partsOf (c : Graph) : List (List UInt8) := schemaText c.S :: numsPut c.Roots :: c.O.map (objPut c.S)
def flowMay (l : List (List UInt8)) : Bool := decide (l.length ≤ 40) && l.all fun p => decide (p.length ≤ 200)
def gParts (g : Graph) : List (List UInt8) × Int := if gMay g = false then ([], 1) else if flowMay (partsOf (gCanon g)) = false then ([], 5) else (partsOf (gCanon g), 0)
def crcStep (n : Nat) : Nat := if n % 2 = 1 then (n / 2) ^^^ 0xedb88320 else n / 2
def crcRow (i : Nat) : Nat := Nat.repeat crcStep 8 i
def crcFrom (n : Nat) (b : List UInt8) : Nat := b.foldl (fun n c => (n / 256) ^^^ crcRow ((n % 256) ^^^ c.toNat)) n
def crcSum (b : List UInt8) : Nat := crcFrom 0xffffffff b ^^^ 0xffffffff
def sumBytes (l : List (List UInt8)) : List UInt8 := l.flatMap fun p => vPut p.length ++ p
def gSum (g : Graph) : Nat × Int := if (gParts g).2 = 0 then (crcSum (sumBytes (gParts g).1), 0) else (0, (gParts g).2)
structure GCell where
  F : Int
  V : GVal
structure GItem where
  From : Int
  T : Int
  Set : List GCell
structure GDelta where
  Base : Nat
  Roots : List Int
  L : List GItem
theorem GCell.ext_iff' (a b : GCell) : a = b ↔ a.F = b.F ∧ a.V = b.V := by cases a; cases b; simp
instance : DecidableEq GCell := fun a b => decidable_of_iff _ (GCell.ext_iff' a b).symm
theorem GItem.ext_iff' (a b : GItem) : a = b ↔ a.From = b.From ∧ a.T = b.T ∧ a.Set = b.Set := by cases a; cases b; simp
instance : DecidableEq GItem := fun a b => decidable_of_iff _ (GItem.ext_iff' a b).symm
theorem GDelta.ext_iff' (a b : GDelta) : a = b ↔ a.Base = b.Base ∧ a.Roots = b.Roots ∧ a.L = b.L := by cases a; cases b; simp
instance : DecidableEq GDelta := fun a b => decidable_of_iff _ (GDelta.ext_iff' a b).symm
def eU8 (x : UInt8) : List AV := [.int .u8 (x.toNat : Int)]
def eCell (c : GCell) : List AV := .int .i64 c.F :: eVal c.V
def eItem (x : GItem) : List AV := [.int .i64 x.From, .int .i64 x.T, .sl 4 (x.Set.map eCell)]
def eDelta (d : GDelta) : List AV := [.int .u32 (d.Base : Int), .sl 1 (d.Roots.map eI), .sl 3 (d.L.map eItem)]
def noDelta : GDelta := ⟨0, [], []⟩
def noGraph : Graph := ⟨[], [], []⟩
def oddK (a : Graph) (o : GObj) : Bool := match typ a.O o.Id with | some t => !decide (t = o.T) | none => false
def gKind (a b : Graph) : Bool := decide (a.S = b.S) && !b.O.any (oddK a)
def cellsFrom : Nat → List GVal → List GCell
  | _, [] => []
  | k, v :: r => ⟨k, v⟩ :: cellsFrom (k + 1) r
def cellsOf (F : List GVal) : List GCell := cellsFrom 0 F
def posL (l : List Int) (i : Int) : Option Int := (l.findIdx? fun x => decide (x = i)).map fun (n : Nat) => (n : Int)
def mkItem (a b : Graph) (c : GObj) (id : Int) : GItem := match posL (order a) id with
  | none => ⟨-1, c.T, cellsOf c.F⟩
  | some at_ => ⟨at_, c.T, (cellsOf c.F).filter fun x => !decide ((objD a id).F[x.F.toNat]? = (objD b id).F[x.F.toNat]?)⟩
def gMake (a b : Graph) : GDelta × Int :=
  if (gMay a && gMay b) = false then (noDelta, 1) else if gKind a b = false then (noDelta, 6) else if (gSum a).2 ≠ 0 then (noDelta, (gSum a).2)
  else (⟨(gSum a).1, (canonG b).Roots, List.zipWith (mkItem a b) (canonG b).O (order b)⟩, 0)
def toMap : Nat → List GItem → Option (List (Int × Nat))
  | _, [] => some []
  | i, x :: r => match toMap (i + 1) r with
    | none => none
    | some m => if x.From = -1 then some m else if m.any (fun p => decide (p.1 = x.From)) = true then none else some ((x.From, i) :: m)
def toOf (m : List (Int × Nat)) (r : Int) : Int := match m.find? fun p => decide (p.1 = r) with
  | some p => (p.2 : Int)
  | none => 1073741825
def keptV (m : List (Int × Nat)) (f : GField) (v : GVal) : GVal := if f.Kind = 5 ∧ v.R ≠ -1 then { v with R := toOf m v.R } else v
def setAll : Int → List GCell → List GVal → Option (List GVal)
  | _, [], F => some F
  | last, s :: r, F => if s.F ≤ last ∨ (F.length : Int) ≤ s.F then none else setAll s.F r (F.set s.F.toNat s.V)
def aplObj (c : Graph) (m : List (Int × Nat)) (id : Nat) (x : GItem) : Option GObj := match typeAt c.S x.T with
  | none => none
  | some t => if x.From = -1 then (if x.Set.length = t.F.length then (setAll (-1) x.Set (t.F.map fun _ => ⟨0, ⟨#[]⟩, 0⟩)).map fun F => ⟨id, x.T, F⟩ else none)
    else if x.From < 0 then none else match c.O[x.From.toNat]? with
      | none => none
      | some o => if o.T = x.T then (setAll (-1) x.Set (List.zipWith (keptV m) t.F o.F)).map fun F => ⟨id, x.T, F⟩ else none
def aplAll (c : Graph) (m : List (Int × Nat)) : Nat → List GItem → Option (List GObj)
  | _, [] => some []
  | i, x :: r => match aplObj c m i x, aplAll c m (i + 1) r with
    | some o, some l => some (o :: l)
    | _, _ => none
def gApply (g : Graph) (d : GDelta) : Graph × Int :=
  if (gSum g).2 ≠ 0 then (noGraph, (gSum g).2) else if (gSum g).1 ≠ d.Base then (noGraph, 7) else
  match toMap 0 d.L with
  | none => (noGraph, 2)
  | some m => match aplAll (gCanon g) m 0 d.L with
    | none => (noGraph, 2)
    | some l => if gMay ⟨g.S, l, d.Roots⟩ = true ∧ gCanon ⟨g.S, l, d.Roots⟩ = ⟨g.S, l, d.Roots⟩ then (⟨g.S, l, d.Roots⟩, 0) else (noGraph, 2)
end Go.Ab
namespace Go.Ab
open Go Go.RowKit
theorem toMap_some : ∀ (k : Nat) (L : List GItem), (∀ (i j : Nat) (x y : GItem), L[i]? = some x → L[j]? = some y → x.From = y.From → x.From ≠ -1 → i = j) →
    ∃ m, toMap k L = some m ∧ (∀ p ∈ m, ∃ (j : Nat) (x : GItem), L[j]? = some x ∧ x.From = p.1 ∧ x.From ≠ -1 ∧ p.2 = k + j) ∧ ∀ (j : Nat) (x : GItem), L[j]? = some x → x.From ≠ -1 → (x.From, k + j) ∈ m
  | k, [], _ => ⟨[], rfl, fun p hp => (by cases hp), fun j x hx => (by simp at hx)⟩
  | k, x :: r, h => by
    obtain ⟨m, h1, h2, h3⟩ := toMap_some (k + 1) r fun i j y z hy hz e hn => by
      have := h (i + 1) (j + 1) y z (by simpa using hy) (by simpa using hz) e hn; omega
    simp only [toMap, h1]
    have h2' : ∀ p ∈ m, ∃ (j : Nat) (y : GItem), (x :: r)[j]? = some y ∧ y.From = p.1 ∧ y.From ≠ -1 ∧ p.2 = k + j := fun p hp => by
      obtain ⟨j, y, a1, a2, a3, a4⟩ := h2 p hp
      exact ⟨j + 1, y, by simpa using a1, a2, a3, by omega⟩
    by_cases e : x.From = -1
    · rw [if_pos e]
      refine ⟨m, rfl, h2', fun j y hy hn => ?_⟩
      cases j with
      | zero => simp at hy; subst hy; exact absurd e hn
      | succ j => have := h3 j y (by simpa using hy) hn; rw [show k + (j + 1) = k + 1 + j by omega]; exact this
    · rw [if_neg e]
      have hno : ¬ m.any (fun p => decide (p.1 = x.From)) = true := fun ha => by
        obtain ⟨p, hp, hpe⟩ := List.any_eq_true.1 ha
        obtain ⟨j, y, a1, a2, a3, a4⟩ := h2 p hp
        have := h 0 (j + 1) x y rfl (by simpa using a1) (by rw [a2]; exact (of_decide_eq_true hpe).symm) e
        omega
      rw [if_neg hno]
      refine ⟨_, rfl, fun p hp => ?_, fun j y hy hn => ?_⟩
      · rcases List.mem_cons.1 hp with rfl | hp
        · exact ⟨0, x, rfl, rfl, e, rfl⟩
        · exact h2' p hp
      · cases j with
        | zero => simp at hy; subst hy; exact List.mem_cons_self
        | succ j => have := h3 j y (by simpa using hy) hn; rw [show k + (j + 1) = k + 1 + j by omega]; exact List.mem_cons_of_mem _ this
theorem toOf_at {L : List GItem} {m : List (Int × Nat)} (hd : ∀ (i j : Nat) (x y : GItem), L[i]? = some x → L[j]? = some y → x.From = y.From → x.From ≠ -1 → i = j)
    (h2 : ∀ p ∈ m, ∃ (j : Nat) (x : GItem), L[j]? = some x ∧ x.From = p.1 ∧ x.From ≠ -1 ∧ p.2 = 0 + j) (h3 : ∀ (j : Nat) (x : GItem), L[j]? = some x → x.From ≠ -1 → (x.From, 0 + j) ∈ m)
    {j : Nat} {x : GItem} (hx : L[j]? = some x) (hn : x.From ≠ -1) : toOf m x.From = (j : Int) := by
  unfold toOf
  cases hf : m.find? fun p => decide (p.1 = x.From) with
  | none =>
    have := List.find?_eq_none.1 hf _ (h3 j x hx hn)
    simp at this
  | some p =>
    have hp := List.find?_some hf
    simp only [decide_eq_true_eq] at hp
    obtain ⟨i, y, a1, a2, a3, a4⟩ := h2 p (List.mem_of_find?_eq_some hf)
    have := hd j i x y hx a1 (by rw [a2, hp]) hn
    subst this
    simp only
    rw [a4]; simp
theorem cellsFrom_len : ∀ (k : Nat) (T : List GVal), (cellsFrom k T).length = T.length
  | _, [] => rfl
  | k, _ :: r => by simp [cellsFrom, cellsFrom_len (k + 1) r]
theorem posL_atL {l : List Int} {x : Int} (h : x ≠ -1) : posL l x = atL l x := by unfold posL atL; rw [if_neg h]
theorem from_inv {a b : Graph} {c : GObj} {x : Int} (h : (mkItem a b c x).From ≠ -1) : ∃ n : Nat, posL (order a) x = some (n : Int) ∧ (mkItem a b c x).From = (n : Int) ∧ (order a)[n]? = some x := by
  unfold mkItem at h ⊢
  cases hp : posL (order a) x with
  | none => rw [hp] at h; exact absurd rfl h
  | some p =>
    unfold posL at hp
    rw [Option.map_eq_some_iff] at hp
    obtain ⟨n, h1, rfl⟩ := hp
    obtain ⟨h2, h3, _⟩ := List.findIdx?_eq_some_iff_getElem.1 h1
    refine ⟨n, rfl, rfl, ?_⟩
    rw [List.getElem?_eq_getElem h2, of_decide_eq_true h3]
theorem aplAll_of {c : Graph} {m : List (Int × Nat)} : ∀ (k : Nat) (L : List GItem) (O : List GObj), L.length = O.length → (∀ (i : Nat) (x : GItem) (o : GObj), L[i]? = some x → O[i]? = some o → aplObj c m (k + i) x = some o) → aplAll c m k L = some O
  | _, [], [], _, _ => rfl
  | k, x :: L, o :: O, hl, h => by
    have h1 := h 0 x o rfl rfl
    have h2 := aplAll_of (c := c) (m := m) (k + 1) L O (by simpa using hl) fun i y z hy hz => by
      have := h (i + 1) y z (by simpa using hy) (by simpa using hz)
      rw [show k + 1 + i = k + (i + 1) by omega]; exact this
    simp only [aplAll, h2, show aplObj c m k x = some o from h1]
  | _, [], _ :: _, h, _ => by simp at h
  | _, _ :: _, [], h, _ => by simp at h
theorem items_get {a b : Graph} {i : Nat} {x : Int} (h : (order b)[i]? = some x) : (List.zipWith (mkItem a b) (canonG b).O (order b))[i]? = some (mkItem a b (canonO b (order b) i x) x) := by
  rw [List.getElem?_zipWith, show (canonG b).O[i]? = some (canonO b (order b) i x) from (by have := canonL_get b (order b) (order b) 0 i x h; rw [Nat.zero_add] at this; exact this), h]
theorem items_inv {a b : Graph} {i : Nat} {it : GItem} (h : (List.zipWith (mkItem a b) (canonG b).O (order b))[i]? = some it) : ∃ x, (order b)[i]? = some x ∧ it = mkItem a b (canonO b (order b) i x) x := by
  cases hx : (order b)[i]? with
  | none => rw [List.getElem?_zipWith, hx] at h; cases hh : (canonG b).O[i]? <;> rw [hh] at h <;> simp at h
  | some x => rw [items_get hx] at h; cases h; exact ⟨x, rfl, rfl⟩
theorem order_inj {b : Graph} (hb : May b) {i j : Nat} {x : Int} (h1 : (order b)[i]? = some x) (h2 : (order b)[j]? = some x) : i = j := by
  obtain ⟨a1, a2⟩ := List.getElem?_eq_some_iff.1 h1
  obtain ⟨b1, b2⟩ := List.getElem?_eq_some_iff.1 h2
  exact (List.getElem_inj hb.order.nodup).1 (a2.trans b2.symm)
end Go.Ab
namespace Go.Ab
open Go Go.RowKit
theorem make_ok {a b : Graph} (h : (gMake a b).2 = 0) : gMay a = true ∧ gMay b = true ∧ gKind a b = true ∧ (gSum a).2 = 0 ∧ gMake a b = (⟨(gSum a).1, (canonG b).Roots, List.zipWith (mkItem a b) (canonG b).O (order b)⟩, 0) := by
  unfold gMake at h ⊢
  by_cases hm : (gMay a && gMay b) = false
  · rw [if_pos hm] at h; cases h
  by_cases hki : gKind a b = false
  · rw [if_neg hm, if_pos hki] at h; cases h
  rw [if_neg hm, if_neg hki] at h ⊢
  by_cases hs : (gSum a).2 ≠ 0
  · rw [if_pos hs] at h; exact absurd h hs
  rw [if_neg hs]
  simp only [Bool.not_eq_false, Bool.and_eq_true] at hm hki
  exact ⟨hm.1, hm.2, hki, Classical.not_not.1 hs, rfl⟩
theorem make_err {a b : Graph} (h : (gMake a b).2 ≠ 0) : (gMake a b).1 = noDelta := by
  unfold gMake at h ⊢
  split
  · rfl
  · split
    · rfl
    · split
      · rfl
      · rename_i h1 h2 h3; rw [if_neg h1, if_neg h2, if_neg h3] at h; exact absurd rfl h
theorem posL_at {b : Graph} (hb : May b) {i : Nat} {x : Int} (h : (order b)[i]? = some x) : posL (order b) x = some (i : Int) := by
  have hm := List.mem_of_getElem? h
  have hx := hb.nonneg hm
  obtain ⟨n, h1, h2⟩ := atL_at (show x ≠ -1 by omega) hm
  rw [posL_atL (by omega), h1, order_inj hb h h2]
theorem make_self {a : Graph} (h : (gMake a a).2 = 0) {i : Nat} {it : GItem} (hi : (gMake a a).1.L[i]? = some it) : it.Set = [] ∧ it.From = (i : Int) := by
  obtain ⟨ha, _, _, _, he⟩ := make_ok h
  rw [he] at hi
  obtain ⟨x, hx, rfl⟩ := items_inv hi
  unfold mkItem
  rw [posL_at ((may_iff a).1 ha) hx]
  exact ⟨by simp, rfl⟩
theorem cells_none {q : GCell → Bool} {T : List GVal} (h : (cellsOf T).filter q = []) {j : Nat} {v : GVal} (hv : T[j]? = some v) : q ⟨(j : Int), v⟩ = false := by
  have hmem : ∀ (k : Nat) (T : List GVal) (j : Nat) (v : GVal), T[j]? = some v → (⟨((k + j : Nat) : Int), v⟩ : GCell) ∈ cellsFrom k T := by
    intro k T
    induction T generalizing k with
    | nil => intro j v h; simp at h
    | cons t T ih =>
      intro j v h
      cases j with
      | zero => simp at h; subst h; simp [cellsFrom]
      | succ j =>
        have := ih (k + 1) j v (by simpa using h)
        rw [show k + (j + 1) = k + 1 + j by omega]
        exact List.mem_cons_of_mem _ this
  have := List.filter_eq_nil_iff.1 h _ (hmem 0 T j v hv)
  simpa using this
theorem make_still {a b : Graph} (h : (gMake a b).2 = 0) (hl : (gMake a b).1.L.length = (gOrder a).length) (hs : ∀ (i : Nat) (it : GItem), (gMake a b).1.L[i]? = some it → it.Set = [] ∧ it.From = (i : Int))
    (hr : (gMake a b).1.Roots = (gCanon a).Roots) : gIso a b = true := by
  obtain ⟨ha', hb', hk, _, he⟩ := make_ok h
  have ha := (may_iff a).1 ha'
  have hb := (may_iff b).1 hb'
  rw [he] at hl hs hr
  simp only at hl hs hr
  have hlen : (order b).length = (order a).length := by
    rw [List.length_zipWith, show (canonG b).O.length = (order b).length from canonL_len b (order b) 0 (order b), Nat.min_self] at hl
    rw [hl]; unfold gOrder; rw [if_pos ha']
  have hat : ∀ (i : Nat) (x : Int), (order b)[i]? = some x → (order a)[i]? = some x := fun i x hx => by
    obtain ⟨_, h2⟩ := hs i _ (items_get hx)
    obtain ⟨n, _, n2, n3⟩ := from_inv (a := a) (b := b) (c := canonO b (order b) i x) (x := x) (by rw [h2]; omega)
    rw [h2] at n2
    have : i = n := by omega
    subst this; exact n3
  have hord : order a = order b := by
    refine List.ext_getElem? fun i => ?_
    cases hx : (order b)[i]? with
    | some x => exact hat i x hx
    | none => rw [List.getElem?_eq_none_iff] at hx ⊢; omega
  have hkk := hk
  unfold gKind at hkk
  simp only [Bool.and_eq_true, decide_eq_true_eq, Bool.not_eq_true'] at hkk
  obtain ⟨hS, hodd⟩ := hkk
  have hobj : (canonG a).O = (canonG b).O := by
    refine List.ext_getElem? fun i => ?_
    cases hx : (order b)[i]? with
    | none =>
      rw [List.getElem?_eq_none_iff] at hx
      rw [List.getElem?_eq_none (by rw [show (canonG a).O.length = (order a).length from canonL_len a (order a) 0 (order a)]; omega), List.getElem?_eq_none (by rw [show (canonG b).O.length = (order b).length from canonL_len b (order b) 0 (order b)]; omega)]
    | some x =>
      have hxm : x ∈ order b := List.mem_of_getElem? hx
      have hxa := hat i x hx
      have hxam : x ∈ order a := List.mem_of_getElem? hxa
      have g1 := canonL_get a (order a) (order a) 0 i x hxa
      have g2 := canonL_get b (order b) (order b) 0 i x hx
      rw [Nat.zero_add] at g1 g2
      rw [show (canonG a).O[i]? = some (canonO a (order a) i x) from g1, show (canonG b).O[i]? = some (canonO b (order b) i x) from g2]
      obtain ⟨p, o, ho, hid, _, hoa, _⟩ := hb.find (hb.order.ids x hxm)
      obtain ⟨_, t, ht, hmo⟩ := hb.objT ho
      obtain ⟨pa, oa, hoa1, hida, _, hoaa, htyp⟩ := ha.find (ha.order.ids x hxam)
      obtain ⟨_, ta, hta, hmoa⟩ := ha.objT hoa1
      have hT : oa.T = o.T := by
        have h1 : ¬ oddK a o = true := fun h => by
          have : b.O.any (oddK a) = true := List.any_eq_true.2 ⟨o, List.mem_of_getElem? ho, h⟩
          rw [this] at hodd; cases hodd
        unfold oddK at h1
        rw [hid, htyp] at h1
        simpa using h1
      have htt : ta = t := by rw [hT, hS, ht] at hta; cases hta; rfl
      subst htt
      have hda : objD a x = oa := by unfold objD; rw [hoaa]; rfl
      have hdb : objD b x = o := by unfold objD; rw [hoa]; rfl
      obtain ⟨hset, _⟩ := hs i _ (items_get hx)
      rw [canonO_of hoa ht] at hset
      unfold mkItem at hset
      rw [posL_at ha hxa, hda, hdb] at hset
      simp only at hset
      have hF : oa.F = o.F := by
        refine List.ext_getElem? fun j => ?_
        cases hv : o.F[j]? with
        | none => rw [List.getElem?_eq_none_iff] at hv ⊢; rw [hmoa.len, ← hmo.len]; exact hv
        | some v =>
          have hj := (List.getElem?_eq_some_iff.1 hv).1
          have hf : ∃ f, ta.F[j]? = some f := ⟨ta.F[j]'(by rw [← hmo.len]; exact hj), List.getElem?_eq_getElem _⟩
          obtain ⟨f, hf⟩ := hf
          have := cells_none hset (j := j) (v := canonV (order b) f v) (by rw [List.getElem?_zipWith, hf, hv])
          simp only [Int.toNat_natCast, Bool.not_eq_false', decide_eq_true_eq] at this
          rw [this, hv]
      rw [canonO_of hoa ht, canonO_of hoaa hta, hT, hF, hord]
  have hcan : gCanon a = gCanon b := by
    rw [gCanon_of ha'] at hr
    rw [gCanon_of ha', gCanon_of hb']
    have e : ∀ g : Graph, canonG g = ⟨g.S, (canonG g).O, (canonG g).Roots⟩ := fun g => rfl
    rw [e a, e b, hobj, hS, ← hr]
  unfold gIso
  rw [ha', hb', hcan]; simp
end Go.Ab
