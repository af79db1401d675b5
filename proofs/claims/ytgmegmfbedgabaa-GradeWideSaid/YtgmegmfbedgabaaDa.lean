/-
  Graphs, schemas and what is made of them as plain data, and their plain laws. No condition but those of each theorem.
-/
import Derived.WalkKit
import Derived.Below
import Derived.Scope
import Derived.Orders
import Derived.Still
import Derived.Test.YtgmegmfbedgabaaFa
import Derived.Test.YtgmegmfbedgabaaFb
import Derived.Test.YtgmegmfbedgabaaFc
import Derived.Test.YtgmegmfbedgabaaFd
import Derived.Test.YtgmegmfbedgabaaFe
set_option linter.unusedVariables false
set_option linter.unusedSimpArgs false
namespace Go.Ab
open Go Go.RowKit
structure GVal where
  N : Int
  S : ByteArray
  R : Int
structure GObj where
  Id : Int
  T : Int
  F : List GVal
structure GField where
  Name : ByteArray
  Kind : Int
  To : ByteArray
structure GType where
  Name : ByteArray
  F : List GField
structure Graph where
  S : List GType
  O : List GObj
  Roots : List Int
def eI (x : Int) : List AV := [.int .i64 x]
def eVal (v : GVal) : List AV := [.int .i64 v.N, .str v.S, .int .i64 v.R]
def eObj (o : GObj) : List AV := [.int .i64 o.Id, .int .i64 o.T, .sl 3 (o.F.map eVal)]
def eField (f : GField) : List AV := [.str f.Name, .int .i64 f.Kind, .str f.To]
def eType (t : GType) : List AV := [.str t.Name, .sl 3 (t.F.map eField)]
def eSchema (s : List GType) : List AV := [.sl 2 (s.map eType)]
def eGraph (g : Graph) : List AV := [.sl 2 (g.S.map eType), .sl 3 (g.O.map eObj), .sl 1 (g.Roots.map eI)]
theorem GVal.ext_iff' (a b : GVal) : a = b ↔ a.N = b.N ∧ a.S = b.S ∧ a.R = b.R := by
  cases a; cases b; simp
theorem GField.ext_iff' (a b : GField) : a = b ↔ a.Name = b.Name ∧ a.Kind = b.Kind ∧ a.To = b.To := by
  cases a; cases b; simp
instance : DecidableEq GVal := fun a b => decidable_of_iff _ (GVal.ext_iff' a b).symm
instance : DecidableEq GField := fun a b => decidable_of_iff _ (GField.ext_iff' a b).symm
theorem GObj.ext_iff' (a b : GObj) : a = b ↔ a.Id = b.Id ∧ a.T = b.T ∧ a.F = b.F := by
  cases a; cases b; simp
instance : DecidableEq GObj := fun a b => decidable_of_iff _ (GObj.ext_iff' a b).symm
theorem GType.ext_iff' (a b : GType) : a = b ↔ a.Name = b.Name ∧ a.F = b.F := by
  cases a; cases b; simp
instance : DecidableEq GType := fun a b => decidable_of_iff _ (GType.ext_iff' a b).symm
theorem Graph.ext_iff' (a b : Graph) : a = b ↔ a.S = b.S ∧ a.O = b.O ∧ a.Roots = b.Roots := by
  cases a; cases b; simp
instance : DecidableEq Graph := fun a b => decidable_of_iff _ (Graph.ext_iff' a b).symm
theorem frz_map {α : Type} {e : α → List AV} (h : ∀ x, ∀ a ∈ e x, a.tree = false) (n : Nat) (xs : List α) : (AV.own n (xs.map e)).freeze = .sl n (xs.map e) := by
  have : ∀ x, (e x).map AV.freeze = e x := fun x => by
    have : (e x).map AV.freeze = (e x).map (fun a => a) := List.map_congr_left fun a ha => freeze_plain (h x a ha)
    rw [this, List.map_id']
  simp only [AV.freeze, List.map_map]
  congr 1
  refine List.map_congr_left fun x _ => ?_
  exact this x
theorem frz_I (n : Nat) (xs : List Int) : (AV.own n (xs.map eI)).freeze = .sl n (xs.map eI) := frz_map (fun x a ha => by simp [eI] at ha; subst ha; rfl) n xs
theorem frz_Val (n : Nat) (xs : List GVal) : (AV.own n (xs.map eVal)).freeze = .sl n (xs.map eVal) := frz_map (fun x a ha => by simp [eVal] at ha; rcases ha with rfl | rfl | rfl <;> rfl) n xs
theorem frz_Obj (n : Nat) (xs : List GObj) : (AV.own n (xs.map eObj)).freeze = .sl n (xs.map eObj) := frz_map (fun x a ha => by simp [eObj] at ha; rcases ha with rfl | rfl | rfl <;> rfl) n xs
theorem frz_Field (n : Nat) (xs : List GField) : (AV.own n (xs.map eField)).freeze = .sl n (xs.map eField) := frz_map (fun x a ha => by simp [eField] at ha; rcases ha with rfl | rfl | rfl <;> rfl) n xs
theorem frz_Type (n : Nat) (xs : List GType) : (AV.own n (xs.map eType)).freeze = .sl n (xs.map eType) := frz_map (fun x a ha => by simp [eType] at ha; rcases ha with rfl | rfl <;> rfl) n xs
attribute [go_sem] frz_I frz_Val frz_Obj frz_Field frz_Type
def letterB (c : Int) : Bool := (decide (97 ≤ c) && decide (c ≤ 122)) || ((decide (223 ≤ c) && decide (c ≤ 255)) && !decide (c = 247))
def digitB (c : Int) : Bool := decide (48 ≤ c) && decide (c ≤ 57)
theorem decode_pos (s : ByteArray) (i : Nat) : 0 < (Utf8.decode s i).2 := by
  unfold Utf8.decode
  simp only
  repeat' split
  all_goals simp
def scan (s : ByteArray) : Nat → Nat → Option Nat
  | 0, _ => some 0
  | f + 1, pos => if pos < s.size then (if (!letterB (Utf8.decode s pos).1 && (decide (pos = 0) || !digitB (Utf8.decode s pos).1)) = true then none else (scan s f (pos + (Utf8.decode s pos).2)).map (· + 1)) else some 0
def badAt (s : ByteArray) (pos : Nat) : Bool := !letterB (Utf8.decode s pos).1 && (decide (pos = 0) || !digitB (Utf8.decode s pos).1)
theorem scan_bad {s : ByteArray} {f pos : Nat} (h : pos < s.size) (hf : s.size ≤ pos + f) (hb : badAt s pos = true) : scan s f pos = none := by
  cases f with
  | zero => omega
  | succ f => unfold badAt at hb; simp only [scan]; rw [if_pos h, if_pos hb]
theorem scan_step {s : ByteArray} {f pos : Nat} (h : pos < s.size) (hf : s.size ≤ pos + f) (hb : badAt s pos = false) : ∃ f', s.size ≤ pos + (Utf8.decode s pos).2 + f' ∧ scan s f pos = (scan s f' (pos + (Utf8.decode s pos).2)).map (· + 1) := by
  cases f with
  | zero => omega
  | succ f =>
    have := decode_pos s pos
    refine ⟨f, by omega, ?_⟩
    unfold badAt at hb
    simp only [scan]; rw [if_pos h, if_neg (by rw [hb]; simp)]
theorem scan_end {s : ByteArray} {f pos : Nat} (h : s.size ≤ pos) : scan s f pos = some 0 := by
  cases f with
  | zero => rfl
  | succ f => simp only [scan]; rw [if_neg (by omega)]
def nameLen (s : ByteArray) : Nat := match scan s s.size 0 with
  | some n => if 8 < n then 0 else n
  | none => 0
def nameMay (s : ByteArray) : Bool := decide (0 < nameLen s)
def fnd {α : Type} (p : α → Bool) (l : List α) : Int :=
  match l.findIdx? p with
  | some i => (i : Int)
  | none => -1
theorem fnd_at {α : Type} {p : α → Bool} {l : List α} {i : Nat} {x : α} (h : l[i]? = some x) (hp : p x = true) (hb : ∀ (j : Nat) (y : α), j < i → l[j]? = some y → p y = false) : fnd p l = i := by
  have hlt := (List.getElem?_eq_some_iff.1 h).1
  have : l.findIdx? p = some i := by
    rw [List.findIdx?_eq_some_iff_getElem]
    refine ⟨hlt, ?_, fun j hj => ?_⟩
    · have := (List.getElem?_eq_some_iff.1 h).2; rw [this]; exact hp
    · have := hb j l[j] hj (List.getElem?_eq_getElem (by omega)); simp [this]
  unfold fnd; rw [this]
theorem fnd_no {α : Type} {p : α → Bool} {l : List α} (hb : ∀ (j : Nat) (y : α), l[j]? = some y → p y = false) : fnd p l = -1 := by
  have : l.findIdx? p = none := by
    rw [List.findIdx?_eq_none_iff]
    intro x hx
    obtain ⟨j, hj⟩ := List.getElem?_of_mem hx
    exact hb j x hj
  unfold fnd; rw [this]
theorem any_at {α : Type} {p : α → Bool} {l : List α} {i : Nat} {x : α} (h : l[i]? = some x) (hp : p x = true) : l.any p = true := List.any_eq_true.2 ⟨x, List.mem_of_getElem? h, hp⟩
theorem below_succ {α : Type} {p : α → Bool} {l : List α} {i : Nat} {x : α} (hb : ∀ (j : Nat) (y : α), j < i → l[j]? = some y → p y = false) (h : l[i]? = some x) (hp : p x = false) : ∀ (j : Nat) (y : α), j < i + 1 → l[j]? = some y → p y = false := by
  intro j y hj hy
  by_cases e : j = i
  · subst e; rw [h] at hy; cases hy; exact hp
  · exact hb j y (by omega) hy
theorem below_all {α : Type} {p : α → Bool} {l : List α} (hb : ∀ (j : Nat) (y : α), j < l.length → l[j]? = some y → p y = false) : ∀ (j : Nat) (y : α), l[j]? = some y → p y = false :=
  fun j y hy => hb j y (List.getElem?_eq_some_iff.1 hy).1 hy
def allI {α : Type} (p : Nat → α → Bool) : Nat → List α → Bool
  | _, [] => true
  | k, x :: r => p k x && allI p (k + 1) r
theorem allI_no {α : Type} {p : Nat → α → Bool} : ∀ {l : List α} {k i : Nat} {x : α}, l[i]? = some x → p (k + i) x = false → allI p k l = false
  | [], _, i, x, h, _ => by simp at h
  | y :: l, k, 0, x, h, hp => by simp at h; subst h; simp [allI] at hp ⊢; simp [hp]
  | y :: l, k, i + 1, x, h, hp => by
    simp only [allI]
    rw [allI_no (l := l) (k := k + 1) (i := i) (by simpa using h) (by rw [show k + 1 + i = k + (i + 1) by omega]; exact hp)]
    simp
theorem allI_yes {α : Type} {p : Nat → α → Bool} : ∀ {l : List α} {k : Nat}, (∀ (j : Nat) (y : α), l[j]? = some y → p (k + j) y = true) → allI p k l = true
  | [], _, _ => rfl
  | y :: l, k, h => by
    simp only [allI, Bool.and_eq_true]
    refine ⟨by simpa using h 0 y rfl, allI_yes fun j z hz => ?_⟩
    have := h (j + 1) z (by simpa using hz)
    rw [show k + 1 + j = k + (j + 1) by omega]; exact this
theorem allI_at {α : Type} {p : Nat → α → Bool} : ∀ {l : List α} {k i : Nat} {x : α}, allI p k l = true → l[i]? = some x → p (k + i) x = true := by
  intro l k i x h hx
  cases hp : p (k + i) x with
  | true => rfl
  | false => rw [allI_no hx hp] at h; cases h
theorem belowI_succ {α : Type} {p : Nat → α → Bool} {l : List α} {i : Nat} {x : α} (hb : ∀ (j : Nat) (y : α), j < i → l[j]? = some y → p j y = true) (h : l[i]? = some x) (hp : p i x = true) : ∀ (j : Nat) (y : α), j < i + 1 → l[j]? = some y → p j y = true := by
  intro j y hj hy
  by_cases e : j = i
  · subst e; rw [h] at hy; cases hy; exact hp
  · exact hb j y (by omega) hy
theorem belowI_all {α : Type} {p : Nat → α → Bool} {l : List α} (hb : ∀ (j : Nat) (y : α), j < l.length → l[j]? = some y → p j y = true) : allI p 0 l = true :=
  allI_yes fun j y hy => by rw [Nat.zero_add]; exact hb j y (List.getElem?_eq_some_iff.1 hy).1 hy
def sFind (s : List GType) (n : ByteArray) : Int := fnd (fun o => decide (o.Name = n)) s
def fFind (s : List GField) (n : ByteArray) : Int := fnd (fun o => decide (o.Name = n)) s
def fieldMay (s : List GType) (f : GField) : Bool := ((if f.Kind = 5 then !decide (sFind s f.To = -1) else decide (f.To = ⟨#[]⟩)) && nameMay f.Name) && (decide (0 ≤ f.Kind) && decide (f.Kind < 6))
def fieldsMay (s : List GType) (t : GType) : Bool := allI (fun k f => fieldMay s f && decide (fFind t.F f.Name = k)) 0 t.F
def typeMay (s : List GType) (i : Nat) (t : GType) : Bool := ((nameMay t.Name && decide (sFind s t.Name = i)) && decide (t.F.length ≤ 5)) && fieldsMay s t
def schemaMay (s : List GType) : Bool := (decide (0 < s.length) && decide (s.length ≤ 4)) && allI (typeMay s) 0 s
end Go.Ab
namespace Go.Ab
open Go Go.RowKit
def numFits (k n : Int) : Bool :=
  if k = 0 then decide (-128 ≤ n) && decide (n < 128) else if k = 1 then decide (-32768 ≤ n) && decide (n < 32768) else if k = 2 then decide (-2147483648 ≤ n) && decide (n < 2147483648) else
  if k = 3 then decide (-9223372036854775808 ≤ n) && decide (n < 9223372036854775808) else false
def valFits (f : GField) (v : GVal) : Bool :=
  if f.Kind = 4 then decide (v.S.size ≤ 12) && (decide (v.N = 0) && decide (v.R = 0)) else
  if f.Kind = 5 then (decide (-1 ≤ v.R) && decide (v.R ≤ 1073741824)) && (decide (v.N = 0) && decide (v.S = ⟨#[]⟩)) else
  numFits f.Kind v.N && (decide (v.S = ⟨#[]⟩) && decide (v.R = 0))
def typ : List GObj → Int → Option Int
  | [], _ => none
  | o :: r, i => match typ r i with
    | some t => some t
    | none => if o.Id = i then some o.T else none
def tmap (l : List GObj) : List (Int × AV) := l.foldl (fun m o => mapput m o.Id (.int .i64 o.T)) []
theorem maplk_mapput (m : List (Int × AV)) (k i : Int) (v : AV) : maplk (mapput m k v) i = if i = k then some v else maplk m i := by
  induction m with
  | nil => simp [mapput, maplk]
  | cons p m ih =>
    obtain ⟨a, b⟩ := p
    simp only [mapput]
    by_cases h : k = a
    · subst h; simp only [if_true, maplk]; split <;> simp_all
    · simp only [h, if_false, maplk, ih]; by_cases h2 : i = a
      · subst h2; simp [show ¬ i = k from fun e => h e.symm]
      · simp [h2]
theorem maplk_foldl (l : List GObj) : ∀ (m : List (Int × AV)) (i : Int), maplk (l.foldl (fun m o => mapput m o.Id (.int .i64 o.T)) m) i = match typ l i with
    | some t => some (.int .i64 t)
    | none => maplk m i := by
  induction l with
  | nil => intro m i; simp [typ]
  | cons o l ih =>
    intro m i
    simp only [List.foldl_cons, ih, maplk_mapput, typ]
    cases h : typ l i with
    | some t => rfl
    | none => by_cases h2 : o.Id = i
              · subst h2; simp
              · simp [h2, show ¬ i = o.Id from fun e => h2 e.symm]
theorem maplk_tmap (l : List GObj) (i : Int) : maplk (tmap l) i = (typ l i).map (.int .i64 ·) := by
  unfold tmap; rw [maplk_foldl]; cases typ l i <;> rfl
theorem tmap_succ (l : List GObj) {i : Nat} {o : GObj} (h : l[i]? = some o) : tmap (l.take (i + 1)) = mapput (tmap (l.take i)) o.Id (.int .i64 o.T) := by
  unfold tmap; rw [List.take_add_one, h]; simp
theorem tmap_len (l : List GObj) : (tmap l).length ≤ l.length := by
  have : ∀ (l : List GObj) (m : List (Int × AV)), (l.foldl (fun m o => mapput m o.Id (.int .i64 o.T)) m).length ≤ m.length + l.length := by
    intro l
    induction l with
    | nil => intro m; simp
    | cons o l ih => intro m; simp only [List.foldl_cons]; have := ih (mapput m o.Id (.int .i64 o.T)); have := mapput_len m o.Id (.int .i64 o.T); simp only [List.length_cons]; omega
  unfold tmap; simpa using this l []
def leadsB (g : Graph) (f : GField) (v : GVal) : Bool :=
  valFits f v && (!decide (f.Kind = 5) || (decide (v.R = -1) || (match typ g.O v.R with
    | some t => decide (t = sFind g.S f.To)
    | none => false)))
def leadsAt (g : Graph) (l : List GField) (k : Nat) (v : GVal) : Bool := match l[k]? with
  | some f => leadsB g f v
  | none => false
def prevId (l : List GObj) : Nat → Int
  | 0 => -1
  | i + 1 => match l[i]? with
    | some o => o.Id
    | none => -1
def typeAt (s : List GType) (i : Int) : Option GType := if 0 ≤ i then s[i.toNat]? else none
def objectB (g : Graph) (o : GObj) (last : Int) : Bool :=
  (decide (last < o.Id) && decide (o.Id ≤ 1073741824)) && (match typeAt g.S o.T with
    | some t => decide (o.F.length = t.F.length) && allI (fun k v => leadsAt g t.F k v) 0 o.F
    | none => false)
def rootB (g : Graph) (r : Int) : Bool := decide (r = -1) || (typ g.O r).isSome
def gMay (g : Graph) : Bool :=
  ((schemaMay g.S && decide (g.O.length ≤ 8)) && decide (g.Roots.length ≤ 3)) && (allI (fun i o => objectB g o (prevId g.O i)) 0 g.O && g.Roots.all (rootB g))
def gFind (g : Graph) (i : Int) : Int := fnd (fun o => decide (o.Id = i)) g.O
end Go.Ab
namespace Go.Ab
open Go Go.RowKit
def meet (l : List Int) (i : Int) : List Int := if i = -1 ∨ i ∈ l then l else l ++ [i]
def mets (l is : List Int) : List Int := is.foldl meet l
def ats : Nat → List Int → List (Int × AV)
  | _, [] => []
  | k, x :: r => (x, .int .i64 k) :: ats (k + 1) r
def atMap (l : List Int) : List (Int × AV) := (-1, .int .i64 (-1)) :: ats 0 l
def atL (l : List Int) (i : Int) : Option Int := if i = -1 then some (-1) else (l.findIdx? fun x => decide (x = i)).map fun (n : Nat) => (n : Int)
def atD (l : List Int) (i : Int) : Int := (atL l i).getD 0
theorem maplk_ats (l : List Int) (i : Int) : ∀ k, maplk (ats k l) i = (l.findIdx? fun x => decide (x = i)).map fun (n : Nat) => .int .i64 ((k + n : Nat) : Int) := by
  induction l with
  | nil => intro k; simp [ats, maplk]
  | cons x l ih =>
    intro k
    simp only [ats, maplk, List.findIdx?_cons]
    by_cases h : i = x
    · subst h; simp
    · rw [if_neg h, ih]
      have : decide (x = i) = false := by simp; exact fun e => h e.symm
      rw [this]
      simp only [Bool.false_eq_true, if_false, Option.map_map]
      congr 1
      funext n
      simp only [Function.comp]
      congr 1
      omega
theorem maplk_atMap (l : List Int) (i : Int) : maplk (atMap l) i = (atL l i).map (.int .i64 ·) := by
  unfold atMap atL
  simp only [maplk]
  by_cases h : i = -1
  · simp [h]
  · rw [if_neg h, if_neg h, maplk_ats, Option.map_map]
    congr 1
    funext n
    simp
theorem mapput_new {es : List (Int × AV)} {i : Int} {v : AV} (h : maplk es i = none) : mapput es i v = es ++ [(i, v)] := by
  induction es with
  | nil => rfl
  | cons p es ih =>
    obtain ⟨a, b⟩ := p
    simp only [maplk] at h
    by_cases e : i = a
    · simp [e] at h
    · rw [if_neg e] at h
      simp only [mapput, if_neg e, ih h, List.cons_append]
theorem ats_app (l : List Int) (x : Int) : ∀ k, ats k (l ++ [x]) = ats k l ++ [(x, .int .i64 ((k + l.length : Nat) : Int))] := by
  induction l with
  | nil => intro k; simp [ats]
  | cons y l ih => intro k; simp only [ats, List.cons_append, ih, List.length_cons, List.cons.injEq, true_and]; rw [show k + 1 + l.length = k + (l.length + 1) by omega]
theorem atMap_app (l : List Int) (x : Int) : atMap (l ++ [x]) = atMap l ++ [(x, .int .i64 (l.length : Int))] := by
  unfold atMap; rw [ats_app]; simp
theorem ats_len (l : List Int) : ∀ k, (ats k l).length = l.length := by
  induction l with
  | nil => intro k; rfl
  | cons y l ih => intro k; simp [ats, ih]
theorem atMap_len (l : List Int) : (atMap l).length = l.length + 1 := by simp [atMap, ats_len]
theorem atL_none {l : List Int} {i : Int} : atL l i = none ↔ i ≠ -1 ∧ i ∉ l := by
  unfold atL
  by_cases h : i = -1
  · simp [h]
  · simp only [h, if_false, Option.map_eq_none_iff, List.findIdx?_eq_none_iff, decide_eq_false_iff_not, ne_eq, not_false_eq_true, true_and]
    exact ⟨fun h2 hm => h2 i hm rfl, fun h2 x hx e => h2 (e ▸ hx)⟩
theorem meet_in {l : List Int} {i : Int} {p : Int} (h : atL l i = some p) : meet l i = l := by
  unfold meet
  rw [if_pos]
  refine Classical.byContradiction fun hn => ?_
  rw [not_or] at hn
  rw [atL_none.2 hn] at h; cases h
theorem meet_out {l : List Int} {i : Int} (h : atL l i = none) : meet l i = l ++ [i] := by
  unfold meet
  have := atL_none.1 h
  rw [if_neg (by rw [not_or]; exact this)]
theorem meet_len (l : List Int) (i : Int) : l.length ≤ (meet l i).length := by
  unfold meet; split <;> simp
theorem mets_len : ∀ (l is : List Int), l.length ≤ (mets l is).length
  | l, [] => Nat.le_refl _
  | l, i :: is => Nat.le_trans (meet_len l i) (mets_len (meet l i) is)
theorem mets_take (l : List Int) {is : List Int} {k : Nat} {i : Int} (h : is[k]? = some i) : mets l (is.take (k + 1)) = meet (mets l (is.take k)) i := by
  rw [List.take_add_one, h]; simp [mets]
def refsZ (z : List (GField × GVal)) : List Int := z.filterMap fun p => if p.1.Kind = 5 then some p.2.R else none
theorem refsZ_ref {z : List (GField × GVal)} {k : Nat} {f : GField} {v : GVal} (h : z[k]? = some (f, v)) (hk : f.Kind = 5) (l : List Int) : mets l (refsZ (z.take (k + 1))) = meet (mets l (refsZ (z.take k))) v.R := by
  rw [List.take_add_one, h]
  simp [refsZ, hk, mets]
theorem refsZ_no {z : List (GField × GVal)} {k : Nat} {f : GField} {v : GVal} (h : z[k]? = some (f, v)) (hk : f.Kind ≠ 5) : refsZ (z.take (k + 1)) = refsZ (z.take k) := by
  rw [List.take_add_one, h]
  simp [refsZ, hk]
def objAt (g : Graph) (i : Int) : Option GObj := g.O.find? fun o => decide (o.Id = i)
def refsO (g : Graph) (o : GObj) : List Int := match typeAt g.S o.T with
  | some t => refsZ (t.F.zip o.F)
  | none => []
def refsOf (g : Graph) (i : Int) : List Int := match objAt g i with
  | some o => refsO g o
  | none => []
def ordF (g : Graph) : Nat → Nat → List Int → List Int
  | 0, _, l => l
  | n + 1, i, l => match l[i]? with
    | none => l
    | some x => ordF g n (i + 1) (mets l (refsOf g x))
def order (g : Graph) : List Int := ordF g g.O.length 0 (mets [] g.Roots)
def gOrder (g : Graph) : List Int := if gMay g = true then order g else []
theorem typ_some {l : List GObj} {i t : Int} (h : typ l i = some t) : ∃ o ∈ l, o.Id = i ∧ o.T = t := by
  induction l with
  | nil => simp [typ] at h
  | cons o l ih =>
    simp only [typ] at h
    cases h2 : typ l i with
    | some t' =>
      rw [h2] at h; cases h
      obtain ⟨x, hx, h3⟩ := ih h2
      exact ⟨x, List.mem_cons_of_mem _ hx, h3⟩
    | none =>
      rw [h2] at h
      simp only at h
      split at h
      · rename_i e; cases h; exact ⟨o, List.mem_cons_self, e, rfl⟩
      · cases h
theorem typ_mem {l : List GObj} {o : GObj} (h : o ∈ l) : (typ l o.Id).isSome = true := by
  induction l with
  | nil => cases h
  | cons x l ih =>
    simp only [typ]
    rcases List.mem_cons.1 h with rfl | h
    · cases typ l o.Id <;> simp
    · have := ih h
      cases h2 : typ l o.Id with
      | some t => rfl
      | none => rw [h2] at this; cases this
structure May (g : Graph) : Prop where
  s : schemaMay g.S = true
  o : g.O.length ≤ 8
  r : g.Roots.length ≤ 3
  obj : ∀ (i : Nat) (x : GObj), g.O[i]? = some x → objectB g x (prevId g.O i) = true
  root : ∀ r ∈ g.Roots, rootB g r = true
theorem may_iff (g : Graph) : gMay g = true ↔ May g := by
  unfold gMay
  simp only [Bool.and_eq_true, decide_eq_true_eq, List.all_eq_true]
  constructor
  · rintro ⟨⟨⟨h1, h2⟩, h3⟩, h4, h5⟩
    exact ⟨h1, h2, h3, fun i x hx => by simpa using allI_at h4 hx, h5⟩
  · rintro ⟨h1, h2, h3, h4, h5⟩
    exact ⟨⟨⟨h1, h2⟩, h3⟩, allI_yes fun j y hy => by rw [Nat.zero_add]; exact h4 j y hy, h5⟩
structure MayO (g : Graph) (x : GObj) (t : GType) : Prop where
  id : x.Id ≤ 1073741824
  t0 : 0 ≤ x.T
  at_ : g.S[x.T.toNat]? = some t
  len : x.F.length = t.F.length
  lead : ∀ (k : Nat) (f : GField) (v : GVal), t.F[k]? = some f → x.F[k]? = some v → leadsB g f v = true
theorem May.objT {g : Graph} (h : May g) {i : Nat} {x : GObj} (hx : g.O[i]? = some x) : prevId g.O i < x.Id ∧ ∃ t, typeAt g.S x.T = some t ∧ MayO g x t := by
  have := h.obj i x hx
  unfold objectB at this
  simp only [Bool.and_eq_true, decide_eq_true_eq] at this
  obtain ⟨⟨h1, h2⟩, h3⟩ := this
  refine ⟨h1, ?_⟩
  cases ht : typeAt g.S x.T with
  | none => rw [ht] at h3; cases h3
  | some t =>
    rw [ht] at h3
    simp only [Bool.and_eq_true, decide_eq_true_eq] at h3
    have h0 : 0 ≤ x.T := by
      unfold typeAt at ht; split at ht
      · assumption
      · cases ht
    refine ⟨t, rfl, h2, h0, ?_, h3.1, fun k f v hf hv => ?_⟩
    · unfold typeAt at ht; rw [if_pos h0] at ht; exact ht
    · have := allI_at h3.2 hv
      unfold leadsAt at this
      rw [Nat.zero_add, hf] at this
      exact this
theorem May.ids {g : Graph} (h : May g) : ∀ (i : Nat) (x : GObj), g.O[i]? = some x → -1 < x.Id ∧ ∀ (j : Nat) (y : GObj), j < i → g.O[j]? = some y → y.Id < x.Id := by
  intro i
  induction i with
  | zero => intro x hx; exact ⟨by simpa [prevId] using (h.objT hx).1, fun j y hj => by omega⟩
  | succ i ih =>
    intro x hx
    have h1 := (h.objT hx).1
    have hlt := (List.getElem?_eq_some_iff.1 hx).1
    obtain ⟨z, hz⟩ : ∃ z, g.O[i]? = some z := ⟨g.O[i], List.getElem?_eq_getElem (by omega)⟩
    simp only [prevId, hz] at h1
    obtain ⟨h2, h3⟩ := ih z hz
    refine ⟨by omega, fun j y hj hy => ?_⟩
    by_cases e : j = i
    · subst e; rw [hz] at hy; cases hy; exact h1
    · have := h3 j y (by omega) hy; omega
theorem May.pos {g : Graph} (h : May g) {x : GObj} (hx : x ∈ g.O) : 0 ≤ x.Id := by
  obtain ⟨i, hi⟩ := List.getElem?_of_mem hx
  have := (h.ids i x hi).1; omega
theorem May.inj {g : Graph} (h : May g) {i j : Nat} {x y : GObj} (hx : g.O[i]? = some x) (hy : g.O[j]? = some y) (e : x.Id = y.Id) : i = j := by
  rcases Nat.lt_trichotomy i j with hl | hl | hl
  · have := (h.ids j y hy).2 i x hl hx; omega
  · exact hl
  · have := (h.ids i x hx).2 j y hl hy; omega
theorem May.find {g : Graph} (h : May g) {i : Int} (hi : (typ g.O i).isSome = true) : ∃ (p : Nat) (x : GObj), g.O[p]? = some x ∧ x.Id = i ∧ gFind g i = p ∧ objAt g i = some x ∧ typ g.O i = some x.T := by
  cases ht : typ g.O i with
  | none => rw [ht] at hi; cases hi
  | some t =>
    obtain ⟨x, hx, e1, e2⟩ := typ_some ht
    obtain ⟨p, hp⟩ := List.getElem?_of_mem hx
    have hbel : ∀ (j : Nat) (y : GObj), j < p → g.O[j]? = some y → decide (y.Id = i) = false := fun j y hj hy => by
      have := (h.ids p x hp).2 j y hj hy
      simp; omega
    refine ⟨p, x, hp, e1, ?_, ?_, by rw [e2]⟩
    · exact fnd_at hp (by simpa using e1) hbel
    · unfold objAt
      rw [List.find?_eq_some_iff_getElem]
      have hlt := (List.getElem?_eq_some_iff.1 hp).1
      refine ⟨by simpa using e1, p, hlt, (List.getElem?_eq_some_iff.1 hp).2, fun j hj => ?_⟩
      have := hbel j g.O[j] hj (List.getElem?_eq_getElem (by omega))
      simp only [Bool.not_eq_true', this]
theorem May.mem {g : Graph} (h : May g) {x : GObj} (hx : x ∈ g.O) : objAt g x.Id = some x := by
  obtain ⟨p, y, h1, h2, _, h4, _⟩ := h.find (typ_mem hx)
  obtain ⟨q, hq⟩ := List.getElem?_of_mem hx
  have := h.inj h1 hq h2
  subst this
  rw [h1] at hq; cases hq; exact h4
theorem nodup_len : ∀ (l m : List Int), l.Nodup → (∀ x ∈ l, x ∈ m) → l.length ≤ m.length
  | [], _, _, _ => Nat.zero_le _
  | x :: l, m, h, hs => by
    have hx := hs x List.mem_cons_self
    have h2 := List.nodup_cons.1 h
    have := nodup_len l (m.erase x) h2.2 fun y hy => by
      have hy2 := hs y (List.mem_cons_of_mem _ hy)
      have hne : y ≠ x := fun e => h2.1 (e ▸ hy)
      exact (List.mem_erase_of_ne hne).2 hy2
    rw [List.length_erase_of_mem hx] at this
    have := List.length_pos_of_mem hx
    simp only [List.length_cons]; omega
structure Good (g : Graph) (l : List Int) : Prop where
  nodup : l.Nodup
  ids : ∀ i ∈ l, (typ g.O i).isSome = true
theorem Good.len {g : Graph} {l : List Int} (h : Good g l) : l.length ≤ g.O.length := by
  have := nodup_len l (g.O.map (·.Id)) h.nodup fun x hx => by
    cases ht : typ g.O x with
    | none => have := h.ids x hx; rw [ht] at this; cases this
    | some t => obtain ⟨o, ho, e, _⟩ := typ_some ht; exact List.mem_map.2 ⟨o, ho, e⟩
  simpa using this
theorem Good.nil (g : Graph) : Good g [] := ⟨List.nodup_nil, fun i hi => by cases hi⟩
theorem Good.meet {g : Graph} {l : List Int} (h : Good g l) {i : Int} (hi : rootB g i = true) : Good g (meet l i) := by
  unfold Ab.meet
  split
  · exact h
  · rename_i hn
    rw [not_or] at hn
    unfold rootB at hi
    simp only [Bool.or_eq_true, decide_eq_true_eq] at hi
    have hi := hi.resolve_left hn.1
    refine ⟨?_, fun j hj => ?_⟩
    · rw [List.nodup_append]
      exact ⟨h.nodup, by simp, fun a ha b hb => by simp at hb; subst hb; exact fun e => hn.2 (e ▸ ha)⟩
    · rcases List.mem_append.1 hj with hj | hj
      · exact h.ids j hj
      · simp at hj; subst hj; exact hi
theorem Good.mets {g : Graph} : ∀ {is l : List Int}, Good g l → (∀ i ∈ is, rootB g i = true) → Good g (mets l is)
  | [], _, h, _ => h
  | i :: is, l, h, hi => Good.mets (is := is) (h.meet (hi i List.mem_cons_self)) fun j hj => hi j (List.mem_cons_of_mem _ hj)
theorem MayO.ref {g : Graph} {x : GObj} {t : GType} (h : MayO g x t) {k : Nat} {f : GField} {v : GVal} (hf : t.F[k]? = some f) (hv : x.F[k]? = some v) (hk : f.Kind = 5) : rootB g v.R = true := by
  have := h.lead k f v hf hv
  unfold leadsB at this
  simp only [Bool.and_eq_true, Bool.or_eq_true, hk, decide_true, Bool.not_true, Bool.false_eq_true, false_or, decide_eq_true_eq] at this
  unfold rootB
  simp only [Bool.or_eq_true, decide_eq_true_eq]
  rcases this.2 with h1 | h1
  · exact .inl h1
  · cases ht : typ g.O v.R with
    | none => rw [ht] at h1; cases h1
    | some t => exact .inr rfl
theorem MayO.refs {g : Graph} {x : GObj} {t : GType} (h : MayO g x t) : ∀ r ∈ refsZ (t.F.zip x.F), rootB g r = true := by
  intro r hr
  unfold refsZ at hr
  obtain ⟨⟨f, v⟩, hp, e⟩ := List.mem_filterMap.1 hr
  simp only at e
  split at e
  · rename_i hk; cases e
    obtain ⟨k, hk2⟩ := List.getElem?_of_mem hp
    rw [List.getElem?_zip_eq_some] at hk2
    exact h.ref hk2.1 hk2.2 hk
  · cases e
theorem May.refsOf {g : Graph} (h : May g) (i : Int) : ∀ r ∈ refsOf g i, rootB g r = true := by
  intro r hr
  unfold Ab.refsOf at hr
  split at hr
  · rename_i o ho
    have hm : o ∈ g.O := List.mem_of_find?_eq_some ho
    obtain ⟨p, hp⟩ := List.getElem?_of_mem hm
    obtain ⟨_, t, h1, h2⟩ := h.objT hp
    unfold refsO at hr
    rw [h1] at hr
    exact h2.refs r hr
  · cases hr
theorem May.ordF {g : Graph} (h : May g) : ∀ (n i : Nat) (l : List Int), Good g l → Good g (ordF g n i l)
  | 0, _, _, hl => hl
  | n + 1, i, l, hl => by
    unfold Ab.ordF
    split
    · exact hl
    · exact May.ordF h n (i + 1) _ (hl.mets (h.refsOf _))
theorem May.order {g : Graph} (h : May g) : Good g (order g) := h.ordF _ _ _ ((Good.nil g).mets h.root)
def canonV (l : List Int) (f : GField) (v : GVal) : GVal := if f.Kind = 5 then { v with R := atD l v.R } else v
def canonO (g : Graph) (l : List Int) (k : Nat) (i : Int) : GObj := match objAt g i with
  | some o => ⟨k, o.T, match typeAt g.S o.T with
    | some t => List.zipWith (canonV l) t.F o.F
    | none => []⟩
  | none => ⟨k, 0, []⟩
def canonL (g : Graph) (l : List Int) : Nat → List Int → List GObj
  | _, [] => []
  | k, i :: r => canonO g l k i :: canonL g l (k + 1) r
def canonG (g : Graph) : Graph := ⟨g.S, canonL g (order g) 0 (order g), g.Roots.map (atD (order g))⟩
def gCanon (g : Graph) : Graph := if gMay g = true then canonG g else ⟨[], [], []⟩
theorem canonL_app (g : Graph) (l : List Int) (x : Int) : ∀ (k : Nat) (is : List Int), canonL g l k (is ++ [x]) = canonL g l k is ++ [canonO g l (k + is.length) x]
  | _, [] => by simp [canonL]
  | k, i :: is => by simp only [List.cons_append, canonL, canonL_app g l x (k + 1) is, List.length_cons]; rw [show k + 1 + is.length = k + (is.length + 1) by omega]
theorem canonL_take (g : Graph) (l : List Int) {is : List Int} {k : Nat} {i : Int} (h : is[k]? = some i) : canonL g l 0 (is.take (k + 1)) = canonL g l 0 (is.take k) ++ [canonO g l k i] := by
  have hlt := (List.getElem?_eq_some_iff.1 h).1
  rw [List.take_add_one, h]
  simp only [Option.toList_some]
  rw [canonL_app]
  simp only [List.length_take, Nat.zero_add]
  rw [Nat.min_eq_left (by omega)]
def gIso (a b : Graph) : Bool := (gMay a && gMay b) && decide (gCanon a = gCanon b)
end Go.Ab
namespace Go.Ab
open Go Go.RowKit
theorem set_same {α : Type} {l : List α} {i : Nat} {x : α} (h : l[i]? = some x) : l.set i x = l := by
  apply List.ext_getElem?
  intro j
  rw [List.getElem?_set]
  split
  · rename_i e; subst e
    rw [h]
    have := (List.getElem?_eq_some_iff.1 h).1
    simp [this]
  · rfl
def mixV (l : List Int) (fs : List GField) (vs : List GVal) (k : Nat) : List GVal := List.zipWith (canonV l) (fs.take k) (vs.take k) ++ vs.drop k
theorem mixV_zero (l : List Int) (fs : List GField) (vs : List GVal) : mixV l fs vs 0 = vs := by simp [mixV]
theorem mixV_all (l : List Int) (fs : List GField) (vs : List GVal) (h : vs.length = fs.length) : mixV l fs vs fs.length = List.zipWith (canonV l) fs vs := by
  unfold mixV
  rw [List.take_length, List.take_of_length_le (by omega), List.drop_eq_nil_of_le (by omega), List.append_nil]
theorem mixV_get {l : List Int} {fs : List GField} {vs : List GVal} {k : Nat} {v : GVal} (h : vs.length = fs.length) (hv : vs[k]? = some v) : (mixV l fs vs k)[k]? = some v := by
  have hlt := (List.getElem?_eq_some_iff.1 hv).1
  unfold mixV
  rw [List.getElem?_append_right (by simp; omega)]
  simp only [List.length_zipWith, List.length_take]
  rw [show k - min (min k fs.length) (min k vs.length) = 0 by omega, List.getElem?_drop]
  exact hv
theorem mixV_succ {l : List Int} {fs : List GField} {vs : List GVal} {k : Nat} {f : GField} {v : GVal} (hf : fs[k]? = some f) (hv : vs[k]? = some v) : mixV l fs vs (k + 1) = (mixV l fs vs k).set k (canonV l f v) := by
  have h1 := (List.getElem?_eq_some_iff.1 hf).1
  have h2 := (List.getElem?_eq_some_iff.1 hv).1
  have hd : vs.drop k = v :: vs.drop (k + 1) := by
    rw [List.drop_eq_getElem_cons h2]; congr 1; exact (List.getElem?_eq_some_iff.1 hv).2
  unfold mixV
  rw [hd, List.take_add_one, List.take_add_one, hf, hv]
  simp only [Option.toList_some]
  rw [List.zipWith_append (by simp; omega)]
  rw [List.set_append_right _ _ (by simp; omega)]
  simp only [List.length_zipWith, List.length_take]
  rw [show k - min (min k fs.length) (min k vs.length) = 0 by omega]
  simp
theorem mixV_no {l : List Int} {fs : List GField} {vs : List GVal} {k : Nat} {f : GField} {v : GVal} (h : vs.length = fs.length) (hf : fs[k]? = some f) (hv : vs[k]? = some v) (hk : f.Kind ≠ 5) : mixV l fs vs (k + 1) = mixV l fs vs k := by
  rw [mixV_succ hf hv, show canonV l f v = v by simp [canonV, hk], set_same (mixV_get h hv)]
theorem canonL_len (g : Graph) (l : List Int) : ∀ (k : Nat) (is : List Int), (canonL g l k is).length = is.length
  | _, [] => rfl
  | k, i :: is => by simp [canonL, canonL_len g l (k + 1) is]
theorem mets_pre : ∀ (l is : List Int), ∃ s, mets l is = l ++ s
  | l, [] => ⟨[], by simp [mets]⟩
  | l, i :: is => by
    obtain ⟨s, hs⟩ := mets_pre (meet l i) is
    have e : mets l (i :: is) = mets (meet l i) is := rfl
    rw [e, hs]
    unfold meet
    split
    · exact ⟨s, rfl⟩
    · exact ⟨i :: s, by simp⟩
theorem mem_meet (l : List Int) (i j : Int) : j ∈ meet l i ↔ j ∈ l ∨ (j = i ∧ i ≠ -1) := by
  unfold meet
  split
  · rename_i h
    constructor
    · exact .inl
    · rintro (h1 | ⟨rfl, h2⟩)
      · exact h1
      · exact h.resolve_left h2
  · rename_i h
    rw [not_or] at h
    simp only [List.mem_append, List.mem_singleton]
    constructor
    · rintro (h1 | h1)
      · exact .inl h1
      · exact .inr ⟨h1, h.1⟩
    · rintro (h1 | h1)
      · exact .inl h1
      · exact .inr h1.1
theorem mem_mets : ∀ (is l : List Int) (j : Int), j ∈ mets l is ↔ j ∈ l ∨ (j ∈ is ∧ j ≠ -1)
  | [], l, j => by simp [mets]
  | i :: is, l, j => by
    have e : mets l (i :: is) = mets (meet l i) is := rfl
    rw [e, mem_mets is, mem_meet, List.mem_cons]
    constructor
    · rintro ((h | ⟨rfl, h⟩) | ⟨h, h2⟩)
      · exact .inl h
      · exact .inr ⟨.inl rfl, h⟩
      · exact .inr ⟨.inr h, h2⟩
    · rintro (h | ⟨rfl | h, h2⟩)
      · exact .inl (.inl h)
      · exact .inl (.inr ⟨rfl, h2⟩)
      · exact .inr ⟨h, h2⟩
def Clo (g : Graph) (i : Nat) (l : List Int) : Prop := ∀ (j : Nat) (x : Int), j < i → l[j]? = some x → ∀ r ∈ refsOf g x, r = -1 ∨ r ∈ l
theorem ordF_pre (g : Graph) : ∀ (n i : Nat) (l : List Int), ∃ s, ordF g n i l = l ++ s
  | 0, _, l => ⟨[], by simp [ordF]⟩
  | n + 1, i, l => by
    unfold ordF
    split
    · exact ⟨[], by simp⟩
    · rename_i x hx
      obtain ⟨s, hs⟩ := mets_pre l (refsOf g x)
      obtain ⟨s', hs'⟩ := ordF_pre g n (i + 1) (mets l (refsOf g x))
      exact ⟨s ++ s', by rw [hs', hs, List.append_assoc]⟩
theorem ordF_clo {g : Graph} (h : May g) : ∀ (n i : Nat) (l : List Int), Good g l → Clo g i l → n + i = g.O.length → Clo g (ordF g n i l).length (ordF g n i l)
  | 0, i, l, hg, hc, e => by
    intro j x hj hx
    have := hg.len
    exact hc j x (by have := (List.getElem?_eq_some_iff.1 hx).1; simp only [ordF] at this; omega) hx
  | n + 1, i, l, hg, hc, e => by
    unfold ordF
    split
    · rename_i hn
      intro j x hj hx
      have h1 := List.getElem?_eq_none_iff.1 hn
      exact hc j x (by omega) hx
    · rename_i y hy
      refine ordF_clo h n (i + 1) _ (hg.mets (h.refsOf y)) ?_ (by omega)
      intro j x hj hx r hr
      obtain ⟨s, hs⟩ := mets_pre l (refsOf g y)
      have hil := (List.getElem?_eq_some_iff.1 hy).1
      rw [hs, List.getElem?_append_left (by omega)] at hx
      by_cases e1 : j = i
      · subst e1
        rw [hy] at hx; cases hx
        by_cases e2 : r = -1
        · exact .inl e2
        · exact .inr ((mem_mets _ _ _).2 (.inr ⟨hr, e2⟩))
      · rcases hc j x (by omega) hx r hr with h1 | h1
        · exact .inl h1
        · exact .inr ((mem_mets _ _ _).2 (.inl h1))
theorem May.clo {g : Graph} (h : May g) {x : Int} (hx : x ∈ Ab.order g) : ∀ r ∈ Ab.refsOf g x, r = -1 ∨ r ∈ Ab.order g := by
  obtain ⟨j, hj⟩ := List.getElem?_of_mem hx
  exact ordF_clo h g.O.length 0 _ ((Good.nil g).mets h.root) (fun j x hj => by omega) rfl j x (List.getElem?_eq_some_iff.1 hj).1 hj
theorem May.rootIn {g : Graph} (_ : May g) {r : Int} (hr : r ∈ g.Roots) : r = -1 ∨ r ∈ Ab.order g := by
  obtain ⟨s, hs⟩ := ordF_pre g g.O.length 0 (mets [] g.Roots)
  by_cases e : r = -1
  · exact .inl e
  · refine .inr ?_
    unfold Ab.order
    rw [hs]
    exact List.mem_append_left _ ((mem_mets _ _ _).2 (.inr ⟨hr, e⟩))
theorem atL_mem {l : List Int} {r : Int} (h : r = -1 ∨ r ∈ l) : ∃ p, atL l r = some p := by
  cases e : atL l r with
  | some p => exact ⟨p, rfl⟩
  | none =>
    have := atL_none.1 e
    rcases h with h | h
    · exact absurd h this.1
    · exact absurd h this.2
theorem atD_of {l : List Int} {r p : Int} (h : atL l r = some p) : atD l r = p := by simp [atD, h]
theorem May.refIn {g : Graph} (h : May g) {x : Int} {o : GObj} {t : GType} {k : Nat} {f : GField} {v : GVal} (hx : x ∈ Ab.order g) (ho : objAt g x = some o) (ht : typeAt g.S o.T = some t) (hf : t.F[k]? = some f) (hv : o.F[k]? = some v) (hk : f.Kind = 5) : v.R = -1 ∨ v.R ∈ Ab.order g := by
  refine h.clo hx v.R ?_
  unfold Ab.refsOf refsO
  rw [ho]; simp only [ht]
  unfold refsZ
  exact List.mem_filterMap.2 ⟨(f, v), List.mem_of_getElem? (List.getElem?_zip_eq_some.2 ⟨hf, hv⟩), by simp [hk]⟩
end Go.Ab
namespace Go.Ab
open Go Go.RowKit
def few06 (s : List GType) (k : Int) : Bool := allI (fun _ t => decide ((t.F.length : Int) ≤ k)) 0 s && decide ((s.length : Int) ≤ k)
def fewG (g : Graph) : Bool := ((few06 g.S 10 && decide (g.O.length ≤ 12)) && decide (g.Roots.length ≤ 10)) && allI (fun _ (o : GObj) => decide (o.F.length ≤ 10)) 0 g.O
set_option maxRecDepth 100000
end Go.Ab
namespace Go.Ab
open Go Go.RowKit
def eObjO (o : GObj) : List AV := [.int .i64 o.Id, .int .i64 o.T, .own 3 (o.F.map eVal)]
theorem frz_ObjO (n : Nat) (xs : List GObj) : (AV.own n (xs.map eObjO)).freeze = .sl n (xs.map eObj) := by
  simp only [AV.freeze, List.map_map]
  congr 1
  refine List.map_congr_left fun x _ => ?_
  simp [eObjO, eObj, AV.freeze]
  intro a _
  simp [eVal, AV.freeze]
attribute [go_sem] frz_ObjO
structure GSz (g : Graph) : Prop where
  s : g.S.length * 40 ≤ MX
  sf : ∀ x ∈ g.S, x.F.length * 40 ≤ MX
  o : g.O.length * 40 ≤ MX
  of_ : ∀ x ∈ g.O, x.F.length * 32 ≤ MX
  r : g.Roots.length * 8 ≤ MX
structure GChange where
  New : List Int
  Gone : List Int
  Set : List (Int × Int)
  Roots : List Int
def eP (p : Int × Int) : List AV := [.int .i64 p.1, .int .i64 p.2]
theorem GChange.ext_iff' (a b : GChange) : a = b ↔ a.New = b.New ∧ a.Gone = b.Gone ∧ a.Set = b.Set ∧ a.Roots = b.Roots := by
  cases a; cases b; simp
instance : DecidableEq GChange := fun a b => decidable_of_iff _ (GChange.ext_iff' a b).symm
theorem frz_P (n : Nat) (xs : List (Int × Int)) : (AV.own n (xs.map eP)).freeze = .sl n (xs.map eP) := frz_map (fun x a ha => by simp [eP] at ha; rcases ha with rfl | rfl <;> rfl) n xs
attribute [go_sem] frz_P
theorem wrap_add {a b : Nat} (h : a + b ≤ MX) : IntKind.i64.wrap ((a : Int) + (b : Int)) = ((a + b : Nat) : Int) := by
  cases a with
  | zero => cases b with
    | zero => rfl
    | succ b => have := @wrap_succ b (by omega); rw [show ((0 : Nat) : Int) + ((b + 1 : Nat) : Int) = (b : Int) + 1 by omega, this]; simp
  | succ a => have := @wrap_succ (a + b) (by omega); rw [show ((a + 1 : Nat) : Int) + (b : Int) = ((a + b : Nat) : Int) + 1 by omega, this, show a + b + 1 = a + 1 + b by omega]
theorem find_cases {α : Type} (p : α → Bool) (l : List α) : (fnd p l = -1 ∧ l.find? p = none ∧ l.findIdx? p = none) ∨ ∃ (i : Nat) (x : α), fnd p l = i ∧ l[i]? = some x ∧ l.find? p = some x ∧ l.findIdx? p = some i ∧ p x = true := by
  cases h : l.findIdx? p with
  | none =>
    left
    refine ⟨by unfold fnd; rw [h], ?_, rfl⟩
    rw [List.findIdx?_eq_none_iff] at h
    rw [List.find?_eq_none]
    intro x hx
    simp [h x hx]
  | some i =>
    right
    rw [List.findIdx?_eq_some_iff_getElem] at h
    obtain ⟨h1, h2, h3⟩ := h
    refine ⟨i, l[i], by unfold fnd; rw [List.findIdx?_eq_some_iff_getElem.2 ⟨h1, h2, h3⟩], List.getElem?_eq_getElem h1, ?_, rfl, h2⟩
    rw [List.find?_eq_some_iff_getElem]
    exact ⟨h2, i, h1, rfl, fun j hj => by have := h3 j hj; simpa using this⟩
theorem May.small {g : Graph} (h : May g) : g.S.length ≤ 4 ∧ (∀ x ∈ g.S, x.F.length ≤ 5) ∧ ∀ x ∈ g.O, x.F.length ≤ 5 := by
  have h0 := h.s
  unfold schemaMay at h0
  simp only [Bool.and_eq_true, decide_eq_true_eq] at h0
  have h1 : ∀ x ∈ g.S, x.F.length ≤ 5 := fun x hx => by
    obtain ⟨j, hj⟩ := List.getElem?_of_mem hx
    have := allI_at h0.2 hj
    unfold typeMay at this; simp at this; omega
  refine ⟨h0.1.2, h1, fun x hx => ?_⟩
  obtain ⟨j, hj⟩ := List.getElem?_of_mem hx
  obtain ⟨_, t, _, ho⟩ := h.objT hj
  have := h1 t (List.mem_of_getElem? ho.at_)
  have := ho.len
  omega
set_option maxRecDepth 100000
end Go.Ab
namespace Go.Ab
open Go Go.RowKit
def zeroV (f : GField) : GVal := if f.Kind = 5 then ⟨0, ⟨#[]⟩, -1⟩ else ⟨0, ⟨#[]⟩, 0⟩
end Go.Ab
namespace Go.Ab
open Go Go.RowKit
theorem zero_leads {g : Graph} {f : GField} (h : 0 ≤ f.Kind ∧ f.Kind < 6) : leadsB g f (zeroV f) = true := by
  unfold leadsB zeroV
  by_cases h5 : f.Kind = 5
  · simp [valFits, h5]
  · rw [if_neg h5]
    by_cases h4 : f.Kind = 4
    · simp [valFits, h4]; decide
    · have : f.Kind = 0 ∨ f.Kind = 1 ∨ f.Kind = 2 ∨ f.Kind = 3 := by omega
      rcases this with h | h | h | h <;> simp [valFits, numFits, h]
end Go.Ab
namespace Go.Ab
open Go Go.RowKit
def gReach (g : Graph) : List Int := if gMay g = true then (g.O.filter fun o => decide (o.Id ∈ order g)).map (·.Id) else []
theorem mets_least {P : Int → Prop} : ∀ (is l : List Int), (∀ x ∈ l, P x) → (∀ r ∈ is, r ≠ -1 → P r) → ∀ x ∈ mets l is, P x := by
  intro is l hl hr x hx
  rcases (mem_mets is l x).1 hx with h | ⟨h, h2⟩
  · exact hl x h
  · exact hr x h h2
theorem ordF_least {g : Graph} {P : Int → Prop} (hP : ∀ x, P x → ∀ r ∈ refsOf g x, r ≠ -1 → P r) : ∀ (n i : Nat) (l : List Int), (∀ x ∈ l, P x) → ∀ x ∈ ordF g n i l, P x
  | 0, _, _, hl => hl
  | n + 1, i, l, hl => by
    unfold ordF
    split
    · exact hl
    · rename_i y hy
      exact ordF_least hP n _ _ (mets_least _ _ hl (hP y (hl y (List.mem_of_getElem? hy))))
theorem May.pw {g : Graph} (h : May g) : (g.O.map (·.Id)).Pairwise (· < ·) := by
  rw [List.pairwise_iff_getElem]
  intro i j hi hj hij
  simp only [List.length_map] at hi hj
  have := (h.ids j g.O[j] (List.getElem?_eq_getElem hj)).2 i g.O[i] hij (List.getElem?_eq_getElem hi)
  simpa using this
theorem gReach_pw {g : Graph} (h : May g) : (gReach g).Pairwise (· < ·) := by
  unfold gReach
  rw [if_pos ((may_iff g).2 h)]
  exact List.Pairwise.sublist ((List.filter_sublist).map _) h.pw
theorem mem_gReach {g : Graph} (h : May g) (x : Int) : x ∈ gReach g ↔ x ∈ order g := by
  unfold gReach
  rw [if_pos ((may_iff g).2 h)]
  constructor
  · intro hx
    obtain ⟨o, ho, rfl⟩ := List.mem_map.1 hx
    simpa using (List.mem_filter.1 ho).2
  · intro hx
    cases ht : typ g.O x with
    | none => have := h.order.ids x hx; rw [ht] at this; cases this
    | some t =>
      obtain ⟨o, ho, rfl, _⟩ := typ_some ht
      exact List.mem_map.2 ⟨o, List.mem_filter.2 ⟨ho, by simpa using hx⟩, rfl⟩
end Go.Ab
namespace Go.Ab
open Go Go.RowKit
theorem prevId_lt {l : List GObj} (hp : (l.map (·.Id)).Pairwise (· < ·)) (h0 : ∀ x ∈ l, 0 ≤ x.Id) {i : Nat} {x : GObj} (hx : l[i]? = some x) : prevId l i < x.Id := by
  obtain ⟨hl, e⟩ := List.getElem?_eq_some_iff.1 hx
  cases i with
  | zero => have := h0 x (List.mem_of_getElem? hx); simp only [prevId]; omega
  | succ i =>
    have hz : l[i]? = some l[i] := List.getElem?_eq_getElem (by omega)
    simp only [prevId, hz]
    have := List.pairwise_iff_getElem.1 hp i (i + 1) (by simp; omega) (by simpa using hl) (by omega)
    simpa [e] using this
theorem May.of {g : Graph} (hS : schemaMay g.S = true) (ho : g.O.length ≤ 8) (hr : g.Roots.length ≤ 3) (hp : (g.O.map (·.Id)).Pairwise (· < ·)) (hb : ∀ x ∈ g.O, 0 ≤ x.Id ∧ x.Id ≤ 1073741824)
    (ht : ∀ x ∈ g.O, ∃ t, typeAt g.S x.T = some t ∧ x.F.length = t.F.length ∧ ∀ (k : Nat) (f : GField) (v : GVal), t.F[k]? = some f → x.F[k]? = some v → leadsB g f v = true) (hroot : ∀ r ∈ g.Roots, rootB g r = true) : May g := by
  refine ⟨hS, ho, hr, fun i x hx => ?_, hroot⟩
  have hm := List.mem_of_getElem? hx
  obtain ⟨t, h1, h2, h3⟩ := ht x hm
  unfold objectB
  simp only [Bool.and_eq_true, decide_eq_true_eq, h1]
  refine ⟨⟨prevId_lt hp (fun x hx => (hb x hx).1) hx, (hb x hm).2⟩, h2, allI_yes fun j v hv => ?_⟩
  rw [Nat.zero_add]
  have hjl : j < t.F.length := by have := (List.getElem?_eq_some_iff.1 hv).1; omega
  unfold leadsAt
  rw [List.getElem?_eq_getElem hjl]
  exact h3 j _ v (List.getElem?_eq_getElem hjl) hv
theorem May.objM {g : Graph} (h : May g) {x : GObj} (hx : x ∈ g.O) : ∃ t, typeAt g.S x.T = some t ∧ MayO g x t := by
  obtain ⟨i, hi⟩ := List.getElem?_of_mem hx
  exact (h.objT hi).2
theorem typ_isSome {l : List GObj} {i : Int} : (typ l i).isSome = true ↔ ∃ o ∈ l, o.Id = i := by
  constructor
  · intro h
    obtain ⟨t, ht⟩ := Option.isSome_iff_exists.1 h
    obtain ⟨o, ho, e, _⟩ := typ_some ht
    exact ⟨o, ho, e⟩
  · rintro ⟨o, ho, rfl⟩; exact typ_mem ho
theorem typ_congr : ∀ {l l' : List GObj}, l.map (fun o => (o.Id, o.T)) = l'.map (fun o => (o.Id, o.T)) → ∀ i, typ l i = typ l' i
  | [], [], _, _ => rfl
  | [], _ :: _, h, _ => by simp at h
  | _ :: _, [], h, _ => by simp at h
  | x :: l, y :: l', h, i => by
    simp only [List.map_cons, List.cons.injEq, Prod.mk.injEq] at h
    simp only [typ, typ_congr h.2 i, h.1.1, h.1.2]
theorem rootB_congr {g a : Graph} (ht : ∀ i, typ a.O i = typ g.O i) (r : Int) : rootB a r = rootB g r := by unfold rootB; rw [ht]
def swO (g : Graph) : Graph := ⟨g.S, g.O.filter fun o => decide (o.Id ∈ order g), g.Roots⟩
theorem uniq_typ : ∀ {l : List GObj}, (l.map (·.Id)).Nodup → ∀ {o : GObj}, o ∈ l → typ l o.Id = some o.T
  | x :: l, hn, o, ho => by
    simp only [List.map_cons, List.nodup_cons] at hn
    simp only [typ]
    rcases List.mem_cons.1 ho with rfl | ho
    · cases h : typ l o.Id with
      | none => simp
      | some t =>
        obtain ⟨y, hy, e, _⟩ := typ_some h
        exact absurd (e ▸ List.mem_map_of_mem hy) hn.1
    · rw [uniq_typ hn.2 ho]
theorem swO_typ {g : Graph} (h : May g) {i : Int} (hi : i ∈ order g) : typ (swO g).O i = typ g.O i := by
  cases ht : typ g.O i with
  | none => have := h.order.ids i hi; rw [ht] at this; cases this
  | some t =>
    obtain ⟨o, ho, rfl, rfl⟩ := typ_some ht
    have : (swO g).O.map (·.Id) = (g.O.filter fun o => decide (o.Id ∈ order g)).map (·.Id) := rfl
    exact uniq_typ ((List.Pairwise.sublist ((List.filter_sublist).map _) h.pw).imp (fun h e => by omega)) (List.mem_filter.2 ⟨ho, by simpa using hi⟩)
theorem swO_may {g : Graph} (h : May g) : May (swO g) := by
  have hin : ∀ {x : GObj}, x ∈ (swO g).O → x ∈ g.O ∧ x.Id ∈ order g := fun {x} hx => by
    have := List.mem_filter.1 hx
    exact ⟨this.1, by simpa using this.2⟩
  refine May.of h.s ?_ h.r (List.Pairwise.sublist ((List.filter_sublist).map _) h.pw) (fun x hx => ?_) (fun x hx => ?_) (fun r hr => ?_)
  · exact Nat.le_trans (List.length_filter_le _ _) h.o
  · obtain ⟨t, _, ho⟩ := h.objM (hin hx).1
    exact ⟨h.pos (hin hx).1, ho.id⟩
  · obtain ⟨h1, h2⟩ := hin hx
    obtain ⟨t, ht, ho⟩ := h.objM h1
    refine ⟨t, ht, ho.len, fun k f v hf hv => ?_⟩
    have hl := ho.lead k f v hf hv
    by_cases hk : f.Kind = 5
    · rcases h.refIn h2 (h.mem h1) ht hf hv hk with e | e
      · unfold leadsB at hl ⊢
        simp only [Bool.and_eq_true] at hl ⊢
        exact ⟨hl.1, by simp [e]⟩
      · unfold leadsB at hl ⊢
        rw [swO_typ h e]
        exact hl
    · unfold leadsB at hl ⊢
      simp only [Bool.and_eq_true] at hl ⊢
      exact ⟨hl.1, by simp [hk]⟩
  · unfold rootB
    rcases h.rootIn hr with e | e
    · simp [e]
    · rw [swO_typ h e, h.order.ids r e]; simp
theorem swO_obj {g : Graph} (h : May g) {i : Int} (hi : i ∈ order g) : objAt (swO g) i = objAt g i := by
  cases ht : typ g.O i with
  | none => have := h.order.ids i hi; rw [ht] at this; cases this
  | some t =>
    obtain ⟨o, ho, rfl, rfl⟩ := typ_some ht
    rw [h.mem ho, (swO_may h).mem (List.mem_filter.2 ⟨ho, by simpa using hi⟩)]
theorem swO_refs {g : Graph} (h : May g) {i : Int} (hi : i ∈ order g) : refsOf (swO g) i = refsOf g i := by
  unfold refsOf
  rw [swO_obj h hi]
  rfl
theorem swO_len {g : Graph} (h : May g) : (swO g).O.length = (gReach g).length := by
  unfold gReach swO
  rw [if_pos ((may_iff g).2 h), List.length_map]
end Go.Ab
namespace Go.Ab
set_option maxRecDepth 100000
end Go.Ab
namespace Go.Ab
open Go Go.RowKit
theorem atL_at {l : List Int} {x : Int} (hx : x ≠ -1) (hm : x ∈ l) : ∃ n : Nat, atL l x = some (n : Int) ∧ l[n]? = some x := by
  unfold atL
  rw [if_neg hx]
  cases h : l.findIdx? (fun y => decide (y = x)) with
  | none =>
    rw [List.findIdx?_eq_none_iff] at h
    have := h x hm
    simp at this
  | some n =>
    rw [List.findIdx?_eq_some_iff_getElem] at h
    obtain ⟨h1, h2, _⟩ := h
    refine ⟨n, rfl, ?_⟩
    rw [List.getElem?_eq_getElem h1]
    simp at h2; rw [h2]
theorem atD_none (l : List Int) : atD l (-1) = -1 := by simp [atD, atL]
end Go.Ab
namespace Go.Ab
open Go Go.RowKit
theorem canonL_get (g : Graph) (l : List Int) : ∀ (is : List Int) (k i : Nat) (x : Int), is[i]? = some x → (canonL g l k is)[i]? = some (canonO g l (k + i) x)
  | [], _, i, x, h => by simp at h
  | y :: is, k, 0, x, h => by simp at h; subst h; simp [canonL]
  | y :: is, k, i + 1, x, h => by
    simp only [canonL, List.getElem?_cons_succ]
    rw [canonL_get g l is (k + 1) i x (by simpa using h)]
    rw [show k + 1 + i = k + (i + 1) by omega]
theorem canonO_of {g : Graph} {l : List Int} {k : Nat} {x : Int} {o : GObj} {t : GType} (h1 : objAt g x = some o) (h2 : typeAt g.S o.T = some t) : canonO g l k x = ⟨k, o.T, List.zipWith (canonV l) t.F o.F⟩ := by
  unfold canonO; rw [h1]; simp only [h2]
theorem May.nonneg {g : Graph} (h : May g) {x : Int} (hx : x ∈ Ab.order g) : 0 ≤ x := by
  obtain ⟨p, o, hp, e1, _⟩ := h.find (h.order.ids x hx)
  have := h.pos (List.mem_of_getElem? hp); omega
end Go.Ab
namespace Go.Ab
open Go Go.RowKit
def renV (ρ : Int → Int) (f : GField) (v : GVal) : GVal := if f.Kind = 5 then { v with R := ρ v.R } else v
structure Ren (g h : Graph) (ρ : Int → Int) : Prop where
  mg : May g
  mh : May h
  S : h.S = g.S
  len : h.O.length = g.O.length
  neg : ρ (-1) = -1
  inj : ∀ x y, rootB g x = true → rootB g y = true → ρ x = ρ y → x = y
  obj : ∀ (x : Int) (o : GObj) (t : GType), objAt g x = some o → typeAt g.S o.T = some t → objAt h (ρ x) = some ⟨ρ x, o.T, List.zipWith (renV ρ) t.F o.F⟩
  roots : h.Roots = g.Roots.map ρ
theorem refsZ_ren (ρ : Int → Int) : ∀ (fs : List GField) (vs : List GVal), refsZ (fs.zip (List.zipWith (renV ρ) fs vs)) = (refsZ (fs.zip vs)).map ρ
  | [], _ => rfl
  | _ :: _, [] => rfl
  | f :: fs, v :: vs => by
    have ih := refsZ_ren ρ fs vs
    unfold refsZ at ih ⊢
    simp only [List.zipWith_cons_cons, List.zip_cons_cons, List.filterMap_cons]
    by_cases hk : f.Kind = 5
    · simp only [hk, if_true, renV, List.map_cons, ih]
    · simp only [hk, if_false, ih]
theorem canonV_ren (ρ : Int → Int) (l l' : List Int) (fs : List GField) : ∀ (vs : List GVal), (∀ r ∈ refsZ (fs.zip vs), atD l' (ρ r) = atD l r) → List.zipWith (canonV l') fs (List.zipWith (renV ρ) fs vs) = List.zipWith (canonV l) fs vs := by
  induction fs with
  | nil => intro vs _; rfl
  | cons f fs ih =>
    intro vs h
    cases vs with
    | nil => rfl
    | cons v vs =>
      simp only [List.zipWith_cons_cons]
      have h2 : ∀ r ∈ refsZ (fs.zip vs), atD l' (ρ r) = atD l r := fun r hr => h r (by
        unfold refsZ at hr ⊢
        simp only [List.zip_cons_cons, List.filterMap_cons]
        split
        · exact hr
        · exact List.mem_cons_of_mem _ hr)
      rw [ih vs h2]
      congr 1
      unfold canonV renV
      by_cases hk : f.Kind = 5
      · simp only [hk, if_true]
        rw [h v.R (by unfold refsZ; simp [hk])]
      · simp only [hk, if_false]
section
variable {g h : Graph} {ρ : Int → Int}
theorem Ren.minus (R : Ren g h ρ) {x : Int} (hx : rootB g x = true) : ρ x = -1 ↔ x = -1 := by
  constructor
  · intro e; exact R.inj x (-1) hx (by simp [rootB]) (by rw [e, R.neg])
  · intro e; rw [e, R.neg]
theorem Ren.refs (R : Ren g h ρ) {x : Int} (hx : (typ g.O x).isSome = true) : refsOf h (ρ x) = (refsOf g x).map ρ := by
  obtain ⟨p, o, hp, _, _, hA, _⟩ := R.mg.find hx
  obtain ⟨_, t, hT, _⟩ := R.mg.objT hp
  unfold refsOf refsO
  rw [R.obj x o t hA hT, hA]
  simp only [R.S, hT]
  exact refsZ_ren ρ t.F o.F
theorem Ren.mem (R : Ren g h ρ) {l : List Int} (hl : Good g l) {x : Int} (hx : rootB g x = true) : ρ x ∈ l.map ρ ↔ x ∈ l := by
  constructor
  · intro hm
    obtain ⟨y, hy, e⟩ := List.mem_map.1 hm
    have := R.inj y x (by unfold rootB; rw [hl.ids y hy]; simp) hx e
    exact this ▸ hy
  · exact fun hm => List.mem_map_of_mem hm
theorem Ren.meet (R : Ren g h ρ) {l : List Int} (hl : Good g l) {x : Int} (hx : rootB g x = true) : Ab.meet (l.map ρ) (ρ x) = (Ab.meet l x).map ρ := by
  unfold Ab.meet
  by_cases h1 : x = -1 ∨ x ∈ l
  · rw [if_pos h1, if_pos (by rw [R.minus hx, R.mem hl hx]; exact h1)]
  · rw [if_neg h1, if_neg (by rw [R.minus hx, R.mem hl hx]; exact h1)]; simp
theorem Ren.mets (R : Ren g h ρ) : ∀ {is l : List Int}, Good g l → (∀ i ∈ is, rootB g i = true) → Ab.mets (l.map ρ) (is.map ρ) = (Ab.mets l is).map ρ
  | [], l, _, _ => rfl
  | i :: is, l, hl, hi => by
    have h1 := hi i List.mem_cons_self
    show Ab.mets (Ab.meet (l.map ρ) (ρ i)) (is.map ρ) = (Ab.mets (Ab.meet l i) is).map ρ
    rw [R.meet hl h1]
    exact Ren.mets R (hl.meet h1) fun j hj => hi j (List.mem_cons_of_mem _ hj)
theorem Ren.ordF (R : Ren g h ρ) : ∀ (n i : Nat) {l : List Int}, Good g l → Ab.ordF h n i (l.map ρ) = (Ab.ordF g n i l).map ρ
  | 0, _, _, _ => rfl
  | n + 1, i, l, hl => by
    unfold Ab.ordF
    rw [List.getElem?_map]
    cases hx : l[i]? with
    | none => rfl
    | some x =>
      simp only [Option.map_some]
      rw [R.refs (hl.ids x (List.mem_of_getElem? hx)), R.mets hl (R.mg.refsOf x)]
      exact Ren.ordF R n (i + 1) (hl.mets (R.mg.refsOf x))
theorem Ren.order (R : Ren g h ρ) : Ab.order h = (Ab.order g).map ρ := by
  unfold Ab.order
  rw [R.len, R.roots, show ([] : List Int) = [].map ρ from rfl, R.mets (Good.nil g) R.mg.root]
  exact R.ordF _ _ ((Good.nil g).mets R.mg.root)
theorem Ren.atL (R : Ren g h ρ) {x : Int} (hx : rootB g x = true) : ∀ {l : List Int}, (∀ y ∈ l, (typ g.O y).isSome = true) → Ab.atL (l.map ρ) (ρ x) = Ab.atL l x := by
  intro l hl
  unfold Ab.atL
  by_cases h1 : x = -1
  · rw [if_pos h1, if_pos ((R.minus hx).2 h1)]
  · rw [if_neg h1, if_neg (fun e => h1 ((R.minus hx).1 e))]
    congr 1
    rw [List.findIdx?_map]
    have : ∀ (l : List Int), (∀ y ∈ l, (typ g.O y).isSome = true) → l.findIdx? ((fun y => decide (y = ρ x)) ∘ ρ) = l.findIdx? (fun y => decide (y = x)) := by
      intro l
      induction l with
      | nil => intro _; rfl
      | cons y l ih =>
        intro hl
        rw [List.findIdx?_cons, List.findIdx?_cons, ih fun z hz => hl z (List.mem_cons_of_mem _ hz)]
        have : ((fun y => decide (y = ρ x)) ∘ ρ) y = decide (y = x) := by
          simp only [Function.comp, decide_eq_decide]
          exact ⟨fun e => R.inj y x (by unfold rootB; rw [hl y List.mem_cons_self]; simp) hx e, fun e => by rw [e]⟩
        rw [this]
    exact this l hl
theorem Ren.atD (R : Ren g h ρ) {x : Int} (hx : rootB g x = true) : Ab.atD (Ab.order h) (ρ x) = Ab.atD (Ab.order g) x := by
  unfold Ab.atD
  rw [R.order, R.atL hx R.mg.order.ids]
theorem Ren.canonO (R : Ren g h ρ) (k : Nat) {x : Int} (hx : (typ g.O x).isSome = true) : Ab.canonO h (Ab.order h) k (ρ x) = Ab.canonO g (Ab.order g) k x := by
  obtain ⟨p, o, hp, _, _, hA, _⟩ := R.mg.find hx
  obtain ⟨_, t, hT, hmo⟩ := R.mg.objT hp
  rw [canonO_of hA hT, canonO_of (R.obj x o t hA hT) (t := t) (by rw [R.S]; exact hT)]
  congr 1
  exact canonV_ren ρ _ _ t.F o.F fun r hr => R.atD (hmo.refs r hr)
theorem Ren.canonL (R : Ren g h ρ) : ∀ (k : Nat) (is : List Int), (∀ y ∈ is, (typ g.O y).isSome = true) → Ab.canonL h (Ab.order h) k (is.map ρ) = Ab.canonL g (Ab.order g) k is
  | _, [], _ => rfl
  | k, i :: is, hi => by
    simp only [List.map_cons, Ab.canonL]
    rw [R.canonO k (hi i List.mem_cons_self), Ren.canonL R (k + 1) is fun y hy => hi y (List.mem_cons_of_mem _ hy)]
theorem Ren.canonG (R : Ren g h ρ) : Ab.canonG h = Ab.canonG g := by
  have e1 : Ab.canonL h (Ab.order h) 0 (Ab.order h) = Ab.canonL g (Ab.order g) 0 (Ab.order g) := by
    have := R.canonL 0 (Ab.order g) R.mg.order.ids
    rw [← R.order] at this
    exact this
  have e2 : h.Roots.map (Ab.atD (Ab.order h)) = g.Roots.map (Ab.atD (Ab.order g)) := by
    rw [R.roots, List.map_map]
    refine List.map_congr_left fun r hr => ?_
    exact R.atD (R.mg.root r hr)
  unfold Ab.canonG
  rw [e1, e2, R.S]
end
end Go.Ab
namespace Go.Ab
open Go Go.RowKit
structure RenOf (g h : Graph) (ρ : Int → Int) : Prop where
  mg : May g
  S : h.S = g.S
  len : h.O.length = g.O.length
  neg : ρ (-1) = -1
  inj : ∀ x y, rootB g x = true → rootB g y = true → ρ x = ρ y → x = y
  b : ∀ x, (typ g.O x).isSome = true → 0 ≤ ρ x ∧ ρ x ≤ 1073741824
  pw : (h.O.map (·.Id)).Pairwise (· < ·)
  mem : ∀ (x : Int) (o : GObj) (t : GType), objAt g x = some o → typeAt g.S o.T = some t → (⟨ρ x, o.T, List.zipWith (renV ρ) t.F o.F⟩ : GObj) ∈ h.O
  onto : ∀ y ∈ h.O, ∃ (x : Int) (o : GObj) (t : GType), objAt g x = some o ∧ typeAt g.S o.T = some t ∧ y = ⟨ρ x, o.T, List.zipWith (renV ρ) t.F o.F⟩
  roots : h.Roots = g.Roots.map ρ
theorem objAt_some {g : Graph} {x : Int} {o : GObj} (h : objAt g x = some o) : o ∈ g.O ∧ o.Id = x := by
  unfold objAt at h
  exact ⟨List.mem_of_find?_eq_some h, by simpa using List.find?_some h⟩
section
variable {g h : Graph} {ρ : Int → Int}
theorem RenOf.typ (R : RenOf g h ρ) {x t : Int} (hx : Ab.typ g.O x = some t) : Ab.typ h.O (ρ x) = some t := by
  obtain ⟨p, o, hp, _, _, hA, hT⟩ := R.mg.find (show (Ab.typ g.O x).isSome = true by rw [hx]; rfl)
  rw [hx] at hT; cases hT
  obtain ⟨_, t, ht, _⟩ := R.mg.objT hp
  exact uniq_typ (R.pw.imp fun h e => by omega) (R.mem x o t hA ht)
theorem RenOf.may (R : RenOf g h ρ) : May h := by
  have hm := R.mg
  refine May.of (by rw [R.S]; exact hm.s) (by rw [R.len]; exact hm.o) (by rw [R.roots, List.length_map]; exact hm.r) R.pw (fun y hy => ?_) (fun y hy => ?_) (fun r hr => ?_)
  · obtain ⟨x, o, t, h1, _, rfl⟩ := R.onto y hy
    obtain ⟨h3, rfl⟩ := objAt_some h1
    exact R.b _ (typ_mem h3)
  · obtain ⟨x, o, t, h1, h2, rfl⟩ := R.onto y hy
    obtain ⟨h3, rfl⟩ := objAt_some h1
    obtain ⟨t', h4, ho⟩ := hm.objM h3
    rw [h2] at h4; cases h4
    refine ⟨t, by rw [R.S]; exact h2, by simp [ho.len], fun k f w hf hw => ?_⟩
    rw [List.getElem?_zipWith_eq_some] at hw
    obtain ⟨f', v, h5, h6, rfl⟩ := hw
    rw [hf] at h5; cases h5
    have hl := ho.lead k f v hf h6
    unfold leadsB at hl ⊢
    unfold renV
    by_cases hk : f.Kind = 5
    · simp only [hk, if_true]
      simp only [hk, decide_true, Bool.not_true, Bool.false_or, Bool.and_eq_true, Bool.or_eq_true, decide_eq_true_eq] at hl ⊢
      obtain ⟨h7, h8⟩ := hl
      have hR : -1 ≤ ρ v.R ∧ ρ v.R ≤ 1073741824 := by
        rcases h8 with h8 | h8
        · rw [h8, R.neg]; omega
        · cases ht : Ab.typ g.O v.R with
          | none => rw [ht] at h8; cases h8
          | some u => have := R.b v.R (by rw [ht]; rfl); omega
      refine ⟨?_, ?_⟩
      · unfold valFits at h7 ⊢
        simp only [hk] at h7 ⊢
        simp at h7 ⊢
        exact ⟨hR, h7.2⟩
      · rcases h8 with h8 | h8
        · left; rw [h8, R.neg]
        · right
          cases ht : Ab.typ g.O v.R with
          | none => rw [ht] at h8; cases h8
          | some u => rw [R.typ ht, R.S]; rw [ht] at h8; exact h8
    · simp only [hk, if_false] at hl ⊢
      simp only [decide_false, Bool.not_false, Bool.true_or, Bool.and_true] at hl ⊢
      exact hl
  · rw [R.roots] at hr
    obtain ⟨x, hx, rfl⟩ := List.mem_map.1 hr
    have h1 := hm.root x hx
    unfold rootB at h1 ⊢
    simp only [Bool.or_eq_true, decide_eq_true_eq] at h1 ⊢
    rcases h1 with h1 | h1
    · left; rw [h1, R.neg]
    · right
      obtain ⟨t, ht⟩ := Option.isSome_iff_exists.1 h1
      rw [R.typ ht]; rfl
theorem RenOf.ren (R : RenOf g h ρ) : Ren g h ρ where
  mg := R.mg
  mh := R.may
  S := R.S
  len := R.len
  neg := R.neg
  inj := R.inj
  obj := fun x o t h1 h2 => R.may.mem (R.mem x o t h1 h2)
  roots := R.roots
end
theorem ordF_fuel (g : Graph) : ∀ (n k i : Nat) (l : List Int), (ordF g n i l).length ≤ i + n → ordF g (n + k) i l = ordF g n i l
  | 0, k, i, l, h => by
    simp only [ordF] at h ⊢
    cases k with
    | zero => rfl
    | succ k =>
      simp only [Nat.zero_add, ordF]
      rw [List.getElem?_eq_none (by omega)]
  | n + 1, k, i, l, h => by
    rw [show n + 1 + k = (n + k) + 1 by omega]
    simp only [ordF] at h ⊢
    cases hx : l[i]? with
    | none => rfl
    | some x =>
      simp only [hx] at h ⊢
      exact ordF_fuel g n k (i + 1) _ (by omega)
theorem ordF_refs {g a : Graph} : ∀ (n i : Nat) (l : List Int), (∀ x ∈ ordF g n i l, refsOf a x = refsOf g x) → ordF a n i l = ordF g n i l
  | 0, _, _, _ => rfl
  | n + 1, i, l, h => by
    simp only [ordF] at h ⊢
    cases hx : l[i]? with
    | none => rfl
    | some x =>
      simp only [hx] at h ⊢
      obtain ⟨s, hs⟩ := ordF_pre g n (i + 1) (mets l (refsOf g x))
      obtain ⟨s', hs'⟩ := mets_pre l (refsOf g x)
      have hxm : x ∈ ordF g n (i + 1) (mets l (refsOf g x)) := by
        rw [hs, hs']; exact List.mem_append_left _ (List.mem_append_left _ (List.mem_of_getElem? hx))
      rw [h x hxm]
      exact ordF_refs n (i + 1) _ h
theorem reach_len {g : Graph} (h : May g) : (gReach g).length = (order g).length :=
  Nat.le_antisymm (nodup_len _ _ ((gReach_pw h).imp fun h e => by omega) fun x hx => (mem_gReach h x).1 hx) (nodup_len _ _ h.order.nodup fun x hx => (mem_gReach h x).2 hx)
theorem swO_ord {g : Graph} (h : May g) : order (swO g) = order g := by
  have hs := swO_may h
  have hm : (swO g).O.length = (order g).length := by rw [swO_len h, reach_len h]
  have h1 : ordF (swO g) (swO g).O.length 0 (mets [] g.Roots) = ordF g (swO g).O.length 0 (mets [] g.Roots) := ordF_refs _ _ _ fun x hx =>
    swO_refs h (ordF_least (g := g) (P := (· ∈ order g)) (fun y hy r hr hn => (h.clo hy r hr).resolve_left hn) _ _ _ (mets_least _ _ (fun x hx => by cases hx) fun r hr hn => (h.rootIn hr).resolve_left hn) x hx)
  have hg : (ordF g (swO g).O.length 0 (mets [] g.Roots)).length ≤ 0 + (swO g).O.length := by
    rw [← h1, Nat.zero_add]
    exact (hs.order).len
  have hle : (swO g).O.length ≤ g.O.length := List.length_filter_le _ _
  obtain ⟨k, hk⟩ : ∃ k, g.O.length = (swO g).O.length + k := ⟨g.O.length - (swO g).O.length, by omega⟩
  have h2 : order g = ordF g (swO g).O.length 0 (mets [] g.Roots) := by
    unfold order
    rw [hk]
    exact ordF_fuel g _ k 0 _ hg
  rw [h2, ← h1]
  rfl
theorem swO_canonL {g : Graph} (h : May g) : ∀ (k : Nat) (is : List Int), (∀ x ∈ is, x ∈ order g) → canonL (swO g) (order g) k is = canonL g (order g) k is
  | _, [], _ => rfl
  | k, i :: is, hi => by
    simp only [canonL]
    rw [swO_canonL h (k + 1) is fun x hx => hi x (List.mem_cons_of_mem _ hx)]
    congr 1
    unfold canonO
    rw [swO_obj h (hi i List.mem_cons_self)]
    rfl
theorem swO_canon {g : Graph} (h : May g) : canonG (swO g) = canonG g := by
  unfold canonG
  rw [swO_ord h, swO_canonL h 0 _ fun x hx => hx]
  rfl
theorem canonL_ids (g : Graph) (l : List Int) : ∀ (k : Nat) (is : List Int), (canonL g l k is).map (·.Id) = (List.range' k is.length).map fun (n : Nat) => (n : Int)
  | _, [] => rfl
  | k, i :: is => by
    simp only [canonL, List.map_cons, List.length_cons, List.range'_succ, canonL_ids g l (k + 1) is]
    congr 1
    unfold canonO
    split <;> rfl
theorem atD_mem {l : List Int} {x : Int} (hx : x ∈ l) (h : x ≠ -1) : ∃ n : Nat, atD l x = n ∧ l[n]? = some x := by
  obtain ⟨n, h1, h2⟩ := atL_at h hx
  exact ⟨n, atD_of h1, h2⟩
theorem canon_renOf {g : Graph} (h : May g) : RenOf (swO g) (canonG g) (atD (order g)) := by
  have hs := swO_may h
  have hin : ∀ {x : Int}, (typ (swO g).O x).isSome = true → x ∈ order g := fun {x} hx => by
    obtain ⟨o, ho, rfl⟩ := typ_isSome.1 hx
    simpa using (List.mem_filter.1 ho).2
  have hne : ∀ {x : Int}, x ∈ order g → x ≠ -1 := fun {x} hx => by have := h.nonneg hx; omega
  have ol : (order g).length ≤ 8 := Nat.le_trans h.order.len h.o
  have hobj : ∀ {n : Nat} {x : Int}, (order g)[n]? = some x → ∀ (o : GObj) (t : GType), objAt g x = some o → typeAt g.S o.T = some t → (canonG g).O[n]? = some ⟨n, o.T, List.zipWith (canonV (order g)) t.F o.F⟩ := fun {n x} hn o t h1 h2 => by
    show (canonL g (order g) 0 (order g))[n]? = _
    rw [canonL_get g (order g) (order g) 0 n x hn, Nat.zero_add, canonO_of h1 h2]
  refine ⟨hs, rfl, ?_, atD_none _, fun x y hx hy e => ?_, fun x hx => ?_, ?_, fun x o t h1 h2 => ?_, fun y hy => ?_, rfl⟩
  · show (canonL g (order g) 0 (order g)).length = _
    rw [canonL_len, swO_len h, reach_len h]
  · have hcase : ∀ {z : Int}, rootB (swO g) z = true → z = -1 ∨ z ∈ order g := fun {z} hz => by
      unfold rootB at hz
      simp only [Bool.or_eq_true, decide_eq_true_eq] at hz
      exact hz.imp id hin
    rcases hcase hx with rfl | hx <;> rcases hcase hy with rfl | hy
    · rfl
    · obtain ⟨n, h1, h2⟩ := atD_mem hy (hne hy)
      rw [atD_none, h1] at e; omega
    · obtain ⟨n, h1, h2⟩ := atD_mem hx (hne hx)
      rw [atD_none, h1] at e; omega
    · obtain ⟨n, h1, h2⟩ := atD_mem hx (hne hx)
      obtain ⟨m, h3, h4⟩ := atD_mem hy (hne hy)
      rw [h1, h3] at e
      have : n = m := by omega
      subst this
      rw [h2] at h4; cases h4; rfl
  · obtain ⟨n, h1, h2⟩ := atD_mem (hin hx) (hne (hin hx))
    have := (List.getElem?_eq_some_iff.1 h2).1
    rw [h1]; omega
  · show ((canonL g (order g) 0 (order g)).map (·.Id)).Pairwise (· < ·)
    rw [canonL_ids, List.pairwise_map]
    exact (List.pairwise_lt_range' ..).imp fun h => by omega
  · have hx : x ∈ order g := by
      obtain ⟨h3, rfl⟩ := objAt_some h1
      exact hin (typ_mem h3)
    obtain ⟨n, h3, h4⟩ := atD_mem hx (hne hx)
    rw [swO_obj h hx] at h1
    have := hobj h4 o t h1 h2
    rw [h3]
    exact List.mem_of_getElem? this
  · obtain ⟨n, hn⟩ := List.getElem?_of_mem hy
    have hnl : n < (order g).length := by
      have := (List.getElem?_eq_some_iff.1 hn).1
      have e : (canonG g).O.length = (order g).length := canonL_len _ _ _ _
      omega
    obtain ⟨x, hx⟩ : ∃ x, (order g)[n]? = some x := ⟨(order g)[n], List.getElem?_eq_getElem hnl⟩
    have hxm := List.mem_of_getElem? hx
    obtain ⟨p, o, hp, _, _, hA, _⟩ := h.find (h.order.ids x hxm)
    obtain ⟨_, t, ht, _⟩ := h.objT hp
    have h5 := hobj hx o t hA ht
    rw [hn] at h5
    cases h5
    refine ⟨x, o, t, by rw [swO_obj h hxm]; exact hA, ht, ?_⟩
    obtain ⟨m, h6, h7⟩ := atD_mem hxm (hne hxm)
    have : m = n := by
      have h8 := (List.getElem?_eq_some_iff.1 h7)
      have h9 := (List.getElem?_eq_some_iff.1 hx)
      have hpw := List.pairwise_iff_getElem.1 h.order.nodup
      rcases Nat.lt_trichotomy m n with hl | hl | hl
      · exact absurd (h8.2.trans h9.2.symm) (hpw m n h8.1 h9.1 hl)
      · exact hl
      · exact absurd (h9.2.trans h8.2.symm) (hpw n m h9.1 h8.1 hl)
    rw [h6, this]
    rfl
theorem canon_may {g : Graph} (h : May g) : May (canonG g) := (canon_renOf h).may
theorem canon_canon {g : Graph} (h : May g) : canonG (canonG g) = canonG g := by rw [(canon_renOf h).ren.canonG, swO_canon h]
theorem canon_reach {g : Graph} (h : May g) : (gReach (canonG g)).length = (order g).length := by
  rw [reach_len (canon_may h), (canon_renOf h).ren.order, List.length_map, swO_ord h]
end Go.Ab
namespace Go.Ab
open Go Go.RowKit
theorem gCanon_of {g : Graph} (hm : gMay g = true) : gCanon g = canonG g := by unfold gCanon; rw [if_pos hm]
theorem once_facts {g : Graph} (hm : gMay g = true) : gMay (gCanon g) = true ∧ gCanon (gCanon g) = gCanon g ∧ (gOrder g).length = (gReach g).length ∧ (gCanon g).O.length = (gOrder g).length ∧ gIso g (gCanon g) = true ∧
    (gReach (gCanon g)).length = (gCanon g).O.length ∧ (∀ (i : Nat) (x : Int), (gOrder g)[i]? = some x → x ∈ gReach g) ∧ (∀ (i : Nat) (o : GObj), (gCanon g).O[i]? = some o → o.Id = i) ∧ (gOrder g).length ≤ 8 := by
  have h := (may_iff g).1 hm
  have hmc : gMay (canonG g) = true := (may_iff _).2 (canon_may h)
  have ho : gOrder g = order g := by unfold gOrder; rw [if_pos hm]
  have hl : (canonG g).O.length = (order g).length := canonL_len _ _ _ _
  have hcc : gCanon (canonG g) = canonG g := by rw [gCanon_of hmc, canon_canon h]
  rw [gCanon_of hm, ho]
  refine ⟨hmc, hcc, (reach_len h).symm, hl, ?_, by rw [canon_reach h, hl], fun i x hx => (mem_gReach h x).2 (List.mem_of_getElem? hx), fun i o hi => ?_, Nat.le_trans h.order.len h.o⟩
  · unfold gIso; rw [hm, hmc, gCanon_of hm, hcc]; simp
  · have h1 : ((canonG g).O.map (·.Id))[i]? = some o.Id := by rw [List.getElem?_map, hi]; rfl
    have h2 : (canonG g).O.map (·.Id) = _ := canonL_ids g (order g) 0 (order g)
    rw [h2, List.getElem?_map, Option.map_eq_some_iff] at h1
    obtain ⟨n, h3, h4⟩ := h1
    have h5 := (List.getElem?_eq_some_iff.1 h3).2
    simp at h5
    omega
end Go.Ab
namespace Go.Ab
open Go Go.RowKit
structure GStep where
  Do : Int
  Ty : ByteArray
  F : GField
def eStep (x : GStep) : List AV := [.int .i64 x.Do, .str x.Ty, .str x.F.Name, .int .i64 x.F.Kind, .str x.F.To]
def wider (k than : Int) : Bool := decide (0 ≤ than) && (decide (than < k) && decide (k ≤ 3))
def gStepF (s : List GType) (x : GStep) (F : List GField) : Int × List GField :=
  if x.Do = 0 then (if (fieldMay s x.F && decide (fFind F x.F.Name = -1)) = true then (if F.length = 5 then (5, []) else (0, F ++ [x.F])) else (6, []))
  else match F.findIdx? (fun f => decide (f.Name = x.F.Name)) with
    | none => (11, [])
    | some q => if x.Do = 1 then (0, F.eraseIdx q) else (match F[q]? with
      | some f => if wider x.F.Kind f.Kind = true then (0, F.set q ⟨f.Name, x.F.Kind, f.To⟩) else (6, [])
      | none => (6, []))
def gDo (s : List GType) (x : GStep) : Int × List GType × Nat × Int :=
  if (schemaMay s && (decide (0 ≤ x.Do) && decide (x.Do < 3))) = true then (match s.findIdx? (fun t => decide (t.Name = x.Ty)) with
    | none => (11, [], 0, -1)
    | some t => match s[t]? with
      | none => (11, [], 0, -1)
      | some ty => if (gStepF s x ty.F).1 = 0 then (0, s.set t ⟨ty.Name, (gStepF s x ty.F).2⟩, t, fFind ty.F x.F.Name) else ((gStepF s x ty.F).1, [], 0, -1)) else (1, [], 0, -1)
def gradeF (x : GStep) (at_ : Int) (F : List GVal) : List GVal := if x.Do = 0 then F ++ [zeroV x.F] else if x.Do = 1 then F.eraseIdx at_.toNat else F
def gradeO (x : GStep) (t : Nat) (at_ : Int) (o : GObj) : GObj := if o.T = t then ⟨o.Id, o.T, gradeF x at_ o.F⟩ else o
def gGrade (g : Graph) (x : GStep) : Graph × Int :=
  if gMay g = false then (⟨[], [], []⟩, 1) else if (gDo g.S x).1 = 0 then (⟨(gDo g.S x).2.1, g.O.map (gradeO x (gDo g.S x).2.2.1 (gDo g.S x).2.2.2), g.Roots⟩, 0) else (⟨[], [], []⟩, (gDo g.S x).1)
theorem fnd_congr {α : Type} {β : Type} [DecidableEq β] (f : α → β) (n : β) : ∀ {l l' : List α}, l.map f = l'.map f → fnd (fun x => decide (f x = n)) l = fnd (fun x => decide (f x = n)) l' := by
  have key : ∀ {l l' : List α}, l.map f = l'.map f → l.findIdx? (fun x => decide (f x = n)) = l'.findIdx? (fun x => decide (f x = n)) := by
    intro l
    induction l with
    | nil => intro l' h; cases l' with
      | nil => rfl
      | cons => simp at h
    | cons x l ih => intro l' h; cases l' with
      | nil => simp at h
      | cons y l' =>
        simp only [List.map_cons, List.cons.injEq] at h
        rw [List.findIdx?_cons, List.findIdx?_cons, ih h.2, h.1]
  intro l l' h
  unfold fnd
  rw [key h]
def NamesOK (F : List GField) : Prop := (F.map (·.Name)).Nodup
theorem names_find {F : List GField} (h : NamesOK F) {k : Nat} {f : GField} (hf : F[k]? = some f) : fFind F f.Name = k := by
  refine fnd_at hf (by simp) fun j y hj hy => ?_
  have h1 := (List.getElem?_eq_some_iff.1 hf)
  have h2 := (List.getElem?_eq_some_iff.1 hy)
  have h3 := h1.1
  have := List.pairwise_iff_getElem.1 h j k (by simp; omega) (by simpa using h1.1) hj
  simp only [List.getElem_map] at this
  rw [h1.2, h2.2] at this
  simpa using this
theorem names_of {F : List GField} (h : ∀ (k : Nat) (f : GField), F[k]? = some f → fFind F f.Name = k) : NamesOK F := by
  unfold NamesOK
  rw [List.Nodup, List.pairwise_iff_getElem]
  intro i j hi hj hij e
  simp only [List.length_map] at hi hj
  simp only [List.getElem_map] at e
  have h1 := h i F[i] (List.getElem?_eq_getElem hi)
  have h2 := h j F[j] (List.getElem?_eq_getElem hj)
  rw [e, h2] at h1
  omega
theorem find_none {F : List GField} {n : ByteArray} : fFind F n = -1 ↔ n ∉ F.map (·.Name) := by
  constructor
  · intro h hm
    obtain ⟨f, hf, rfl⟩ := List.mem_map.1 hm
    rcases find_cases (fun o : GField => decide (o.Name = f.Name)) F with ⟨_, f2, _⟩ | ⟨i, x, f1, _⟩
    · rw [List.find?_eq_none] at f2
      have := f2 f hf
      simp at this
    · unfold fFind at h; rw [f1] at h; omega
  · intro h
    refine fnd_no fun j y hy => ?_
    simp only [decide_eq_false_iff_not]
    intro e
    exact h (List.mem_map.2 ⟨y, List.mem_of_getElem? hy, e⟩)
structure SMay (s : List GType) : Prop where
  pos : 0 < s.length
  len : s.length ≤ 4
  name : ∀ (i : Nat) (t : GType), s[i]? = some t → nameMay t.Name = true
  find : ∀ (i : Nat) (t : GType), s[i]? = some t → sFind s t.Name = i
  flen : ∀ (i : Nat) (t : GType), s[i]? = some t → t.F.length ≤ 5
  fld : ∀ (i : Nat) (t : GType), s[i]? = some t → ∀ f ∈ t.F, fieldMay s f = true
  nms : ∀ (i : Nat) (t : GType), s[i]? = some t → NamesOK t.F
theorem smay_iff (s : List GType) : schemaMay s = true ↔ SMay s := by
  unfold schemaMay
  simp only [Bool.and_eq_true, decide_eq_true_eq]
  constructor
  · rintro ⟨⟨h1, h2⟩, h3⟩
    have key : ∀ (i : Nat) (t : GType), s[i]? = some t → ((nameMay t.Name = true ∧ sFind s t.Name = i) ∧ t.F.length ≤ 5) ∧ ∀ (k : Nat) (f : GField), t.F[k]? = some f → fieldMay s f = true ∧ fFind t.F f.Name = k := fun i t ht => by
      have := allI_at h3 ht
      rw [Nat.zero_add] at this
      unfold typeMay fieldsMay at this
      simp only [Bool.and_eq_true, decide_eq_true_eq] at this
      refine ⟨this.1, fun k f hf => ?_⟩
      have h4 := allI_at this.2 hf
      rw [Nat.zero_add] at h4
      simpa only [Bool.and_eq_true, decide_eq_true_eq] using h4
    exact ⟨h1, h2, fun i t ht => (key i t ht).1.1.1, fun i t ht => (key i t ht).1.1.2, fun i t ht => (key i t ht).1.2, fun i t ht f hf => by
      obtain ⟨k, hk⟩ := List.getElem?_of_mem hf
      exact ((key i t ht).2 k f hk).1, fun i t ht => names_of fun k f hf => ((key i t ht).2 k f hf).2⟩
  · intro h
    refine ⟨⟨h.pos, h.len⟩, allI_yes fun i t ht => ?_⟩
    rw [Nat.zero_add]
    unfold typeMay fieldsMay
    simp only [Bool.and_eq_true, decide_eq_true_eq]
    refine ⟨⟨⟨h.name i t ht, h.find i t ht⟩, h.flen i t ht⟩, allI_yes fun k f hf => ?_⟩
    rw [Nat.zero_add]
    simp only [Bool.and_eq_true, decide_eq_true_eq]
    exact ⟨h.fld i t ht f (List.mem_of_getElem? hf), names_find (h.nms i t ht) hf⟩
theorem fieldMay_congr {s s' : List GType} (h : s'.map (·.Name) = s.map (·.Name)) (f : GField) : fieldMay s' f = fieldMay s f := by
  unfold fieldMay sFind
  rw [fnd_congr (fun t : GType => t.Name) f.To h]
theorem set_names {s : List GType} {t : Nat} {ty : GType} (ht : s[t]? = some ty) (F : List GField) : (s.set t ⟨ty.Name, F⟩).map (·.Name) = s.map (·.Name) := by
  rw [List.map_set]
  exact set_same (by rw [List.getElem?_map, ht]; rfl)
structure FOK (s : List GType) (F : List GField) : Prop where
  len : F.length ≤ 5
  fld : ∀ f ∈ F, fieldMay s f = true
  nms : NamesOK F
theorem SMay.set {s : List GType} (h : SMay s) {t : Nat} {ty : GType} (ht : s[t]? = some ty) {F : List GField} (hF : FOK s F) : SMay (s.set t ⟨ty.Name, F⟩) := by
  have hn := set_names ht F
  have hcase : ∀ (i : Nat) (t' : GType), (s.set t ⟨ty.Name, F⟩)[i]? = some t' → (i = t ∧ t' = ⟨ty.Name, F⟩) ∨ s[i]? = some t' := fun i t' h1 => by
    rw [List.getElem?_set] at h1
    split at h1
    · rename_i e; subst e
      split at h1
      · cases h1; exact .inl ⟨rfl, rfl⟩
      · cases h1
    · exact .inr h1
  have hsf : ∀ n, sFind (s.set t ⟨ty.Name, F⟩) n = sFind s n := fun n => fnd_congr (fun t : GType => t.Name) n hn
  refine ⟨by rw [List.length_set]; exact h.pos, by rw [List.length_set]; exact h.len, fun i t' h1 => ?_, fun i t' h1 => ?_, fun i t' h1 => ?_, fun i t' h1 f hf => ?_, fun i t' h1 => ?_⟩
  · rcases hcase i t' h1 with ⟨rfl, rfl⟩ | h2
    · exact h.name i ty ht
    · exact h.name i t' h2
  · rw [hsf]
    rcases hcase i t' h1 with ⟨rfl, rfl⟩ | h2
    · exact h.find i ty ht
    · exact h.find i t' h2
  · rcases hcase i t' h1 with ⟨rfl, rfl⟩ | h2
    · exact hF.len
    · exact h.flen i t' h2
  · rw [fieldMay_congr hn]
    rcases hcase i t' h1 with ⟨rfl, rfl⟩ | h2
    · exact hF.fld f hf
    · exact h.fld i t' h2 f hf
  · rcases hcase i t' h1 with ⟨rfl, rfl⟩ | h2
    · exact hF.nms
    · exact h.nms i t' h2
theorem wider_kind {k than : Int} (h : wider k than = true) : 0 ≤ than ∧ than < k ∧ k ≤ 3 := by
  unfold wider at h; simpa only [Bool.and_eq_true, decide_eq_true_eq] using h
theorem fieldMay_wide {s : List GType} {f : GField} {k : Int} (hf : fieldMay s f = true) (h : wider k f.Kind = true) : fieldMay s ⟨f.Name, k, f.To⟩ = true := by
  obtain ⟨h1, h2, h3⟩ := wider_kind h
  unfold fieldMay at hf ⊢
  simp only [Bool.and_eq_true, decide_eq_true_eq] at hf ⊢
  rw [if_neg (by omega)] at hf
  rw [if_neg (by omega)]
  exact ⟨hf.1, by omega, by omega⟩
theorem stepF_ok {s : List GType} {x : GStep} {F : List GField} (hF : FOK s F) (h0 : (gStepF s x F).1 = 0) : FOK s (gStepF s x F).2 := by
  unfold gStepF at h0 ⊢
  split
  · rename_i hd
    rw [if_pos hd] at h0
    split
    · rename_i hc
      rw [if_pos hc] at h0
      split
      · rename_i h5; rw [if_pos h5] at h0; simp at h0
      · rename_i h5
        simp only [Bool.and_eq_true, decide_eq_true_eq] at hc
        have := hF.len
        refine ⟨by simp; omega, fun f hf => ?_, ?_⟩
        · rcases List.mem_append.1 hf with hf | hf
          · exact hF.fld f hf
          · simp at hf; subst hf; exact hc.1
        · unfold NamesOK
          rw [List.map_append, List.nodup_append]
          refine ⟨hF.nms, by simp, fun a ha b hb e => ?_⟩
          simp at hb; subst hb; subst e
          exact find_none.1 hc.2 ha
    · rename_i hc; rw [if_neg hc] at h0; simp at h0
  · rename_i hd
    rw [if_neg hd] at h0
    split
    · rename_i hq; rw [hq] at h0; simp at h0
    · rename_i q hq
      rw [hq] at h0
      simp only at h0 ⊢
      split
      · refine ⟨Nat.le_trans (List.length_eraseIdx_le ..) hF.len, fun f hf => hF.fld f (List.mem_of_mem_eraseIdx hf), ?_⟩
        unfold NamesOK
        exact List.Pairwise.sublist ((List.eraseIdx_sublist ..).map _) hF.nms
      · rename_i hd1
        rw [if_neg hd1] at h0
        split
        · rename_i f hf
          rw [hf] at h0
          simp only at h0
          split
          · rename_i hw
            refine ⟨by rw [List.length_set]; exact hF.len, fun f' hf' => ?_, ?_⟩
            · rcases List.mem_or_eq_of_mem_set hf' with h1 | h1
              · exact hF.fld f' h1
              · subst h1; exact fieldMay_wide (hF.fld f (List.mem_of_getElem? hf)) hw
            · unfold NamesOK
              rw [List.map_set, set_same (by rw [List.getElem?_map, hf]; rfl)]
              exact hF.nms
          · rename_i hw; rw [if_neg hw] at h0; simp at h0
        · rename_i hf; rw [hf] at h0; simp at h0
theorem do_ok {s : List GType} {x : GStep} (h : (gDo s x).1 = 0) : schemaMay s = true ∧ 0 ≤ x.Do ∧ x.Do < 3 ∧ ∃ (t : Nat) (ty : GType), s.findIdx? (fun t => decide (t.Name = x.Ty)) = some t ∧ s[t]? = some ty ∧ ty.Name = x.Ty ∧ (gStepF s x ty.F).1 = 0 ∧
    gDo s x = (0, s.set t ⟨ty.Name, (gStepF s x ty.F).2⟩, t, fFind ty.F x.F.Name) := by
  unfold gDo at h ⊢
  split at h
  · rename_i hc
    rw [if_pos hc]
    simp only [Bool.and_eq_true, decide_eq_true_eq] at hc
    refine ⟨hc.1, hc.2.1, hc.2.2, ?_⟩
    split at h
    · simp at h
    · rename_i t ht
      split at h
      · simp at h
      · rename_i ty hty
        split at h
        · rename_i h0
          have hn : ty.Name = x.Ty := by
            obtain ⟨h1, h2, _⟩ := List.findIdx?_eq_some_iff_getElem.1 ht
            have := (List.getElem?_eq_some_iff.1 hty).2
            rw [this] at h2; simpa using h2
          refine ⟨t, ty, ht, hty, hn, h0, ?_⟩
          first | simp only [ht, hty] | skip
          rw [if_pos h0]
        · rename_i h0; exact absurd h h0
  · simp at h
theorem do_may {s : List GType} {x : GStep} (h : (gDo s x).1 = 0) : schemaMay (gDo s x).2.1 = true := by
  obtain ⟨h1, _, _, t, ty, _, hty, _, h0, e⟩ := do_ok h
  rw [e]
  have hs := (smay_iff s).1 h1
  exact (smay_iff _).2 (hs.set hty (stepF_ok ⟨hs.flen t ty hty, hs.fld t ty hty, hs.nms t ty hty⟩ h0))
theorem numFits_wide {k than n : Int} (h : wider k than = true) (hn : numFits than n = true) : numFits k n = true := by
  obtain ⟨h1, h2, h3⟩ := wider_kind h
  have hc : than = 0 ∨ than = 1 ∨ than = 2 := by omega
  have hk : k = 1 ∨ k = 2 ∨ k = 3 := by omega
  unfold numFits at hn ⊢
  rcases hc with rfl | rfl | rfl <;> rcases hk with rfl | rfl | rfl <;> simp at hn h2 ⊢ <;> omega
theorem fits_wide {f : GField} {k : Int} {v : GVal} (h : wider k f.Kind = true) (hn : valFits f v = true) : valFits ⟨f.Name, k, f.To⟩ v = true := by
  obtain ⟨h1, h2, h3⟩ := wider_kind h
  unfold valFits at hn ⊢
  rw [if_neg (by omega), if_neg (by omega)] at hn
  rw [if_neg (by simp only; omega), if_neg (by simp only; omega)]
  rw [Bool.and_eq_true] at hn ⊢
  exact ⟨numFits_wide h hn.1, hn.2⟩
theorem leadsB_set {g a : Graph} (hS : a.S.map (·.Name) = g.S.map (·.Name)) (ht : ∀ i, typ a.O i = typ g.O i) (f : GField) (v : GVal) : leadsB a f v = leadsB g f v := by
  unfold leadsB sFind
  rw [ht, fnd_congr (fun t : GType => t.Name) f.To hS]
theorem eraseIdx_get {α : Type} (l : List α) (q k : Nat) : (l.eraseIdx q)[k]? = if k < q then l[k]? else l[k + 1]? := by
  rw [List.getElem?_eraseIdx]
structure Grown (s : List GType) (x : GStep) (F : List GField) (V : List GVal) : Prop where
  len : (gradeF x (fFind F x.F.Name) V).length = (gStepF s x F).2.length
  lead : ∀ (g : Graph), (∀ (k : Nat) (f : GField) (v : GVal), F[k]? = some f → V[k]? = some v → leadsB g f v = true) → ∀ (k : Nat) (f : GField) (v : GVal), (gStepF s x F).2[k]? = some f → (gradeF x (fFind F x.F.Name) V)[k]? = some v → leadsB g f v = true
  val : ∀ (k : Nat) (f : GField), (gStepF s x F).2[k]? = some f → (∃ (j : Nat), fFind F f.Name = j ∧ (gradeF x (fFind F x.F.Name) V)[k]? = V[j]?) ∨ (fFind F f.Name = -1 ∧ (gradeF x (fFind F x.F.Name) V)[k]? = some (zeroV f))
theorem grown {s : List GType} {x : GStep} {F : List GField} (hF : FOK s F) (h0 : (gStepF s x F).1 = 0) (hD : 0 ≤ x.Do ∧ x.Do < 3) {V : List GVal} (hV : V.length = F.length) : Grown s x F V := by
  by_cases hd : x.Do = 0
  · -- one more
    have e : gradeF x (fFind F x.F.Name) V = V ++ [zeroV x.F] := by unfold gradeF; rw [if_pos hd]
    unfold gStepF at h0
    rw [if_pos hd] at h0
    split at h0
    case isFalse => simp at h0
    rename_i hc
    split at h0
    · simp at h0
    rename_i h5
    have e2 : (gStepF s x F).2 = F ++ [x.F] := by unfold gStepF; rw [if_pos hd, if_pos hc, if_neg h5]
    simp only [Bool.and_eq_true, decide_eq_true_eq] at hc
    have hK : 0 ≤ x.F.Kind ∧ x.F.Kind < 6 := by
      have := hc.1; unfold fieldMay at this
      simp only [Bool.and_eq_true, decide_eq_true_eq] at this
      exact this.2
    refine ⟨by rw [e, e2]; simp [hV], fun g hg k f v hf hv => ?_, fun k f hf => ?_⟩
    · rw [e2] at hf; rw [e] at hv
      rcases Nat.lt_or_ge k F.length with hk | hk
      · rw [List.getElem?_append_left hk] at hf
        rw [List.getElem?_append_left (by omega)] at hv
        exact hg k f v hf hv
      · rw [List.getElem?_append_right hk] at hf
        rw [List.getElem?_append_right (by omega)] at hv
        have : k - F.length = 0 := by
          rcases Nat.eq_zero_or_pos (k - F.length) with h | h
          · exact h
          · rw [List.getElem?_eq_none (by simp; omega)] at hf; cases hf
        rw [this] at hf
        rw [show k - V.length = 0 by omega] at hv
        simp at hf hv
        subst hf hv
        exact zero_leads hK
    · rw [e2] at hf; rw [e]
      rcases Nat.lt_or_ge k F.length with hk | hk
      · rw [List.getElem?_append_left hk] at hf
        exact .inl ⟨k, names_find hF.nms hf, by rw [List.getElem?_append_left (by omega)]⟩
      · rw [List.getElem?_append_right hk] at hf
        have hz : k - F.length = 0 := by
          rcases Nat.eq_zero_or_pos (k - F.length) with h | h
          · exact h
          · rw [List.getElem?_eq_none (by simp; omega)] at hf; cases hf
        rw [hz] at hf
        simp at hf; subst hf
        exact .inr ⟨hc.2, by rw [List.getElem?_append_right (by omega), show k - V.length = 0 by omega]; rfl⟩
  unfold gStepF at h0
  rw [if_neg hd] at h0
  split at h0
  · simp at h0
  rename_i q hq
  have hfind : fFind F x.F.Name = q := by unfold fFind fnd; rw [hq]
  obtain ⟨hql, _, _⟩ := List.findIdx?_eq_some_iff_getElem.1 hq
  by_cases hd1 : x.Do = 1
  · -- one less
    have e : gradeF x (fFind F x.F.Name) V = V.eraseIdx q := by unfold gradeF; rw [if_neg hd, if_pos hd1, hfind]; rfl
    have e2 : (gStepF s x F).2 = F.eraseIdx q := by unfold gStepF; rw [if_neg hd, hq]; simp only; rw [if_pos hd1]
    refine ⟨by rw [e, e2, List.length_eraseIdx, List.length_eraseIdx, hV], fun g hg k f v hf hv => ?_, fun k f hf => ?_⟩
    · rw [e2, eraseIdx_get] at hf; rw [e, eraseIdx_get] at hv
      split at hf
      · rename_i hk; rw [if_pos hk] at hv; exact hg k f v hf hv
      · rename_i hk; rw [if_neg hk] at hv; exact hg (k + 1) f v hf hv
    · rw [e2, eraseIdx_get] at hf; rw [e, eraseIdx_get]
      left
      split at hf
      · rename_i hk; rw [if_pos hk]; exact ⟨k, names_find hF.nms hf, rfl⟩
      · rename_i hk; rw [if_neg hk]; exact ⟨k + 1, names_find hF.nms hf, rfl⟩
  · -- wider
    have e : gradeF x (fFind F x.F.Name) V = V := by unfold gradeF; rw [if_neg hd, if_neg hd1]
    rw [if_neg hd1] at h0
    split at h0
    case h_2 => simp at h0
    rename_i f0 hf0
    split at h0
    case isFalse => simp at h0
    rename_i hw
    have e2 : (gStepF s x F).2 = F.set q ⟨f0.Name, x.F.Kind, f0.To⟩ := by unfold gStepF; rw [if_neg hd, hq]; simp only; rw [if_neg hd1, hf0]; simp only; rw [if_pos hw]
    refine ⟨by rw [e, e2, List.length_set, hV], fun g hg k f v hf hv => ?_, fun k f hf => ?_⟩
    · rw [e2, List.getElem?_set] at hf; rw [e] at hv
      split at hf
      · rename_i hk; subst hk
        cases hf
        have := hg q f0 v hf0 hv
        obtain ⟨h1, h2, h3⟩ := wider_kind hw
        unfold leadsB at this ⊢
        simp only [Bool.and_eq_true] at this ⊢
        exact ⟨fits_wide hw this.1, by simp; omega⟩
      · exact hg k f v hf hv
    · rw [e2, List.getElem?_set] at hf; rw [e]
      left
      split at hf
      · rename_i hk; subst hk
        cases hf; exact ⟨q, (show fFind F f0.Name = (q : Int) from names_find hF.nms hf0), rfl⟩
      · exact ⟨k, names_find hF.nms hf, rfl⟩
theorem gradeO_idT (x : GStep) (t : Nat) (at_ : Int) (l : List GObj) : (l.map (gradeO x t at_)).map (fun o => (o.Id, o.T)) = l.map (fun o => (o.Id, o.T)) := by
  rw [List.map_map]
  refine List.map_congr_left fun o _ => ?_
  simp only [Function.comp, gradeO]
  split <;> rfl
theorem grade_ok {g : Graph} {x : GStep} (h : (gGrade g x).2 = 0) : gMay g = true ∧ (gDo g.S x).1 = 0 ∧ (gGrade g x).1 = ⟨(gDo g.S x).2.1, g.O.map (gradeO x (gDo g.S x).2.2.1 (gDo g.S x).2.2.2), g.Roots⟩ := by
  unfold gGrade at h ⊢
  split at h
  · simp at h
  · rename_i hm
    rw [if_neg hm]
    split at h
    · rename_i h0; rw [if_pos h0]; exact ⟨by simpa using hm, h0, rfl⟩
    · rename_i h0; exact absurd h h0
theorem grade_may {g : Graph} {x : GStep} (h : (gGrade g x).2 = 0) : gMay (gGrade g x).1 = true := by
  obtain ⟨hm, h0, e⟩ := grade_ok h
  have hM := (may_iff g).1 hm
  obtain ⟨hs, hD0, hD3, t, ty, hfi, hty, hn, hF0, eD⟩ := do_ok h0
  have hSM := (smay_iff g.S).1 hs
  have hFO : FOK g.S ty.F := ⟨hSM.flen t ty hty, hSM.fld t ty hty, hSM.nms t ty hty⟩
  rw [e]
  have hmay := do_may h0
  rw [eD] at hmay ⊢
  simp only at hmay ⊢
  have hids := gradeO_idT x t (fFind ty.F x.F.Name) g.O
  have hid : (g.O.map (gradeO x t (fFind ty.F x.F.Name))).map (·.Id) = g.O.map (·.Id) := by
    have := congrArg (List.map Prod.fst) hids
    simp only [List.map_map] at this
    rw [List.map_map]
    exact this
  have hnm := set_names hty (gStepF g.S x ty.F).2
  have htyp := typ_congr hids
  have hlead : ∀ f v, leadsB (⟨g.S.set t ⟨ty.Name, (gStepF g.S x ty.F).2⟩, g.O.map (gradeO x t (fFind ty.F x.F.Name)), g.Roots⟩ : Graph) f v = leadsB g f v := fun f v => leadsB_set hnm htyp f v
  have htl := (List.getElem?_eq_some_iff.1 hty).1
  refine (may_iff _).2 (May.of hmay (by simpa using hM.o) hM.r (by rw [hid]; exact hM.pw) (fun y hy => ?_) (fun y hy => ?_) (fun r hr => by rw [rootB_congr (g := g) htyp]; exact hM.root r hr))
  · obtain ⟨o, ho, rfl⟩ := List.mem_map.1 hy
    obtain ⟨_, _, hmo⟩ := hM.objM ho
    have : (gradeO x t (fFind ty.F x.F.Name) o).Id = o.Id := by unfold gradeO; split <;> rfl
    rw [this]
    exact ⟨hM.pos ho, hmo.id⟩
  · obtain ⟨o, ho, rfl⟩ := List.mem_map.1 hy
    obtain ⟨t', ht', hmo⟩ := hM.objM ho
    by_cases hT : o.T = t
    · have ht2 : t' = ty := by
        unfold typeAt at ht'
        rw [if_pos hmo.t0, hT] at ht'
        simp only [Int.toNat_natCast] at ht'
        rw [hty] at ht'; exact (Option.some.inj ht').symm
      subst ht2
      have hG := grown hFO hF0 ⟨hD0, hD3⟩ (V := o.F) hmo.len
      refine ⟨⟨t'.Name, (gStepF g.S x t'.F).2⟩, ?_, ?_, fun k f v hf hv => ?_⟩
      · unfold gradeO typeAt
        rw [if_pos hT]
        simp only
        rw [if_pos (by omega), hT]
        simp only [Int.toNat_natCast]
        rw [List.getElem?_set_self htl]
      · unfold gradeO; rw [if_pos hT]; exact hG.len
      · rw [hlead]
        unfold gradeO at hv; rw [if_pos hT] at hv
        exact hG.lead g (fun k f v hf hv => hmo.lead k f v hf hv) k f v hf hv
    · refine ⟨t', ?_, ?_, fun k f v hf hv => ?_⟩
      · unfold gradeO; rw [if_neg hT]
        unfold typeAt at ht' ⊢
        rw [if_pos hmo.t0] at ht' ⊢
        rw [List.getElem?_set_ne (fun e => hT (by have := hmo.t0; omega))]
        exact ht'
      · unfold gradeO; rw [if_neg hT]; exact hmo.len
      · rw [hlead]
        unfold gradeO at hv; rw [if_neg hT] at hv
        exact hmo.lead k f v hf hv
end Go.Ab
namespace Go.Ab
open Go Go.RowKit
theorem type_find {s : List GType} (h : SMay s) {i : Nat} {t : GType} (ht : s[i]? = some t) : s.findIdx? (fun y => decide (y.Name = t.Name)) = some i := by
  have := h.find i t ht
  unfold sFind fnd at this
  split at this
  · rename_i j hj; rw [hj]; congr 1; omega
  · omega
end Go.Ab
namespace Go.Ab
open Go Go.RowKit
def eTypeO (t : GType) : List AV := [.str t.Name, .own 3 (t.F.map eField)]
def mixT (l : List GType) (i : Nat) : List (List AV) := (l.take i).map eTypeO ++ (l.drop i).map eType
theorem mixT_len (l : List GType) (i : Nat) : (mixT l i).length = l.length := by simp [mixT]; omega
theorem mixT_zero (l : List GType) : mixT l 0 = l.map eType := by simp [mixT]
theorem mixT_all (l : List GType) : mixT l l.length = l.map eTypeO := by simp [mixT]
theorem mixT_get {l : List GType} {i : Nat} {x : GType} (h : l[i]? = some x) : (mixT l i)[i]? = some (eType x) := by
  have := (List.getElem?_eq_some_iff.1 h).1
  unfold mixT
  rw [List.getElem?_append_right (by simp; omega)]
  simp [Nat.min_eq_left (Nat.le_of_lt this), h]
theorem mixT_set {l : List GType} {i : Nat} {x : GType} (h : l[i]? = some x) : (mixT l i).set i (eTypeO x) = mixT l (i + 1) := by
  obtain ⟨hl, hx⟩ := List.getElem?_eq_some_iff.1 h
  unfold mixT
  have e : ((l.take i).map eTypeO).length = i := by simp; omega
  rw [List.set_append, if_neg (by omega), e, Nat.sub_self, List.drop_eq_getElem_cons hl, List.map_cons, List.set_cons_zero, List.take_add_one, h]
  simp
theorem frz_TypeO (n : Nat) (xs : List GType) : (AV.own n (xs.map eTypeO)).freeze = .sl n (xs.map eType) := by
  simp only [AV.freeze, List.map_map]
  congr 1
  refine List.map_congr_left fun x _ => ?_
  simp [eTypeO, eType, AV.freeze]
  intro a _
  simp [eField, AV.freeze]
theorem set_TypeO (xs : List GType) (i : Nat) (n : ByteArray) (F : List GField) : (xs.map eTypeO).set i [.str n, .own 3 (F.map eField)] = (xs.set i ⟨n, F⟩).map eTypeO := by
  rw [List.map_set]; rfl
attribute [go_sem] frz_TypeO
def eWork (y : Nat) (x : GStep) (t at_ : Int) : List AV := [.ref y [] 0, .int .i64 x.Do, .str x.Ty, .str x.F.Name, .int .i64 x.F.Kind, .str x.F.To, .int .i64 t, .int .i64 at_]
theorem fields_plain (F : List GField) : ∀ r ∈ F.map eField, ∀ a ∈ r, a.tree = false := by
  intro r hr a ha
  obtain ⟨f, _, rfl⟩ := List.mem_map.1 hr
  simp [eField] at ha
  rcases ha with rfl | rfl | rfl <;> rfl
theorem vals_plain (F : List GVal) : ∀ r ∈ F.map eVal, ∀ a ∈ r, a.tree = false := by
  intro r hr a ha
  obtain ⟨f, _, rfl⟩ := List.mem_map.1 hr
  simp [eVal] at ha
  rcases ha with rfl | rfl | rfl <;> rfl
theorem grade_drop {g : Graph} {x : GStep} (hm : gMay g = true) (h0 : (gDo g.S x).1 = 0) : x.Do = 1 → ∀ o ∈ g.O, o.T = ((gDo g.S x).2.2.1 : Int) → ∃ q : Nat, (gDo g.S x).2.2.2 = q ∧ q < o.F.length := by
  intro hd o ho hT
  obtain ⟨hs, hD0, hD3, t, ty, hfi, hty, hn, hF0, eD⟩ := do_ok h0
  rw [eD] at hT ⊢
  simp only at hT ⊢
  obtain ⟨t', ht', hmo⟩ := ((may_iff g).1 hm).objM ho
  have : g.S[t]? = some t' := by have := hmo.at_; rw [hT] at this; simpa using this
  rw [hty] at this; cases this
  unfold gStepF at hF0
  rw [if_neg (by omega)] at hF0
  cases hq : ty.F.findIdx? (fun f => decide (f.Name = x.F.Name)) with
  | none => rw [hq] at hF0; simp at hF0
  | some q =>
    obtain ⟨hl, _⟩ := List.findIdx?_eq_some_iff_getElem.1 hq
    refine ⟨q, by unfold fFind fnd; rw [hq], ?_⟩
    rw [hmo.len]; exact hl
theorem frz_Step (n : Nat) (xs : List GStep) : (AV.own n (xs.map eStep)).freeze = .sl n (xs.map eStep) := frz_map (fun x a ha => by simp [eStep] at ha; rcases ha with rfl | rfl | rfl | rfl | rfl <;> rfl) n xs
attribute [go_sem] frz_Step
def eSteps (l : List GStep) : List AV := [.sl 5 (l.map eStep)]
theorem flat_succ {L : List (List GStep)} {i : Nat} {l : List GStep} (h : L[i]? = some l) : (L.take (i + 1)).flatten = (L.take i).flatten ++ l := by
  rw [List.take_add_one, h]; simp
theorem flat_le {L : List (List GStep)} (i : Nat) : ((L.take i).flatten).length ≤ L.flatten.length := by
  have := congrArg List.flatten (List.take_append_drop i L)
  rw [List.flatten_append] at this
  rw [← this, List.length_append]; omega
end Go.Ab
namespace Go.Ab
open Go Go.RowKit
def bStep (n : ByteArray) (bF : List GField) (s : Option (Nat × List GStep × List GStep)) (f : GField) : Option (Nat × List GStep × List GStep) :=
  match s with
  | none => none
  | some (kept, d, w) => match bF.findIdx? (fun g => decide (g.Name = f.Name)) with
    | none => some (kept, d ++ [⟨1, n, f⟩], w)
    | some k => if k = kept then (match bF[k]? with
      | none => none
      | some g => if wider g.Kind f.Kind = true then some (kept + 1, d, w ++ [⟨2, n, g⟩]) else if g = f then some (kept + 1, d, w) else none) else none
def bFold (a b : GType) (l : List GField) : Option (Nat × List GStep × List GStep) := l.foldl (bStep a.Name b.F) (some (0, [], []))
def betw (a b : GType) : List GStep × Bool := match bFold a b a.F with
  | none => ([], false)
  | some (k, d, w) => ([d, w, (b.F.drop k).map fun f => ⟨0, a.Name, f⟩].flatten, true)
theorem fold_none (n : ByteArray) (bF : List GField) : ∀ l : List GField, l.foldl (bStep n bF) none = none
  | [] => rfl
  | _ :: l => fold_none n bF l
theorem bFold_succ {a b : GType} {l : List GField} {i : Nat} {f : GField} (h : l[i]? = some f) : bFold a b (l.take (i + 1)) = bStep a.Name b.F (bFold a b (l.take i)) f := by
  unfold bFold
  rw [List.take_add_one, h]
  simp [List.foldl_append]
theorem bFold_dead {a b : GType} {l : List GField} {i : Nat} (h : bFold a b (l.take i) = none) : bFold a b l = none := by
  unfold bFold at h ⊢
  rw [← List.take_append_drop i l, List.foldl_append, h]
  exact fold_none _ _ _
structure BI (a b : GType) (i kept : Nat) (d w : List GStep) : Prop where
  li : i ≤ a.F.length
  lk : kept ≤ b.F.length
  fo : bFold a b (a.F.take i) = some (kept, d, w)
  ld : d.length ≤ i
  lw : w.length ≤ i
theorem BI.start (a b : GType) : BI a b 0 0 [] [] := ⟨Nat.zero_le _, Nat.zero_le _, rfl, Nat.le_refl _, Nat.le_refl _⟩
theorem BI.drop {a b : GType} {i kept : Nat} {d w : List GStep} (h : BI a b i kept d w) {f : GField} (hf : a.F[i]? = some f) (hn : b.F.findIdx? (fun g => decide (g.Name = f.Name)) = none) : BI a b (i + 1) kept (d ++ [⟨1, a.Name, f⟩]) w := by
  have hi := (List.getElem?_eq_some_iff.1 hf).1
  refine ⟨hi, h.lk, ?_, by have := h.ld; simp; omega, by have := h.lw; omega⟩
  rw [bFold_succ hf, h.fo]
  simp only [bStep, hn]
theorem BI.wide {a b : GType} {i kept : Nat} {d w : List GStep} (h : BI a b i kept d w) {f g : GField} (hf : a.F[i]? = some f) (hn : b.F.findIdx? (fun g => decide (g.Name = f.Name)) = some kept) (hg : b.F[kept]? = some g) (hw : wider g.Kind f.Kind = true) : BI a b (i + 1) (kept + 1) d (w ++ [⟨2, a.Name, g⟩]) := by
  have hi := (List.getElem?_eq_some_iff.1 hf).1
  have hk := (List.getElem?_eq_some_iff.1 hg).1
  refine ⟨hi, hk, ?_, by have := h.ld; omega, by have := h.lw; simp; omega⟩
  rw [bFold_succ hf, h.fo]
  simp only [bStep, hn, if_true, hg, hw]
theorem BI.same {a b : GType} {i kept : Nat} {d w : List GStep} (h : BI a b i kept d w) {f : GField} (hf : a.F[i]? = some f) (hn : b.F.findIdx? (fun g => decide (g.Name = f.Name)) = some kept) (hg : b.F[kept]? = some f) (hw : wider f.Kind f.Kind = false) : BI a b (i + 1) (kept + 1) d w := by
  have hi := (List.getElem?_eq_some_iff.1 hf).1
  have hk := (List.getElem?_eq_some_iff.1 hg).1
  refine ⟨hi, hk, ?_, by have := h.ld; omega, by have := h.lw; omega⟩
  rw [bFold_succ hf, h.fo]
  simp [bStep, hn, hg, hw]
theorem BI.bad1 {a b : GType} {i kept k : Nat} {d w : List GStep} (h : BI a b i kept d w) {f : GField} (hf : a.F[i]? = some f) (hn : b.F.findIdx? (fun g => decide (g.Name = f.Name)) = some k) (hk : ¬ k = kept) : betw a b = ([], false) := by
  have : bFold a b a.F = none := bFold_dead (i := i + 1) (by rw [bFold_succ hf, h.fo]; simp [bStep, hn, hk])
  unfold betw; rw [this]
theorem BI.bad2 {a b : GType} {i kept : Nat} {d w : List GStep} (h : BI a b i kept d w) {f g : GField} (hf : a.F[i]? = some f) (hn : b.F.findIdx? (fun g => decide (g.Name = f.Name)) = some kept) (hg : b.F[kept]? = some g) (hw : wider g.Kind f.Kind = false) (hne : ¬ g = f) : betw a b = ([], false) := by
  have : bFold a b a.F = none := bFold_dead (i := i + 1) (by rw [bFold_succ hf, h.fo]; simp [bStep, hn, hg, hw, hne])
  unfold betw; rw [this]
theorem BI.done {a b : GType} {kept : Nat} {d w : List GStep} (h : BI a b a.F.length kept d w) : betw a b = ([d, w, (b.F.drop kept).map fun f => ⟨0, a.Name, f⟩].flatten, true) := by
  have := h.fo
  rw [List.take_length] at this
  unfold betw; rw [this]
theorem fold_len (n : ByteArray) (bF : List GField) : ∀ (l : List GField) (k0 : Nat) (d0 w0 : List GStep) (k : Nat) (d w : List GStep), l.foldl (bStep n bF) (some (k0, d0, w0)) = some (k, d, w) → d.length ≤ d0.length + l.length ∧ w.length ≤ w0.length + l.length
  | [], k0, d0, w0, k, d, w, h => by cases h; exact ⟨by simp, by simp⟩
  | f :: l, k0, d0, w0, k, d, w, h => by
    rw [List.foldl_cons] at h
    cases hs : bStep n bF (some (k0, d0, w0)) f with
    | none => rw [hs, fold_none] at h; cases h
    | some q =>
      obtain ⟨k1, d1, w1⟩ := q
      rw [hs] at h
      have ih := fold_len n bF l k1 d1 w1 k d w h
      have : d1.length ≤ d0.length + 1 ∧ w1.length ≤ w0.length + 1 := by
        simp only [bStep] at hs
        repeat' (split at hs)
        all_goals first | (cases hs; constructor <;> simp; done) | (cases hs; done)
      simp only [List.length_cons]
      omega
theorem betw_len {a b : GType} (ha : a.F.length ≤ 5) (hb : b.F.length ≤ 5) : (betw a b).1.length ≤ 15 := by
  unfold betw
  split
  · simp
  · rename_i k d w h
    have := fold_len a.Name b.F a.F 0 [] [] k d w h
    simp at this ⊢
    omega
def bwStep (acc : Option (List GStep)) (p : GType × GType) : Option (List GStep) := match acc with
  | none => none
  | some l => if ((betw p.1 p.2).2 && decide (p.1.Name = p.2.Name)) = true then some (l ++ (betw p.1 p.2).1) else none
def bwFold (s t : List GType) (i : Nat) : Option (List GStep) := ((s.zip t).take i).foldl bwStep (some [])
def gBetween (s t : List GType) : List GStep × Bool := if ((schemaMay s && schemaMay t) && decide (s.length = t.length)) = true then (match bwFold s t s.length with
  | none => ([], false)
  | some l => (l, true)) else ([], false)
theorem bw_none : ∀ l : List (GType × GType), l.foldl bwStep none = none
  | [] => rfl
  | _ :: l => bw_none l
theorem bwFold_succ {s t : List GType} {i : Nat} {a b : GType} (h1 : s[i]? = some a) (h2 : t[i]? = some b) : bwFold s t (i + 1) = bwStep (bwFold s t i) (a, b) := by
  have : (s.zip t)[i]? = some (a, b) := List.getElem?_zip_eq_some.2 ⟨h1, h2⟩
  unfold bwFold
  rw [List.take_add_one, this]
  simp [List.foldl_append]
theorem bwFold_dead {s t : List GType} {i : Nat} (h : bwFold s t i = none) (hl : s.length = t.length) : bwFold s t s.length = none := by
  have e : (s.zip t).take s.length = s.zip t := List.take_of_length_le (by simp; omega)
  unfold bwFold at h ⊢
  rw [e, ← List.take_append_drop i (s.zip t), List.foldl_append, h]
  exact bw_none _
end Go.Ab
namespace Go.Ab
open Go Go.RowKit
theorem names_idx {F : List GField} (h : NamesOK F) {k : Nat} {f : GField} (hf : F[k]? = some f) : F.findIdx? (fun y => decide (y.Name = f.Name)) = some k := by
  have := names_find h hf
  unfold fFind fnd at this
  split at this
  · rename_i j hj; rw [hj]; congr 1; omega
  · omega
end Go.Ab
namespace Go.Ab
open Go Go.RowKit
def putF : Nat → Nat → List UInt8
  | 0, n => [n.toUInt8]
  | k + 1, n => if n < 128 then [n.toUInt8] else (n % 128 + 128).toUInt8 :: putF k (n / 128)
def vPut (n : Nat) : List UInt8 := putF 9 n
def zig (n : Int) : Nat := if 0 ≤ n then (2 * n).toNat else (-2 * n - 1).toNat
def strB (s : ByteArray) : List UInt8 := s.data.toList
def valPut (f : GField) (v : GVal) : List UInt8 :=
  if valFits f v = false then [] else if f.Kind = 4 then vPut v.S.size ++ strB v.S else if f.Kind = 5 then vPut (v.R + 1).toNat else vPut (zig v.N)
def kindText (k : Int) : ByteArray := ([⟨#[105, 56]⟩, ⟨#[105, 49, 54]⟩, ⟨#[105, 51, 50]⟩, ⟨#[105, 54, 52]⟩, ⟨#[116]⟩, ⟨#[42]⟩] : List ByteArray).getD k.toNat ⟨#[]⟩
def fieldText (f : GField) : List UInt8 := strB f.Name ++ 58 :: strB (kindText f.Kind) ++ strB f.To
def joinC : List (List UInt8) → List UInt8
  | [] => []
  | [x] => x
  | x :: y :: r => x ++ 44 :: joinC (y :: r)
def typeText (t : GType) : List UInt8 := strB t.Name ++ 123 :: joinC (t.F.map fieldText) ++ [125]
def schemaText (s : List GType) : List UInt8 := if schemaMay s = true then s.flatMap typeText else []
def numsPut (l : List Int) : List UInt8 := l.flatMap fun n => vPut (n + 1).toNat
def objPut (s : List GType) (o : GObj) : List UInt8 := vPut o.T.toNat ++ (List.zipWith valPut (match typeAt s o.T with | some t => t.F | none => []) o.F).flatten
def partsOf (c : Graph) : List (List UInt8) := schemaText c.S :: numsPut c.Roots :: c.O.map (objPut c.S)
def flowMay (l : List (List UInt8)) : Bool := decide (l.length ≤ 40) && l.all fun p => decide (p.length ≤ 200)
def gParts (g : Graph) : List (List UInt8) × Int := if gMay g = false then ([], 1) else if flowMay (partsOf (gCanon g)) = false then ([], 5) else (partsOf (gCanon g), 0)
def crcStep (n : Nat) : Nat := if n % 2 = 1 then (n / 2) ^^^ 0xedb88320 else n / 2
def crcRow (i : Nat) : Nat := Nat.repeat crcStep 8 i
def crcFrom (n : Nat) (b : List UInt8) : Nat := b.foldl (fun n c => (n / 256) ^^^ crcRow ((n % 256) ^^^ c.toNat)) n
def crcSum (b : List UInt8) : Nat := crcFrom 0xffffffff b ^^^ 0xffffffff
structure GCell where
  F : Int
  V : GVal
structure GItem where
  From : Int
  T : Int
  Set : List GCell
structure GDelta where
  Base : Nat
  Roots : List Int
  L : List GItem
theorem GCell.ext_iff' (a b : GCell) : a = b ↔ a.F = b.F ∧ a.V = b.V := by cases a; cases b; simp
instance : DecidableEq GCell := fun a b => decidable_of_iff _ (GCell.ext_iff' a b).symm
theorem GItem.ext_iff' (a b : GItem) : a = b ↔ a.From = b.From ∧ a.T = b.T ∧ a.Set = b.Set := by cases a; cases b; simp
instance : DecidableEq GItem := fun a b => decidable_of_iff _ (GItem.ext_iff' a b).symm
theorem GDelta.ext_iff' (a b : GDelta) : a = b ↔ a.Base = b.Base ∧ a.Roots = b.Roots ∧ a.L = b.L := by cases a; cases b; simp
instance : DecidableEq GDelta := fun a b => decidable_of_iff _ (GDelta.ext_iff' a b).symm
def eU8 (x : UInt8) : List AV := [.int .u8 (x.toNat : Int)]
end Go.Ab
namespace Go.Ab
open Go Go.RowKit
def aS : List GType := [⟨⟨#[97]⟩, [⟨⟨#[110]⟩, 0, ⟨#[]⟩⟩]⟩]
def aG : Graph := ⟨aS, [⟨0, 0, [⟨7, ⟨#[]⟩, 0⟩]⟩], []⟩
def aX : GStep := ⟨2, ⟨#[97]⟩, ⟨⟨#[110]⟩, 2, ⟨#[]⟩⟩⟩
def aS2 : List GType := [⟨⟨#[97]⟩, [⟨⟨#[110]⟩, 2, ⟨#[]⟩⟩]⟩]
def aG2 : Graph := ⟨aS2, [⟨0, 0, [⟨7, ⟨#[]⟩, 0⟩]⟩], []⟩
theorem aG_grade : gGrade aG aX = (aG2, 0) := by
  have h1 : gMay aG = true := by decide
  have h2 : gDo aG.S aX = (0, aS2, 0, 0) := by rfl
  unfold gGrade
  rw [if_neg (by rw [h1]; decide), h2]
  rfl
theorem aS_btw : (gBetween aS aS2).2 = true ∧ (gBetween aS aS2).1.length = 1 := by
  have h1 : ((schemaMay aS && schemaMay aS2) && decide (aS.length = aS2.length)) = true := by decide
  have h2 : bwFold aS aS2 aS.length = some [aX] := by rfl
  unfold gBetween
  rw [if_pos h1, h2]
  exact ⟨rfl, rfl⟩
end Go.Ab
