/-
  Calls that are given places of their own ('GCall'), and states told otherwise. No condition but those of each theorem.
-/
import Derived.Test.YtmadijloeffjfaaFe
set_option linter.unusedVariables false
set_option linter.unusedSimpArgs false
namespace Go.Ab
open Go Go.RowKit

/-! ### 33. Calls that are given places of their own -/
def ren (m : Nat → Nat) : AV → AV
  | .ref x p c => .ref (m x) p c
  | .lv x p j => .lv (m x) p j
  | .agg l => .agg (l.map fun a => ren m a)
  | .tup l => .tup (l.map fun a => ren m a)
  | .func f a b => .func f (a.map fun a => ren m a) (b.map fun a => ren m a)
  | .ifc t a => .ifc t (ren m a)
  | a => a
theorem ren_tree {m : Nat → Nat} {a : AV} (h : a.tree = true) : ren m a = a := by cases a <;> first | (cases h; done) | simp only [ren]

theorem FR.ren {w : World} {A : Nat → Prop} {m : Nat → Nat} {a : AV} {v : Value} (h : FR w A a v) : FR w A (ren m a) v := by
  induction h with
  | func fn first caps us vs h1 h2 h3 h4 ih1 ih2 =>
    simp only [Ab.ren]
    refine .func fn _ _ us vs (by simpa using h1) (by simpa using h2) (fun i a h => ?_) (fun i a h => ?_)
    · simp only [List.getElem?_map, Option.map_eq_some_iff] at h
      obtain ⟨a', h', rfl⟩ := h; exact ih1 i a' h'
    · simp only [List.getElem?_map, Option.map_eq_some_iff] at h
      obtain ⟨a', h', rfl⟩ := h; exact ih2 i a' h'
  | ifc t v u h ih => simp only [Ab.ren]; exact .ifc t _ u ih
  | agg l vs h1 h2 ih =>
    simp only [Ab.ren]
    refine .agg _ vs (by simpa using h1) fun i a h => ?_
    simp only [List.getElem?_map, Option.map_eq_some_iff] at h
    obtain ⟨a', h', rfl⟩ := h; exact ih i a' h'
  | tup l vs h1 h2 ih =>
    simp only [Ab.ren]
    refine .tup _ vs (by simpa using h1) fun i a h => ?_
    simp only [List.getElem?_map, Option.map_eq_some_iff] at h
    obtain ⟨a', h', rfl⟩ := h; exact ih i a' h'
  | sl n l b o cap h1 h2 h3 h4 h5 h6 _ => simp only [Ab.ren]; exact .sl n l b o cap h1 h2 h3 h4 h5 h6
  | fp l b o h5 h6 _ => simp only [Ab.ren]; exact .fp l b o h5 h6
  | fmap es b ents clock h1 h2 h3 h4 h5 h6 _ => simp only [Ab.ren]; exact .fmap es b ents clock h1 h2 h3 h4 h5 h6
  | str s h => simp only [Ab.ren]; exact .str s h
  | undef v => simp only [Ab.ren]; exact .undef v
  | bool v => simp only [Ab.ren]; exact .bool v
  | int k v => simp only [Ab.ren]; exact .int k v
  | nilsl => simp only [Ab.ren]; exact .nilsl
  | slnil n => simp only [Ab.ren]; exact .slnil n
  | slmt n a cap h => simp only [Ab.ren]; exact .slmt n a cap h
  | nilp => simp only [Ab.ren]; exact .nilp
  | nilmap => simp only [Ab.ren]; exact .nilmap
  | nilfunc => simp only [Ab.ren]; exact .nilfunc
  | nili => simp only [Ab.ren]; exact .nili

theorem Rel.ren {w : World} {A A' : Nat → Prop} {G G' : Nat → Option GR} {n n' : Nat} {m : Nat → Nat} (hA : ∀ b, b < w.heap.size → A' b → A b) (hn : ∀ x, x < n → m x < n') (hG : ∀ x, x < n → G' (m x) = G x) {a : AV} {v : Value}
    (h : Rel w A G n a v) : Rel w A' G' n' (ren m a) v := by
  have list : ∀ (l : List AV) (vs : List Value), vs.length = l.length → (∀ (i : Nat) (a : AV), l[i]? = some a → Rel w A' G' n' (Ab.ren m a) (vs.getD i Go.undef)) →
      vs.length = (l.map fun a => Ab.ren m a).length ∧ ∀ (i : Nat) (a : AV), (l.map fun a => Ab.ren m a)[i]? = some a → Rel w A' G' n' a (vs.getD i Go.undef) := by
    intro l vs h1 h2
    refine ⟨by simpa using h1, fun i a h => ?_⟩
    simp only [List.getElem?_map, Option.map_eq_some_iff] at h
    obtain ⟨a', h', rfl⟩ := h
    exact h2 i a' h'
  induction h with
  | fr a v h => exact .fr _ v ((h.keep (fun _ _ _ => rfl) hA).ren)
  | ref x p c v h1 h2 h3 =>
    simp only [Ab.ren]
    exact .ref _ p c v (hn x h1) h2 (fun r row g hr => h3 r row g (by rw [← hG x h1]; exact hr))
  | lv x p j ad h1 h2 =>
    simp only [Ab.ren]
    exact .lv _ p j ad (hn x h1) (fun r b o hr => h2 r b o (by rw [← hG x h1]; exact hr))
  | func fn first caps us vs h1 h2 h3 h4 ih1 ih2 =>
    simp only [Ab.ren]
    obtain ⟨g1, g2⟩ := list first us h1 ih1
    obtain ⟨g3, g4⟩ := list caps vs h2 ih2
    exact .func fn _ _ us vs g1 g3 g2 g4
  | ifc t v u h ih => simp only [Ab.ren]; exact .ifc t _ u ih
  | agg l vs h1 h2 ih => simp only [Ab.ren]; obtain ⟨g1, g2⟩ := list l vs h1 ih; exact .agg _ vs g1 g2
  | tup l vs h1 h2 ih => simp only [Ab.ren]; obtain ⟨g1, g2⟩ := list l vs h1 ih; exact .tup _ vs g1 g2

/-- What led into places that were given away says nothing any more, but pointers to variables. -/
def killR (ρ : List Nat) : AV → AV
  | .ref y q c => if memB y ρ = true then .undef else .ref y q c
  | .lv y q c => if memB y ρ = true then (match q with | [] => .lv y q c | _ :: _ => .undef) else .lv y q c
  | .agg l => .agg (l.map fun a => killR ρ a)
  | .tup l => .tup (l.map fun a => killR ρ a)
  | .func f a b => .func f (a.map fun a => killR ρ a) (b.map fun a => killR ρ a)
  | .ifc t a => .ifc t (killR ρ a)
  | a => a
theorem killR_tree {ρ : List Nat} {a : AV} (h : a.tree = true) : killR ρ a = a := by cases a <;> first | (cases h; done) | simp only [killR]

theorem FR.killR {w : World} {A : Nat → Prop} {ρ : List Nat} {a : AV} {v : Value} (h : FR w A a v) : FR w A (killR ρ a) v := by
  induction h with
  | func fn first caps us vs h1 h2 h3 h4 ih1 ih2 =>
    simp only [Ab.killR]
    refine .func fn _ _ us vs (by simpa using h1) (by simpa using h2) (fun i a h => ?_) (fun i a h => ?_)
    · simp only [List.getElem?_map, Option.map_eq_some_iff] at h
      obtain ⟨a', h', rfl⟩ := h; exact ih1 i a' h'
    · simp only [List.getElem?_map, Option.map_eq_some_iff] at h
      obtain ⟨a', h', rfl⟩ := h; exact ih2 i a' h'
  | ifc t v u h ih => simp only [Ab.killR]; exact .ifc t _ u ih
  | agg l vs h1 h2 ih =>
    simp only [Ab.killR]
    refine .agg _ vs (by simpa using h1) fun i a h => ?_
    simp only [List.getElem?_map, Option.map_eq_some_iff] at h
    obtain ⟨a', h', rfl⟩ := h; exact ih i a' h'
  | tup l vs h1 h2 ih =>
    simp only [Ab.killR]
    refine .tup _ vs (by simpa using h1) fun i a h => ?_
    simp only [List.getElem?_map, Option.map_eq_some_iff] at h
    obtain ⟨a', h', rfl⟩ := h; exact ih i a' h'
  | sl n l b o cap h1 h2 h3 h4 h5 h6 _ => simp only [Ab.killR]; exact .sl n l b o cap h1 h2 h3 h4 h5 h6
  | fp l b o h5 h6 _ => simp only [Ab.killR]; exact .fp l b o h5 h6
  | fmap es b ents clock h1 h2 h3 h4 h5 h6 _ => simp only [Ab.killR]; exact .fmap es b ents clock h1 h2 h3 h4 h5 h6
  | str s h => simp only [Ab.killR]; exact .str s h
  | undef v => simp only [Ab.killR]; exact .undef v
  | bool v => simp only [Ab.killR]; exact .bool v
  | int k v => simp only [Ab.killR]; exact .int k v
  | nilsl => simp only [Ab.killR]; exact .nilsl
  | slnil n => simp only [Ab.killR]; exact .slnil n
  | slmt n a cap h => simp only [Ab.killR]; exact .slmt n a cap h
  | nilp => simp only [Ab.killR]; exact .nilp
  | nilmap => simp only [Ab.killR]; exact .nilmap
  | nilfunc => simp only [Ab.killR]; exact .nilfunc
  | nili => simp only [Ab.killR]; exact .nili

theorem Rel.killR {w w' : World} {A A' : Nat → Prop} {G G' : Nat → Option GR} {n n' : Nat} {ρ : List Nat} (hn : n ≤ n') (hw : ∀ b, b < w.heap.size → ¬ A b → w'.heap[b]? = w.heap[b]?) (hA : ∀ b, b < w.heap.size → A' b → A b)
    (hG : ∀ y, y < n → y ∉ ρ → G' y = G y) (hB : ∀ y g', y < n → y ∈ ρ → G' y = some g' → ∃ g, G y = some g ∧ g'.base = g.base) {a : AV} {v : Value} (h : Rel w A G n a v) : Rel w' A' G' n' (killR ρ a) v := by
  have list : ∀ (l : List AV) (vs : List Value), vs.length = l.length → (∀ (i : Nat) (a : AV), l[i]? = some a → Rel w' A' G' n' (Ab.killR ρ a) (vs.getD i Go.undef)) →
      vs.length = (l.map fun a => Ab.killR ρ a).length ∧ ∀ (i : Nat) (a : AV), (l.map fun a => Ab.killR ρ a)[i]? = some a → Rel w' A' G' n' a (vs.getD i Go.undef) := by
    intro l vs h1 h2
    refine ⟨by simpa using h1, fun i a h => ?_⟩
    simp only [List.getElem?_map, Option.map_eq_some_iff] at h
    obtain ⟨a', h', rfl⟩ := h
    exact h2 i a' h'
  induction h with
  | fr a v h => exact .fr _ v ((h.keep hw hA).killR)
  | ref x p c v h1 h2 h3 =>
    simp only [Ab.killR]
    split
    · exact .fr _ _ (.undef v)
    · rename_i hm
      have hx : x ∉ ρ := fun h => hm (memB_iff.2 h)
      exact .ref _ p c v (Nat.lt_of_lt_of_le h1 hn) h2 (fun r row g hr => h3 r row g (by rw [← hG x h1 hx]; exact hr))
  | lv x p j ad h1 h2 =>
    by_cases hx : x ∈ ρ
    · cases p with
      | nil =>
        have e : Ab.killR ρ (.lv x [] j) = .lv x [] j := by simp only [Ab.killR]; split <;> rfl
        rw [e]
        refine .lv _ [] j ad (Nat.lt_of_lt_of_le h1 hn) (fun r b o hr hb => ?_)
        obtain ⟨g, k1, k2⟩ := hB x r h1 hx hr
        refine h2 g b o k1 ?_
        have hb' : r.at_ = some (b, o) := by rw [← hb]; unfold gBase; rfl
        have hg : gBase g.at_ g.cells [] = g.at_ := by unfold gBase; rfl
        rw [hg, ← hb']
        show g.base.map _ = r.base.map _
        rw [k2]
      | cons q p =>
        simp only [Ab.killR, if_pos (memB_iff.2 hx)]
        exact .fr _ _ (.undef _)
    · have hm : ¬ memB x ρ = true := fun h => hx (memB_iff.1 h)
      have e : Ab.killR ρ (.lv x p j) = .lv x p j := by cases p <;> simp only [Ab.killR, if_neg hm]
      rw [e]
      exact .lv _ p j ad (Nat.lt_of_lt_of_le h1 hn) (fun r b o hr => h2 r b o (by rw [← hG x h1 hx]; exact hr))
  | func fn first caps us vs h1 h2 h3 h4 ih1 ih2 =>
    simp only [Ab.killR]
    obtain ⟨g1, g2⟩ := list first us h1 ih1
    obtain ⟨g3, g4⟩ := list caps vs h2 ih2
    exact .func fn _ _ us vs g1 g3 g2 g4
  | ifc t v u h ih => simp only [Ab.killR]; exact .ifc t _ u ih
  | agg l vs h1 h2 ih => simp only [Ab.killR]; obtain ⟨g1, g2⟩ := list l vs h1 ih; exact .agg _ vs g1 g2
  | tup l vs h1 h2 ih => simp only [Ab.killR]; obtain ⟨g1, g2⟩ := list l vs h1 ih; exact .tup _ vs g1 g2

/-- Names. -/
def mName (ρ : List Nat) (k x : Nat) : Nat := ρ.getD x (k + x)
def unName (ρ : List Nat) (k y : Nat) : Option Nat := if y ∈ ρ then some (ρ.idxOf y) else if k + ρ.length ≤ y then some (y - k) else none
theorem un_m {ρ : List Nat} {k x : Nat} (hd : ρ.Nodup) (hk : ∀ y ∈ ρ, y < k) : unName ρ k (mName ρ k x) = some x := by
  unfold unName mName
  by_cases hx : x < ρ.length
  · have e : ρ.getD x (k + x) = ρ[x] := by simp [hx]
    rw [e, if_pos (List.getElem_mem hx), List.Nodup.idxOf_getElem hd x hx]
  · have e : ρ.getD x (k + x) = k + x := by simp [List.getElem?_eq_none (Nat.le_of_not_lt hx)]
    rw [e, if_neg (fun h => by have := hk _ h; omega), if_pos (by omega)]
    congr 1; omega
theorem m_un {ρ : List Nat} {k x y : Nat} (h : unName ρ k y = some x) : mName ρ k x = y := by
  unfold unName at h
  unfold mName
  split at h
  · rename_i hy
    cases h
    have hl := List.idxOf_lt_length_of_mem hy
    have : ρ[ρ.idxOf y]? = some y := by rw [List.getElem?_eq_getElem hl, List.getElem_idxOf hl]
    simp [this]
  · split at h
    · rename_i hy hl
      cases h
      have : ρ[y - k]? = none := List.getElem?_eq_none (by omega)
      simp [this]; omega
    · cases h
end Go.Ab

namespace Go.Ab
open Go Go.RowKit

/-! ### 34. The contract of a function that is given places of its own -/
def EndsG (up : Bool) (w : World) (A : Nat → Prop) (G : Nat → Option GR) (n : Nat) (Post : AV → St → Prop) : Ending → World → Prop
  | .returned v, w' => ∃ (σ' : St) (G' : Nat → Option GR) (r : AV), Post r σ' ∧ Inv A w' σ'.n σ'.s G' ∧ Rel w' (Own A G') G' σ'.n r v ∧ Fr (GFp G) w w' ∧ (∀ b, GFp G' b → GFp G b ∨ w.heap.size ≤ b) ∧
      ∀ x g g', x < n → G x = some g → G' x = some g' → g'.base = g.base
  | .panicked _, _ => False
  | .outgrown, _ => up = true

def GCall (P : Program) (up : Bool) (f : FuncId) (args : List AV) (n : Nat) (s : List (Nat × Root)) (Post : AV → St → Prop) : Prop :=
  Callable P f ∧ ∀ (w : World) (A : Nat → Prop) (G : Nat → Option GR) (vs : List Value), (∀ b, A b → b < w.heap.size) → Inv A w n s G → vs.length = args.length → (∀ (i : Nat) (a : AV), args[i]? = some a → Rel w (Own A G) G n a (vs.getD i undef)) →
    Calls P f vs.toArray w (EndsG up w A G n Post)

/-- The variables among the places stand where they stood: by what the first slots hold. -/
def ptrOK (np : Nat) (args : List AV) (σ : St) : List (Nat × Root) → Prop
  | [] => True
  | (x, r) :: rest => (∀ r', getS σ.s x = some r' → (r.box = false ∧ r'.box = false) ∨ ∃ i, (r.box = true ∧ r'.box = true) ∧ i < np ∧ args[i]? = some (.lv x [] 0) ∧ getT σ.t i = .lv x [] 0) ∧ ptrOK np args σ rest

theorem ptrOK_get {np : Nat} {args : List AV} {σ : St} : ∀ {s : List (Nat × Root)} {x : Nat} {r : Root}, ptrOK np args σ s → getS s x = some r → ∀ r', getS σ.s x = some r' → (r.box = false ∧ r'.box = false) ∨ ∃ i, (r.box = true ∧ r'.box = true) ∧ i < np ∧ args[i]? = some (.lv x [] 0) ∧ getT σ.t i = .lv x [] 0
  | [], x, r, _, h => by simp [getS] at h
  | (y, u) :: rest, x, r, h, hg => by
    simp only [getS] at hg
    split at hg
    · rename_i e; subst e; cases hg; exact h.1
    · exact ptrOK_get h.2 hg

def retG (TT : TTab) (rs : List ResultVar) (np : Nat) (args : List AV) (s : List (Nat × Root)) (Post : AV → St → Prop) (e : Exit) (σ : St) : Prop :=
  (e = .normal ∨ e = .ret) ∧ ptrOK np args σ s ∧ ∃ l, resL TT σ rs = some l ∧ Post (one l) σ

section
variable {P : Program} {TT : TTab} {up : Bool} {σ : St} {K : St → Prop}

theorem GCall.intro (htt : TTok P TT) (np : Nat) {f : FuncId} {fn : Func} {c : Code} {args : List AV} {n : Nat} {s : List (Nat × Root)} {Post : AV → St → Prop} (hf : P.funcs[f]? = some fn) (hn : (fn.name == "runtime.NumGoroutine") = false) (hb : fn.body = some c) (hl : args.length ≤ fn.ntmps)
    (hk : CW P up np fn.ntmps c { n := n, t := tmps0 0 args, s := s } (retG TT fn.results.toList np args s Post)) : GCall P up f args n s Post := by
  refine ⟨⟨fn, hf, hn, by rw [hb]; rfl⟩, fun w A G vs hA hinv hvl hr => ?_⟩
  refine calls_of_wp hf hb ?_
  have hsz : (vs.toArray ++ Array.replicate (fn.ntmps - vs.toArray.size) undef).size = fn.ntmps := by simp; omega
  have hval : ∀ i, i < args.length → (vs.toArray ++ Array.replicate (fn.ntmps - vs.toArray.size) undef).getD i undef = vs.getD i undef := fun i hi => by
    rw [Array.getD_eq_getD_getElem?, List.getD_eq_getElem?_getD, Array.getElem?_append_left (by simp; omega), List.getElem?_toArray]
  refine hk A (GFp G) w _ w G _ (fun hu => ⟨⟨#[], []⟩, w, hu⟩) ⟨hinv, hsz, rfl, fun i hi => ?_, fun i hi => ?_, ⟨rfl, rfl, rfl, Nat.le_refl _, fun _ _ _ => rfl⟩, fun b hb => .inl hb, hA⟩ fun e a' w' σ' G' hh hkept hq => ?_
  · rw [tmps0_get, if_pos (Nat.zero_le i), Nat.sub_zero]
    by_cases hlt : i < args.length
    · have h1 : args[i]? = some args[i] := List.getElem?_eq_getElem hlt
      rw [getD_of h1]
      show Rel w (Own A G) G n args[i] ((vs.toArray ++ Array.replicate (fn.ntmps - vs.toArray.size) undef).getD i undef)
      rw [hval i hlt]
      exact hr i _ h1
    · have : args.getD i .undef = .undef := by simp [List.getElem?_eq_none (Nat.le_of_not_lt hlt)]
      rw [this]
      exact .fr _ _ (.undef _)
  · rw [tmps0_get, if_pos (Nat.zero_le i), Nat.sub_zero]
    simp [List.getElem?_eq_none (show args.length ≤ i by omega)]
  · obtain ⟨he, hp, l, hl, hR⟩ := hq
    obtain ⟨v, k1, k2⟩ := hh.results htt hl
    have hbase : ∀ x g g', x < n → G x = some g → G' x = some g' → g'.base = g.base := by
      intro x g g' hx hg hg'
      have hd := hinv.dom x
      rw [hg] at hd
      obtain ⟨r, hr1⟩ := Option.isSome_iff_exists.1 hd
      have hd' := hh.inv.dom x
      rw [hg'] at hd'
      obtain ⟨r', hr2⟩ := Option.isSome_iff_exists.1 hd'
      have b1 := hinv.box x r g hr1 hg
      have b2 := hh.inv.box x r' g' hr2 hg'
      rcases ptrOK_get hp hr1 r' hr2 with ⟨q1, q2⟩ | ⟨i, ⟨q01, q02⟩, q1, q2, q3⟩
      · rw [q1] at b1; rw [q2] at b2
        have e1 : g.base = none := by cases h : g.base with | none => rfl | some b => rw [h] at b1; cases b1
        have e2 : g'.base = none := by cases h : g'.base with | none => rfl | some b => rw [h] at b2; cases b2
        rw [e1, e2]
      · have h1 := hr i _ q2
        have hil : i < args.length := (List.getElem?_eq_some_iff.1 q2).1
        have h2 := hh.slotD i
        rw [q3] at h2
        have hsame : a'.tmps.getD i undef = vs.getD i undef := by
          rw [← hval i hil, Array.getD_eq_getD_getElem?, Array.getD_eq_getD_getElem?, hkept i q1]
        rw [hsame] at h2
        obtain ⟨ad1, e1, _, l1⟩ := h1.lv_inv
        obtain ⟨ad2, e2, _, l2⟩ := h2.lv_inv
        rw [e1] at e2; cases e2
        have gb : ∀ (q : GR), gBase q.at_ q.cells [] = q.base.map fun b => (b, 0) := fun q => by unfold gBase; rfl
        rw [q01] at b1; rw [q02] at b2
        obtain ⟨b, hgb⟩ := Option.isSome_iff_exists.1 b1.symm
        obtain ⟨b', hgb'⟩ := Option.isSome_iff_exists.1 b2.symm
        have a1 := l1 g b 0 hg (by rw [gb, hgb]; rfl)
        have a2 := l2 g' b' 0 hg' (by rw [gb, hgb']; rfl)
        rw [a1] at a2; cases a2
        rw [hgb, hgb']
    rcases he with rfl | rfl
    · exact ⟨hh.defers, v, k1, σ', G', one l, hR, hh.inv, k2, hh.fr, hh.own, hbase⟩
    · exact ⟨hh.defers, v, k1, σ', G', one l, hR, hh.inv, k2, hh.fr, hh.own, hbase⟩

/-! The caller. -/
def delAll (ρ : List Nat) : List (Nat × Root) → List (Nat × Root)
  | [] => []
  | (j, v) :: r => if memB j ρ = true then delAll ρ r else (j, v) :: delAll ρ r
theorem getS_delAll (ρ : List Nat) (s : List (Nat × Root)) (y : Nat) : getS (delAll ρ s) y = if memB y ρ = true then none else getS s y := by
  induction s with
  | nil => simp [delAll, getS]
  | cons q r ih =>
    obtain ⟨j, v⟩ := q
    simp only [delAll]
    split
    · rename_i hj
      rw [ih]
      split
      · rfl
      · rename_i hy
        simp only [getS]
        rw [if_neg (fun e => hy (by rw [← e]; exact hj))]
    · rename_i hj
      simp only [getS, ih]
      by_cases e : j = y
      · subst e; simp [hj]
      · simp [e]
def renS (m : Nat → Nat) (s : List (Nat × Root)) : List (Nat × Root) := s.map fun q => (m q.1, { q.2 with cells := q.2.cells.map (ren m) })
theorem getS_renS {ρ : List Nat} {k : Nat} (hd : ρ.Nodup) (hk : ∀ y ∈ ρ, y < k) (s : List (Nat × Root)) (y : Nat) :
    getS (renS (mName ρ k) s) y = match unName ρ k y with | some x => (getS s x).map (fun r => { r with cells := r.cells.map (ren (mName ρ k)) }) | none => none := by
  induction s with
  | nil => simp only [renS, List.map_nil, getS]; split <;> rfl
  | cons q r ih =>
    obtain ⟨j, v⟩ := q
    have e : renS (mName ρ k) ((j, v) :: r) = (mName ρ k j, { v with cells := v.cells.map (ren (mName ρ k)) }) :: renS (mName ρ k) r := rfl
    rw [e]
    simp only [getS]
    rw [ih]
    cases hu : unName ρ k y with
    | none =>
      have hne : ¬ mName ρ k j = y := fun e => by rw [← e, un_m hd hk] at hu; cases hu
      rw [if_neg hne]
    | some x =>
      have hm := m_un hu
      simp only
      by_cases hj : j = x
      · subst hj; rw [if_pos hm, if_pos rfl]; rfl
      · have hne : ¬ mName ρ k j = y := fun e => by rw [← e, un_m hd hk] at hu; cases hu; exact hj rfl
        rw [if_neg hne, if_neg hj]
theorem getS_app (s s' : List (Nat × Root)) (y : Nat) : getS (s ++ s') y = (getS s y).or (getS s' y) := by
  induction s with
  | nil => simp [getS]
  | cons q r ih =>
    obtain ⟨j, v⟩ := q
    simp only [List.cons_append, getS, ih]
    split
    · rfl
    · rfl

/-- The caller's state behind the call. -/
def aftS (ρ : List Nat) (σ σ' : St) : St := { n := σ.n + σ'.n, t := mapT (killR ρ) σ.t, s := renS (mName ρ σ.n) σ'.s ++ mapS (killR ρ) (delAll ρ σ.s) }

theorem rel_subL {w : World} {A A' : Nat → Prop} {G G' : Nat → Option GR} {n n' : Nat} {m : Nat → Nat} (hrel : ∀ {b : AV} {v : Value}, Rel w A G n b v → ∀ {a : AV}, Sub m n' a b → Rel w A' G' n' a v) {l l' : List AV} {vs : List Value}
    (hs : SubL m n' l l') (hv : vs.length = l'.length) (h : ∀ (i : Nat) (a : AV), l'[i]? = some a → Rel w A G n a (vs.getD i undef)) : vs.length = l.length ∧ ∀ (i : Nat) (a : AV), l[i]? = some a → Rel w A' G' n' a (vs.getD i undef) := by
  refine ⟨by rw [hv, hs.len], fun i a ha => ?_⟩
  obtain ⟨b, h1, h2⟩ := hs.at_ i a ha
  exact hrel (h i b h1) h2

theorem snd_gcall (ρ : List Nat) {o : Oper} {x : Operand} {xs : Array Operand} {ts : Array TypeId} {f : FuncId} {first caps args : List AV} {sc : List (Nat × Root)} {Post : AV → St → Prop} (ho : o.op = .call { callee := .value x, args := xs, argTypes := ts }) (hx : ev σ x = .func (.func f) first caps)
    (hp : GCall P up f args ρ.length sc Post) (hρ : ρ.Nodup) (hsc : AllS (mName ρ 0) ρ.length σ.s sc) (hnm : (Names (mName ρ 0) sc).Nodup) (hin : ∀ y ∈ ρ, (getS σ.s y).isSome = true) (hcov : ∀ x, x < ρ.length → (getS sc x).isSome = true)
    (ha : SubL (mName ρ 0) ρ.length args (callL σ first xs.toList caps)) (hk : ∀ (r : AV) (σ' : St), Post r σ' → K ((aftS ρ σ σ').put o.dst (ren (mName ρ σ.n) r))) : SndU P up o σ K := by
  intro A0 D0 w0 nt a w G Q hd hu h
  left
  obtain ⟨us, vs, e1, e2, e3⟩ := h.callArgs hx xs.toList
  have hlt : ∀ y, (getS σ.s y).isSome = true → y < σ.n := fun y hy => by
    rw [h.inv.dom y] at hy
    obtain ⟨g, hg⟩ := Option.isSome_iff_exists.1 hy
    exact h.inv.lt y g hg
  have hkρ : ∀ y ∈ ρ, y < σ.n := fun y hy => hlt y (hin y hy)
  -- what is kept from the callee
  let Ac : Nat → Prop := fun b => A0 b ∨ ∃ y g, G y = some g ∧ y ∉ ρ ∧ RFp g b
  have hAc : ∀ b, Ac b → Own A0 G b := fun b hb => hb.imp id fun ⟨y, g, h1, _, h3⟩ => ⟨y, g, h1, h3⟩
  have hmr : ∀ z, z < ρ.length → mName ρ 0 z ∈ ρ := fun z hz => by unfold mName; simp [hz]
  have hscρ : ∀ z g, Gsub (mName ρ 0) sc G z = some g → mName ρ 0 z ∈ ρ := fun z g hg => by
    unfold Gsub at hg
    split at hg
    · rename_i r hr
      obtain ⟨_, _, _, _, hz, _⟩ := hsc.get z r hr
      exact hmr z hz
    · cases hg
  have hfp0 : ∀ z g k, Gsub (mName ρ 0) sc G z = some g → RFp g k → ∃ g0, G (mName ρ 0 z) = some g0 ∧ RFp g0 k := fun z g k hg hk =>
    ((h.inv.weak (A1 := fun _ => False) (mName ρ 0) hnm hsc (fun b hb => hb.elim) (fun b _ hb => hb)).2.2.2) z g k hg hk
  obtain ⟨hinv, hown, hrel, hfp⟩ := h.inv.weak (A1 := Ac) (mName ρ 0) hnm hsc hAc (fun b ⟨z, g, hg, hk⟩ hb => by
    obtain ⟨g0, h1, h2⟩ := hfp0 z g b hg hk
    rcases hb with hb | ⟨y, g', h3, h4, h5⟩
    · exact h.inv.a0 b ⟨_, g0, h1, h2⟩ hb
    · exact h.inv.sep _ g0 y g' h1 h3 (fun e => h4 (by rw [← e]; exact hscρ z g hg)) b h2 h5)
  have hGcb : ∀ z gc, Gsub (mName ρ 0) sc G z = some gc → ∃ g, G (mName ρ 0 z) = some g ∧ gc.base = g.base := fun z gc hg => by
    unfold Gsub at hg
    split at hg
    · simp only [Option.map_eq_some_iff] at hg
      obtain ⟨g0, h1, rfl⟩ := hg
      exact ⟨g0, h1, rfl⟩
    · cases hg
  have hGcd : ∀ z, z < ρ.length → ∃ gc, Gsub (mName ρ 0) sc G z = some gc := fun z hz => by
    obtain ⟨r, hr⟩ := Option.isSome_iff_exists.1 (hcov z hz)
    obtain ⟨v, hv, _⟩ := hsc.get z r hr
    have := h.inv.dom (mName ρ 0 z)
    rw [hv] at this
    obtain ⟨g, hg⟩ := Option.isSome_iff_exists.1 this.symm
    exact ⟨_, by unfold Gsub; rw [hr]; simp only [hg]; rfl⟩
  generalize hGc : Gsub (mName ρ 0) sc G = Gc at *
  have hsize : ∀ b, Ac b → b < w.heap.size := fun b hb => (hAc b hb).elim (fun hb => Nat.lt_of_lt_of_le (h.a0lt b hb) h.fr.size) (fun hb => rfp_lt h.inv hb)
  obtain ⟨hl1, hl2⟩ := rel_subL (A := Own A0 G) hrel ha e2 e3
  have hc := hp.2 w Ac Gc (us ++ xs.toList.map a.eval ++ vs) hsize hinv hl1 hl2
  simp only [Oper.wp, run_enter hp.1 ho e1, Oper.upon]
  refine hc.mono fun e w' he => ?_
  cases e with
  | panicked c => exact he.elim
  | outgrown => exact hu he
  | returned v =>
    obtain ⟨σ', G', r, k1, k2, k3, k4, k5, k6⟩ := he
    let Gn : Nat → Option GR := fun y => match unName ρ σ.n y with | some x => G' x | none => G y
    have hGn : ∀ {y x : Nat}, unName ρ σ.n y = some x → Gn y = G' x := fun {y x} h => by simp only [Gn, h]
    have hGn0 : ∀ {y : Nat}, unName ρ σ.n y = none → Gn y = G y := fun {y} h => by simp only [Gn, h]
    have hunρ : ∀ {y : Nat}, unName ρ σ.n y = none → y ∉ ρ := fun {y} h hy => by unfold unName at h; rw [if_pos hy] at h; cases h
    have hunlt : ∀ {y : Nat}, y < σ.n → y ∉ ρ → unName ρ σ.n y = none := fun {y} h hy => by unfold unName; rw [if_neg hy, if_neg (by omega)]
    have hmlt : ∀ x, x < σ'.n → mName ρ σ.n x < σ.n + σ'.n := fun x hx => by
      unfold mName
      by_cases hxl : x < ρ.length
      · have : ρ.getD x (σ.n + x) = ρ[x] := by simp [hxl]
        rw [this]
        have := hkρ _ (List.getElem_mem hxl)
        omega
      · have : ρ.getD x (σ.n + x) = σ.n + x := by simp [List.getElem?_eq_none (Nat.le_of_not_lt hxl)]
        rw [this]; omega
    have hownN : ∀ b, GFp Gn b → GFp G b ∨ w.heap.size ≤ b := by
      rintro b ⟨y, g, hg, hb⟩
      cases hu' : unName ρ σ.n y with
      | none => rw [hGn0 hu'] at hg; exact .inl ⟨y, g, hg, hb⟩
      | some x => rw [hGn hu'] at hg; exact (k5 b ⟨x, g, hg, hb⟩).imp (hown b) id
    have hAN : ∀ b, b < w.heap.size → Own A0 Gn b → Own A0 G b := fun b hb ho => ho.imp id fun hg => (hownN b hg).resolve_right (by omega)
    have hAc' : ∀ b, Own A0 Gn b → Own Ac G' b := by
      rintro b (hb | ⟨y, g, hg, hb⟩)
      · exact .inl (.inl hb)
      · cases hu' : unName ρ σ.n y with
        | none => rw [hGn0 hu'] at hg; exact .inl (.inr ⟨y, g, hg, hunρ hu', hb⟩)
        | some x => rw [hGn hu'] at hg; exact .inr ⟨x, g, hg, hb⟩
    have hblk : ∀ b, b < w.heap.size → ¬ GFp G b → w'.heap[b]? = w.heap[b]? := fun b hb hg => k4.block b hb fun hgc => hg (hown b hgc)
    have hidx : ∀ y ∈ ρ, ∃ z, z < ρ.length ∧ mName ρ 0 z = y ∧ unName ρ σ.n y = some z := fun y hy => by
      have hl := List.idxOf_lt_length_of_mem hy
      refine ⟨ρ.idxOf y, hl, ?_, by unfold unName; rw [if_pos hy]⟩
      have : ρ[ρ.idxOf y]? = some y := by rw [List.getElem?_eq_getElem hl, List.getElem_idxOf hl]
      unfold mName; simp [this]
    have hrelN : ∀ {av : AV} {u : Value}, Rel w' (Own Ac G') G' σ'.n av u → Rel w' (Own A0 Gn) Gn (σ.n + σ'.n) (ren (mName ρ σ.n) av) u := fun hr =>
      hr.ren (fun b _ hb => hAc' b hb) hmlt (fun x _ => hGn (un_m hρ hkρ))
    have hgs : ∀ y, getS (aftS ρ σ σ').s y = match unName ρ σ.n y with | some x => (getS σ'.s x).map (fun r => { r with cells := r.cells.map (ren (mName ρ σ.n)) }) | none => (getS σ.s y).map (fun r => { r with cells := r.cells.map (killR ρ) }) := by
      intro y
      show getS (renS (mName ρ σ.n) σ'.s ++ mapS (killR ρ) (delAll ρ σ.s)) y = _
      rw [getS_app, getS_renS hρ hkρ, getS_map, getS_delAll]
      cases hu' : unName ρ σ.n y with
      | none =>
        simp only [Option.none_or]
        rw [if_neg (fun h => hunρ hu' (memB_iff.1 h))]
      | some x =>
        simp only
        have : (if memB y ρ = true then none else getS σ.s y) = none := by
          split
          · rfl
          · rename_i hy
            have hy : y ∉ ρ := fun h => hy (memB_iff.2 h)
            cases hs : getS σ.s y with
            | none => rfl
            | some q =>
              have := hunlt (hlt y (by rw [hs]; rfl)) hy
              rw [this] at hu'; cases hu'
        rw [this]
        simp
    have hH : Holds A0 D0 w0 nt (aftS ρ σ σ') a w' Gn := by
      refine h.change (σ' := aftS ρ σ σ') (G' := Gn) (killR ρ) (fun y => (unName ρ σ.n y).isSome = true) (by show σ.n ≤ σ.n + σ'.n; omega) hblk ⟨k4.os, k4.tape, k4.output, k4.size⟩ hownN
        (fun a v hr => ?_) (by simp [killR]) (fun a ht => killR_tree ht) (fun y => ?_) (fun y hy => ?_) (fun y g hy hg b hb => ?_) (fun y r' g hy hr' hg => ?_) (fun y g y' g' hy hg hg' hne b hb hb' => ?_) rfl
      · refine hr.killR (by show σ.n ≤ σ.n + σ'.n; omega) (fun b hb ho => hblk b hb fun hg => ho (.inr hg)) hAN (fun y hy hyρ => hGn0 (hunlt hy hyρ)) (fun y g' hy hyρ hg' => ?_)
        obtain ⟨z, hz, hm, hun⟩ := hidx y hyρ
        rw [hGn hun] at hg'
        obtain ⟨gc, hgc⟩ := hGcd z hz
        obtain ⟨g, hg, hb⟩ := hGcb z gc hgc
        rw [hm] at hg
        exact ⟨g, hg, by rw [k6 z gc g' hz hgc hg', hb]⟩
      · rw [hgs y]
        cases hu' : unName ρ σ.n y with
        | none => rw [hGn0 hu']; simp [h.inv.dom y]
        | some x => rw [hGn hu']; simp [k2.dom x]
      · have hu' : unName ρ σ.n y = none := by cases hh : unName ρ σ.n y with | none => rfl | some x => rw [hh] at hy; exact absurd rfl hy
        exact ⟨by rw [hgs y, hu'], hGn0 hu'⟩
      · have hu' : unName ρ σ.n y = none := by cases hh : unName ρ σ.n y with | none => rfl | some x => rw [hh] at hy; exact absurd rfl hy
        refine k4.block b (rfp_lt h.inv ⟨y, g, hg, hb⟩) fun ⟨z, gc, hgc, hbc⟩ => ?_
        obtain ⟨g0, h1, h2⟩ := hfp z gc b hgc hbc
        exact h.inv.sep y g _ g0 hg h1 (fun e => hunρ hu' (by rw [e]; exact hscρ z gc hgc)) b hb h2
      · obtain ⟨x', hu'⟩ := Option.isSome_iff_exists.1 hy
        rw [hgs y, hu'] at hr'
        rw [hGn hu'] at hg
        simp only [Option.map_eq_some_iff] at hr'
        obtain ⟨r0, hr0, rfl⟩ := hr'
        have hcells := k2.cells x' r0 g hr0 hg
        refine ⟨k2.box x' r0 g hr0 hg, ⟨by simpa using hcells.len, fun c av t hav ht => ?_⟩, (k2.row x' g hg).keep (fun _ _ _ => rfl) (fun b _ hb => hAc' b hb) (fun _ _ => rfl) (fun _ _ _ => rfl), fun b hb => k2.base x' g b hg hb, ?_⟩
        · simp only [List.getElem?_map, Option.map_eq_some_iff] at hav
          obtain ⟨av0, h0, rfl⟩ := hav
          rcases hcells.cell c av0 t h0 ht with ⟨q1, q2⟩ | ⟨q1, q2⟩
          · exact .inl ⟨q1, by rw [ren_tree (by rw [q2]; exact tree_of_leaf q1)]; exact q2⟩
          · exact .inr ⟨q1, hrelN q2⟩
        · have := hmlt x' (k2.lt x' g hg)
          rw [m_un hu'] at this
          exact this
      · obtain ⟨x', hu'⟩ := Option.isSome_iff_exists.1 hy
        rw [hGn hu'] at hg
        cases hu2 : unName ρ σ.n y' with
        | none =>
          rw [hGn0 hu2] at hg'
          exact k2.a0 b ⟨x', g, hg, hb⟩ (.inr ⟨y', g', hg', hunρ hu2, hb'⟩)
        | some x2 =>
          rw [hGn hu2] at hg'
          exact k2.sep x' g x2 g' hg hg' (fun e => hne (by rw [← m_un hu', ← m_un hu2, e])) b hb hb'
    exact ⟨_, Gn, hH.put (hrelN k3) hd, hk r σ' k1⟩

theorem CWops.callG {nt : Nat} {all : Array Oper} {os : List Oper} {d : Option Tmp} {ty : TypeId} {pos : String} {af : Array Edge} {gd : Option (Nat × Bool)} {x : Operand} {xs : Array Operand} {ts : Array TypeId} {f : FuncId} {first caps args : List AV} {n : Nat} {sc : List (Nat × Root)} {Post : AV → St → Prop}
    (ρ : List Nat) (hn : ρ.length = n) (hp : GCall P up f args n sc Post) (hw : wantd all σ ⟨d, .call ⟨.value x, xs, ts⟩, ty, pos, af, gd⟩ = some true) (hx : ev σ x = .func (.func f) first caps)
    (hρ : ρ.Nodup) (hsc : AllS (mName ρ 0) n σ.s sc) (hnm : (Names (mName ρ 0) sc).Nodup) (hin : ∀ y ∈ ρ, (getS σ.s y).isSome = true) (hcov : ∀ x, x < n → (getS sc x).isSome = true)
    (ha : SubL (mName ρ 0) n args (callL σ first xs.toList caps)) (hk : ∀ (r : AV) (σ' : St), Post r σ' → CWops P up nt all os ((aftS ρ σ σ').put d (ren (mName ρ σ.n) r)) K) : CWops P up nt all (⟨d, .call ⟨.value x, xs, ts⟩, ty, pos, af, gd⟩ :: os) σ K := by
  subst hn
  exact CWops.step hw (snd_gcall ρ rfl hx hp hρ hsc hnm hin hcov ha hk)
end
end Go.Ab

namespace Go.Ab
open Go Go.RowKit

/-! ### 35. Other ways to tell a state -/
theorem Sh.wk0 {σ τ : St} (h : Wk (fun x => x) σ τ) : Sh σ τ := Sh.wk _ h
theorem Sh.nilRoot {σ τ : St} (i m : Nat) (hi : getT σ.t i = .nilsl) (he : { n := σ.n + 1, t := (i, .ref σ.n [] 0) :: σ.t, s := (σ.n, ⟨false, [.own m []]⟩) :: σ.s } = τ) : Sh σ τ := by
  intro A0 D0 w0 nt a w G h
  subst he
  have hm : GT.er (.own m (.slice none 0 0) []) = .own m [] := by simp [GT.er]
  obtain ⟨G', h1, h2⟩ := h.newDet (.own m (.slice none 0 0) []) (fun _ _ => rfl) ⟨rfl, rfl, rfl, Nat.le_refl _⟩ rfl (.own _ _ _ (fun i r j g hi => by simp at hi) (fun i r j g hi => by simp at hi) (fun i r j g i' r' j' g' hi => by simp at hi))
    (fun k hk => by cases hk with | own _ _ _ i r j g k hr => simp at hr) (fun A _ => .onil m)
  rw [hm] at h1
  obtain ⟨v, k1, k2⟩ := h.slot (t := i) (by rw [hi]; simp)
  rw [hi] at k2
  have hv := k2.nilsl_inv
  subst hv
  refine ⟨G', h1.inv, h1.size, h1.defers, fun j hj => ?_, fun j hj => ?_, h1.fr, h1.own, h1.a0lt⟩
  · simp only [getT]
    split
    · rename_i e; subst e
      rw [Array.getD_eq_getD_getElem?, k1]
      exact h2
    · exact h1.tmp j hj
  · simp only [getT]
    have : i ≠ j := fun e => by subst e; have := h.far i hj; rw [hi] at this; cases this
    rw [if_neg this]
    exact h1.far j hj

theorem Sh.nilCell {σ τ : St} (x : Nat) (p : List (Nat × Nat)) (c m : Nat) (hc : cellAtB σ x p c = .nilsl)
    (he : { n := σ.n + 1, t := mapT (AV.kill x p c) σ.t, s := match getS σ.s x with | some r => updS (mapS (AV.kill x p c) σ.s) x { r with cells := putAt (r.cells.map (AV.kill x p c)) p c (.own m []) } | none => σ.s } = τ) : Sh σ τ := by
  intro A0 D0 w0 nt a w G h
  subst he
  unfold cellAtB at hc
  split at hc
  · rename_i r hr
    split at hc
    · rename_i row hrow
      have hcl : c < row.length := by
        rcases Nat.lt_or_ge c row.length with h | h
        · exact h
        · simp [List.getElem?_eq_none h] at hc
      have hrc : row[c]? = some .nilsl := by
        rw [List.getElem?_eq_getElem hcl]
        simpa [List.getElem?_eq_getElem hcl] using hc
      let t : GT := .own m (.slice none 0 0) []
      have hm : t.er = .own m [] := by simp [t, GT.er]
      have hnofp : ∀ b, ¬ RFp ⟨none, [t]⟩ b := by
        rintro b (hb | ⟨c, g, hg, hb⟩)
        · cases hb
        · cases c with
          | zero =>
            cases hg
            have hb : Fp (.own m (.slice none 0 0) []) b := hb
            cases hb with | own _ _ _ i r j g k hr => simp at hr
          | succ c => simp at hg
      have hsep : Sep t := .own _ _ _ (fun i r j g hi => by simp at hi) (fun i r j g hi => by simp at hi) (fun i r j g i' r' j' g' hi => by simp at hi)
      have h1 := h.newRoot (w' := w) (N := σ.n) (r := ⟨false, [.own m []]⟩) (g := ⟨none, [t]⟩) (Nat.le_refl _) (fun _ _ => rfl) ⟨rfl, rfl, rfl, Nat.le_refl _⟩ (fun b hb => (hnofp b hb).elim) rfl
        (fun A _ => ⟨rfl, fun c av g hav hg => by
          cases c with
          | zero => cases hav; cases hg; exact .inl ⟨rfl, hm.symm⟩
          | succ c => simp at hg⟩)
        (fun A _ => ⟨fun c g hg => by
          cases c with
          | zero => cases hg; exact .onil m
          | succ c => simp at hg, ⟨fun c g hg => by
          cases c with
          | zero => cases hg; exact hsep
          | succ c => simp at hg, fun c g c' g' hg hg' hne k hk hk' => (hnofp k (.inr ⟨c, g, hg, hk⟩)).elim⟩, fun b o e => by simp [GR.at_] at e, fun b o e => by simp [GR.at_] at e⟩) (fun b hb => by simp at hb)
      obtain ⟨g, hg, hb, hcs, hmm⟩ := h.root hr
      have hxn : x < σ.n := h.inv.lt x g hg
      have hne : σ.n ≠ x := by omega
      obtain ⟨grow, k1, k2, k3, k4⟩ := row_at hcs hmm hrow
      have hgl : c < grow.length := by rw [← k2.len]; exact hcl
      have hgc : grow[c]? = some grow[c] := List.getElem?_eq_getElem hgl
      have hval : t.val = grow[c].val := by
        rcases k2.cell c _ _ hrc hgc with ⟨q1, q2⟩ | ⟨q1, q2⟩
        · have := tree_of_leaf q1; rw [← q2] at this; cases this
        · have := q2.nilsl_inv; rw [this]; rfl
      have hG1x : Gset G σ.n (some ⟨none, [t]⟩) x = some g := by unfold Gset; rw [if_neg (Ne.symm hne)]; exact hg
      have hG1y : Gset G σ.n (some ⟨none, [t]⟩) σ.n = some ⟨none, [t]⟩ := by unfold Gset; rw [if_pos rfl]
      have hs1 : getS ((σ.n, (⟨false, [.own m []]⟩ : Root)) :: σ.s) x = some r := by simp only [getS]; rw [if_neg hne]; exact hr
      obtain ⟨h2, _⟩ := h1.adopt (x := x) (y := σ.n) (r := r) (p := p) (row := row) (j := c) hs1 hrow hne hG1x k1 hgc hG1y rfl hval
      refine ⟨_, h2.ext rfl (fun _ => rfl) (fun z => ?_)⟩
      rw [hr, hm]
      simp only
      have hno : getS σ.s σ.n = none := by
        cases hq : getS σ.s σ.n with
        | none => rfl
        | some q =>
          have := h.inv.dom σ.n
          rw [hq] at this
          obtain ⟨g', hg'⟩ := Option.isSome_iff_exists.1 this.symm
          exact absurd (h.inv.lt _ g' hg') (by omega)
      simp only [getS_upd, getS_del, getS_map]
      by_cases hzx : z = x
      · rw [if_pos hzx, if_pos hzx, if_neg (Ne.symm hne)]
        simp only [getS, if_neg hne, hr, Option.map_some]
      · rw [if_neg hzx, if_neg hzx]
        by_cases hzn : z = σ.n
        · subst hzn; rw [if_pos rfl, hno]; rfl
        · rw [if_neg hzn]
          simp only [getS]
          rw [if_neg (Ne.symm hzn)]
    · cases hc
  · cases hc

def keepT (l : List Nat) (t : List (Nat × AV)) : List (Nat × AV) := l.map fun i => (i, getT t i)
theorem getT_keep (t : List (Nat × AV)) : ∀ (l : List Nat) (i : Nat), getT (keepT l t) i = getT t i ∨ getT (keepT l t) i = .undef
  | [], i => .inr rfl
  | j :: l, i => by
    have e : keepT (j :: l) t = (j, getT t j) :: keepT l t := rfl
    rw [e]
    simp only [getT]
    split
    · rename_i e; subst e; exact .inl rfl
    · exact getT_keep t l i
theorem Sh.keep {σ τ : St} (l : List Nat) (he : { σ with t := keepT l σ.t } = τ) : Sh σ τ := by
  intro A0 D0 w0 nt a w G h
  subst he
  refine ⟨G, h.inv, h.size, h.defers, fun j hj => ?_, fun j hj => ?_, h.fr, h.own, h.a0lt⟩
  · rcases getT_keep σ.t l j with e | e
    · show Rel w (Own A0 G) G σ.n (getT (keepT l σ.t) j) _
      rw [e]; exact h.tmp j hj
    · show Rel w (Own A0 G) G σ.n (getT (keepT l σ.t) j) _
      rw [e]; exact .fr _ _ (.undef _)
  · rcases getT_keep σ.t l j with e | e
    · show getT (keepT l σ.t) j = .undef
      rw [e]; exact h.far j hj
    · exact e

/-- Lengths. -/
def Fact (σ : St) (p : Prop) : Prop := ∀ (A0 D0 : Nat → Prop) (w0 : World) (nt : Nat) (a : Act) (w : World) (G : Nat → Option GR), Holds A0 D0 w0 nt σ a w G → p
theorem CW.fact {P : Program} {up : Bool} {np nt : Nat} {σ : St} {Q : Exit → St → Prop} {c : Code} {p : Prop} (h : Fact σ p) (hk : p → CW P up np nt c σ Q) : CW P up np nt c σ Q :=
  fun A0 D0 w0 a w G R hu hh hr => hk (h A0 D0 w0 nt a w G hh) A0 D0 w0 a w G R hu hh hr
theorem CWops.fact {P : Program} {up : Bool} {nt : Nat} {all : Array Oper} {os : List Oper} {σ : St} {K : St → Prop} {p : Prop} (h : Fact σ p) (hk : p → CWops P up nt all os σ K) : CWops P up nt all os σ K :=
  fun hd A0 D0 w0 a w G R hu hh hr => hk (h A0 D0 w0 nt a w G hh) hd A0 D0 w0 a w G R hu hh hr
theorem Fact.own {σ : St} (x : Nat) (p : List (Nat × Nat)) (c : Nat) {n : Nat} {es : List (List AV)} (hc : cellAtB σ x p c = .own n es) : Fact σ (es.length ≤ MX) := by
  intro A0 D0 w0 nt a w G h
  obtain ⟨r, row, g, grow, t, _, _, _, _, _, _, k7, k8, k9, _⟩ := h.tree hc rfl
  cases k9 with
  | lf a v _ _ => cases k7
  | onil m => simp [GT.er] at k8; obtain ⟨_, rfl⟩ := k8; simp
  | own m b cap vs T rows h1 h2 h3 h4 h5 h6 h7 h8 => simp [GT.er] at k8; rw [← k8.2]; simpa using h5
  | map b ents clock es' _ _ _ _ _ => simp [GT.er] at k8
  | iter b s q _ => simp [GT.er] at k8
theorem Fact.omap {σ : St} (x : Nat) (p : List (Nat × Nat)) (c : Nat) {es : List (Int × AV)} (hc : cellAtB σ x p c = .omap es) : Fact σ (es.length ≤ MX) := by
  intro A0 D0 w0 nt a w G h
  obtain ⟨r, row, g, grow, t, _, _, _, _, _, _, k7, k8, k9, _⟩ := h.tree hc rfl
  cases k9 with
  | lf a v _ _ => cases k7
  | onil m => simp [GT.er] at k8
  | own m b cap vs T rows h1 h2 h3 h4 h5 h6 h7 h8 => simp [GT.er] at k8
  | map b ents clock es' h1 h2 h3 h4 h5 => simp [GT.er] at k8; rw [← k8]; exact h3
  | iter b s q _ => simp [GT.er] at k8
theorem Fact.slot {σ : St} (i : Nat) (hp : (getT σ.t i).pure = true) : Fact σ (Lens (getT σ.t i)) := by
  intro A0 D0 w0 nt a w G h
  exact ⟨w, _, _, (h.slotD i).pure hp⟩
mutual
theorem Sub_pure (n : Nat) : ∀ (a : AV), a.pure = true → Sub (fun x => x) n a a
  | .agg l, h => by simp only [AV.pure] at h; simp only [Sub]; exact ⟨l, rfl, SubL_pure n l h⟩
  | .tup l, h => by simp only [AV.pure] at h; simp only [Sub]; exact ⟨l, rfl, SubL_pure n l h⟩
  | .func f x y, h => by simp only [AV.pure, Bool.and_eq_true] at h; simp only [Sub]; exact ⟨x, y, rfl, SubL_pure n x h.1, SubL_pure n y h.2⟩
  | .ifc t a, h => by simp only [AV.pure] at h; simp only [Sub]; exact ⟨a, rfl, Sub_pure n a h⟩
  | .undef, _ | .sl _ _, _ | .bool _, _ | .int _ _, _ | .str _, _ | .nilsl, _ | .nilp, _ | .fp _, _ | .nilmap, _ | .fmap _, _ | .nilfunc, _ | .nili, _ => by simp [Sub]
  | .own _ _, h | .ref _ _ _, h | .lv _ _ _, h | .omap _, h | .iter _ _, h => by simp [AV.pure] at h
theorem SubL_pure (n : Nat) : ∀ (l : List AV), pureL l = true → SubL (fun x => x) n l l
  | [], _ => by simp [SubL]
  | a :: r, h => by simp only [pureL, Bool.and_eq_true] at h; simp only [SubL]; exact ⟨Sub_pure n a h.1, SubL_pure n r h.2⟩
end
theorem SubL_refl {n : Nat} {l : List AV} (h : pureL l = true) : SubL (fun x => x) n l l = True := eq_true (SubL_pure n l h)
theorem leL_rfl (l : List AV) : leL l l = True := eq_true (leP_refl.leL_refl l)
theorem leP_rfl (a : AV) : leP a a = True := eq_true (leP_refl a)
attribute [go_sem] leL_rfl leP_rfl
attribute [go_sem] keepT ren killR mName renS delAll memB aftS
end Go.Ab

namespace Go.Ab
open Go Go.RowKit

/-! ### 36. Strings gone through sign by sign; a slice compared with nil -/
section
variable {P : Program} {TT : TTab} {up : Bool} {o : Oper} {σ : St} {K : St → Prop}

theorem snd_range {t : Nat} {x : Operand} {i : TI} {s : ByteArray} (ho : o.op = .range t x) (htt : TTok P TT) (ht : TT t = some i) (hi : i.kind = .str) (hx : ev σ x = .str s)
    (hk : K (St.put { n := σ.n + 1, t := σ.t, s := (σ.n, ⟨false, [.iter s 0]⟩) :: σ.s } o.dst (.ref σ.n [] 0))) : Snd P o σ K := by
  intro A0 D0 w0 nt a w G Q hd h
  have hti := (htt t i ht).kind
  rw [hi] at hti
  have hti : P.underlying t = some .string := hti
  have he := h.ev x
  rw [hx] at he
  have hv := he.str_inv.1
  have hnew : (w.alloc (.stringIter s 0)).heap[w.heap.size]? = some (.stringIter s 0) := Go.heap_alloc_new w _
  obtain ⟨G', k1, k2⟩ := h.newDet (.iter w.heap.size s 0) (w' := w.alloc (.stringIter s 0)) (fun b hb => Below.heap_alloc w _ b hb) ⟨rfl, rfl, rfl, by simp⟩ rfl (.iter _ _ _) (fun k hk => by cases hk; omega)
    (fun A _ => .iter _ _ _ hnew)
  simp only [GT.er] at k1
  refine wp_value (v := .pointer (some ⟨w.heap.size, 0, none⟩)) (w' := w.alloc (.stringIter s 0)) ?_ ⟨_, G', k1.put k2 hd, hk⟩
  simp [execOp, ho, Instr.range, run_underlying hti, hv]

theorem snd_next {x : Operand} {y : Nat} {p : List (Nat × Nat)} {c : Nat} {r : Root} {row : List AV} {s : ByteArray} {pos : Nat} (ho : o.op = .next x true) (hx : ev σ x = .ref y p c) (hr : getS σ.s y = some r) (hrow : rowOf r.cells p = some row) (hc : row[c]? = some (.iter s pos))
    (h1 : pos < s.size → K (St.put { σ with s := updS σ.s y { r with cells := putAt r.cells p c (.iter s (pos + (Utf8.decode s pos).2)) } } o.dst (.tup [.bool true, .int .i64 pos, .int .i32 (Utf8.decode s pos).1])))
    (h2 : s.size ≤ pos → K (σ.put o.dst (.tup [.bool false]))) : Snd P o σ K := by
  intro A0 D0 w0 nt a w G Q hd h
  have hcell : cellAtB σ y p c = .iter s pos := by simp [cellAtB, hr, hrow, hc]
  obtain ⟨r', row', g, grow, t', k1, k2, k3, k4, k5, k6, k7, k8, k9, k10, k11, k12⟩ := h.tree hcell rfl
  rw [hr] at k1; cases k1
  rw [hrow] at k2; cases k2
  obtain ⟨b, rfl⟩ := er_iter k8 k7
  have he := h.ev x
  rw [hx] at he
  have hv := k11 _ he.ref_inv.2.2
  cases k9 with
  | iter b s pos hb =>
    have hlt : b < w.heap.size := (Array.getElem?_eq_some_iff.1 hb).1
    have hget : (getObj b).run P w = .ok (.stringIter s pos) w := by simp [getObj, Sem.run, hb]
    by_cases hp : pos < s.size
    · have hsame : ∀ (u : Obj) k, k ≠ b → (w.heap.setIfInBounds b u)[k]? = w.heap[k]? := fun u k hk => by simp [Array.getElem?_setIfInBounds, Ne.symm hk]
      generalize hq : pos + (Utf8.decode s pos).2 = pos' at h1
      have hself : (w.heap.setIfInBounds b (.stringIter s pos'))[b]? = some (.stringIter s pos') := by simp [hlt]
      have := h.setObj (j := c) (g1 := .iter b s pos') (w' := { w with heap := w.heap.setIfInBounds b (.stringIter s pos') }) hr hrow k4 k5 k6 rfl rfl rfl rfl (.iter _ _ _) (fun k hk => by cases hk; exact .iter _ _ _)
        (fun k hk hn => hsame _ k fun e => hn (e ▸ .iter _ _ _)) ⟨rfl, rfl, rfl, by simp⟩ (fun A hA => .iter b s pos' hself)
      simp only [GT.er] at this
      refine wp_value (v := .tuple #[.bool true, .int .i64 pos, .int .i32 (Utf8.decode s pos).1]) (w' := { w with heap := w.heap.setIfInBounds b (.stringIter s pos') }) ?_ ⟨_, _, this.put (.tup [.bool true, .int .i64 pos, .int .i32 (Utf8.decode s pos).1] [.bool true, .int .i64 pos, .int .i32 (Utf8.decode s pos).1] rfl (fun i av hi => ?_)) hd, h1 hp⟩
      · rw [← hq]
        simp only [execOp, ho, hv, GT.val, Instr.next, Sem.run_bind, hget, Result.andThen_ok, if_pos hp]
        have hset : (setObj b (.stringIter s (pos + (Utf8.decode s pos).2))).run P w = .ok () { w with heap := w.heap.setIfInBounds b (.stringIter s (pos + (Utf8.decode s pos).2)) } := by simp [setObj, Sem.run, hb]
        simp only [Sem.run_bind, hset, Result.andThen_ok, Sem.run_pure, goInt]
      · match i, hi with
        | 0, hi => cases hi; exact .fr _ _ (.bool _)
        | 1, hi => cases hi; exact .fr _ _ (.int _ _)
        | 2, hi => cases hi; exact .fr _ _ (.int _ _)
        | i + 3, hi => simp at hi
    · refine wp_value (v := .tuple #[.bool false]) (w' := w) ?_ ⟨_, G, h.put (.tup [.bool false] [.bool false] rfl (fun i av hi => ?_)) hd, h2 (by omega)⟩
      · simp only [execOp, ho, hv, GT.val, Instr.next, Sem.run_bind, hget, Result.andThen_ok, if_neg hp, Sem.run_pure]
      · match i, hi with
        | 0, hi => cases hi; exact .fr _ _ (.bool _)
        | i + 1, hi => simp at hi

theorem CWops.range {nt : Nat} {all : Array Oper} {os : List Oper} {d : Option Tmp} {ty : TypeId} {pos : String} {af : Array Edge} {gd : Option (Nat × Bool)} {t : Nat} {x : Operand} {i : TI} {s : ByteArray} (htt : TTok P TT) (hw : wantd all σ ⟨d, .range t x, ty, pos, af, gd⟩ = some true) (hx : ev σ x = .str s) (ht : TT t = some i) (hi : i.kind = .str)
    (hk : CWops P up nt all os (St.put { n := σ.n + 1, t := σ.t, s := (σ.n, ⟨false, [.iter s 0]⟩) :: σ.s } d (.ref σ.n [] 0)) K) : CWops P up nt all (⟨d, .range t x, ty, pos, af, gd⟩ :: os) σ K :=
  CWops.step hw (Snd.up (snd_range rfl htt ht hi hx hk))

theorem CWops.next {nt : Nat} {all : Array Oper} {os : List Oper} {d : Option Tmp} {ty : TypeId} {ps : String} {af : Array Edge} {gd : Option (Nat × Bool)} {x : Operand} {y : Nat} {p : List (Nat × Nat)} {c : Nat} {r : Root} {row : List AV} {s : ByteArray} {pos : Nat} (hw : wantd all σ ⟨d, .next x true, ty, ps, af, gd⟩ = some true)
    (hx : ev σ x = .ref y p c) (hr : getS σ.s y = some r) (hrow : rowOf r.cells p = some row) (hc : row[c]? = some (.iter s pos))
    (h1 : pos < s.size → CWops P up nt all os (St.put { σ with s := updS σ.s y { r with cells := putAt r.cells p c (.iter s (pos + (Utf8.decode s pos).2)) } } d (.tup [.bool true, .int .i64 pos, .int .i32 (Utf8.decode s pos).1])) K)
    (h2 : s.size ≤ pos → CWops P up nt all os (σ.put d (.tup [.bool false])) K) : CWops P up nt all (⟨d, .next x true, ty, ps, af, gd⟩ :: os) σ K :=
  CWops.step hw (Snd.up (snd_next rfl hx hr hrow hc h1 h2))

/-- What an iterator gives: a sign, or the end. -/
def nextL (b : Bool) (p c : Int) : List AV := match b with
  | true => [.bool true, .int .i64 p, .int .i32 c]
  | false => [.bool false]
theorem nextL_len (b : Bool) (p c : Int) : (0 < (nextL b p c).length) = True := by cases b <;> simp [nextL]
theorem nextL_get (b : Bool) (p c : Int) : (nextL b p c).getD 0 .undef = .bool b := by cases b <;> rfl
theorem nextL_true (p c : Int) : nextL true p c = [.bool true, .int .i64 p, .int .i32 c] := rfl
theorem nextL_false (p c : Int) : nextL false p c = [.bool false] := rfl
attribute [go_sem] nextL_len nextL_get nextL_true nextL_false
def nextP (b : Bool) (s : ByteArray) (pos : Nat) : Nat := match b with
  | true => pos + (Utf8.decode s pos).2
  | false => pos
theorem nextP_true (s : ByteArray) (pos : Nat) : nextP true s pos = pos + (Utf8.decode s pos).2 := rfl

theorem CWops.nextB {nt : Nat} {all : Array Oper} {os : List Oper} {d : Option Tmp} {ty : TypeId} {ps : String} {af : Array Edge} {gd : Option (Nat × Bool)} {x : Operand} {y : Nat} {s : ByteArray} {pos : Nat} (hw : wantd all σ ⟨d, .next x true, ty, ps, af, gd⟩ = some true)
    (hx : ev σ x = .ref y [] 0) (hr : getS σ.s y = some ⟨false, [.iter s pos]⟩)
    (hk : ∀ b : Bool, (b = true → pos < s.size) → (b = false → s.size ≤ pos) → CWops P up nt all os (St.put { σ with s := updS σ.s y ⟨false, [.iter s (nextP b s pos)]⟩ } d (.tup (nextL b pos (Utf8.decode s pos).1))) K) : CWops P up nt all (⟨d, .next x true, ty, ps, af, gd⟩ :: os) σ K := by
  refine CWops.next (p := []) (c := 0) (row := [.iter s pos]) hw hx hr rfl rfl (fun h => ?_) (fun h => ?_)
  · exact hk true (fun _ => h) (fun h => by cases h)
  · have h1 := hk false (fun h => by cases h) (fun _ => h)
    refine CWops.sh ?_ h1
    intro A0 D0 w0 nt a w G hh
    refine ⟨G, hh.ext (by cases d <;> rfl) (fun i => by cases d <;> rfl) (fun z => ?_)⟩
    have e : (St.put { σ with s := updS σ.s y ⟨false, [.iter s (nextP false s pos)]⟩ } d (.tup (nextL false pos (Utf8.decode s pos).1))).s = updS σ.s y ⟨false, [.iter s pos]⟩ := by cases d <;> rfl
    have e2 : (σ.put d (.tup [.bool false])).s = σ.s := by cases d <;> rfl
    rw [e, e2, getS_upd]
    by_cases hz : z = y
    · subst hz; rw [if_pos rfl, hr]; rfl
    · rw [if_neg hz]

theorem snd_nilcmp {op : BinOp} {t : Nat} {x y : Operand} {u : TypeId} {n : Nat} {l : List (List AV)} {i : TI} {e : Nat} (ho : o.op = .binOp op t x y u) (htt : TTok P TT) (ht : TT t = some i) (hi : i.kind = .slice e) (hx : ev σ x = .sl n l) (hy : ev σ y = .nilsl)
    (hop : ∀ b, (b = true → l = []) → ∃ r, eqB op b = some r ∧ K (σ.put o.dst r)) : Snd P o σ K := by
  intro A0 D0 w0 nt a w G Q hd h
  have hti := (htt t i ht).kind
  rw [hi] at hti
  have hti : P.underlying t = some (.slice e) := hti
  have ha := h.ev x
  have hb := h.ev y
  rw [hx] at ha
  rw [hy] at hb
  have hbv := hb.nilsl_inv
  have ha := ha.fr_of trivial
  have key : ∀ (ad : Option Addr) (m cap : Nat), a.eval x = .slice ad m cap → (ad.isNone = true → l = []) → o.wp P a w (Goes A0 D0 w0 nt K) Q := by
    intro ad m cap he hnil
    obtain ⟨r, hr, hK⟩ := hop ad.isNone hnil
    have hrun : (Op.equal t (.slice ad m cap) (.slice none 0 0)).run P w = .ok ad.isNone w := by
      have key : ∀ d, (Op.equalIn (d + 1) t (.slice ad m cap) (.slice none 0 0)).run P w = .ok ad.isNone w := by
        intro d
        cases ad <;> simp [Op.equalIn, run_underlying hti]
      exact key 9999
    rcases eqB_inv hr with ⟨rfl, rfl⟩ | ⟨rfl, rfl⟩
    · refine wp_value (v := .bool ad.isNone) (w' := w) ?_ ⟨_, G, h.put (.fr _ _ (.bool _)) hd, hK⟩
      simp only [execOp, ho, he, hbv, Sem.run_bind]
      simp [eqGuard, binOp, hrun]
    · refine wp_value (v := .bool (!ad.isNone)) (w' := w) ?_ ⟨_, G, h.put (.fr _ _ (.bool _)) hd, hK⟩
      simp only [execOp, ho, he, hbv, Sem.run_bind]
      simp [eqGuard, binOp, hrun]
  generalize he : a.eval x = v at ha
  cases ha with
  | slnil => exact key none 0 0 he (fun _ => rfl)
  | slmt _ a cap h1 => exact key _ _ _ he (fun hh => by cases hh)
  | sl _ _ b o' cap h1 h2 h3 h4 h5 h6 => exact key _ _ _ he (fun hh => by cases hh)

theorem CWops.nilcmp {nt : Nat} {all : Array Oper} {os : List Oper} {d : Option Tmp} {ty : TypeId} {ps : String} {af : Array Edge} {gd : Option (Nat × Bool)} {op : BinOp} {t : Nat} {x y : Operand} {u : TypeId} {n : Nat} {l : List (List AV)} {i : TI} {e : Nat} (htt : TTok P TT)
    (hw : wantd all σ ⟨d, .binOp op t x y u, ty, ps, af, gd⟩ = some true) (hx : ev σ x = .sl n l) (hy : ev σ y = .nilsl) (ht : TT t = some i) (hi : i.kind = .slice e)
    (hk : ∀ b, (b = true → l = []) → ∃ r, eqB op b = some r ∧ CWops P up nt all os (σ.put d r) K) : CWops P up nt all (⟨d, .binOp op t x y u, ty, ps, af, gd⟩ :: os) σ K :=
  CWops.step hw (Snd.up (snd_nilcmp rfl htt ht hi hx hy hk))
end
end Go.Ab

namespace Go.Ab
open Go Go.RowKit

/-! ### 38. A tree in a variable's cell is frozen -/
theorem Sh.frz {σ τ : St} (x j : Nat) {n : Nat} {rows : List (List AV)} (hc : cellAtB σ x [] j = .own n rows)
    (he : { σ with s := match getS σ.s x with | some r => updS σ.s x { r with cells := putAt r.cells [] j (AV.own n rows).freeze } | none => σ.s } = τ) : Sh σ τ := by
  intro A0 D0 w0 nt a w G h
  subst he
  unfold cellAtB at hc
  split at hc
  · rename_i r hr
    simp only [rowOf] at hc
    have hcl : j < r.cells.length := by
      rcases Nat.lt_or_ge j r.cells.length with h | h
      · exact h
      · simp [List.getElem?_eq_none h] at hc
    have hrc : r.cells[j]? = some (.own n rows) := by
      rw [List.getElem?_eq_getElem hcl]
      simpa [List.getElem?_eq_getElem hcl] using hc
    have hrow : rowOf r.cells [] = some r.cells := rfl
    obtain ⟨g, hg, hb, hcs, hm⟩ := h.root hr
    obtain ⟨g0, hg0⟩ := cellAt hcs hcl
    have hgr : gRow g.cells [] = some g.cells := rfl
    have hoc : g0.val.oneCell' = true := (hm.mem j g0 hg0).oneCell
    have her : g0.er = .own n rows := by
      rcases hcs.cell j _ _ hrc hg0 with ⟨_, q2⟩ | ⟨q1, q2⟩
      · exact q2.symm
      · cases q2 with | fr _ _ q => cases q
    obtain ⟨m1, m2, m3⟩ := RowMem.same (g1 := .lf .undef g0.val) (.lf _ _ (.undef _) hoc) (.lf _ _) [] hm hgr hg0 rfl (fun k hk => by cases hk)
    have hoff := gPut_off (g1 := .lf .undef g0.val) rfl [] hm.sep hgr hg0
    have hfp : ∀ k, RFp { g with cells := gPut g.cells [] j (.lf .undef g0.val) } k → RFp g k := fun k hk => hk.imp id fun hk => (m2 k hk).resolve_right (fun hk => by cases hk)
    have hown : ∀ k, GFp (Gset G x (some { g with cells := gPut g.cells [] j (.lf .undef g0.val) })) k → GFp G k := by
      rintro k ⟨y, gy, hy, hk⟩
      by_cases e : y = x
      · subst e; rw [Gset_self] at hy; cases hy; exact ⟨y, g, hg, hfp k hk⟩
      · rw [Gset_ne e] at hy; exact ⟨y, gy, hy, hk⟩
    have h2 := h.turn (w' := w) (r' := { r with cells := putAt r.cells [] j (AV.own n rows).freeze }) (g' := { g with cells := gPut g.cells [] j (.lf .undef g0.val) }) hr hg rfl rfl (gPut_len [] g.cells) (fun _ _ _ => rfl) ⟨rfl, rfl, rfl, Nat.le_refl _⟩ (fun b vs T _ hh => ⟨vs, hh, rfl⟩) hfp
      (m1.keep (fun _ _ _ => rfl) (fun k _ hk => hk.imp id (hown k)) (fun _ _ => rfl) (fun _ _ _ => rfl)) (fun y q c v hr => hr.turn hg hgr hg0 rfl (.inl rfl)) (fun y q c v hr => hr.turn hg hgr hg0 rfl) (fun hA hrel => ?_)
    · refine ⟨Gset G x (some { g with cells := gPut g.cells [] j (.lf .undef g0.val) }), ?_⟩
      simp only [hr]
      exact h2
    · have hfr : FR w (Own A0 (Gset G x (some { g with cells := gPut g.cells [] j (.lf .undef g0.val) }))) (AV.own n rows).freeze g0.val := by
        rw [← her]
        refine (hm.mem j g0 hg0).freeze hA fun b hb hn => ?_
        have hbg : RFp g b := .inr ⟨j, g0, hg0, hb⟩
        rcases hn with hn | ⟨y, gy, hy, hk⟩
        · exact h.inv.a0 b ⟨x, g, hg, hbg⟩ hn
        · by_cases e : y = x
          · subst e; rw [Gset_self] at hy; cases hy
            rcases hk with hk | hk
            · exact hm.off b 0 (by simp only [GR.at_, Option.map_eq_some_iff]; exact ⟨b, hk, rfl⟩) ⟨j, g0, hg0, hb⟩
            · exact hoff b hk hb
          · rw [Gset_ne e] at hy; exact h.inv.sep y gy x g hy hg e b hk hbg
      have hc := cells_put (f := id) (p := []) (j := j) (av := (AV.own n rows).freeze) (g' := .lf .undef g0.val) hcs hm hrow hrel (fun _ _ => rfl) (.inr (.inl ⟨rfl, rfl, .fr _ _ hfr⟩))
      rw [List.map_id] at hc; exact hc
  · cases hc
theorem Sh.frzT {σ τ : St} (i x : Nat) {n : Nat} {rows : List (List AV)} (hi : getT σ.t i = .ref x [] 0) (hc : cellAtB σ x [] 0 = .own n rows)
    (he : { σ with t := (i, (AV.own n rows).freeze) :: σ.t, s := delS σ.s x } = τ) : Sh σ τ := by
  intro A0 D0 w0 nt a w G h
  subst he
  obtain ⟨r, row, g, grow, t, k1, k2, k3, k4, k5, k6, k7, k8, k9, k10, k11, k12⟩ := h.tree hc rfl
  obtain ⟨v, q1, q2⟩ := h.slot (t := i) (by rw [hi]; simp)
  rw [hi] at q2
  obtain ⟨_, _, e3⟩ := q2.ref_inv
  have hv := k11 v e3
  have h2 := h.drop x
  have hown : ∀ b, GFp (Gset G x none) b → GFp G b := by
    rintro b ⟨y, g, hy, hb⟩
    by_cases e : y = x
    · subst e; rw [Gset_self] at hy; cases hy
    · rw [Gset_ne e] at hy; exact ⟨y, g, hy, hb⟩
  have hfr : FR w (Own A0 (Gset G x none)) (AV.own n rows).freeze v := by
    rw [← k8, hv]
    refine k9.freeze (fun b _ hb => hb.imp id (hown b)) fun b hb hn => ?_
    rcases hn with hn | ⟨y, gy, hy, hk⟩
    · exact h.inv.a0 b ⟨x, g, k4, .inr (k12 b hb)⟩ hn
    · by_cases e : y = x
      · subst e; rw [Gset_self] at hy; cases hy
      · rw [Gset_ne e] at hy; exact h.inv.sep y gy x g hy k4 e b hk (.inr (k12 b hb))
  refine ⟨Gset G x none, h2.inv, h2.size, h2.defers, fun j hj => ?_, fun j hj => ?_, h2.fr, h2.own, h2.a0lt⟩
  · simp only [getT]
    split
    · rename_i e; subst e
      rw [Array.getD_eq_getD_getElem?, q1]
      exact .fr _ _ hfr
    · exact h2.tmp j hj
  · simp only [getT]
    have : i ≠ j := fun e => by subst e; have := h.far i hj; rw [hi] at this; cases this
    rw [if_neg this]
    exact h2.far j hj
theorem CW.told {P : Program} {up : Bool} {np nt : Nat} {σ : St} {Q : Exit → St → Prop} {c : Code} (h : CW P up np nt c σ (fun e σ' => ∃ τ, Sh σ' τ ∧ Q e τ)) : CW P up np nt c σ Q :=
  fun A0 D0 w0 a w G R hu hh hr => h A0 D0 w0 a w G R hu hh fun e a' w σ' _ h1 hk ⟨τ, hs, hq⟩ => let ⟨G'', h2⟩ := hs A0 D0 w0 nt a' w _ h1; hr e a' w τ G'' h2 hk hq
end Go.Ab

