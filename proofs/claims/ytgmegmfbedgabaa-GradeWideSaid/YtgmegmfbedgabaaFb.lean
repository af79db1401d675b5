/-
  What a machine's memory holds of plain values, and that each operation, block, loop and call of the model turns such a state as told. No condition but those of each theorem.
-/
import Derived.WalkKit
import Derived.Below
import Derived.Test.YtgmegmfbedgabaaFa
set_option linter.unusedVariables false
set_option linter.unusedSimpArgs false
namespace Go.Ab
open Go Go.RowKit
theorem gBase_put_same {g1 : GT} {j : Nat} : ∀ (p : List (Nat × Nat)) {base : Option (Nat × Nat)} {cells row : List GT}, gRow cells p = some row → gBase base (gPut cells p j g1) p = gBase base cells p := by
  intro p
  induction p with
  | nil => intros; rfl
  | cons q p ih =>
    obtain ⟨c, i⟩ := q
    intro base cells row h
    simp only [gRow] at h
    split at h
    · rename_i n v rows hc
      split at h
      · rename_i r hr
        have hl : c < cells.length := (List.getElem?_eq_some_iff.1 hc).1
        have hli : i < rows.length := (List.getElem?_eq_some_iff.1 hr).1
        simp only [gPut, gBase, hc, hr, List.getElem?_set_self hl]
        cases v with
        | slice a l cp =>
          cases a with
          | none => rfl
          | some ad => simp only [List.getElem?_set_self hli, hr]; exact ih h
        | _ => rfl
      · cases h
    · cases h
theorem rowOf_put {j : Nat} {v : AV} : ∀ (p : List (Nat × Nat)) {cells row : List AV}, rowOf cells p = some row → rowOf (putAt cells p j v) p = some (row.set j v) := by
  intro p
  induction p with
  | nil => intro cells row h; cases h; rfl
  | cons q p ih =>
    obtain ⟨c, i⟩ := q
    intro cells row h
    simp only [rowOf] at h
    split at h
    · rename_i n es hc
      split at h
      · rename_i r hr
        have hl : c < cells.length := (List.getElem?_eq_some_iff.1 hc).1
        have hli : i < es.length := (List.getElem?_eq_some_iff.1 hr).1
        simp only [putAt, rowOf, hc, hr, List.getElem?_set_self hl, List.getElem?_set_self hli]
        exact ih h
      · cases h
    · cases h
theorem putAt_put {j : Nat} {v u : AV} : ∀ (p : List (Nat × Nat)) {cells row : List AV}, rowOf cells p = some row → putAt (putAt cells p j v) p j u = putAt cells p j u := by
  intro p
  induction p with
  | nil => intro cells row h; simp [putAt]
  | cons q p ih =>
    obtain ⟨c, i⟩ := q
    intro cells row h
    simp only [rowOf] at h
    split at h
    · rename_i n es hc
      split at h
      · rename_i r hr
        have hl : c < cells.length := (List.getElem?_eq_some_iff.1 hc).1
        have hli : i < es.length := (List.getElem?_eq_some_iff.1 hr).1
        simp only [putAt, hc, hr, List.getElem?_set_self hl, List.getElem?_set_self hli, List.set_set, ih h]
      · cases h
    · cases h
theorem rowOf_map {f : AV → AV} (hf : ∀ a, a.tree = true → f a = a) (p : List (Nat × Nat)) {cells row : List AV} (h : rowOf cells p = some row) : rowOf (cells.map f) p = some (if p = [] then row.map f else row) := by
  cases p with
  | nil => cases h; simp [rowOf]
  | cons q p =>
    obtain ⟨c, i⟩ := q
    simp only [rowOf, List.getElem?_map] at h ⊢
    split at h
    · rename_i n es hc
      simp only [hc, Option.map_some, hf _ (show (AV.own n es).tree = true from rfl)]
      split at h
      · rename_i r hr
        simpa using h
      · cases h
    · cases h
theorem putAt_map {f : AV → AV} (hf : ∀ a, a.tree = true → f a = a) {j : Nat} {v u : AV} (p : List (Nat × Nat)) {cells row : List AV} (h : rowOf cells p = some row) : putAt ((putAt cells p j v).map f) p j u = putAt (cells.map f) p j u := by
  cases p with
  | nil => simp [putAt, List.map_set]
  | cons q p =>
    obtain ⟨c, i⟩ := q
    simp only [rowOf] at h
    split at h
    · rename_i n es hc
      split at h
      · rename_i r hr
        have hl : c < cells.length := (List.getElem?_eq_some_iff.1 hc).1
        have hli : i < es.length := (List.getElem?_eq_some_iff.1 hr).1
        simp only [putAt, hc, hr, List.map_set, List.getElem?_map, Option.map_some, hf _ (show (AV.own n es).tree = true from rfl), hf _ (show (AV.own n (es.set i (putAt r p j v))).tree = true from rfl),
          List.getElem?_set_self (show c < (cells.map f).length by simpa using hl), List.getElem?_set_self hli, List.set_set, putAt_put p h]
      · cases h
    · cases h
def mov (σ : St) (x : Nat) : AV → Option (Nat × AV)
  | .ref y [] 0 => if y = x then none else match getS σ.s y with
    | some ⟨false, [t]⟩ => if t.tree then some (y, t) else none
    | _ => none
  | _ => none
def stCell (σ : St) (x : Nat) (p : List (Nat × Nat)) (j : Nat) (v : AV) : Option St :=
  match getS σ.s x with
  | none => none
  | some r => match mov σ x v with
    | some (y, t) => some { n := σ.n, t := mapT (AV.kill x p j) σ.t, s := updS (delS (mapS (AV.kill x p j) σ.s) y) x { r with cells := putAt (r.cells.map (AV.kill x p j)) p j t } }
    | none => if p.isEmpty || v.pure then some { σ with s := updS σ.s x { r with cells := putAt r.cells p j v } } else none
theorem mov_inv {σ : St} {x : Nat} {v : AV} {y : Nat} {t : AV} (h : mov σ x v = some (y, t)) : v = .ref y [] 0 ∧ y ≠ x ∧ getS σ.s y = some ⟨false, [t]⟩ ∧ t.tree = true := by
  unfold mov at h
  split at h
  · rename_i z
    split at h
    · cases h
    · rename_i hne
      split at h
      · rename_i t' e
        split at h
        · rename_i ht; cases h; exact ⟨rfl, hne, e, ht⟩
        · cases h
      · cases h
  · cases h
section
variable {A0 D0 : Nat → Prop} {w0 : World} {nt : Nat} {σ : St} {a : Act} {w : World} {G : Nat → Option GR}
theorem Holds.ext (h : Holds A0 D0 w0 nt σ a w G) {σ' : St} (h1 : σ'.n = σ.n) (h2 : ∀ i, getT σ'.t i = getT σ.t i) (h3 : ∀ x, getS σ'.s x = getS σ.s x) : Holds A0 D0 w0 nt σ' a w G := by
  obtain ⟨⟨i1, i2, i3, i4, i5, i6, i7, i8⟩, b, c, d, e, f, g, k⟩ := h
  exact ⟨⟨fun x => by rw [h3]; exact i1 x, fun x r g hr => i2 x r g (by rw [← h3]; exact hr), fun x r g hr => by rw [h1]; exact i3 x r g (by rw [← h3]; exact hr), i4, i5, i6, fun x g hg => by rw [h1]; exact i7 x g hg, i8⟩,
    b, c, fun i hi => by rw [h1, h2]; exact d i hi, fun i hi => by rw [h2]; exact e i hi, f, g, k⟩
theorem Holds.stCell (h : Holds A0 D0 w0 nt σ a w G) {x : Nat} {r : Root} {p : List (Nat × Nat)} {row : List AV} {j : Nat} (hs : getS σ.s x = some r) (hrow : rowOf r.cells p = some row) (hj : j < row.length) (hbox : p = [] → r.box = true)
    {av : AV} {u : Value} (hv : Rel w (Own A0 G) G σ.n av u) (hu : u.oneCell' = true) {σ' : St} (hst : Ab.stCell σ x p j av = some σ') {g : GR} {b o : Nat} (hg : G x = some g) (hb : gBase g.at_ g.cells p = some (b, o)) :
    ∃ vs T G' g' r' row', w.heap[b]? = some (.cells vs T (0, 0)) ∧ o + j < vs.size ∧ Holds A0 D0 w0 nt σ' a (w.setCell ⟨b, o + j, none⟩ u) G' ∧ G' x = some g' ∧ gBase g'.at_ g'.cells p = some (b, o) ∧
      getS σ'.s x = some r' ∧ r'.box = r.box ∧ rowOf r'.cells p = some row' ∧ row'.length = row.length ∧
      ∀ a v, Rel w (Own A0 G) G σ.n a v → Rel (w.setCell ⟨b, o + j, none⟩ u) (Own A0 G') G' σ'.n (if (mov σ x av).isSome then a.kill x p j else a) v := by
  unfold Ab.stCell at hst
  rw [hs] at hst
  simp only at hst
  split at hst
  · rename_i y t hm
    obtain ⟨rfl, hyx, hy, htt⟩ := mov_inv hm
    cases hst
    obtain ⟨g1, b1, o1, vs, T, grow, g0, k1, k2, k3, k4, k5, k6, k7, k8⟩ := h.setLeaf (av := .undef) (u := u) hs hrow hj hbox (.fr _ _ (.undef _)) (fun _ => .undef _) hu
    rw [hg] at k1; cases k1
    rw [hb] at k2; cases k2
    -- the root y
    obtain ⟨gy, hgy, hyb, hycs, hym⟩ := h.root hy
    obtain ⟨by_, cy⟩ := gy
    simp only at hyb hycs
    have hby : by_ = none := by cases by_ <;> simp at hyb ⊢
    subst hby
    have hcy : ∃ ty, cy = [ty] := by
      have := hycs.len
      cases cy with
      | nil => simp at this
      | cons a l => cases l with
        | nil => exact ⟨a, rfl⟩
        | cons => simp at this
    obtain ⟨ty, rfl⟩ := hcy
    obtain ⟨htl, hte⟩ : ty.leaf = false ∧ t = ty.er := by
      rcases hycs.cell 0 t ty rfl rfl with hx | ⟨_, hx⟩
      · exact hx
      · exfalso
        generalize ty.val = vv at hx
        cases hx with
        | fr _ _ hf => rw [hf.not_tree] at htt; cases htt
        | _ => cases htt
    obtain ⟨_, _, hro⟩ := hv.ref_inv
    have huv : u = ty.val := hro _ [ty] ty hgy rfl rfl htl
    have hrow1 := rowOf_put (j := j) (v := .undef) p hrow
    have hs1 : getS (updS σ.s x { r with cells := putAt r.cells p j .undef }) x = some { r with cells := putAt r.cells p j .undef } := by rw [getS_upd, if_pos rfl, hs]; rfl
    have hgr1 := gRow_put (g1 := GT.lf (if p = [] then AV.undef else AV.undef) u) p k5 k6
    have hjl : j < grow.length := (List.getElem?_eq_some_iff.1 k6).1
    obtain ⟨q1, q2⟩ := k7.adopt (x := x) (y := y) (t := ty) hs1 hrow1 hyx (Gset_self _ _ _) hgr1 (List.getElem?_set_self hjl) (by rw [Gset_ne hyx]; exact hgy) htl (by rw [← huv]; rfl)
    have hput := putAt_map (f := AV.kill x p j) (kill_tree (x := x) (p := p) (j := j)) (j := j) (v := .undef) (u := ty.er) p hrow
    refine ⟨vs, T, _, { g with cells := gPut (gPut g.cells p j (.lf (if p = [] then AV.undef else AV.undef) u)) p j ty }, { r with cells := putAt (r.cells.map (AV.kill x p j)) p j ty.er }, _, k3, k4, q1.ext rfl (fun _ => rfl) (fun z => ?_), ?_, ?_, ?_, rfl,
      rowOf_put p (rowOf_map kill_tree p hrow), ?_, fun a v hr => ?_⟩
    · -- the two spellings of the store are one
      simp only [getS_upd, getS_del, getS_map]
      by_cases e : z = x
      · subst e
        simp only [if_true, Ne.symm hyx, if_false, hs, Option.map_some, hput, hte]
      · simp only [e, if_false]
    · rw [Gset_ne (Ne.symm hyx), Gset_self]
    · show gBase g.at_ (gPut (gPut g.cells p j _) p j ty) p = _
      rw [gBase_put_same p hgr1, gBase_put_same p k5]
      exact hb
    · rw [getS_upd, if_pos rfl, getS_del, if_neg (Ne.symm hyx), getS_map, hs]
      simp [hte]
    · simp only [List.length_set]; split <;> simp
    · simp only [hm, Option.isSome_some, if_true]
      exact q2 a v (k8 a v hr)
  · rename_i hm
    split at hst
    · rename_i hc
      cases hst
      have hfr : p ≠ [] → FR w (Own A0 G) av u := fun hp => by
        have : p.isEmpty = false := by cases p <;> simp_all
        rw [this, Bool.false_or] at hc
        exact hv.pure hc
      obtain ⟨g1, b1, o1, vs, T, grow, g0, k1, k2, k3, k4, k5, k6, k7, k8⟩ := h.setLeaf hs hrow hj hbox hv hfr hu
      rw [hg] at k1; cases k1
      rw [hb] at k2; cases k2
      refine ⟨vs, T, _, _, { r with cells := putAt r.cells p j av }, _, k3, k4, k7, Gset_self _ _ _, ?_, by rw [getS_upd, if_pos rfl, hs]; rfl, rfl, rowOf_put p hrow, by simp, fun a v hr => ?_⟩
      · show gBase g.at_ (gPut g.cells p j _) p = _
        rw [gBase_put_same p k5]; exact hb
      · simp only [hm, Option.isSome_none, Bool.false_eq_true, if_false]
        exact k8 a v hr
    · cases hst
end
end Go.Ab
namespace Go.Ab
open Go Go.RowKit
def setCells (b o : Nat) : World → Nat → List Value → World
  | w, _, [] => w
  | w, i, u :: us => setCells b o (w.setCell ⟨b, o + i, none⟩ u) (i + 1) us
theorem run_storeCells {P : Program} {b o : Nat} {T : TypeId} : ∀ (us : List Value) (i : Nat) (w : World) (vs : Array Value), w.heap[b]? = some (.cells vs T (0, 0)) → o + i + us.length ≤ vs.size → (∀ u ∈ us, u.oneCell' = true) →
    (storeCells ⟨b, o, none⟩ us i).run P w = .ok () (setCells b o w i us)
  | [], i, w, vs, _, _, _ => rfl
  | u :: us, i, w, vs, hh, hl, h1 => by
    simp only [List.length_cons] at hl
    have hc : w.cell? ⟨b, o + i, none⟩ = some (vs[o + i]'(by omega)) := by simp [World.cell?, hh, show o + i < vs.size by omega]
    have hf : w.frozen? ⟨b, o + i, none⟩ = false := by simp [World.frozen?, hh]
    have hst : (store ((⟨b, o, none⟩ : Addr).add i) u).run P w = .ok () (w.setCell ⟨b, o + i, none⟩ u) := by
      rw [Addr.add_lit, run_store P w _ u _ (h1 u (by simp)), hc]
      simp [hf]
    simp only [storeCells, Sem.run_bind, hst, Result.andThen_ok, setCells]
    exact run_storeCells us (i + 1) _ _ (heap_setCell_self hh) (by simp; omega) (fun x hx => h1 x (by simp [hx]))
theorem setCell_same {w : World} {b o : Nat} {u : Value} (h : w.cell? ⟨b, o, none⟩ = some u) : w.setCell ⟨b, o, none⟩ u = w := by
  obtain ⟨heap, tape, drawn, os, output⟩ := w
  simp only [World.setCell, World.mk.injEq, and_self, and_true]
  simp only [World.cell?] at h
  split at h
  · rename_i c e fr hh
    simp at h
    apply Array.ext_getElem?
    intro k
    rw [Array.getElem?_modify]
    by_cases hk : b = k
    · subst hk
      simp only [if_true, hh, Option.map_some]
      congr 2
      apply Array.ext_getElem?
      intro q
      simp only [Option.isSome_none, Bool.false_eq_true, if_false]
      rw [Array.getElem?_setIfInBounds]
      by_cases hq : o = q
      · subst hq
        have e := (Array.getElem?_eq_some_iff.1 h).2
        have := (Array.getElem?_eq_some_iff.1 h).1
        simp [this]; exact e.symm
      · simp [hq]
    · simp [hk]
  · cases h
theorem setCells_same {b o : Nat} : ∀ (us : List Value) (i : Nat) (w : World), (∀ (j : Nat) (u : Value), us[j]? = some u → w.cell? ⟨b, o + i + j, none⟩ = some u) → setCells b o w i us = w
  | [], _, _, _ => rfl
  | u :: us, i, w, h => by
    have h0 := h 0 u rfl
    simp only [Nat.add_zero] at h0
    simp only [setCells, setCell_same h0]
    exact setCells_same us (i + 1) w fun j v hv => by
      have := h (j + 1) v (by simpa using hv)
      rwa [show o + i + (j + 1) = o + (i + 1) + j by omega] at this
def stCells (x : Nat) (p : List (Nat × Nat)) : (AV → AV) → St → Nat → List AV → Option St
  | _, σ, _, [] => some σ
  | f, σ, j, v :: vs => match stCell σ x p j (f v) with
    | some σ' => stCells x p (match mov σ x (f v) with | some _ => fun a => (f a).kill x p j | none => f) σ' (j + 1) vs
    | none => none
theorem stCell_n {σ σ' : St} {x : Nat} {p : List (Nat × Nat)} {j : Nat} {v : AV} (h : stCell σ x p j v = some σ') : σ'.n = σ.n := by
  unfold stCell at h
  split at h
  · cases h
  · split at h
    · cases h; rfl
    · split at h <;> cases h; rfl
section
variable {A0 D0 : Nat → Prop} {w0 : World} {nt : Nat} {a : Act}
theorem Holds.stCells {x : Nat} {p : List (Nat × Nat)} {b o : Nat} : ∀ (vs : List AV) (us : List Value) (j : Nat) (f : AV → AV) {σ σ' : St} {w : World} {G : Nat → Option GR} {r : Root} {row : List AV} {g : GR}, Holds A0 D0 w0 nt σ a w G →
    getS σ.s x = some r → rowOf r.cells p = some row → j + vs.length ≤ row.length → (p = [] → r.box = true) → us.length = vs.length → (∀ (i : Nat) (v : AV), vs[i]? = some v → Rel w (Own A0 G) G σ.n (f v) (us.getD i undef) ∧ (us.getD i undef).oneCell' = true) →
    Ab.stCells x p f σ j vs = some σ' → G x = some g → gBase g.at_ g.cells p = some (b, o) → ∃ G' g', Holds A0 D0 w0 nt σ' a (setCells b o w j us) G' ∧ G' x = some g' ∧ gBase g'.at_ g'.cells p = some (b, o) ∧ σ'.n = σ.n
  | [], us, j, f, σ, σ', w, G, r, row, g, h, _, _, _, _, hu, _, hst, hg, hb => by
    have : us = [] := List.eq_nil_of_length_eq_zero (by simpa using hu)
    subst this
    simp only [Ab.stCells, Option.some.injEq] at hst
    subst hst
    exact ⟨G, g, h, hg, hb, rfl⟩
  | v :: vs, us, j, f, σ, σ', w, G, r, row, g, h, hs, hrow, hl, hbox, hu, hr, hst, hg, hb => by
    cases us with
    | nil => simp at hu
    | cons u us =>
      simp only [List.length_cons] at hl hu
      simp only [Ab.stCells] at hst
      split at hst
      · rename_i σ1 h1
        obtain ⟨hr0, hr1⟩ := hr 0 v rfl
        obtain ⟨_, _, G', g', r', row', _, _, k1, k2, k3, k4, k5, k6, k7, k8⟩ := h.stCell hs hrow (j := j) (by omega) hbox hr0 hr1 h1 hg hb
        have hn := stCell_n h1
        have hx : ∀ (i : Nat) v0, vs[i]? = some v0 → Rel w (Own A0 G) G σ.n (f v0) (us.getD i undef) ∧ (us.getD i undef).oneCell' = true := fun i v0 hv0 => by
          have := hr (i + 1) v0 (by simpa using hv0)
          simpa [List.getD] using this
        obtain ⟨G2, g2, q1, q2, q3, q4⟩ := Holds.stCells vs us (j + 1) (match mov σ x (f v) with | some _ => fun a => (f a).kill x p j | none => f) k1 k4 k6 (by omega) (fun hp => by rw [k5]; exact hbox hp) (by omega) (fun i v' hv' => by
          obtain ⟨q1, q2⟩ := hx i v' hv'
          have := k8 _ _ q1
          cases hm : mov σ x (f v) with
          | none =>
            simp only [hm, Option.isSome_none, Bool.false_eq_true, if_false] at this
            exact ⟨this, q2⟩
          | some yt =>
            simp only [hm, Option.isSome_some, if_true] at this
            exact ⟨this, q2⟩) hst k2 k3
        exact ⟨G2, g2, q1, q2, q3, q4.trans hn⟩
      · cases hst
end
section
variable {P : Program} {TT : TTab} {o : Oper} {σ : St} {K : St → Prop}
def allCell : List AV → Bool
  | [] => true
  | a :: r => a.cell && allCell r
theorem allCell_mem : ∀ {l : List AV}, allCell l = true → ∀ b ∈ l, b.cell = true
  | [], _, b, h => by cases h
  | a :: r, h, b, hb => by
    simp only [allCell, Bool.and_eq_true] at h
    rcases List.mem_cons.1 hb with rfl | hb
    · exact h.1
    · exact allCell_mem h.2 b hb
theorem snd_store {t : Nat} {i : TI} {x v : Operand} (ho : o.op = .store t x v) (hdst : o.dst = none) (htt : TTok P TT) (ht : TT t = some i)
    (hk : match ev σ x with
      | .lv y p q => match getS σ.s y with
        | some r => (p = [] → r.box = true) ∧ (match rowOf r.cells p with
          | some row => (ev σ v).cells.length = i.size ∧ q + i.size ≤ row.length ∧ allCell (ev σ v).cells = true ∧ (match stCells y p id σ q (ev σ v).cells with
            | some σ' => K σ'
            | none => False)
          | none => False)
        | none => False
      | _ => False) : Snd P o σ K := by
  cases hx : ev σ x <;> rw [hx] at hk <;> try (exact hk.elim)
  rename_i y p q
  simp only at hk
  split at hk
  · rename_i r hr
    obtain ⟨hbox, hk⟩ := hk
    split at hk
    · rename_i row hrow
      obtain ⟨hl, hq, hac, hk⟩ := hk
      split at hk
      · rename_i σ' hst
        intro A0 D0 w0 nt a w G Q hd h
        have hb := h.ev x
        rw [hx] at hb
        obtain ⟨ad, e1, _, e2⟩ := hb.lv_inv
        obtain ⟨c1, c2⟩ := (h.ev v).cells (allCell_mem hac)
        obtain ⟨g, grow, k1, k2, k3, k4, k5⟩ := h.read hr hrow
        obtain ⟨b, of, vs, T, k6, _, k7, k8⟩ := h.place hr k1 k2 hbox
        have had := e2 g b of k1 k6
        obtain ⟨G', _, hG', _⟩ := Holds.stCells (b := b) (o := of) (ev σ v).cells (a.eval v).cells.toList q id h hr hrow (by omega) hbox c1 c2 hst k1 k6
        have hgl : grow.length = row.length := k3.len.symm
        have hrun := run_storeCells (P := P) (b := b) (o := of + q) (T := T) (a.eval v).cells.toList 0 w vs k7 (by omega) (fun u hu => by
          obtain ⟨i', hi', rfl⟩ := List.getElem_of_mem hu
          have hi'' : i' < (ev σ v).cells.length := by omega
          have := (c2 i' _ (List.getElem?_eq_getElem hi'')).2
          rwa [getD_of (List.getElem?_eq_getElem hi')] at this)
        have hset : ∀ (us : List Value) (w : World) (k : Nat), setCells b (of + q) w k us = setCells b of w (q + k) us := by
          intro us
          induction us with
          | nil => intros; rfl
          | cons u us ih => intro w k; simp only [setCells, ih, Nat.add_assoc]
        rw [hset] at hrun
        refine wp_unit (w' := setCells b of w (q + 0) (a.eval v).cells.toList) ?_ ⟨σ', G', ?_, hk⟩
        · have hsz : (a.eval v).cells.size = i.size := by rw [← hl, ← c1]; simp
          simp [execOp, ho, Instr.storeAt, e1, Instr.sureAddr, storeVar, (htt t i ht).run_size, hsz, had, hrun]
        · rw [hdst]; exact hG'
      · exact hk.elim
    · exact hk.elim
  · exact hk.elim
theorem Holds.newBox {A0 D0 : Nat → Prop} {w0 : World} {nt : Nat} {a : Act} {w : World} {G : Nat → Option GR} (h : Holds A0 D0 w0 nt σ a w G) (T : TypeId) (l : List AV) (us : List Value) (hl : us.length = l.length)
    (hr : ∀ (i : Nat) (v : AV), l[i]? = some v → Rel w (Own A0 G) G σ.n v (us.getD i undef) ∧ (us.getD i undef).oneCell' = true) :
    ∃ G', Holds A0 D0 w0 nt { n := σ.n + 1, t := σ.t, s := (σ.n, ⟨true, l⟩) :: σ.s } a (w.alloc (.cells us.toArray T)) G' ∧ Rel (w.alloc (.cells us.toArray T)) (Own A0 G') G' (σ.n + 1) (.lv σ.n [] 0) (.pointer (some ⟨w.heap.size, 0, none⟩)) ∧
      (∀ a v, Rel w (Own A0 G) G σ.n a v → Rel (w.alloc (.cells us.toArray T)) (Own A0 G') G' (σ.n + 1) a v) ∧ G' σ.n = some ⟨some w.heap.size, us.map (.lf .undef)⟩ := by
  have hold : ∀ b, b < w.heap.size → (w.alloc (.cells us.toArray T)).heap[b]? = w.heap[b]? := fun b hb => Below.heap_alloc w _ b hb
  have hnfp : ∀ b, ¬ FpRow (us.map (GT.lf .undef)) b := by
    rintro b ⟨c, g, hg, hb⟩
    simp only [List.getElem?_map, Option.map_eq_some_iff] at hg
    obtain ⟨u, _, rfl⟩ := hg
    cases hb
  have hrf : ∀ b, RFp ⟨some w.heap.size, us.map (GT.lf .undef)⟩ b → b = w.heap.size := fun b hb => by
    rcases hb with hb | hb
    · simpa using hb.symm
    · exact absurd hb (hnfp b)
  have hA : ∀ b, b < w.heap.size → Own A0 (Gset G σ.n (some ⟨some w.heap.size, us.map (GT.lf .undef)⟩)) b → Own A0 G b := by
    intro b hb ho
    refine ho.imp id ?_
    rintro ⟨y, gy, hy, hk⟩
    by_cases e : y = σ.n
    · subst e; rw [Gset_self] at hy; cases hy
      have := hrf b hk; omega
    · rw [Gset_ne e] at hy; exact ⟨y, gy, hy, hk⟩
  have hrel : ∀ a v, Rel w (Own A0 G) G σ.n a v → Rel (w.alloc (.cells us.toArray T)) (Own A0 (Gset G σ.n (some ⟨some w.heap.size, us.map (GT.lf .undef)⟩))) (Gset G σ.n (some ⟨some w.heap.size, us.map (GT.lf .undef)⟩)) (σ.n + 1) a v :=
    fun a v hr => hr.keep (by omega) (fun b hb _ => hold b hb) hA (fun x p c v hx hr => hr.new (by omega)) (fun x p j ad hx hr => hr.new (by omega))
  have hnew : (w.alloc (.cells us.toArray T)).heap[w.heap.size]? = some (.cells us.toArray T (0, 0)) := Go.heap_alloc_new w _
  refine ⟨_, h.newRoot (N := σ.n) (r := ⟨true, l⟩) (g := ⟨some w.heap.size, us.map (GT.lf .undef)⟩) (Nat.le_refl _) hold ⟨rfl, rfl, rfl, by simp⟩ (fun b hb => by rw [hrf b hb]; omega) rfl (fun A hAA => ⟨by simp [hl], fun c av g hav hg => ?_⟩) (fun A hAA => ⟨fun c g hg => ?_, ⟨fun c g hg => ?_, fun c g c' g' hg hg' hne b hb => ?_⟩, fun b o e c g hg => ?_, fun b o e => hnfp b⟩) (fun b hb => ?_), ?_, hrel, Gset_self _ _ _⟩
  · simp only [List.getElem?_map, Option.map_eq_some_iff] at hg
    obtain ⟨u, hu, rfl⟩ := hg
    refine .inr ⟨rfl, ?_⟩
    have := (hr c av hav).1
    rw [getD_of hu] at this
    exact this.keep (by omega) (fun b hb _ => hold b hb) hAA (fun x p c v hx hr => hr.new (by omega)) (fun x p j ad hx hr => hr.new (by omega))
  · simp only [List.getElem?_map, Option.map_eq_some_iff] at hg
    obtain ⟨u, hu, rfl⟩ := hg
    have hc : c < l.length := by have := (List.getElem?_eq_some_iff.1 hu).1; omega
    have := (hr c _ (List.getElem?_eq_getElem hc)).2
    rw [getD_of hu] at this
    exact .lf _ _ (.undef _) this
  · simp only [List.getElem?_map, Option.map_eq_some_iff] at hg
    obtain ⟨u, _, rfl⟩ := hg
    exact .lf _ _
  · exact absurd ⟨c, g, hg, hb⟩ (hnfp b)
  · simp only [GR.at_, Option.map_some, Option.some.injEq, Prod.mk.injEq] at e
    obtain ⟨rfl, rfl⟩ := e
    simp only [List.getElem?_map, Option.map_eq_some_iff] at hg
    obtain ⟨u, hu, rfl⟩ := hg
    rw [cell_of_row _ _ _ _ _ _ hnew]
    simpa [GT.val] using hu
  · simp only [Option.some.injEq] at hb
    subst hb
    exact ⟨_, _, hnew, by simp⟩
  · refine .lv _ _ _ _ (by omega) fun r b o hr hp => ?_
    rw [Gset_self] at hr; cases hr
    simp only [gBase, GR.at_, Option.map_some, Option.some.injEq, Prod.mk.injEq] at hp
    obtain ⟨rfl, rfl⟩ := hp
    rfl
theorem snd_alloc {t : Nat} {i : TI} (ho : o.op = .alloc t) (htt : TTok P TT) (ht : TT t = some i) (hk : K (St.put { n := σ.n + 1, t := σ.t, s := (σ.n, ⟨true, i.zero⟩) :: σ.s } o.dst (.lv σ.n [] 0))) : Snd P o σ K := by
  intro A0 D0 w0 nt a w G Q hd h
  obtain ⟨z, z1, z2, z3, z4⟩ := (htt t i ht).run_zero w
  obtain ⟨G', q1, q2, _, _⟩ := h.newBox t i.zero z.cells.toList z2.1.symm (fun q v hv => by
    have hq : q < z.cells.toList.length := by have := (List.getElem?_eq_some_iff.1 hv).1; have := z2.1; omega
    obtain ⟨k1, k2⟩ := z2.2 q v _ hv (List.getElem?_eq_getElem hq)
    rw [getD_of (List.getElem?_eq_getElem hq)]
    exact ⟨.fr _ _ (k1 _ _), k2⟩)
  refine wp_value (v := .pointer (some ⟨w.heap.size, 0, none⟩)) (w' := w.alloc (.cells z.cells.toList.toArray t)) ?_ ⟨_, G', q1.put q2 hd, hk⟩
  simp [execOp, ho, Instr.alloc, z1, newVar, newRow]
theorem snd_box {t : Nat} {x : Operand} (ho : o.op = .box t x) (hk : allCell (ev σ x).cells = true ∧ (match stCells σ.n [] id { n := σ.n + 1, t := σ.t, s := (σ.n, ⟨true, (ev σ x).cells.map fun _ => .undef⟩) :: σ.s } 0 (ev σ x).cells with
      | some σ' => K (σ'.put o.dst (.lv σ.n [] 0))
      | none => False)) : Snd P o σ K := by
  obtain ⟨hac, hk⟩ := hk
  split at hk
  · rename_i σ' hst
    intro A0 D0 w0 nt a w G Q hd h
    obtain ⟨c1, c2⟩ := (h.ev x).cells (allCell_mem hac)
    obtain ⟨G', q1, q2, q3, q4⟩ := h.newBox t ((ev σ x).cells.map fun _ => .undef) (a.eval x).cells.toList (by simpa using c1) (fun q v hv => by
      simp only [List.getElem?_map, Option.map_eq_some_iff] at hv
      obtain ⟨v0, hv0, rfl⟩ := hv
      exact ⟨.fr _ _ (.undef _), (c2 q v0 hv0).2⟩)
    have hnew : (w.alloc (.cells (a.eval x).cells.toList.toArray t)).heap[w.heap.size]? = some (.cells (a.eval x).cells.toList.toArray t (0, 0)) := Go.heap_alloc_new w _
    obtain ⟨G2, g2, k1, k2, k3, k4⟩ := Holds.stCells (x := σ.n) (p := []) (b := w.heap.size) (o := 0) (ev σ x).cells (a.eval x).cells.toList 0 id q1 (r := ⟨true, (ev σ x).cells.map fun _ => .undef⟩) (row := (ev σ x).cells.map fun _ => .undef) (by simp [getS]) rfl (by simp) (fun _ => rfl) c1
      (fun q v hv => ⟨q3 _ _ (c2 q v hv).1, (c2 q v hv).2⟩) hst q4 rfl
    rw [setCells_same _ _ _ (fun j u hu => by rw [cell_of_row _ _ _ _ _ _ hnew]; simpa using hu)] at k1
    refine wp_value (v := .pointer (some ⟨w.heap.size, 0, none⟩)) (w' := w.alloc (.cells (a.eval x).cells.toList.toArray t)) ?_ ⟨_, G2, k1.put (.lv _ _ _ _ (by rw [k4]; simp) fun r b o hr hp => ?_) hd, hk⟩
    · simp [execOp, ho, Instr.box, newVar, newRow]
    · rw [k2] at hr; cases hr
      rw [k3] at hp; cases hp
      rfl
  · exact hk.elim
end
end Go.Ab
namespace Go.Ab
open Go Go.RowKit
theorem fold_set (off : Nat) : ∀ (vs : List Value) (k : Nat) (C : Array Value) (q : Nat),
    ((vs.zipIdx k).foldl (fun (cs : Array Value) (x : Value × Nat) => cs.setIfInBounds (off + x.2) x.1) C)[q]? = if off + k ≤ q ∧ q < off + k + vs.length ∧ q < C.size then vs[q - (off + k)]? else C[q]?
  | [], k, C, q => by simp; omega
  | v :: vs, k, C, q => by
    simp only [List.zipIdx_cons, List.foldl_cons]
    rw [fold_set off vs (k + 1) _ q]
    simp only [Array.size_setIfInBounds, List.length_cons]
    by_cases h1 : off + k = q
    · subst h1
      rw [if_neg (by omega)]
      by_cases h2 : off + k < C.size
      · rw [if_pos (by omega), Array.getElem?_setIfInBounds_self_of_lt h2]; simp
      · rw [if_neg (by omega)]
        simp [Array.getElem?_setIfInBounds, h2]
    · rw [Array.getElem?_setIfInBounds_ne h1]
      by_cases h2 : off + (k + 1) ≤ q ∧ q < off + (k + 1) + vs.length ∧ q < C.size
      · rw [if_pos h2, if_pos (by omega)]
        rw [show q - (off + k) = (q - (off + (k + 1))) + 1 by omega]
        simp
      · rw [if_neg h2, if_neg (by omega)]
structure RowsOK (w : World) (A : Nat → Prop) (m : Nat) (rows : List (List AV)) (C : Array Value) : Prop where
  size : C.size = rows.length * m
  len : ∀ (i : Nat) (r : List AV), rows[i]? = some r → r.length = m
  cell : ∀ (i : Nat) (r : List AV) (j : Nat) (a : AV), rows[i]? = some r → r[j]? = some a → ∃ v, C[i * m + j]? = some v ∧ FR w A a v ∧ v.oneCell' = true
def fillR (σ : St) (m : Nat) : List (List AV) → List (Nat × Operand) → Option (List (List AV))
  | rows, [] => some rows
  | rows, (k, x) :: ps => if (ev σ x).cells.length = m ∧ k < rows.length ∧ allCell (ev σ x).cells = true ∧ pureL (ev σ x).cells = true then fillR σ m (rows.set k (ev σ x).cells) ps else none
theorem fillR_len {σ : St} {m : Nat} : ∀ {ps : List (Nat × Operand)} {rows rows' : List (List AV)}, fillR σ m rows ps = some rows' → rows'.length = rows.length
  | [], _, _, h => by simp only [fillR, Option.some.injEq] at h; rw [h]
  | (k, x) :: ps, rows, rows', h => by
    simp only [fillR] at h
    split at h
    · rw [fillR_len h]; simp
    · cases h
section
variable {A0 D0 : Nat → Prop} {w0 : World} {nt : Nat} {σ : St} {a : Act} {w : World} {G : Nat → Option GR}
theorem Holds.fill (h : Holds A0 D0 w0 nt σ a w G) {m : Nat} : ∀ (ps : List (Nat × Operand)) (rows rows' : List (List AV)) (C : Array Value), RowsOK w (Own A0 G) m rows C → fillR σ m rows ps = some rows' →
    ∃ C', Instr.fill (fun i => some (i * m, m)) C (ps.map fun p => (p.1, a.eval p.2)) = some C' ∧ RowsOK w (Own A0 G) m rows' C'
  | [], rows, rows', C, hr, hf => by
    simp only [fillR, Option.some.injEq] at hf
    subst hf
    exact ⟨C, rfl, hr⟩
  | (k, x) :: ps, rows, rows', C, hr, hf => by
    simp only [fillR] at hf
    split at hf
    · rename_i hc
      obtain ⟨h1, h2, h3, h4⟩ := hc
      obtain ⟨c1, c2⟩ := (h.ev x).cells (allCell_mem h3)
      have hsz : (a.eval x).cells.size = m := by rw [← h1, ← c1]; simp
      have hkm : k * m + m ≤ C.size := by
        have : (k + 1) * m ≤ rows.length * m := Nat.mul_le_mul_right _ h2
        rw [hr.size]; rw [Nat.add_mul] at this; omega
      have key : ∀ q, ((a.eval x).cells.zipIdx.foldl (fun (cs : Array Value) (x : Value × Nat) => cs.setIfInBounds (k * m + x.2) x.1) C)[q]? = if k * m ≤ q ∧ q < k * m + m then (a.eval x).cells.toList[q - k * m]? else C[q]? := by
        intro q
        have := fold_set (k * m) (a.eval x).cells.toList 0 C q
        rw [← Array.foldl_toList, Array.toList_zipIdx]
        rw [this]
        have hl : (a.eval x).cells.toList.length = m := by simpa using hsz
        simp only [Nat.add_zero, hl]
        by_cases hq : k * m ≤ q ∧ q < k * m + m
        · rw [if_pos hq, if_pos ⟨hq.1, hq.2, by omega⟩]
        · rw [if_neg hq, if_neg (by omega)]
      have hsize : ((a.eval x).cells.zipIdx.foldl (fun (cs : Array Value) (x : Value × Nat) => cs.setIfInBounds (k * m + x.2) x.1) C).size = C.size := by
        have : ∀ (l : List (Value × Nat)) (C : Array Value), (l.foldl (fun (cs : Array Value) (x : Value × Nat) => cs.setIfInBounds (k * m + x.2) x.1) C).size = C.size := by
          intro l
          induction l with
          | nil => intro C; rfl
          | cons p l ih => intro C; rw [List.foldl_cons, ih]; simp
        rw [← Array.foldl_toList]; exact this _ _
      have hR : RowsOK w (Own A0 G) m (rows.set k (Ab.ev σ x).cells) ((a.eval x).cells.zipIdx.foldl (fun (cs : Array Value) (x : Value × Nat) => cs.setIfInBounds (k * m + x.2) x.1) C) := by
        refine ⟨by rw [hsize, hr.size]; simp, fun i r hir => ?_, fun i r j av hir hj => ?_⟩
        · rcases set_some hir with ⟨rfl, rfl⟩ | ⟨_, hir⟩
          · exact h1
          · exact hr.len i r hir
        · rcases set_some hir with ⟨rfl, rfl⟩ | ⟨hne, hir⟩
          · have hjm : j < m := by have := (List.getElem?_eq_some_iff.1 hj).1; omega
            have hjv : j < (a.eval x).cells.toList.length := by omega
            obtain ⟨k1, k2⟩ := c2 j av hj
            rw [getD_of (List.getElem?_eq_getElem hjv)] at k1 k2
            refine ⟨(a.eval x).cells.toList[j], ?_, k1.pure (pureL_at h4 j av hj), k2⟩
            rw [key, if_pos (by omega)]
            rw [show i * m + j - i * m = j by omega]
            exact List.getElem?_eq_getElem hjv
          · obtain ⟨v, e1, e2, e3⟩ := hr.cell i r j av hir hj
            refine ⟨v, ?_, e2, e3⟩
            have hjm : j < m := by have := (List.getElem?_eq_some_iff.1 hj).1; have := hr.len i r hir; omega
            rw [key, if_neg, e1]
            intro ⟨q1, q2⟩
            rcases Nat.lt_or_gt_of_ne hne with hlt | hlt
            · have : (i + 1) * m ≤ k * m := Nat.mul_le_mul_right _ hlt
              rw [Nat.add_mul] at this; omega
            · have : (k + 1) * m ≤ i * m := Nat.mul_le_mul_right _ hlt
              rw [Nat.add_mul] at this; omega
      obtain ⟨C', q1, q2⟩ := Holds.fill h ps (rows.set k (Ab.ev σ x).cells) rows' _ hR hf
      refine ⟨C', ?_, q2⟩
      simp only [List.map_cons, Instr.fill]
      have hn : ¬ ((decide ((a.eval x).cells.size ≠ m) || decide (k * m + (a.eval x).cells.size > C.size)) = true) := by simp [hsz]; omega
      rw [if_neg hn]
      exact q1
    · cases hf
theorem Holds.newDet (h : Holds A0 D0 w0 nt σ a w G) (t : GT) {w' : World} (hwo : ∀ b, b < w.heap.size → w'.heap[b]? = w.heap[b]?) (hwf : w'.os = w.os ∧ w'.tape = w.tape ∧ w'.output = w.output ∧ w.heap.size ≤ w'.heap.size)
    (htl : t.leaf = false) (hts : Sep t) (htf : ∀ k, Fp t k → w.heap.size ≤ k) (htm : ∀ A, (∀ b, b < w.heap.size → A b → Own A0 G b) → Mem w' A t) :
    ∃ G', Holds A0 D0 w0 nt { n := σ.n + 1, t := σ.t, s := (σ.n, ⟨false, [t.er]⟩) :: σ.s } a w' G' ∧ Rel w' (Own A0 G') G' (σ.n + 1) (.ref σ.n [] 0) t.val := by
  have hrf : ∀ b, RFp ⟨none, [t]⟩ b → Fp t b := by
    rintro b (hb | ⟨c, g, hg, hb⟩)
    · cases hb
    · cases c with
      | zero => cases hg; exact hb
      | succ c => simp at hg
  have hoc : t.val.oneCell' = true := by
    have := (htm (Own A0 G) fun _ _ h => h).oneCell
    exact this
  refine ⟨_, h.newRoot (N := σ.n) (r := ⟨false, [t.er]⟩) (g := ⟨none, [t]⟩) (Nat.le_refl _) hwo hwf (fun b hb => htf b (hrf b hb)) rfl (fun A hAA => ⟨rfl, fun c av g hav hg => ?_⟩) (fun A hAA => ⟨fun c g hg => ?_, ⟨fun c g hg => ?_, fun c g c' g' hg hg' hne => ?_⟩, fun b o e => by simp [GR.at_] at e, fun b o e => by simp [GR.at_] at e⟩) (fun b hb => by simp at hb), .ref _ _ _ _ (by omega) hoc fun r row g hr hp hc hl => ?_⟩
  · cases c with
    | zero => cases hav; cases hg; exact .inl ⟨htl, rfl⟩
    | succ c => simp at hg
  · cases c with
    | zero => cases hg; exact htm A hAA
    | succ c => simp at hg
  · cases c with
    | zero => cases hg; exact hts
    | succ c => simp at hg
  · cases c with
    | zero => cases c' with
      | zero => exact absurd rfl hne
      | succ c' => simp at hg'
    | succ c => simp at hg
  · rw [Gset_self] at hr; cases hr
    cases hp
    cases hc
    rfl
theorem rows_tree {A : Nat → Prop} {m : Nat} {rows : List (List AV)} {C : Array Value} {T : TypeId} {cap : Nat} (hr : RowsOK w A m rows C) {C' : Array Value} (hC' : C'.size = cap * m) (hpre : ∀ q, q < C.size → C'[q]? = C[q]?) (hcap : rows.length ≤ cap) (hcm : cap ≤ maxLen) (hMX : rows.length ≤ MX) :
    ∃ gs : List (List GT), (gs.map fun r => r.map GT.er) = rows ∧ gs.length = rows.length ∧ Sep (.own m (.slice (some ⟨w.heap.size, 0, none⟩) rows.length cap) gs) ∧ (∀ k, Fp (.own m (.slice (some ⟨w.heap.size, 0, none⟩) rows.length cap) gs) k → k = w.heap.size) ∧
      ∀ A', (∀ b, b < w.heap.size → A' b → A b) → Mem (w.alloc (.cells C' T)) A' (.own m (.slice (some ⟨w.heap.size, 0, none⟩) rows.length cap) gs) := by
  let gs : List (List GT) := rows.zipIdx.map fun p => p.1.zipIdx.map fun q => GT.lf q.1 ((C[p.2 * m + q.2]?).getD undef)
  have hg : ∀ (i : Nat) (r : List GT), gs[i]? = some r → ∃ row, rows[i]? = some row ∧ r = row.zipIdx.map fun q => GT.lf q.1 ((C[i * m + q.2]?).getD undef) := by
    intro i r h
    simp only [gs, List.getElem?_map, List.getElem?_zipIdx, Option.map_eq_some_iff] at h
    obtain ⟨p, ⟨row, h1, rfl⟩, rfl⟩ := h
    exact ⟨row, h1, by simp⟩
  have hgc : ∀ (i : Nat) (r : List GT) (j : Nat) (g : GT), gs[i]? = some r → r[j]? = some g → ∃ row av v, rows[i]? = some row ∧ row[j]? = some av ∧ C[i * m + j]? = some v ∧ FR w A av v ∧ v.oneCell' = true ∧ g = .lf av v := by
    intro i r j g h1 h2
    obtain ⟨row, k1, rfl⟩ := hg i r h1
    simp only [List.getElem?_map, List.getElem?_zipIdx, Option.map_eq_some_iff] at h2
    obtain ⟨q, ⟨av, k2, rfl⟩, rfl⟩ := h2
    obtain ⟨v, k3, k4, k5⟩ := hr.cell i row j av k1 k2
    refine ⟨row, av, v, k1, k2, k3, k4, k5, ?_⟩
    simp only [Nat.zero_add, k3, Option.getD_some]
  have hnf : ∀ (i : Nat) (r : List GT) (j : Nat) (g : GT), gs[i]? = some r → r[j]? = some g → ∀ b, ¬ Fp g b := by
    intro i r j g h1 h2 b hb
    obtain ⟨_, _, _, _, _, _, _, _, rfl⟩ := hgc i r j g h1 h2
    cases hb
  have hlen : gs.length = rows.length := by simp [gs]
  refine ⟨gs, ?_, hlen, .own _ _ _ (fun i r j g h1 h2 => ?_) (fun i r j g h1 h2 _ _ _ _ => hnf i r j g h1 h2 _) (fun i r j g i' r' j' g' h1 h2 _ _ _ b hb => absurd hb (hnf i r j g h1 h2 b)), fun k hk => ?_, fun A' hA' => ?_⟩
  · apply List.ext_getElem?
    intro i
    simp only [gs, List.map_map, List.getElem?_map, List.getElem?_zipIdx]
    cases hri : rows[i]? with
    | none => rfl
    | some row =>
      simp only [Option.map_some, Function.comp, List.map_map, Option.some.injEq]
      have : (GT.er ∘ fun q : AV × Nat => GT.lf q.1 ((C[(0 + i) * m + q.2]?).getD undef)) = Prod.fst := by funext q; simp [GT.er]
      rw [this]
      simp
  · obtain ⟨_, _, _, _, _, _, _, _, rfl⟩ := hgc i r j g h1 h2
    exact .lf _ _
  · generalize hq : GT.own m (.slice (some ⟨w.heap.size, 0, none⟩) rows.length cap) gs = q at hk
    cases hk with
    | own0 n ad l c rs => cases hq; rfl
    | own n v rs i r j g k h1 h2 hk => cases hq; exact absurd hk (hnf i r j g h1 h2 k)
    | map => cases hq
    | iter => cases hq
  · have hnew : (w.alloc (.cells C' T)).heap[w.heap.size]? = some (.cells C' T (0, 0)) := Go.heap_alloc_new w _
    rw [← hlen]
    refine .own m _ cap C' T gs hnew hC' (by omega) hcm (by omega) (fun i r hi => ?_) (fun i r j g h1 h2 => ?_) (fun i r j g h1 h2 => ?_)
    · obtain ⟨row, k1, rfl⟩ := hg i r hi
      simpa using hr.len i row k1
    · obtain ⟨row, av, v, k1, k2, k3, k4, k5, rfl⟩ := hgc i r j g h1 h2
      rw [cell_of_row _ _ _ _ _ _ hnew, hpre _ (Array.getElem?_eq_some_iff.1 k3).1]
      exact k3
    · obtain ⟨row, av, v, k1, k2, k3, k4, k5, rfl⟩ := hgc i r j g h1 h2
      exact .lf _ _ (k4.keep (fun b hb _ => Below.heap_alloc w _ b hb) hA') k5
end
end Go.Ab
namespace Go.Ab
open Go Go.RowKit
def setL : List AV → Nat → List AV → List AV
  | cs, _, [] => cs
  | cs, o, v :: vs => setL (cs.set o v) (o + 1) vs
theorem setL_len : ∀ (vs : List AV) (cs : List AV) (o : Nat), (setL cs o vs).length = cs.length
  | [], _, _ => rfl
  | v :: vs, cs, o => by simp [setL, setL_len vs]
theorem setL_at : ∀ (vs cs : List AV) (o q : Nat) (a : AV), o + vs.length ≤ cs.length → (setL cs o vs)[q]? = some a → (o ≤ q ∧ q < o + vs.length ∧ vs[q - o]? = some a) ∨ ((q < o ∨ o + vs.length ≤ q) ∧ cs[q]? = some a)
  | [], cs, o, q, a, _, h => .inr ⟨by simp; omega, h⟩
  | v :: vs, cs, o, q, a, hl, h => by
    simp only [List.length_cons] at hl
    simp only [setL] at h
    rcases setL_at vs (cs.set o v) (o + 1) q a (by simp; omega) h with ⟨h1, h2, h3⟩ | ⟨h1, h2⟩
    · left
      refine ⟨by omega, by simp; omega, ?_⟩
      rw [show q - o = (q - (o + 1)) + 1 by omega]; simpa using h3
    · rcases set_some h2 with ⟨rfl, rfl⟩ | ⟨hne, h2⟩
      · left; exact ⟨Nat.le_refl _, by simp, by simp⟩
      · right; exact ⟨by simp; omega, h2⟩
def fillB (σ : St) (TT : TTab) (fs : List (Nat × Nat)) : List AV → List (Nat × Operand) → Option (List AV)
  | cs, [] => some cs
  | cs, (k, x) :: ps => match fs[k]? with
    | some (T, off) => match TT T with
      | some j => if (ev σ x).cells.length = j.size ∧ off + j.size ≤ cs.length ∧ allCell (ev σ x).cells = true then fillB σ TT fs (setL cs off (ev σ x).cells) ps else none
      | none => none
    | none => none
def CsOK (w : World) (A : Nat → Prop) (G : Nat → Option GR) (n : Nat) (cs : List AV) (C : Array Value) : Prop := C.size = cs.length ∧ ∀ (q : Nat) (a : AV), cs[q]? = some a → Rel w A G n a (C.toList.getD q undef)
section
variable {A0 D0 : Nat → Prop} {w0 : World} {nt : Nat} {σ : St} {a : Act} {w : World} {G : Nat → Option GR} {TT : TTab}
theorem Holds.fillB (h : Holds A0 D0 w0 nt σ a w G) {fs : List (Nat × Nat)} {places : Nat → Option (Nat × Nat)} (hp : ∀ (k T off : Nat) (j : TI), fs[k]? = some (T, off) → TT T = some j → places k = some (off, j.size)) : ∀ (ps : List (Nat × Operand)) (cs cs' : List AV) (C : Array Value), CsOK w (Own A0 G) G σ.n cs C →
    Ab.fillB σ TT fs cs ps = some cs' → ∃ C', Instr.fill places C (ps.map fun p => (p.1, a.eval p.2)) = some C' ∧ CsOK w (Own A0 G) G σ.n cs' C'
  | [], cs, cs', C, hc, hf => by
    simp only [Ab.fillB, Option.some.injEq] at hf
    subst hf
    exact ⟨C, rfl, hc⟩
  | (k, x) :: ps, cs, cs', C, hc, hf => by
    simp only [Ab.fillB] at hf
    split at hf
    · rename_i T off hk
      split at hf
      · rename_i j hj
        split at hf
        · rename_i hx
          obtain ⟨h1, h2, h3⟩ := hx
          obtain ⟨c1, c2⟩ := (h.ev x).cells (allCell_mem h3)
          have hsz : (a.eval x).cells.size = j.size := by rw [← h1, ← c1]; simp
          have hl : (a.eval x).cells.toList.length = j.size := by simpa using hsz
          have key : ∀ q, ((a.eval x).cells.zipIdx.foldl (fun (cs : Array Value) (x : Value × Nat) => cs.setIfInBounds (off + x.2) x.1) C)[q]? = if off ≤ q ∧ q < off + j.size then (a.eval x).cells.toList[q - off]? else C[q]? := by
            intro q
            have := fold_set off (a.eval x).cells.toList 0 C q
            rw [← Array.foldl_toList, Array.toList_zipIdx]
            rw [this]
            simp only [Nat.add_zero, hl]
            by_cases hq : off ≤ q ∧ q < off + j.size
            · rw [if_pos hq, if_pos ⟨hq.1, hq.2, by rw [hc.1]; omega⟩]
            · rw [if_neg hq, if_neg (by omega)]
          have hsize : ((a.eval x).cells.zipIdx.foldl (fun (cs : Array Value) (x : Value × Nat) => cs.setIfInBounds (off + x.2) x.1) C).size = C.size := by
            have : ∀ (l : List (Value × Nat)) (C : Array Value), (l.foldl (fun (cs : Array Value) (x : Value × Nat) => cs.setIfInBounds (off + x.2) x.1) C).size = C.size := by
              intro l
              induction l with
              | nil => intro C; rfl
              | cons p l ih => intro C; rw [List.foldl_cons, ih]; simp
            rw [← Array.foldl_toList]; exact this _ _
          have hR : CsOK w (Own A0 G) G σ.n (setL cs off (Ab.ev σ x).cells) ((a.eval x).cells.zipIdx.foldl (fun (cs : Array Value) (x : Value × Nat) => cs.setIfInBounds (off + x.2) x.1) C) := by
            refine ⟨by rw [hsize, setL_len]; exact hc.1, fun q av hq => ?_⟩
            rw [List.getD_eq_getElem?_getD, Array.getElem?_toList, key]
            rcases setL_at _ _ _ _ _ (by omega) hq with ⟨q1, q2, q3⟩ | ⟨q1, q2⟩
            · rw [if_pos ⟨q1, by omega⟩, ← List.getD_eq_getElem?_getD]
              exact (c2 _ av q3).1
            · rw [if_neg (by omega), ← Array.getElem?_toList, ← List.getD_eq_getElem?_getD]
              exact hc.2 q av q2
          obtain ⟨C', q1, q2⟩ := Holds.fillB h hp ps _ cs' _ hR hf
          refine ⟨C', ?_, q2⟩
          simp only [List.map_cons, Instr.fill, hp k T off j hk hj]
          have hn : ¬ ((decide ((a.eval x).cells.size ≠ j.size) || decide (off + (a.eval x).cells.size > C.size)) = true) := by simp [hsz, hc.1]; omega
          rw [if_neg hn]
          exact q1
        · cases hf
      · cases hf
    · cases hf
end
section
variable {P : Program} {TT : TTab} {o : Oper} {σ : St} {K : St → Prop}
def allTT (TT : TTab) : List (Nat × Nat) → Bool
  | [] => true
  | (T, _) :: r => (TT T).isSome && allTT TT r
theorem places_of (htt : TTok P TT) : ∀ (f : List Field) , allTT TT (f.map fun x => (x.type, x.offset)) = true →
    ∃ pl, f.mapM (fun f => (P.info? f.type).map fun i => (f.offset, i.size)) = some pl ∧ ∀ (k T off : Nat) (j : TI), (f.map fun x => (x.type, x.offset))[k]? = some (T, off) → TT T = some j → pl[k]? = some (off, j.size)
  | [], _ => ⟨[], rfl, fun k T off j h => by simp at h⟩
  | x :: f, h => by
    simp only [List.map_cons, allTT, Bool.and_eq_true] at h
    obtain ⟨j, hj⟩ := Option.isSome_iff_exists.1 h.1
    obtain ⟨inf, z, h1, h2, _⟩ := (htt _ j hj).info
    obtain ⟨pl, h3, h4⟩ := places_of htt f h.2
    refine ⟨(x.offset, inf.size) :: pl, by simp [List.mapM_cons, h1, h3], fun k T off j' hk hT => ?_⟩
    cases k with
    | zero =>
      simp only [List.map_cons, List.getElem?_cons_zero, Option.some.injEq, Prod.mk.injEq] at hk
      obtain ⟨rfl, rfl⟩ := hk
      rw [hj] at hT; cases hT
      simp [h2]
    | succ k => simpa using h4 k T off j' (by simpa using hk) hT
theorem snd_build {t : Nat} {parts : Array (Nat × Operand)} {i : TI} {fs : List (Nat × Nat)} (ho : o.op = .build t parts) (htt : TTok P TT) (ht : TT t = some i) (hi : i.kind = .struct fs) (hall : allTT TT fs = true)
    (hk : match fillB σ TT fs i.zero parts.toList with | some cs => K (σ.put o.dst (.agg cs)) | none => False) : Snd P o σ K := by
  split at hk
  · rename_i cs hcs
    refine snd_val _ hk fun {A0 D0 w0 nt a w G} h => ?_
    have hkd := (htt t i ht).kind
    rw [hi] at hkd
    obtain ⟨fa, h2, h3⟩ := hkd
    obtain ⟨inf, z, g1, g2, g3, g4, g5, g6, g7⟩ := (htt t i ht).info
    rw [← h3] at hall hcs
    obtain ⟨pl, p1, p2⟩ := places_of htt fa.toList hall
    obtain ⟨C', q1, q2⟩ := h.fillB (places := fun x => pl[x]?) p2 parts.toList i.zero cs z.cells ⟨by simpa using g5.1.symm, fun q av hq => by
      have hl : q < z.cells.toList.length := by have := (List.getElem?_eq_some_iff.1 hq).1; have := g5.1; omega
      obtain ⟨k1, _⟩ := g5.2 q av _ hq (List.getElem?_eq_getElem hl)
      rw [getD_of (List.getElem?_eq_getElem hl)]
      exact .fr _ _ (k1 _ _)⟩ hcs
    have hbt : P.built t (parts.toList.map fun p => (p.1, a.eval p.2)) = some C' := by
      unfold Program.built
      simp only [g1, h2, g4, p1]
      have : (fun i : Nat => (pl.toArray)[i]?) = fun i : Nat => pl[i]? := by funext i; simp
      rw [this]; exact q1
    refine ⟨.agg C', ?_, ?_⟩
    · have := run_build (P := P) w t (parts.map fun (i, x) => (i, a.eval x)) C' (by simpa using hbt)
      simp [execOp, ho, this]
    · have e : C' = C'.toList.toArray := by simp
      rw [e]
      exact .agg _ _ (by simpa using q2.1) q2.2
  · exact hk.elim
theorem zeros_ok {w : World} {A : Nat → Prop} {l : List AV} {z : Array Value} (hz : ZeroOK l z.toList) (n : Nat) : RowsOK w A l.length (List.replicate n l) ((Array.range (n * l.length)).map fun i => z[i % z.size]!) := by
  have hs : z.size = l.length := by simpa using hz.1.symm
  refine ⟨by simp, fun i r hr => ?_, fun i r j av hr hj => ?_⟩
  · rw [List.getElem?_replicate] at hr
    split at hr
    · cases hr; rfl
    · cases hr
  · rw [List.getElem?_replicate] at hr
    split at hr
    · rename_i hin
      cases hr
      have hjl : j < l.length := (List.getElem?_eq_some_iff.1 hj).1
      have hjz : j < z.toList.length := by simp [hs]; exact hjl
      obtain ⟨h1, h2⟩ := hz.2 j av _ hj (List.getElem?_eq_getElem hjz)
      have hlt : i * l.length + j < n * l.length := by
        have : (i + 1) * l.length ≤ n * l.length := Nat.mul_le_mul_right _ hin
        rw [Nat.add_mul] at this; omega
      refine ⟨z.toList[j], ?_, h1 _ _, h2⟩
      have hmod : (i * l.length + j) % z.size = j := by
        rw [hs, Nat.add_comm, Nat.add_mul_mod_self_right, Nat.mod_eq_of_lt hjl]
      simp only [Array.getElem?_map, Array.getElem?_range, hlt, if_true, Option.map_some, hmod]
      rw [getElem!_pos z j (by omega)]
      simp
    · cases hr
theorem snd_buildSlice {t n e : Nat} {parts : Array (Nat × Operand)} {i j : TI} (ho : o.op = .buildSlice t n parts) (htt : TTok P TT) (ht : TT t = some i) (hi : i.kind = .slice e) (he : TT e = some j) (hsz : 0 < j.size) (hzl : j.zero.length = j.size) (hn : n * j.size ≤ 2 ^ 24)
    (hk : match fillR σ j.size (List.replicate n j.zero) parts.toList with | some rows => K (St.put { n := σ.n + 1, t := σ.t, s := (σ.n, ⟨false, [.own j.size rows]⟩) :: σ.s } o.dst (.ref σ.n [] 0)) | none => False) : Snd P o σ K := by
  split at hk
  · rename_i rows hrows
    intro A0 D0 w0 nt a w G Q hd h
    have hkd := (htt t i ht).kind
    rw [hi] at hkd
    have hkd : P.underlying t = some (.slice e) := hkd
    obtain ⟨z, z1, z2, z3, z4⟩ := (htt e j he).run_zero w
    have hz0 := zeros_ok (w := w) (A := Own A0 G) z2 n
    rw [hzl] at hz0
    obtain ⟨C', q1, q2⟩ := h.fill parts.toList _ rows _ hz0 hrows
    have hrl : rows.length = n := by rw [fillR_len hrows]; simp
    have hC' : C'.size = n * j.size := by rw [q2.size, hrl]
    have hnM : n ≤ MX := by
      have : n * 1 ≤ n * j.size := Nat.mul_le_mul_left _ hsz
      unfold MX; omega
    obtain ⟨gs, g1, g2, g3, g4, g5⟩ := rows_tree (w := w) (T := e) (cap := n) (C' := C') q2 (by rw [hC']) (fun q _ => rfl) (by omega) (by unfold maxLen; unfold MX at hnM; omega) (by omega)
    obtain ⟨G', k1, k2⟩ := h.newDet (.own j.size (.slice (some ⟨w.heap.size, 0, none⟩) rows.length n) gs) (w' := w.alloc (.cells C' e)) (fun b hb => Below.heap_alloc w _ b hb) ⟨rfl, rfl, rfl, by simp⟩ rfl g3 (fun k hk => by rw [g4 k hk]; omega) g5
    simp only [GT.er, g1] at k1
    refine wp_value (v := .slice (some ⟨w.heap.size, 0, none⟩) n n) (w' := w.alloc (.cells C' e)) ?_ ⟨_, G', k1.put (by simpa [GT.val, hrl] using k2) hd, hk⟩
    have h24 : ¬ n * j.size > 2 ^ 24 := by omega
    have hf : Instr.fill (fun i => some (i * j.size, j.size)) ((Array.range (n * j.size)).map fun x => z.cells[x % z.cells.size]!) (parts.map fun x => (x.1, a.eval x.2)).toList = some C' := by simpa using q1
    by_cases hnz : n * j.size = 0
    · have hmap : ∀ (f g : Nat → Value), (Array.range (n * j.size)).map f = (Array.range (n * j.size)).map g := fun f g => by rw [hnz]; simp
      rw [hmap _ (fun x => (#[] : Array Value)[x % (#[] : Array Value).size]!)] at hf
      simp only [execOp, ho, Instr.buildSlice, Sem.run_bind, run_underlying hkd, Result.andThen_ok, (htt e j he).run_size, h24, if_false, Sem.run_pure]
      rw [if_pos hnz]
      simp only [Sem.run_pure, Result.andThen_ok, hf, newRow, Sem.run_bind, run_newObj]
      rfl
    simp only [execOp, ho, Instr.buildSlice, Sem.run_bind, run_underlying hkd, Result.andThen_ok, (htt e j he).run_size, h24, if_false, hnz, z1]
    simp only [Sem.run_pure, Result.andThen_ok, hf, newRow, Sem.run_bind, run_newObj]
    rfl
  · exact hk.elim
theorem snd_makeMap {t : Nat} (ho : o.op = .makeMap t none) (hk : K (St.put { n := σ.n + 1, t := σ.t, s := (σ.n, ⟨false, [.omap []]⟩) :: σ.s } o.dst (.ref σ.n [] 0))) : Snd P o σ K := by
  intro A0 D0 w0 nt a w G Q hd h
  have hnew : (w.alloc (.map #[] 0)).heap[w.heap.size]? = some (.map #[] 0) := Go.heap_alloc_new w _
  obtain ⟨G', k1, k2⟩ := h.newDet (.map w.heap.size []) (w' := w.alloc (.map #[] 0)) (fun b hb => Below.heap_alloc w _ b hb) ⟨rfl, rfl, rfl, by simp⟩ rfl (.map _ _) (fun k hk => by cases hk; omega)
    (fun A _ => .map _ #[] 0 [] hnew rfl (by simp) (fun i p hp => by simp at hp) (fun i p hp => by simp at hp) stampOK_nil)
  simp only [GT.er] at k1
  refine wp_value (v := .map (some w.heap.size)) (w' := w.alloc (.map #[] 0)) ?_ ⟨_, G', k1.put k2 hd, hk⟩
  simp [execOp, ho, Instr.makeMap]
end
end Go.Ab
namespace Go.Ab
open Go Go.RowKit
def maplk : List (Int × AV) → Int → Option AV
  | [], _ => none
  | (k, v) :: r, i => if i = k then some v else maplk r i
def mapput : List (Int × AV) → Int → AV → List (Int × AV)
  | [], i, u => [(i, u)]
  | (k, v) :: r, i, u => if i = k then (k, u) :: r else (k, v) :: mapput r i u
def mapOf (σ : St) : AV → Option (List (Int × AV))
  | .nilmap => some []
  | .fmap es => some es
  | .ref x p c => match cellAtB σ x p c with
    | .omap es => some es
    | _ => none
  | _ => none
section
variable {P : Program} {TT : TTab} {o : Oper} {σ : St} {K : St → Prop}
theorem getObj_map {w : World} {b : Nat} {es : Array MapEntry} {clock : Nat} (h : w.heap[b]? = some (.map es clock)) : (getObj b).run P w = .ok (.map es clock) w := by simp [getObj, Sem.run, h]
theorem setObj_map {w : World} {b : Nat} {es : Array MapEntry} {clock : Nat} (u : Obj) (h : w.heap[b]? = some (.map es clock)) : (setObj b u).run P w = .ok () { w with heap := w.heap.setIfInBounds b u } := by simp [setObj, Sem.run, h]
theorem checkKey_int {w : World} {kt : Nat} {k : IntKind} {q : Int} (h : P.underlying kt = some (.int k)) (b : Bool) (n : Nat) : (Instr.checkKey b (n + 1) kt (.int k q)).run P w = .ok () w := by
  unfold Instr.checkKey
  simp [run_underlying h]
theorem findKey_int {w : World} {kt : Nat} {k : IntKind} {q : Int} {l : List MapEntry} {r : Option (Nat × Value)} (h : P.underlying kt = some (.int k)) (hf : Instr.findNow (.int k) (.int k q) l 0 = some r) : (Instr.findKey kt (.int k q) l).run P w = .ok r w := by
  simp [Instr.findKey, run_underlying h, hf]
structure Ents (w : World) (A : Nat → Prop) (es : List (Int × AV)) (ents : Array MapEntry) : Prop where
  size : ents.size = es.length
  key : ∀ (i : Nat) (p : Int × AV), es[i]? = some p → ents[i]?.map (fun m : MapEntry => m.key) = some (.int .i64 p.1)
  val : ∀ (i : Nat) (p : Int × AV), es[i]? = some p → FR w A p.2 ((ents[i]?.map (fun m : MapEntry => m.val)).getD undef)
theorem Ents.find {w : World} {A : Nat → Prop} {k : Int} : ∀ {es : List (Int × AV)} {ents : List MapEntry} (q : Nat), ents.length = es.length → (∀ (i : Nat) (p : Int × AV), es[i]? = some p → ents[i]?.map (fun m : MapEntry => m.key) = some (.int .i64 p.1)) →
    (∀ (i : Nat) (p : Int × AV), es[i]? = some p → FR w A p.2 ((ents[i]?.map (fun m : MapEntry => m.val)).getD undef)) →
    (maplk es k = none ∧ Instr.findNow (.int .i64) (.int .i64 k) ents q = some none) ∨ ∃ v u i, maplk es k = some v ∧ Instr.findNow (.int .i64) (.int .i64 k) ents q = some (some (q + i, u)) ∧ FR w A v u ∧ i < es.length ∧ es[i]?.map (·.1) = some k
  | [], [], q, _, _, _ => .inl ⟨rfl, rfl⟩
  | [], _ :: _, q, h, _, _ => by simp at h
  | _ :: _, [], q, h, _, _ => by simp at h
  | (k0, v0) :: es, e :: ents, q, hl, hk, hv => by
    have hk0 := hk 0 (k0, v0) rfl
    have hv0 := hv 0 (k0, v0) rfl
    simp only [List.getElem?_cons_zero, Option.map_some, Option.some.injEq, Option.getD_some] at hk0 hv0
    by_cases h : k = k0
    · subst h
      refine .inr ⟨v0, e.val, 0, by simp [maplk], ?_, hv0, by simp, by simp⟩
      simp [Instr.findNow, hk0, Instr.sameNow]
    · have hs : Instr.sameNow (.int .i64) (.int .i64 k) e.key = some false := by rw [hk0]; simp [Instr.sameNow, h]
      rcases Ents.find (k := k) (q + 1) (by simpa using hl) (fun i p hp => by simpa using hk (i + 1) p (by simpa using hp)) (fun i p hp => by simpa using hv (i + 1) p (by simpa using hp)) with ⟨h1, h2⟩ | ⟨v, u, i, h1, h2, h3, h4, h5⟩
      · exact .inl ⟨by simp [maplk, h, h1], by simp [Instr.findNow, hs, h2]⟩
      · refine .inr ⟨v, u, i + 1, by simp [maplk, h, h1], by simp [Instr.findNow, hs, h2]; omega, h3, by simp; omega, by simpa using h5⟩
theorem Holds.map {A0 D0 : Nat → Prop} {w0 : World} {nt : Nat} {a : Act} {w : World} {G : Nat → Option GR} (h : Holds A0 D0 w0 nt σ a w G) {m : AV} {v : Value} {es : List (Int × AV)} (hm : mapOf σ m = some es) (hv : Rel w (Own A0 G) G σ.n m v) :
    (v = .map none ∧ es = []) ∨ ∃ b ents clock, v = .map (some b) ∧ w.heap[b]? = some (.map ents clock) ∧ Ents w (Own A0 G) es ents ∧ es.length ≤ MX := by
  cases m <;> simp only [mapOf, Option.some.injEq, reduceCtorEq] at hm
  · rename_i x p c
    split at hm
    · rename_i es' hc
      cases hm
      obtain ⟨_, _, b3⟩ := hv.ref_inv
      obtain ⟨r, row, g, grow, t', k1, k2, k3, k4, k5, k6, k7, k8, k9, k10, k11, k12⟩ := h.tree hc rfl
      obtain ⟨b, rfl⟩ := er_map k8 k7
      cases k9 with
      | map b ents clock es h1 h2 h3 h4 h5 _ => exact .inr ⟨b, ents, clock, k11 _ b3, h1, ⟨h2, h4, h5⟩, h3⟩
    · cases hm
  · subst hm; exact .inl ⟨hv.nilmap_inv, rfl⟩
  · subst hm
    have := hv.fr_of trivial
    cases this with
    | fmap es b ents clock h1 h2 h3 h4 h5 h6 => exact .inr ⟨b, ents, clock, rfl, h2, ⟨h3, h5, h6⟩, h4⟩
theorem snd_lookup {t e : Nat} {kt : Nat} {x ix : Operand} {ok : Bool} {i ik j : TI} (ho : o.op = .lookup t x ix ok) (htt : TTok P TT) (ht : TT t = some i) (hi : i.kind = .map kt e) (hkt : TT kt = some ik) (hik : ik.kind = .int .i64) (he : TT e = some j)
    (hk : match mapOf σ (ev σ x), ev σ ix with
      | some es, .int .i64 q => K (σ.put o.dst (match maplk es q with
        | some v => if ok = true then .tup [v, .bool true] else v
        | none => if ok = true then .tup [mkV j j.zero, .bool false] else mkV j j.zero))
      | _, _ => False) : Snd P o σ K := by
  split at hk
  · rename_i es q hm hx
    refine snd_val _ hk fun {A0 D0 w0 nt a w G} h => ?_
    have hti := (htt t i ht).kind
    rw [hi] at hti
    have hti : P.underlying t = some (.map kt e) := hti
    have hki := (htt kt ik hkt).kind
    rw [hik] at hki
    have hki : P.underlying kt = some (.int .i64) := hki
    have hq := h.ev ix
    rw [hx] at hq
    have hq := hq.int_inv
    obtain ⟨z0, z1, z2, z3, z4⟩ := (htt e j he).run_zero w
    have hz := zero_rel (w := w) (A := Own A0 G) (G := G) (n := σ.n) z2 z3 z4
    have hck : ∀ b, (Instr.checkKey b 10000 kt (.int .i64 q)).run P w = .ok () w := fun b => checkKey_int hki b 9999
    rcases h.map hm (h.ev x) with ⟨e1, rfl⟩ | ⟨b, ents, clock, e1, e2, ⟨e3, e4, e5⟩, _⟩
    · have hrun : (execOp a.eval o).run P w = .ok (.value (if ok = true then .tuple #[z0, .bool false] else z0)) w := by
        have hf : (Instr.findKey kt (.int .i64 q) []).run P w = .ok none w := findKey_int hki rfl
        simp [execOp, ho, e1, hq, Instr.lookup, run_underlying hti, hck, hf, z1]
      refine ⟨_, hrun, ?_⟩
      simp only [maplk]
      split
      · refine .tup [mkV j j.zero, .bool false] [z0, .bool false] rfl fun q av hav => ?_
        match q, hav with
        | 0, hav => cases hav; exact hz
        | 1, hav => cases hav; exact .fr _ _ (.bool _)
      · exact hz
    · rcases Ents.find (w := w) (A := Own A0 G) (k := q) (es := es) (ents := ents.toList) 0 (by simpa using e3) (by simpa using e4) (by simpa using e5) with ⟨h1, h2⟩ | ⟨v, u, i', h1, h2, h3, h4, h5⟩
      · have hrun : (execOp a.eval o).run P w = .ok (.value (if ok = true then .tuple #[z0, .bool false] else z0)) w := by
          have hf : (Instr.findKey kt (.int .i64 q) ents.toList).run P w = .ok none w := findKey_int hki h2
          simp [execOp, ho, e1, hq, Instr.lookup, run_underlying hti, hck, hf, z1, getObj_map e2]
        refine ⟨_, hrun, ?_⟩
        rw [h1]
        simp only
        split
        · refine .tup [mkV j j.zero, .bool false] [z0, .bool false] rfl fun q av hav => ?_
          match q, hav with
          | 0, hav => cases hav; exact hz
          | 1, hav => cases hav; exact .fr _ _ (.bool _)
        · exact hz
      · have hrun : (execOp a.eval o).run P w = .ok (.value (if ok = true then .tuple #[u, .bool true] else u)) w := by
          have hf : (Instr.findKey kt (.int .i64 q) ents.toList).run P w = .ok (some (0 + i', u)) w := findKey_int hki h2
          simp [execOp, ho, e1, hq, Instr.lookup, run_underlying hti, hck, hf, getObj_map e2]
        refine ⟨_, hrun, ?_⟩
        rw [h1]
        simp only
        split
        · refine .tup [v, .bool true] [u, .bool true] rfl fun q av hav => ?_
          match q, hav with
          | 0, hav => cases hav; exact .fr _ _ h3
          | 1, hav => cases hav; exact .fr _ _ (.bool _)
        · exact .fr _ _ h3
  · exact hk.elim
theorem snd_len {x : Operand} {t : Nat} {i : TI} (ho : o.op = .call { callee := .builtin .len, args := #[x], argTypes := #[t] }) (htt : TTok P TT) (ht : TT t = some i)
    (hk : match i.kind with
      | .slice _ => (match ev σ x with
        | .nilsl => K (σ.put o.dst (.int .i64 0))
        | .sl _ l => l.length ≤ MX → K (σ.put o.dst (.int .i64 l.length))
        | .ref y p c => (match cellAtB σ y p c with
          | .own _ es => es.length ≤ MX → K (σ.put o.dst (.int .i64 es.length))
          | _ => False)
        | _ => False)
      | .str => (match ev σ x with
        | .str s => s.size ≤ MX → K (σ.put o.dst (.int .i64 s.size))
        | _ => False)
      | .map _ _ => (match mapOf σ (ev σ x) with
        | some es => es.length ≤ MX → K (σ.put o.dst (.int .i64 es.length))
        | none => False)
      | _ => False) : Snd P o σ K := by
  have hkd := (htt t i ht).kind
  intro A0 D0 w0 nt a w G Q hd h
  have hb := h.ev x
  have fin : ∀ (v : Int), (Builtin.len_ #[t] o.type #[a.eval x]).run P w = .ok (.int .i64 v) w → K (σ.put o.dst (.int .i64 v)) → o.wp P a w (Goes A0 D0 w0 nt K) Q := fun v h1 h2 =>
    wp_value (v := .int .i64 v) (w' := w) (by simp [execOp, ho, resolve, invoke, builtin, h1]) ⟨_, G, h.put (.fr _ _ (.int _ _)) hd, h2⟩
  split at hk
  · rename_i e hi
    rw [hi] at hkd
    have hkd : P.underlying t = some (.slice e) := hkd
    have hrun : ∀ (ad : Option Addr) (n c : Nat), a.eval x = .slice ad n c → (Builtin.len_ #[t] o.type #[a.eval x]).run P w = .ok (.int .i64 n) w := fun ad n c he => by
      simp [Builtin.len_, he, run_underlying hkd, goInt]
    split at hk
    · rename_i hx
      rw [hx] at hb
      exact fin 0 (hrun _ _ _ hb.nilsl_inv) hk
    · rename_i n l hx
      rw [hx] at hb
      have hb := hb.fr_of trivial
      generalize hu : a.eval x = u at hb
      cases hb with
      | slnil => exact fin _ (hrun _ _ _ hu) (hk (by simp))
      | slmt => exact fin _ (hrun _ _ _ hu) (hk (by simp))
      | sl _ _ b of cap h1 h2 h3 h4 h5 h6 => exact fin _ (hrun _ _ _ hu) (hk h3)
    · rename_i y p c hx
      rw [hx] at hb
      obtain ⟨_, _, b3⟩ := hb.ref_inv
      split at hk
      · rename_i n es hc
        obtain ⟨r, row, g, grow, t', k1, k2, k3, k4, k5, k6, k7, k8, k9, k10, k11, k12⟩ := h.tree hc rfl
        obtain ⟨v, rows, rfl, rfl⟩ := er_own k8 k7
        have hv := k11 _ b3
        simp only [GT.val] at hv
        rcases k9.own_inv with ⟨rfl, rfl⟩ | ⟨b, cap, vs, T, rfl, e2, e3, e4, e5, e6, _⟩
        · exact fin _ (hrun _ _ _ hv) (hk (by simp))
        · have := hk (by simpa using e6)
          rw [List.length_map] at this
          exact fin _ (hrun _ _ _ hv) this
      · exact hk.elim
    · exact hk.elim
  · rename_i hi
    rw [hi] at hkd
    have hkd : P.underlying t = some .string := hkd
    split at hk
    · rename_i s hx
      rw [hx] at hb
      obtain ⟨e1, e2⟩ := hb.str_inv
      exact fin _ (by simp [Builtin.len_, e1, run_underlying hkd, goInt]) (hk e2)
    · exact hk.elim
  · rename_i kt e hi
    rw [hi] at hkd
    have hkd : P.underlying t = some (.map kt e) := hkd
    split at hk
    · rename_i es hm
      rcases h.map hm hb with ⟨e1, rfl⟩ | ⟨b, ents, clock, e1, e2, e3, e4⟩
      · exact fin _ (by simp [Builtin.len_, e1, run_underlying hkd, goInt]) (hk (by simp))
      · exact fin _ (by simp [Builtin.len_, e1, run_underlying hkd, goInt, getObj_map e2, e3.size]) (hk e4)
    · exact hk.elim
  · exact hk.elim
theorem snd_strIndex {t : Nat} {x ix : Operand} {i : TI} (ho : o.op = .index t x ix) (htt : TTok P TT) (ht : TT t = some i) (hi : i.kind = .str)
    (hk : match ev σ x, ev σ ix with
      | .str s, .int _ q => 0 ≤ q ∧ (match s.data.toList[q.toNat]? with
        | some c => K (σ.put o.dst (.int .u8 c.toNat))
        | none => False)
      | _, _ => False) : Snd P o σ K := by
  have hkd := (htt t i ht).kind
  rw [hi] at hkd
  have hkd : P.underlying t = some .string := hkd
  split at hk
  · rename_i s k q hx hy
    obtain ⟨hq, hk⟩ := hk
    split at hk
    · rename_i c hc
      refine snd_val _ hk fun {A0 D0 w0 nt a w G} h => ?_
      have h1 := h.ev x
      rw [hx] at h1
      have h2 := h.ev ix
      rw [hy] at h2
      have hlt : q.toNat < s.size := by have := (List.getElem?_eq_some_iff.1 hc).1; rw [Array.length_toList] at this; exact this
      have hs : s[q.toNat]'hlt = c := (List.getElem?_eq_some_iff.1 hc).2
      have hql : 0 ≤ q ∧ q < s.size := ⟨hq, by omega⟩
      have hrun := run_index_string (P := P) w t s k q hkd
      rw [dif_pos hql, hs] at hrun
      have e1 := h1.str_inv.1
      have e2 := h2.int_inv
      refine ⟨.int .u8 c.toNat, ?_, .fr _ _ (.int _ _)⟩
      unfold execOp
      rw [ho]
      simp only [e1, e2]
      rw [Sem.run_bind, hrun]
      rfl
    · exact hk.elim
  · exact hk.elim
end
end Go.Ab
namespace Go.Ab
open Go Go.RowKit
section
variable {P : Program} {TT : TTab} {o : Oper} {σ : St} {K : St → Prop}
theorem mapput_spec {w : World} {A : Nat → Prop} {k : Int} {v : AV} {u : Value} (hu : FR w A v u) : ∀ {es : List (Int × AV)} {ents : List MapEntry}, ents.length = es.length → (∀ (i : Nat) (p : Int × AV), es[i]? = some p → ents[i]?.map (fun m : MapEntry => m.key) = some (.int .i64 p.1)) →
    (∀ (i : Nat) (p : Int × AV), es[i]? = some p → FR w A p.2 ((ents[i]?.map (fun m : MapEntry => m.val)).getD undef)) → ∀ q, (∃ i u0, Instr.findNow (.int .i64) (.int .i64 k) ents q = some (some (q + i, u0)) ∧ i < es.length ∧
      let ents' := ents.modify i fun e => { e with key := .int .i64 k, val := u }
      ents'.length = (mapput es k v).length ∧ (∀ (i : Nat) (p : Int × AV), (mapput es k v)[i]? = some p → ents'[i]?.map (fun m : MapEntry => m.key) = some (.int .i64 p.1)) ∧ (∀ (i : Nat) (p : Int × AV), (mapput es k v)[i]? = some p → FR w A p.2 ((ents'[i]?.map (fun m : MapEntry => m.val)).getD undef)) ∧
      ents[i]?.map (fun m : MapEntry => m.key) = some (.int .i64 k)) ∨
    (Instr.findNow (.int .i64) (.int .i64 k) ents q = some none ∧ mapput es k v = es ++ [(k, v)])
  | [], [], _, _, _, q => .inr ⟨rfl, rfl⟩
  | [], _ :: _, h, _, _, q => by simp at h
  | _ :: _, [], h, _, _, q => by simp at h
  | (k0, v0) :: es, e :: ents, hl, hk, hv, q => by
    have hk0 := hk 0 (k0, v0) rfl
    simp only [List.getElem?_cons_zero, Option.map_some, Option.some.injEq] at hk0
    by_cases h : k = k0
    · subst h
      refine .inl ⟨0, e.val, by simp [Instr.findNow, hk0, Instr.sameNow], by simp, ?_⟩
      simp only [mapput, if_true, List.modify_zero_cons, List.length_cons]
      refine ⟨by simpa using hl, fun i p hp => ?_, fun i p hp => ?_, by simp [hk0]⟩
      · cases i with
        | zero => simp at hp; subst hp; simp
        | succ i => simpa using hk (i + 1) p (by simpa using hp)
      · cases i with
        | zero => simp at hp; subst hp; simpa using hu
        | succ i => simpa using hv (i + 1) p (by simpa using hp)
    · have hs : Instr.sameNow (.int .i64) (.int .i64 k) e.key = some false := by rw [hk0]; simp [Instr.sameNow, h]
      rcases mapput_spec (k := k) hu (by simpa using hl) (fun i p hp => by simpa using hk (i + 1) p (by simpa using hp)) (fun i p hp => by simpa using hv (i + 1) p (by simpa using hp)) (q + 1) with ⟨i, u0, h1, h2, h3, h4, h5, h6⟩ | ⟨h1, h2⟩
      · refine .inl ⟨i + 1, u0, by simp [Instr.findNow, hs, h1]; omega, by simp; omega, ?_⟩
        simp only [mapput, h, if_false, List.modify_succ_cons, List.length_cons]
        refine ⟨by simpa using h3, fun i p hp => ?_, fun i p hp => ?_, by simpa using h6⟩
        · cases i with
          | zero => simp at hp; subst hp; simpa using hk0
          | succ i => simpa using h4 i p (by simpa using hp)
        · cases i with
          | zero => simp at hp; subst hp; simpa using hv 0 (k0, v0) rfl
          | succ i => simpa using h5 i p (by simpa using hp)
      · exact .inr ⟨by simp [Instr.findNow, hs, h1], by simp [mapput, h, h2]⟩
theorem mapput_len (es : List (Int × AV)) (k : Int) (v : AV) : (mapput es k v).length ≤ es.length + 1 := by
  induction es with
  | nil => simp [mapput]
  | cons p r ih => obtain ⟨a, b⟩ := p; simp only [mapput]; split <;> simp <;> omega
theorem snd_mapUpdate {t e : Nat} {kt : Nat} {m ix x : Operand} {i ik : TI} (ho : o.op = .mapUpdate t m ix x ∨ o.op = .insert t m ix x) (hdst : o.dst = none) (htt : TTok P TT) (ht : TT t = some i) (hi : i.kind = .map kt e) (hkt : TT kt = some ik) (hik : ik.kind = .int .i64)
    (hk : match ev σ m, ev σ ix with
      | .ref y p c, .int .i64 q => (ev σ x).pure = true ∧ (match getS σ.s y with
        | some r => (match rowOf r.cells p with
          | some row => (match row[c]? with
            | some (.omap es) => es.length < MX ∧ K { σ with s := updS σ.s y { r with cells := putAt r.cells p c (.omap (mapput es q (ev σ x))) } }
            | _ => False)
          | none => False)
        | none => False)
      | _, _ => False) : Snd P o σ K := by
  split at hk
  · rename_i y p c q hm hx
    obtain ⟨hpure, hk⟩ := hk
    split at hk
    · rename_i r hr
      split at hk
      · rename_i row hrow
        split at hk
        · rename_i es hc
          obtain ⟨hlen, hk⟩ := hk
          intro A0 D0 w0 nt a w G Q hd h
          have hcell : cellAtB σ y p c = .omap es := by simp [cellAtB, hr, hrow, hc]
          obtain ⟨r', row', g, grow, t', k1, k2, k3, k4, k5, k6, k7, k8, k9, k10, k11, k12⟩ := h.tree hcell rfl
          rw [hr] at k1; cases k1
          rw [hrow] at k2; cases k2
          obtain ⟨b, rfl⟩ := er_map k8 k7
          have hmv := h.ev m
          rw [hm] at hmv
          have hq := h.ev ix
          rw [hx] at hq
          have hq := hq.int_inv
          have hu := (h.ev x).pure hpure
          have hmv := k11 _ hmv.ref_inv.2.2
          have hti := (htt t i ht).kind
          rw [hi] at hti
          have hti : P.underlying t = some (.map kt e) := hti
          have hki := (htt kt ik hkt).kind
          rw [hik] at hki
          have hki : P.underlying kt = some (.int .i64) := hki
          cases k9 with
          | map b ents clock es h1 h2 h3 h4 h5 hst =>
            have hlt : b < w.heap.size := (Array.getElem?_eq_some_iff.1 h1).1
            have fin : ∀ (ents' : Array MapEntry) (clock' : Nat) (es' : List (Int × AV)), ents'.size = es'.length → es'.length ≤ MX → (∀ (i : Nat) (p : Int × AV), es'[i]? = some p → ents'[i]?.map (fun m : MapEntry => m.key) = some (.int .i64 p.1)) →
                (∀ (i : Nat) (p : Int × AV), es'[i]? = some p → FR w (Own A0 G) p.2 ((ents'[i]?.map (fun m : MapEntry => m.val)).getD undef)) → es' = mapput es q (ev σ x) → StampOK ents' clock' →
                (Instr.mapUpdate t (a.eval m) (a.eval ix) (a.eval x)).run P w = .ok () { w with heap := w.heap.setIfInBounds b (.map ents' clock') } → o.wp P a w (Goes A0 D0 w0 nt K) Q := by
              intro ents' clock' es' e1 e2 e3 e4 e5 e6 hrun
              subst e5
              have hsame : ∀ k, k ≠ b → (w.heap.setIfInBounds b (.map ents' clock'))[k]? = w.heap[k]? := fun k hk => by simp [Array.getElem?_setIfInBounds, Ne.symm hk]
              have hself : (w.heap.setIfInBounds b (.map ents' clock'))[b]? = some (.map ents' clock') := by simp [hlt]
              have := h.setObj (j := c) (g1 := .map b (mapput es q (ev σ x))) (w' := { w with heap := w.heap.setIfInBounds b (.map ents' clock') }) hr hrow k4 k5 k6 rfl rfl rfl rfl (.map _ _) (fun k hk => by cases hk; exact .map _ _)
                (fun k hk hn => hsame k fun e => hn (e ▸ .map _ _)) ⟨rfl, rfl, rfl, by simp⟩ (fun A hA => .map b ents' clock' _ hself e1 e2 e3 (fun i p hp => (e4 i p hp).keep (fun k hk ho => hsame k fun e => ho (.inr ⟨y, g, k4, .inr (k12 _ (e ▸ .map _ _))⟩)) hA) e6)
              refine wp_unit (w' := { w with heap := w.heap.setIfInBounds b (.map ents' clock') }) ?_ ⟨_, _, by rw [hdst]; exact this, by simpa only [GT.er] using hk⟩
              rcases ho with ho | ho <;> simp [execOp, ho, hrun]
            have hrun0 : ∀ (rest : Sem Unit), (Instr.mapUpdate t (a.eval m) (a.eval ix) (a.eval x)).run P w = ((Instr.findKey kt (.int .i64 q) ents.toList).run P w).andThen fun r w' =>
                ((match r with
                  | some (i, _) => do
                    let key ← Instr.keyThatStays (((ents[i]?).map (·.key)).getD (.int .i64 q)) (.int .i64 q)
                    setObj b (.map (ents.modify i fun e => { e with key, val := a.eval x }) clock)
                  | none => setObj b (.map (ents.push { key := .int .i64 q, val := a.eval x, born := clock }) (clock + 1)) : Sem Unit)).run P w' := by
              intro _
              have hck := checkKey_int (P := P) (w := w) (q := q) hki false 9999
              rw [hmv, hq]
              simp only [GT.val, Instr.mapUpdate, Sem.run_bind, run_underlying hti, Result.andThen_ok, getObj_map h1, hck]
              rfl
            rcases mapput_spec (k := q) (v := ev σ x) (u := a.eval x) hu (es := es) (ents := ents.toList) (by simpa using h2) (by simpa using h4) (by simpa using h5) 0 with ⟨i', u0, f1, f2, f3, f4, f5, f6⟩ | ⟨f1, f2⟩
            · refine fin (ents.modify i' fun e => { e with key := .int .i64 q, val := a.eval x }) clock (mapput es q (ev σ x)) ?_ ?_ ?_ ?_ rfl (hst.modify _ _ fun _ => rfl) ?_
              · have := f3; simp only [List.length_modify] at this; simp; simpa using this
              · have := f3; simp only [List.length_modify, Array.length_toList] at this; omega
              · intro i p hp; have := f4 i p hp; simpa [← Array.toList_modify] using this
              · intro i p hp; have := f5 i p hp; simpa [← Array.toList_modify] using this
              · rw [hrun0 (pure ()), findKey_int hki f1]
                have hkey : (Option.map (fun x : MapEntry => x.key) ents[i']?).getD (.int .i64 q) = .int .i64 q := by
                  have : ents[i']?.map (fun m : MapEntry => m.key) = some (.int .i64 q) := by simpa using f6
                  rw [this]; rfl
                have hkts : (Instr.keyThatStays (.int .i64 q) (.int .i64 q)).run P w = .ok (.int .i64 q) w := by simp [Instr.keyThatStays, Instr.sameBits]
                simp only [Result.andThen_ok, Sem.run_bind, Nat.zero_add, hkey, hkts]
                exact setObj_map _ h1
            · refine fin (ents.push { key := .int .i64 q, val := a.eval x, born := clock }) (clock + 1) (es ++ [(q, ev σ x)]) (by simp [h2]) (by simp; omega) ?_ ?_ f2.symm (hst.push rfl) ?_
              · intro i p hp
                rw [List.getElem?_append] at hp
                split at hp
                · rename_i hlt'
                  rw [Array.getElem?_push, if_neg (by omega)]; exact h4 i p hp
                · rename_i hge
                  have : i = es.length := by
                    have := (List.getElem?_eq_some_iff.1 hp).1; simp at this; omega
                  subst this
                  simp at hp; subst hp
                  rw [← h2, Array.getElem?_push_size]; rfl
              · intro i p hp
                rw [List.getElem?_append] at hp
                split at hp
                · rename_i hlt'
                  rw [Array.getElem?_push, if_neg (by omega)]; exact h5 i p hp
                · rename_i hge
                  have : i = es.length := by
                    have := (List.getElem?_eq_some_iff.1 hp).1; simp at this; omega
                  subst this
                  simp at hp; subst hp
                  rw [← h2, Array.getElem?_push_size]; exact hu
              · rw [hrun0 (pure ()), findKey_int hki f1]
                exact setObj_map _ h1
        · exact hk.elim
      · exact hk.elim
    · exact hk.elim
  · exact hk.elim
end
end Go.Ab
namespace Go.Ab
open Go Go.RowKit
theorem divmod {q n m : Nat} (hm : 0 < m) (h : q < n * m) : q / m < n ∧ q % m < m ∧ q / m * m + q % m = q :=
  ⟨Nat.div_lt_of_lt_mul (by rw [Nat.mul_comm]; exact h), Nat.mod_lt _ hm, by rw [Nat.mul_comm]; exact Nat.div_add_mod q m⟩
structure Src (w : World) (A : Nat → Prop) (m : Nat) (rows : List (List AV)) (v : Value) : Prop where
  len : ∀ (i : Nat) (r : List AV), rows[i]? = some r → r.length = m
  nil : rows = [] → ∃ ad c, v = .slice ad 0 c
  at_ : rows ≠ [] → ∃ b o c, v = .slice (some ⟨b, o, none⟩) rows.length c ∧ ∀ (i : Nat) (r : List AV) (j : Nat) (a : AV), rows[i]? = some r → r[j]? = some a → ∃ u, w.cell? ⟨b, o + (i * m + j), none⟩ = some u ∧ FR w A a u ∧ u.oneCell' = true
theorem run_append_none {P : Program} {w : World} {t ty e : Nat} {j : TI} (ht : P.underlying t = some (.slice e)) (he : TIok P e j) (ad ad' : Option Addr) (n c c' : Nat) (hc : n ≤ c) :
    (Builtin.append_ #[t, t] ty #[.slice ad n c, .slice ad' 0 c']).run P w = .ok (.slice ad n c) w := by
  have hs := he.run_size w
  have h2 : ∀ w, (underlying t).run P w = .ok (.slice e) w := run_underlying ht
  cases ad <;> cases ad' <;> simp [Builtin.append_, h2, hs, Builtin.lenOf, hc, Builtin.firstCells, loadCells, loadCellsFrom, storeCells]
theorem setCells_heap {b : Nat} : ∀ (us : List Value) (o : Nat) (w : World) {vs : Array Value} {T : TypeId}, w.heap[b]? = some (.cells vs T (0, 0)) →
    (∃ vs', (w.setCells b o us).heap[b]? = some (.cells vs' T (0, 0)) ∧ vs'.size = vs.size) ∧ (∀ k, k ≠ b → (w.setCells b o us).heap[k]? = w.heap[k]?) ∧ (w.setCells b o us).os = w.os ∧ (w.setCells b o us).tape = w.tape ∧ (w.setCells b o us).output = w.output ∧ (w.setCells b o us).heap.size = w.heap.size
  | [], o, w, vs, T, h => ⟨⟨vs, h, rfl⟩, fun _ _ => rfl, rfl, rfl, rfl, rfl⟩
  | u :: us, o, w, vs, T, h => by
    obtain ⟨⟨vs', h1, h2⟩, h3, h4, h5, h6, h7⟩ := setCells_heap us (o + 1) (w.setCell ⟨b, o, none⟩ u) (heap_setCell_self h)
    exact ⟨⟨vs', h1, by rw [h2]; simp⟩, fun k hk => (h3 k hk).trans (heap_setCell_other w ⟨b, o, none⟩ k u hk), h4, h5, h6, h7.trans (by simp)⟩
theorem append_tree_of {P : Program} {w : World} {A : Nat → Prop} {t ty e : Nat} {j : TI} (ht : P.underlying t = some (.slice e)) (he : TIok P e j) (hm : 0 < j.size) (hzl : j.zero.length = j.size) {v x : Value} {rows : List (List GT)} {rows2 : List (List AV)} (hmem : Mem w A (.own j.size v rows)) (hsep : Sep (.own j.size v rows))
    {u : Nat} {news : List Value} (h2 : rows2 ≠ []) (hlr : ∀ (i : Nat) (r : List AV), rows2[i]? = some r → r.length = j.size) (hnj : news.length = rows2.length * j.size)
    (hnat : ∀ (i : Nat) (r : List AV) (k : Nat) (a : AV), rows2[i]? = some r → r[k]? = some a → ∃ u, news[i * j.size + k]? = some u ∧ FR w A a u ∧ u.oneCell' = true) (hnews1 : ∀ u ∈ news, u.oneCell' = true)
    (rNil : ∀ (inf : TypeInfo) (z : Value), P.info? e = some inf → inf.zero = some z → inf.size = j.size → inf.bytes = j.bytes → (rows2.length : Int) ≤ 9223372036854775807 → rows2.length * inf.bytes ≤ 281474976710656 →
      (Builtin.append_ #[t, u] ty #[.slice none 0 0, x]).run P w = .ok (.slice (some ⟨w.heap.size, 0, none⟩) rows2.length (grownCap w rows2.length 0 e)) (w.drew.alloc (.cells (news.toArray ++ Builtin.zeroCells z.cells (grownCap w rows2.length 0 e - rows2.length)) e)))
    (rRoom : ∀ (inf : TypeInfo) (b sLen sCap : Nat), P.info? e = some inf → inf.size = j.size → sLen + rows2.length ≤ sCap → (∀ q, q < news.length → (w.cell? ⟨b, 0 + sLen * inf.size + q, none⟩).isSome = true) → (∀ q, q < news.length → w.frozen? ⟨b, 0 + sLen * inf.size + q, none⟩ = false) →
      (Builtin.append_ #[t, u] ty #[.slice (some ⟨b, 0, none⟩) sLen sCap, x]).run P w = .ok (.slice (some ⟨b, 0, none⟩) (sLen + rows2.length) sCap) (w.setCells b (0 + sLen * inf.size) news))
    (rGrow : ∀ (inf : TypeInfo) (z : Value) (b : Addr) (sLen sCap : Nat) (olds : List Value), P.info? e = some inf → inf.zero = some z → inf.size = j.size → olds.length = sLen * inf.size → (∀ q v, olds[q]? = some v → w.cell? (b.add q) = some v) → sCap < sLen + rows2.length →
      ((sLen + rows2.length : Nat) : Int) ≤ 9223372036854775807 → Builtin.nextslicecap (sLen + rows2.length) sCap * inf.bytes ≤ 281474976710656 →
      (Builtin.append_ #[t, u] ty #[.slice (some b) sLen sCap, x]).run P w = .ok (.slice (some ⟨w.heap.size, 0, none⟩) (sLen + rows2.length) (grownCap w (sLen + rows2.length) sCap e))
        (w.drew.alloc (.cells (olds.toArray ++ news.toArray ++ Builtin.zeroCells z.cells (grownCap w (sLen + rows2.length) sCap e - (sLen + rows2.length))) e))) (hb : (rows.length + rows2.length) * j.bytes ≤ MX) (hM : rows.length + rows2.length ≤ MX) (hAo : ∀ k, Fp (.own j.size v rows) k → A k) :
    ∃ v' w' rows', (Builtin.append_ #[t, u] ty #[v, x]).run P w = .ok v' w' ∧ rows'.map (fun r => r.map GT.er) = rows.map (fun r => r.map GT.er) ++ rows2 ∧ Sep (.own j.size v' rows') ∧ (∀ k, Fp (.own j.size v' rows') k → Fp (.own j.size v rows) k ∨ w.heap.size ≤ k) ∧
      (∀ b, b < w.heap.size → ¬ Fp (.own j.size v rows) b → w'.heap[b]? = w.heap[b]?) ∧ (w'.os = w.os ∧ w'.tape = w.tape ∧ w'.output = w.output ∧ w.heap.size ≤ w'.heap.size) ∧
      ∀ A', (∀ b, b < w.heap.size → A' b → A b) → Mem w' A' (.own j.size v' rows') := by
  have hlen2 : 0 < rows2.length := by cases rows2 with | nil => exact absurd rfl h2 | cons => simp
  obtain ⟨inf, z, i1, i2, i3, i4, i5, i6, i7⟩ := he.info
  have hnl : news.length = rows2.length * inf.size := by rw [i2]; exact hnj
  -- their trees
  let gs2 : List (List GT) := rows2.zipIdx.map fun p => p.1.zipIdx.map fun q => GT.lf q.1 ((news[p.2 * j.size + q.2]?).getD undef)
  have hg2 : ∀ (i : Nat) (r : List GT), gs2[i]? = some r → ∃ row, rows2[i]? = some row ∧ r = row.zipIdx.map fun q => GT.lf q.1 ((news[i * j.size + q.2]?).getD undef) := by
    intro i r h
    simp only [gs2, List.getElem?_map, List.getElem?_zipIdx, Option.map_eq_some_iff] at h
    obtain ⟨p, ⟨row, h1, rfl⟩, rfl⟩ := h
    exact ⟨row, h1, by simp⟩
  have hgc2 : ∀ (i : Nat) (r : List GT) (k : Nat) (g : GT), gs2[i]? = some r → r[k]? = some g → ∃ row av u, rows2[i]? = some row ∧ row[k]? = some av ∧ news[i * j.size + k]? = some u ∧ FR w A av u ∧ u.oneCell' = true ∧ g = .lf av u := by
    intro i r k g h1 h2
    obtain ⟨row, k1, rfl⟩ := hg2 i r h1
    simp only [List.getElem?_map, List.getElem?_zipIdx, Option.map_eq_some_iff] at h2
    obtain ⟨q, ⟨av, k2, rfl⟩, rfl⟩ := h2
    obtain ⟨u, k3, k4, k5⟩ := hnat i row k av k1 k2
    exact ⟨row, av, u, k1, k2, k3, k4, k5, by simp only [Nat.zero_add, k3, Option.getD_some]⟩
  have hl2 : gs2.length = rows2.length := by simp [gs2]
  have her2 : gs2.map (fun r => r.map GT.er) = rows2 := by
    apply List.ext_getElem?
    intro i
    simp only [gs2, List.map_map, List.getElem?_map, List.getElem?_zipIdx]
    cases hri : rows2[i]? with
    | none => rfl
    | some row =>
      simp only [Option.map_some, Function.comp, List.map_map, Option.some.injEq]
      have : (GT.er ∘ fun q : AV × Nat => GT.lf q.1 ((news[(0 + i) * j.size + q.2]?).getD undef)) = Prod.fst := by funext q; simp [GT.er]
      rw [this]; simp
  have rows_at : ∀ (i : Nat) (r : List GT), (rows ++ gs2)[i]? = some r → (i < rows.length ∧ rows[i]? = some r) ∨ (rows.length ≤ i ∧ gs2[i - rows.length]? = some r) := by
    intro i r h
    rw [List.getElem?_append] at h
    split at h
    · rename_i hl; exact .inl ⟨hl, h⟩
    · rename_i hl; exact .inr ⟨by omega, h⟩
  have s1 : ∀ (i : Nat) (r : List GT) (k : Nat) (g : GT), rows[i]? = some r → r[k]? = some g → Sep g := by cases hsep; assumption
  have s3 : ∀ (i : Nat) (r : List GT) (k : Nat) (g : GT) (i' : Nat) (r' : List GT) (k' : Nat) (g' : GT), rows[i]? = some r → r[k]? = some g → rows[i']? = some r' → r'[k']? = some g' → (i, k) ≠ (i', k') → ∀ b, Fp g b → ¬ Fp g' b := by cases hsep; assumption
  -- a tree of the rows and the new ones, where it lies in a block of which the rows know nothing
  have sepNew : ∀ v', (∀ (i : Nat) (r : List GT) (k : Nat) (g : GT), rows[i]? = some r → r[k]? = some g → ∀ (ad : Addr) (l c : Nat), v' = .slice (some ad) l c → ¬ Fp g ad.block) → Sep (.own j.size v' (rows ++ gs2)) := by
    intro v' hv'
    refine .own _ _ _ (fun i r k g hi hk => ?_) (fun i r k g hi hk ad l c e hf => ?_) (fun i r k g i' r' k' g' hi hk hi' hk' hne b hf hf' => ?_)
    · rcases rows_at i r hi with ⟨_, h⟩ | ⟨_, h⟩
      · exact s1 i r k g h hk
      · obtain ⟨_, _, _, _, _, _, _, _, rfl⟩ := hgc2 _ r k g h hk; exact .lf _ _
    · rcases rows_at i r hi with ⟨_, h⟩ | ⟨_, h⟩
      · exact hv' i r k g h hk ad l c e hf
      · obtain ⟨_, _, _, _, _, _, _, _, rfl⟩ := hgc2 _ r k g h hk; cases hf
    · rcases rows_at i r hi with ⟨_, h⟩ | ⟨_, h⟩
      · rcases rows_at i' r' hi' with ⟨_, h'⟩ | ⟨_, h'⟩
        · exact s3 i r k g i' r' k' g' h hk h' hk' hne b hf hf'
        · obtain ⟨_, _, _, _, _, _, _, _, rfl⟩ := hgc2 _ r' k' g' h' hk'; cases hf'
      · obtain ⟨_, _, _, _, _, _, _, _, rfl⟩ := hgc2 _ r k g h hk; cases hf
  have fpNew : ∀ v' k, Fp (.own j.size v' (rows ++ gs2)) k → (∃ ad l c, v' = .slice (some ad) l c ∧ k = ad.block) ∨ Fp (.own j.size v rows) k := by
    intro v' k hk
    generalize hq : GT.own j.size v' (rows ++ gs2) = q at hk
    cases hk with
    | own0 n ad l c rs => cases hq; exact .inl ⟨ad, l, c, rfl, rfl⟩
    | own n vv rs i r k' g _ h1 h2 hk =>
      cases hq
      rcases rows_at i r h1 with ⟨_, h⟩ | ⟨_, h⟩
      · exact .inr (.own _ _ _ i r k' g k h h2 hk)
      · obtain ⟨_, _, _, _, _, _, _, _, rfl⟩ := hgc2 _ r k' g h h2; cases hk
    | map => cases hq
    | iter => cases hq
  have hbytes : (rows.length + rows2.length) * inf.bytes ≤ 140737488355328 := by rw [i3]; exact hb
  have hml : rows.length + rows2.length ≤ maxLen := by unfold maxLen; unfold MX at hM; omega
  have h63 : ((rows.length + rows2.length : Nat) : Int) ≤ 9223372036854775807 := by unfold MX at hM; omega
  have hzs : z.cells.size = j.size := by have := i5.1; simp only [Array.length_toList] at this; omega
  -- the grown block
  have grow : ∀ (olds : List Value) (old : Nat), olds.length = rows.length * j.size → (∀ (i : Nat) (r : List GT) (k : Nat) (g : GT), rows[i]? = some r → r[k]? = some g → olds[i * j.size + k]? = some g.val) → (∀ (i : Nat) (r : List GT), rows[i]? = some r → r.length = j.size) →
      (∀ (i : Nat) (r : List GT) (k : Nat) (g : GT), rows[i]? = some r → r[k]? = some g → Mem w A g) →
      Sep (.own j.size (.slice (some ⟨w.heap.size, 0, none⟩) (rows.length + rows2.length) (grownCap w (rows.length + rows2.length) old e)) (rows ++ gs2)) ∧ ∀ A', (∀ b, b < w.heap.size → A' b → A b) →
      Mem (w.drew.alloc (.cells (olds.toArray ++ news.toArray ++ Builtin.zeroCells z.cells (grownCap w (rows.length + rows2.length) old e - (rows.length + rows2.length))) e)) A' (.own j.size (.slice (some ⟨w.heap.size, 0, none⟩) (rows.length + rows2.length) (grownCap w (rows.length + rows2.length) old e)) (rows ++ gs2)) := by
    intro olds old ho hov hrl hrm
    have hge := grownCap_ge w (rows.length + rows2.length) old e
    have hcm := grownCap_le_maxLen w (rows.length + rows2.length) old e hml
    refine ⟨sepNew _ fun i r k g hi hk ad l c ev hf => ?_, fun A' hA => ?_⟩
    · cases ev
      have := (hrm i r k g hi hk).fp_lt _ hf
      simp at this
    · have hnew : (w.drew.alloc (.cells (olds.toArray ++ news.toArray ++ Builtin.zeroCells z.cells (grownCap w (rows.length + rows2.length) old e - (rows.length + rows2.length))) e)).heap[w.heap.size]? = some (.cells (olds.toArray ++ news.toArray ++ Builtin.zeroCells z.cells (grownCap w (rows.length + rows2.length) old e - (rows.length + rows2.length))) e (0, 0)) := Go.heap_alloc_new w.drew _
      have hold : ∀ b, b < w.heap.size → (w.drew.alloc (.cells (olds.toArray ++ news.toArray ++ Builtin.zeroCells z.cells (grownCap w (rows.length + rows2.length) old e - (rows.length + rows2.length))) e)).heap[b]? = w.heap[b]? := fun b hb => Below.heap_alloc w.drew _ b hb
      have hll : rows.length + rows2.length = (rows ++ gs2).length := by simp [hl2]
      have hM2 := Mem.own (w := w.drew.alloc (.cells (olds.toArray ++ news.toArray ++ Builtin.zeroCells z.cells (grownCap w (rows.length + rows2.length) old e - (rows.length + rows2.length))) e)) (A := A') j.size w.heap.size (grownCap w (rows.length + rows2.length) old e) _ e (rows ++ gs2) hnew ?_ (by omega) hcm (by omega) (fun i r hi => ?_) (fun i r k g hi hk => ?_) (fun i r k g hi hk => ?_)
      · rw [← hll] at hM2; exact hM2
      · simp only [Array.size_append, List.size_toArray, size_zeroCells, hzs, ho, hnl, i2, ← Nat.add_mul]
        congr 1; omega
      · rcases rows_at i r hi with ⟨_, h⟩ | ⟨_, h⟩
        · exact hrl i r h
        · obtain ⟨row, k1, rfl⟩ := hg2 _ r h
          simpa using hlr _ row k1
      · rw [cell_of_row _ _ _ _ _ _ hnew]
        rcases rows_at i r hi with ⟨hil, h⟩ | ⟨hil, h⟩
        · have := hov i r k g h hk
          have hq := (List.getElem?_eq_some_iff.1 this).1
          rw [Array.append_assoc, Array.getElem?_append_left (by simpa using hq)]
          simpa using this
        · obtain ⟨row, av, u, k1, k2, k3, k4, k5, rfl⟩ := hgc2 _ r k g h hk
          have hq := (List.getElem?_eq_some_iff.1 k3).1
          have e1 : i * j.size + k = rows.length * j.size + ((i - rows.length) * j.size + k) := by
            rw [← Nat.add_assoc, ← Nat.add_mul]; congr 2; omega
          rw [Array.getElem?_append_left (by simp [ho]; omega), Array.getElem?_append_right (by simp [ho]; omega)]
          simp only [List.size_toArray, ho, e1, Nat.add_sub_cancel_left, GT.val]
          simpa using k3
      · rcases rows_at i r hi with ⟨_, h⟩ | ⟨_, h⟩
        · exact (hrm i r k g h hk).keep (fun b hb _ => hold b hb) hA fun b hb => hold b ((hrm i r k g h hk).fp_lt b hb)
        · obtain ⟨row, av, u, k1, k2, k3, k4, k5, rfl⟩ := hgc2 _ r k g h hk
          exact .lf _ _ (k4.keep (fun b hb _ => hold b hb) hA) k5
  have ender : (rows ++ gs2).map (fun r => r.map GT.er) = rows.map (fun r => r.map GT.er) ++ rows2 := by rw [List.map_append, her2]
  rcases hmem.own_inv with ⟨rfl, rfl⟩ | ⟨b, cap, vs, T, rfl, q1, q2, q3, q4, q5, q6, q7, q8⟩
  · -- nil grows
    have hr := rNil inf z i1 i4 i2 i3 (by simpa using h63) (by have := hbytes; simp only [List.length_nil, Nat.zero_add] at this; omega)
    obtain ⟨g1, g2⟩ := grow [] 0 (by simp) (fun i r k g hi => by simp at hi) (fun i r hi => by simp at hi) (fun i r k g hi => by simp at hi)
    simp only [List.length_nil, Nat.zero_add, Array.empty_append] at g1 g2
    refine ⟨_, _, _, hr, ender, g1, fun k hk => ?_, fun k hk _ => Below.heap_alloc w.drew _ k hk, ⟨rfl, rfl, rfl, by simp⟩, g2⟩
    rcases fpNew _ k hk with ⟨ad, l, c, e1, rfl⟩ | hk
    · cases e1; exact .inr (Nat.le_refl _)
    · exact .inl hk
  · by_cases hroom : rows.length + rows2.length ≤ cap
    · -- there is room
      have hsz : ∀ k, k < news.length → rows.length * j.size + k < vs.size := by
        intro k hk
        have : (rows.length + rows2.length) * j.size ≤ cap * j.size := Nat.mul_le_mul_right _ hroom
        rw [Nat.add_mul] at this
        rw [hnl, i2] at hk
        omega
      have hcs : ∀ k, k < news.length → (w.cell? ⟨b, 0 + rows.length * inf.size + k, none⟩).isSome = true := fun k hk => by
        rw [cell_of_row _ _ _ _ _ _ q1, i2, Nat.zero_add]
        have := hsz k hk
        simp [this]
      have hfz : ∀ k, k < news.length → w.frozen? ⟨b, 0 + rows.length * inf.size + k, none⟩ = false := fun k _ => frozen_of_row w b _ vs T q1
      have hr := rRoom inf b rows.length cap i1 i2 hroom hcs hfz
      rw [i2, Nat.zero_add] at hr
      obtain ⟨⟨vs', e1, e2⟩, e3, e4, e5, e6, e7⟩ := setCells_heap (b := b) news (rows.length * j.size) w q1
      have hAb : A b := hAo b (.own0 _ ⟨b, 0, none⟩ _ _ _)
      have hkA : ∀ k, k < w.heap.size → ¬ A k → (w.setCells b (rows.length * j.size) news).heap[k]? = w.heap[k]? := fun k _ hk => e3 k fun e => hk (e ▸ hAb)
      have nob : ∀ (i : Nat) (r : List GT) (k : Nat) (g : GT), rows[i]? = some r → r[k]? = some g → ¬ Fp g b := by
        cases hsep with
        | own _ _ _ _ s2 _ => exact fun i r k g hi hk => s2 i r k g hi hk ⟨b, 0, none⟩ _ _ rfl
      refine ⟨_, _, rows ++ gs2, hr, ender, sepNew _ fun i r k g hi hk ad l c ev => ?_, fun k hk => ?_, fun k hk hn => e3 k fun e => hn (by subst e; exact .own0 _ ⟨k, 0, none⟩ _ _ _), ⟨e4, e5, e6, by omega⟩, fun A' hA => ?_⟩
      · cases ev; exact nob i r k g hi hk
      · rcases fpNew _ k hk with ⟨ad, l, c, ev, rfl⟩ | hk
        · cases ev; exact .inl (.own0 _ ⟨b, 0, none⟩ _ _ _)
        · exact .inl hk
      · have hll : rows.length + rows2.length = (rows ++ gs2).length := by simp [hl2]
        have hM2 := Mem.own (w := w.setCells b (rows.length * j.size) news) (A := A') j.size b cap vs' T (rows ++ gs2) e1 (by rw [e2, q2]) (by omega) q4 (by omega) (fun i r hi => ?_) (fun i r k g hi hk => ?_) (fun i r k g hi hk => ?_)
        · rw [← hll] at hM2; exact hM2
        · rcases rows_at i r hi with ⟨_, h⟩ | ⟨_, h⟩
          · exact q6 i r h
          · obtain ⟨row, k1, rfl⟩ := hg2 _ r h
            simpa using hlr _ row k1
        · rcases rows_at i r hi with ⟨hil, h⟩ | ⟨hil, h⟩
          · have hkl : k < j.size := by have := (List.getElem?_eq_some_iff.1 hk).1; have := q6 i r h; omega
            rw [World.cell?_setCells_out b news _ w _ (fun _ _ => ?_)]
            · exact q7 i r k g h hk
            · left
              have : (i + 1) * j.size ≤ rows.length * j.size := Nat.mul_le_mul_right _ hil
              rw [Nat.add_mul] at this
              show i * j.size + k < rows.length * j.size
              omega
          · obtain ⟨row, av, u, k1, k2, k3, k4, k5, rfl⟩ := hgc2 _ r k g h hk
            have hq := (List.getElem?_eq_some_iff.1 k3).1
            have e9 : i * j.size + k = rows.length * j.size + ((i - rows.length) * j.size + k) := by
              rw [← Nat.add_assoc, ← Nat.add_mul]; congr 2; omega
            rw [e9, World.cell?_setCells_in b news _ w (fun q hq => by have := hcs q hq; rwa [i2, Nat.zero_add] at this) _ hq]
            simp only [GT.val]
            rw [← k3, List.getElem?_eq_getElem hq]
        · rcases rows_at i r hi with ⟨_, h⟩ | ⟨_, h⟩
          · exact (q8 i r k g h hk).keep hkA hA fun x hx => e3 x fun e => nob i r k g h hk (e ▸ hx)
          · obtain ⟨row, av, u, k1, k2, k3, k4, k5, rfl⟩ := hgc2 _ r k g h hk
            exact .lf _ _ (k4.keep hkA hA) k5
    · -- a new block
      let olds : List Value := (List.range (rows.length * j.size)).map fun q => rdw w b q
      have holdsA : ∀ (i : Nat) (r : List GT) (k : Nat) (g : GT), rows[i]? = some r → r[k]? = some g → olds[i * j.size + k]? = some g.val := by
        intro i r k g hi hk
        have hkl : k < j.size := by have := (List.getElem?_eq_some_iff.1 hk).1; have := q6 i r hi; omega
        have hil : i < rows.length := (List.getElem?_eq_some_iff.1 hi).1
        have hq : i * j.size + k < rows.length * j.size := by
          have : (i + 1) * j.size ≤ rows.length * j.size := Nat.mul_le_mul_right _ hil
          rw [Nat.add_mul] at this; omega
        simp only [olds, List.getElem?_map, List.getElem?_range hq, Option.map_some, rdw, q7 i r k g hi hk, Option.getD_some]
      have holds : ∀ (q : Nat) (u : Value), olds[q]? = some u → w.cell? ((⟨b, 0, none⟩ : Addr).add q) = some u := by
        intro q u hu
        have hq : q < rows.length * j.size := by have := (List.getElem?_eq_some_iff.1 hu).1; simpa [olds] using this
        obtain ⟨d1, d2, d3⟩ := divmod hm hq
        obtain ⟨r, hr⟩ : ∃ r, rows[q / j.size]? = some r := ⟨_, List.getElem?_eq_getElem d1⟩
        obtain ⟨g, hg⟩ : ∃ g, r[q % j.size]? = some g := ⟨_, List.getElem?_eq_getElem (by rw [q6 _ r hr]; exact d2)⟩
        have h7 := q7 _ r _ g hr hg
        have h8 := holdsA _ r _ g hr hg
        rw [d3] at h7 h8
        rw [h8] at hu; cases hu
        rw [Addr.add_lit, Nat.zero_add]; exact h7
      have hr := rGrow inf z ⟨b, 0, none⟩ rows.length cap olds i1 i4 i2 (by simp [olds, i2]) holds (by omega) h63 (growslice_fits (by omega) hbytes)
      obtain ⟨g1, g2⟩ := grow olds cap (by simp [olds]) holdsA q6 q8
      refine ⟨_, _, _, hr, ender, g1, fun k hk => ?_, fun k hk _ => Below.heap_alloc w.drew _ k hk, ⟨rfl, rfl, rfl, by simp⟩, g2⟩
      rcases fpNew _ k hk with ⟨ad, l, c, e1, rfl⟩ | hk
      · cases e1; exact .inr (Nat.le_refl _)
      · exact .inl hk
theorem append_tree {P : Program} {w : World} {A : Nat → Prop} {t ty e : Nat} {j : TI} (ht : P.underlying t = some (.slice e)) (he : TIok P e j) (hm : 0 < j.size) (hzl : j.zero.length = j.size) {v x : Value} {rows : List (List GT)} {rows2 : List (List AV)} (hmem : Mem w A (.own j.size v rows)) (hsep : Sep (.own j.size v rows))
    (hsrc : Src w A j.size rows2 x) (hb : (rows.length + rows2.length) * j.bytes ≤ MX) (hM : rows.length + rows2.length ≤ MX) (hAo : ∀ k, Fp (.own j.size v rows) k → A k) :
    ∃ v' w' rows', (Builtin.append_ #[t, t] ty #[v, x]).run P w = .ok v' w' ∧ rows'.map (fun r => r.map GT.er) = rows.map (fun r => r.map GT.er) ++ rows2 ∧ Sep (.own j.size v' rows') ∧ (∀ k, Fp (.own j.size v' rows') k → Fp (.own j.size v rows) k ∨ w.heap.size ≤ k) ∧
      (∀ b, b < w.heap.size → ¬ Fp (.own j.size v rows) b → w'.heap[b]? = w.heap[b]?) ∧ (w'.os = w.os ∧ w'.tape = w.tape ∧ w'.output = w.output ∧ w.heap.size ≤ w'.heap.size) ∧
      ∀ A', (∀ b, b < w.heap.size → A' b → A b) → Mem w' A' (.own j.size v' rows') := by
  by_cases h2 : rows2 = []
  · subst h2
    obtain ⟨ad, c, rfl⟩ := hsrc.nil rfl
    have hv : ∃ ad n c, v = .slice ad n c ∧ n ≤ c := by
      rcases hmem.own_inv with ⟨rfl, _⟩ | ⟨b, cap, vs, T, rfl, _, _, h3, _⟩
      · exact ⟨none, 0, 0, rfl, Nat.le_refl _⟩
      · exact ⟨_, _, _, rfl, h3⟩
    obtain ⟨ad', n, c', rfl, hnc⟩ := hv
    exact ⟨_, w, rows, run_append_none ht he _ _ _ _ _ hnc, by simp, hsep, fun k hk => .inl hk, fun _ _ _ => rfl, ⟨rfl, rfl, rfl, Nat.le_refl _⟩, fun A' hA => hmem.keep (fun _ _ _ => rfl) hA fun _ _ => rfl⟩
  · obtain ⟨b2, o2, c2, rfl, hcell⟩ := hsrc.at_ h2
    have hlen2 : 0 < rows2.length := by cases rows2 with | nil => exact absurd rfl h2 | cons => simp
    obtain ⟨inf, z, i1, i2, i3, i4, i5, i6, i7⟩ := he.info
    -- the new cells
    let news : List Value := (List.range (rows2.length * j.size)).map fun q => rdw w b2 (o2 + q)
    have hnl : news.length = rows2.length * inf.size := by simp [news, i2]
    have hnat : ∀ (i : Nat) (r : List AV) (k : Nat) (a : AV), rows2[i]? = some r → r[k]? = some a → ∃ u, news[i * j.size + k]? = some u ∧ FR w A a u ∧ u.oneCell' = true := by
      intro i r k a hi hk
      obtain ⟨u, h3, h4, h5⟩ := hcell i r k a hi hk
      have hkl : k < j.size := by have := (List.getElem?_eq_some_iff.1 hk).1; have := hsrc.len i r hi; omega
      have hil : i < rows2.length := (List.getElem?_eq_some_iff.1 hi).1
      have hq : i * j.size + k < rows2.length * j.size := by
        have : (i + 1) * j.size ≤ rows2.length * j.size := Nat.mul_le_mul_right _ hil
        rw [Nat.add_mul] at this; omega
      refine ⟨u, ?_, h4, h5⟩
      simp only [news, List.getElem?_map, List.getElem?_range hq, Option.map_some, rdw, h3, Option.getD_some]
    have hnall : ∀ (q : Nat), q < rows2.length * j.size → ∃ u, news[q]? = some u ∧ w.cell? ⟨b2, o2 + q, none⟩ = some u ∧ u.oneCell' = true := by
      intro q hq
      obtain ⟨d1, d2, d3⟩ := divmod hm hq
      obtain ⟨r, hr⟩ : ∃ r, rows2[q / j.size]? = some r := ⟨_, List.getElem?_eq_getElem d1⟩
      obtain ⟨a, ha⟩ : ∃ a, r[q % j.size]? = some a := ⟨_, List.getElem?_eq_getElem (by rw [hsrc.len _ r hr]; exact d2)⟩
      obtain ⟨u, h3, h4, h5⟩ := hcell _ r _ a hr ha
      rw [d3] at h3
      exact ⟨u, by simp only [news, List.getElem?_map, List.getElem?_range hq, Option.map_some, rdw, h3, Option.getD_some], h3, h5⟩
    have hnews : ∀ (q : Nat) (u : Value), news[q]? = some u → w.cell? ((⟨b2, o2, none⟩ : Addr).add q) = some u := by
      intro q u hu
      have hq : q < rows2.length * j.size := by have := (List.getElem?_eq_some_iff.1 hu).1; simpa [news] using this
      obtain ⟨u', h3, h4, _⟩ := hnall q hq
      rw [h3] at hu; cases hu
      rw [Addr.add_lit]; exact h4
    have hnews1 : ∀ u ∈ news, u.oneCell' = true := by
      intro u hu
      obtain ⟨q, hq, rfl⟩ := List.getElem_of_mem hu
      obtain ⟨u', h3, _, h5⟩ := hnall q (by simpa [news] using hq)
      rw [List.getElem?_eq_getElem hq] at h3; cases h3
      exact h5
    exact append_tree_of ht he hm hzl hmem hsep h2 hsrc.len (by simp [news]) hnat hnews1
      (fun inf z i1 i4 i2 _ h63 h48 => run_append_nil (P := P) w t ty e inf z ht i1 i4 ⟨b2, o2, none⟩ rows2.length c2 news (by simp [news, i2]) hnews hlen2 h63 h48)
      (fun inf b sLen sCap i1 i2 hroom hcs hfz => run_append_room_cells (P := P) w t ty e inf ht i1 b 0 sLen sCap ⟨b2, o2, none⟩ rows2.length c2 news (by simp [news, i2]) hnews hnews1 hroom hcs hfz)
      (fun inf z b sLen sCap olds i1 i4 i2 ho holds hg h63 hfit => run_append_grow (P := P) w t ty e inf z ht i1 i4 b sLen sCap olds ho holds ⟨b2, o2, none⟩ rows2.length c2 news (by simp [news, i2]) hnews hg h63 hfit)
      hb hM hAo
section
variable {A0 D0 : Nat → Prop} {w0 : World} {nt : Nat} {σ : St} {a : Act} {w : World} {G : Nat → Option GR}
theorem Holds.drop (h : Holds A0 D0 w0 nt σ a w G) (x : Nat) : Holds A0 D0 w0 nt { σ with s := delS σ.s x } a w (Gset G x none) := by
  have hown : ∀ b, GFp (Gset G x none) b → GFp G b := by
    rintro b ⟨y, g, hy, hb⟩
    by_cases e : y = x
    · subst e; rw [Gset_self] at hy; cases hy
    · rw [Gset_ne e] at hy; exact ⟨y, g, hy, hb⟩
  refine h.change (σ' := { σ with s := delS σ.s x }) id (fun y => y = x) (Nat.le_refl _) (fun _ _ _ => rfl) ⟨rfl, rfl, rfl, Nat.le_refl _⟩ (fun b hb => .inl (hown b hb))
    (fun a v hr => (show Rel w (Own A0 (Gset G x none)) (Gset G x none) σ.n a v from Rel.keep (w := w) (w' := w) (Nat.le_refl _) (fun _ _ _ => rfl) (fun b _ hb => hb.imp id (hown b)) (fun y p c v _ hr => by
      by_cases e : y = x
      · subst e; intro r row g hr'; rw [Gset_self] at hr'; cases hr'
      · exact hr.new e) (fun y p c v _ hr => by
      by_cases e : y = x
      · subst e; intro r b o hr'; rw [Gset_self] at hr'; cases hr'
      · exact hr.new e) hr)) rfl (fun _ _ => rfl) (fun y => ?_) (fun y hy => ?_) (fun _ _ _ _ _ _ => rfl) (fun y r g hy hr hg => ?_) (fun y g _ _ hy hg => ?_) (mapT_id _).symm
  · show (getS (delS σ.s x) y).isSome = _
    rw [getS_del]
    by_cases e : y = x
    · subst e; simp [Gset_self]
    · rw [if_neg e, Gset_ne e]; exact h.inv.dom y
  · show getS (delS σ.s x) y = _ ∧ _
    rw [getS_del, if_neg hy, Gset_ne hy]
    exact ⟨by cases getS σ.s y <;> simp, rfl⟩
  · subst hy; rw [Gset_self] at hg; cases hg
  · subst hy; rw [Gset_self] at hg; cases hg
end
section
variable {P : Program} {TT : TTab} {o : Oper} {σ : St} {K : St → Prop}
def srcRows (σ : St) (m : Nat) : AV → Option (List (List AV))
  | .nilsl => some []
  | .sl n l => if n = m then some l else none
  | .ref y p c => match cellAtB σ y p c with
    | .own n es => if n = m then some es else none
    | _ => none
  | _ => none
def isRef : AV → Bool
  | .ref _ _ _ => true
  | _ => false
theorem Holds.src {A0 D0 : Nat → Prop} {w0 : World} {nt : Nat} {a : Act} {w : World} {G : Nat → Option GR} (h : Holds A0 D0 w0 nt σ a w G) {m : Nat} {x : AV} {v : Value} {rows : List (List AV)} (hx : Rel w (Own A0 G) G σ.n x v) (hs : srcRows σ m x = some rows)
    (hp : isRef x = true → ∀ r ∈ rows, ∀ a ∈ r, a.tree = false) (hc : isRef x = false → ∀ r ∈ rows, ∀ a ∈ r, a.cell = true) : Src w (Own A0 G) m rows v := by
  cases x <;> simp only [srcRows, reduceCtorEq, Option.some.injEq] at hs
  · subst hs
    have := hx.nilsl_inv; subst this
    exact ⟨fun i r h => by simp at h, fun _ => ⟨none, 0, rfl⟩, fun h => absurd rfl h⟩
  · rename_i n l
    split at hs
    · rename_i e; subst e; cases hs
      have hx := hx.fr_of trivial
      cases hx with
      | slnil => exact ⟨fun i r h => by simp at h, fun _ => ⟨none, 0, rfl⟩, fun h => absurd rfl h⟩
      | slmt _ a cap _ => exact ⟨fun i r h => by simp at h, fun _ => ⟨some a, cap, rfl⟩, fun h => absurd rfl h⟩
      | sl _ _ b of cap h1 h2 h3 h4 h5 h6 =>
        refine ⟨h4, fun e => ⟨_, cap, by rw [e]; rfl⟩, fun _ => ⟨b, of, cap, rfl, fun i r j av hi hj => ?_⟩⟩
        obtain ⟨_, hs⟩ := h5 i r j av hi hj
        obtain ⟨u, hu⟩ := Option.isSome_iff_exists.1 hs
        have h7 := h6 i r j av hi hj
        have hrd : rdw w b (of + (i * n + j)) = u := by unfold rdw; rw [hu]; rfl
        rw [hrd] at h7
        refine ⟨u, hu, h7, ?_⟩
        exact (Rel.fr (G := G) (n := σ.n) _ _ h7).cell (hc rfl r (List.mem_of_getElem? hi) av (List.mem_of_getElem? hj))
    · cases hs
  · rename_i y p c
    split at hs
    · rename_i n es hcc
      split at hs
      · rename_i e; subst e; cases hs
        obtain ⟨_, _, b3⟩ := hx.ref_inv
        obtain ⟨r, row, g, grow, t', k1, k2, k3, k4, k5, k6, k7, k8, k9, k10, k11, k12⟩ := h.tree hcc rfl
        obtain ⟨v0, rows, rfl, rfl⟩ := er_own k8 k7
        have hv := k11 _ b3
        simp only [GT.val] at hv
        subst hv
        rcases k9.own_inv with ⟨rfl, rfl⟩ | ⟨b, cap, vs, T, rfl, e2, e3, e4, e5, e6, e7, e8, e9⟩
        · exact ⟨fun i r h => by simp at h, fun _ => ⟨none, 0, rfl⟩, fun h => absurd rfl h⟩
        · have hget : ∀ (i : Nat) (r : List AV), (rows.map fun r => r.map GT.er)[i]? = some r → ∃ r0, rows[i]? = some r0 ∧ r = r0.map GT.er := fun i r h => by
            simp only [List.getElem?_map, Option.map_eq_some_iff] at h
            obtain ⟨r0, h1, rfl⟩ := h; exact ⟨r0, h1, rfl⟩
          refine ⟨fun i r hi => ?_, fun e => ⟨some ⟨b, 0, none⟩, cap, (by have h0 : rows = [] := (by simpa using e); rw [h0]; rfl)⟩, fun _ => ⟨b, 0, cap, by simp, fun i r j av hi hj => ?_⟩⟩
          · obtain ⟨r0, h1, rfl⟩ := hget i r hi
            simpa using e7 i r0 h1
          · obtain ⟨r0, h1, rfl⟩ := hget i r hi
            simp only [List.getElem?_map, Option.map_eq_some_iff] at hj
            obtain ⟨g0, h2, rfl⟩ := hj
            have hm := e9 i r0 j g0 h1 h2
            have htf : g0.er.tree = false := hp rfl _ (List.mem_of_getElem? hi) _ (by rw [List.mem_map]; exact ⟨g0, List.mem_of_getElem? h2, rfl⟩)
            have hlf : g0.leaf = true := by
              cases hq : g0.leaf with
              | true => rfl
              | false => have := tree_of_leaf hq; rw [htf] at this; cases this
            cases hm with
            | lf a v hfr hoc => exact ⟨v, by rw [Nat.zero_add]; exact e8 i r0 j _ h1 h2, by simpa only [GT.er] using hfr, hoc⟩
            | _ => cases hlf
      · cases hs
    · cases hs
def AppOK (P : Program) (t u ty : Nat) (w : World) (A : Nat → Prop) (j : TI) (x : Value) (rows2 : List (List AV)) : Prop :=
  ∀ {v : Value} {rows : List (List GT)}, Mem w A (.own j.size v rows) → Sep (.own j.size v rows) → (rows.length + rows2.length) * j.bytes ≤ MX → rows.length + rows2.length ≤ MX → (∀ k, Fp (.own j.size v rows) k → A k) →
    ∃ v' w' rows', (Builtin.append_ #[t, u] ty #[v, x]).run P w = .ok v' w' ∧ rows'.map (fun r => r.map GT.er) = rows.map (fun r => r.map GT.er) ++ rows2 ∧ Sep (.own j.size v' rows') ∧ (∀ k, Fp (.own j.size v' rows') k → Fp (.own j.size v rows) k ∨ w.heap.size ≤ k) ∧
      (∀ b, b < w.heap.size → ¬ Fp (.own j.size v rows) b → w'.heap[b]? = w.heap[b]?) ∧ (w'.os = w.os ∧ w'.tape = w.tape ∧ w'.output = w.output ∧ w.heap.size ≤ w'.heap.size) ∧
      ∀ A', (∀ b, b < w.heap.size → A' b → A b) → Mem w' A' (.own j.size v' rows')
theorem snd_append_of {t u : Nat} {s x : Operand} {j : TI} {rows : List (List AV)} (ho : o.op = .call { callee := .builtin .append, args := #[s, x], argTypes := #[t, u] })
    (happ : ∀ {A0 D0 : Nat → Prop} {w0 : World} {nt : Nat} {a : Act} {w : World} {G : Nat → Option GR}, Holds A0 D0 w0 nt σ a w G → AppOK P t u o.type w (Own A0 G) j (a.eval x) rows)
    (hk : match ev σ s with
        | .nilsl => rows.length * j.bytes ≤ MX ∧ rows.length ≤ MX ∧ K (St.put { n := σ.n + 1, t := σ.t, s := (σ.n, ⟨false, [.own j.size rows]⟩) :: σ.s } o.dst (.ref σ.n [] 0))
        | .ref y p c => (match getS σ.s y with
          | some r => (match rowOf r.cells p with
            | some row => (match row[c]? with
              | some (.own n es) => n = j.size ∧ (es.length ≤ MX → (es.length + rows.length) * j.bytes ≤ MX ∧ es.length + rows.length ≤ MX) ∧
                  K (St.put { n := σ.n + 1, t := σ.t, s := (σ.n, ⟨false, [.own j.size (es ++ rows)]⟩) :: (if r.box = false ∧ p = [] then delS σ.s y else updS σ.s y { r with cells := putAt r.cells p c .undef }) } o.dst (.ref σ.n [] 0))
              | _ => False)
            | none => False)
          | none => False)
        | _ => False) : Snd P o σ K := by
  intro A0 D0 w0 nt a w G Q hd h
  have run : ∀ {v v' : Value} {w' : World}, a.eval s = v → (Builtin.append_ #[t, u] o.type #[v, a.eval x]).run P w = .ok v' w' → (execOp a.eval o).run P w = .ok (.value v') w' := fun h1 h2 => by
    simp [execOp, ho, resolve, invoke, builtin, h1, h2]
  cases hs : ev σ s <;> rw [hs] at hk <;> try (exact hk.elim)
  · obtain ⟨hb, hM, hk⟩ := hk
    have hv := h.ev s
    rw [hs] at hv
    have hv := hv.nilsl_inv
    obtain ⟨v', w', rows', k1, k2, k3, k4, k5, k6, k7⟩ := happ h (.onil j.size) (.own _ _ _ (fun i r j g hi => by simp at hi) (fun i r j g hi => by simp at hi) (fun i r j g i' r' j' g' hi => by simp at hi)) (by simpa using hb) (by simpa using hM) (fun k hk => by
      cases hk with | own _ _ _ i r j g _ hr => simp at hr)
    have hno : ∀ k, ¬ Fp (.own j.size (.slice none 0 0) []) k := fun k hk => by cases hk with | own _ _ _ i r j g _ hr => simp at hr
    obtain ⟨G', q1, q2⟩ := h.newDet (.own j.size v' rows') (w' := w') (fun b hb => k5 b hb (hno b)) k6 rfl k3 (fun k hk => (k4 k hk).resolve_left (hno k)) k7
    simp only [GT.er, k2, List.map_nil, List.nil_append] at q1
    exact wp_value (run hv k1) ⟨_, G', q1.put q2 hd, hk⟩
  · rename_i y p c
    simp only at hk
    split at hk
    · rename_i r hr
      split at hk
      · rename_i row hrow
        split at hk
        · rename_i n es hc
          obtain ⟨rfl, hbM, hk⟩ := hk
          have hcell : cellAtB σ y p c = .own j.size es := by simp [cellAtB, hr, hrow, hc]
          obtain ⟨r', row', g, grow, t', g1, g2, g3, g4, g5, g6, g7, g8, g9, g10, g11, g12⟩ := h.tree hcell rfl
          rw [hr] at g1; cases g1
          rw [hrow] at g2; cases g2
          obtain ⟨v0, rows0, rfl, rfl⟩ := er_own g8 g7
          have hv := h.ev s
          rw [hs] at hv
          have hv := g11 _ hv.ref_inv.2.2
          simp only [GT.val] at hv
          have hlM : rows0.length ≤ MX := by
            rcases g9.own_inv with ⟨_, rfl⟩ | ⟨b, cap, vs, T, _, _, _, _, _, e6, _⟩
            · simp
            · exact e6
          obtain ⟨hb, hM⟩ := hbM (by simpa using hlM)
          rw [List.length_map] at hb hM
          obtain ⟨v', w', rows', k1, k2, k3, k4, k5, k6, k7⟩ := happ h g9 g10 hb hM (fun k hk => .inr ⟨y, g, g4, .inr (g12 k hk)⟩)
          have hH := h.consume (N := σ.n) (t := .own j.size v' rows') (w' := w') (Nat.le_refl _) hr hrow g4 g5 g6 k5 k6 rfl k3 k4 k7
          simp only [GT.er, k2] at hH
          have hyn : y ≠ σ.n := fun e => by have := h.inv.lt y g g4; omega
          have hval : ∀ {G' : Nat → Option GR} {w' : World}, G' σ.n = some ⟨none, [.own j.size v' rows']⟩ → v'.oneCell' = true → Rel w' (Own A0 G') G' (σ.n + 1) (.ref σ.n [] 0) v' := fun hG hoc => by
            refine .ref _ _ _ _ (by omega) hoc fun r1 row1 g1 hr1 hp1 hc1 hl1 => ?_
            rw [hG] at hr1; cases hr1
            cases hp1; cases hc1; rfl
          have hoc : v'.oneCell' = true := (k7 (Own A0 G) fun _ _ h => h).oneCell
          split at hk
          · have hH2 := hH.drop y
            refine wp_value (run hv k1) ⟨_, _, (hH2.ext (σ' := { n := σ.n + 1, t := σ.t, s := (σ.n, ⟨false, [.own j.size ((rows0.map fun r => r.map GT.er) ++ rows)]⟩) :: delS σ.s y }) rfl (fun _ => rfl) (fun z => ?_)).put (hval (by rw [Gset_ne (Ne.symm hyn), Gset_self]) hoc) hd, hk⟩
            simp only [getS, delS]
            rw [if_neg (Ne.symm hyn)]
            simp only [getS]
            by_cases e1 : σ.n = z
            · simp [e1]
            · simp only [e1, if_false, getS_del, getS_upd]
              by_cases e2 : z = y <;> simp [e2]
          · exact wp_value (run hv k1) ⟨_, _, hH.put (hval (Gset_self _ _ _) hoc) hd, hk⟩
        · exact hk.elim
      · exact hk.elim
    · exact hk.elim
theorem snd_append {t e : Nat} {s x : Operand} {i j : TI} (ho : o.op = .call { callee := .builtin .append, args := #[s, x], argTypes := #[t, t] }) (htt : TTok P TT) (ht : TT t = some i) (hi : i.kind = .slice e) (he : TT e = some j) (hsz : 0 < j.size) (hzl : j.zero.length = j.size)
    (hk : match srcRows σ j.size (ev σ x) with
      | some rows => (if isRef (ev σ x) = true then ∀ r ∈ rows, ∀ a ∈ r, a.tree = false else ∀ r ∈ rows, ∀ a ∈ r, a.cell = true) ∧ (match ev σ s with
        | .nilsl => rows.length * j.bytes ≤ MX ∧ rows.length ≤ MX ∧ K (St.put { n := σ.n + 1, t := σ.t, s := (σ.n, ⟨false, [.own j.size rows]⟩) :: σ.s } o.dst (.ref σ.n [] 0))
        | .ref y p c => (match getS σ.s y with
          | some r => (match rowOf r.cells p with
            | some row => (match row[c]? with
              | some (.own n es) => n = j.size ∧ (es.length ≤ MX → (es.length + rows.length) * j.bytes ≤ MX ∧ es.length + rows.length ≤ MX) ∧
                  K (St.put { n := σ.n + 1, t := σ.t, s := (σ.n, ⟨false, [.own j.size (es ++ rows)]⟩) :: (if r.box = false ∧ p = [] then delS σ.s y else updS σ.s y { r with cells := putAt r.cells p c .undef }) } o.dst (.ref σ.n [] 0))
              | _ => False)
            | none => False)
          | none => False)
        | _ => False)
      | none => False) : Snd P o σ K := by
  split at hk
  · rename_i rows hrows
    obtain ⟨hpl, hk⟩ := hk
    have hti := (htt t i ht).kind
    rw [hi] at hti
    have hti : P.underlying t = some (.slice e) := hti
    refine snd_append_of ho (fun {A0 D0 w0 nt a w G} h => ?_) hk
    have hsrc := h.src (h.ev x) hrows (fun hr => by rw [if_pos hr] at hpl; exact hpl) (fun hr => by rw [if_neg (by simp [hr])] at hpl; exact hpl)
    intro v rows' hm hs hb hM hAo
    exact append_tree hti (htt e j he) hsz hzl hm hs hsrc hb hM hAo
  · exact hk.elim
end
end Go.Ab
namespace Go.Ab
open Go Go.RowKit
def arrFs (e m : Nat) : Nat → Nat → List (Nat × Nat)
  | 0, _ => []
  | n + 1, off => (e, off) :: arrFs e m n (off + m)
theorem arrFs_get {e m : Nat} : ∀ {n off k T o : Nat}, (arrFs e m n off)[k]? = some (T, o) → T = e ∧ o = off + k * m ∧ k < n
  | 0, off, k, T, o, h => by simp [arrFs] at h
  | n + 1, off, 0, T, o, h => by simp [arrFs] at h; omega
  | n + 1, off, k + 1, T, o, h => by
    have := arrFs_get (n := n) (off := off + m) (k := k) (by simpa [arrFs] using h)
    refine ⟨this.1, ?_, by omega⟩
    rw [this.2.1, Nat.add_mul]; omega
section
variable {P : Program} {TT : TTab} {o : Oper} {σ : St} {K : St → Prop}
theorem snd_buildA {t n e : Nat} {parts : Array (Nat × Operand)} {i j : TI} (ho : o.op = .build t parts) (htt : TTok P TT) (ht : TT t = some i) (hi : i.kind = .array n e) (he : TT e = some j)
    (hk : match fillB σ TT (arrFs e j.size n 0) i.zero parts.toList with | some cs => K (σ.put o.dst (.agg cs)) | none => False) : Snd P o σ K := by
  split at hk
  · rename_i cs hcs
    refine snd_val _ hk fun {A0 D0 w0 nt a w G} h => ?_
    have hkd := (htt t i ht).kind
    rw [hi] at hkd
    have hkd : P.underlying t = some (.array n e) := hkd
    obtain ⟨inf, z, g1, g2, g3, g4, g5, g6, g7⟩ := (htt t i ht).info
    obtain ⟨ie, _, k1, k2, _⟩ := (htt e j he).info
    obtain ⟨C', q1, q2⟩ := h.fillB (places := fun x => some (x * ie.size, ie.size)) (fs := arrFs e j.size n 0) (fun k T off j' hk hT => by
      obtain ⟨rfl, rfl, _⟩ := arrFs_get hk
      rw [he] at hT; cases hT
      rw [k2, Nat.zero_add]) parts.toList i.zero cs z.cells ⟨by simpa using g5.1.symm, fun q av hq => by
      have hl : q < z.cells.toList.length := by have := (List.getElem?_eq_some_iff.1 hq).1; have := g5.1; omega
      obtain ⟨k1, _⟩ := g5.2 q av _ hq (List.getElem?_eq_getElem hl)
      rw [getD_of (List.getElem?_eq_getElem hl)]
      exact .fr _ _ (k1 _ _)⟩ hcs
    have hbt : P.built t (parts.toList.map fun p => (p.1, a.eval p.2)) = some C' := by
      unfold Program.built
      simp only [g1, hkd, g4, k1]
      exact q1
    refine ⟨.agg C', ?_, ?_⟩
    · have := run_build (P := P) w t (parts.map fun (i, x) => (i, a.eval x)) C' (by simpa using hbt)
      simp [execOp, ho, this]
    · have e : C' = C'.toList.toArray := by simp
      rw [e]
      exact .agg _ _ (by simpa using q2.1) q2.2
  · exact hk.elim
theorem snd_indexArr {t n e : Nat} {x ix : Operand} {i j : TI} {l : List AV} {k : IntKind} {q : Int} (ho : o.op = .index t x ix) (htt : TTok P TT) (ht : TT t = some i) (hi : i.kind = .array n e) (he : TT e = some j) (hok : (j.kind.agg || j.size == 1) = true)
    (hx : ev σ x = .agg l) (hix : ev σ ix = .int k q) (h0 : 0 ≤ q ∧ q < (n : Int)) (hl : q.toNat * j.size + j.size ≤ l.length)
    (hk : K (σ.put o.dst (mkV j ((l.drop (q.toNat * j.size)).take j.size)))) : Snd P o σ K := by
  refine snd_val _ hk fun {A0 D0 w0 nt a w G} h => ?_
  have hkd := (htt t i ht).kind
  rw [hi] at hkd
  have hkd : P.underlying t = some (.array n e) := hkd
  have h1 := h.ev x
  rw [hx] at h1
  obtain ⟨vs, e1, e2, e3⟩ := h1.agg_inv
  have h2 := h.ev ix
  rw [hix] at h2
  have h2 := h2.int_inv
  obtain ⟨u, u1, u2⟩ := part_run htt he hok hl e2 e3
  refine ⟨u, ?_, u2⟩
  simp only [execOp, ho, Instr.index, e1, h2, asIntOf_int, Sem.run_bind, Result.andThen_ok, run_underlying hkd]
  rw [if_pos h0]
  simp only [Sem.run_bind, (htt e j he).run_size w, Result.andThen_ok, u1, Sem.run_pure]
theorem snd_indexAddrArr {t n e : Nat} {i j : TI} {x ix : Operand} {k : IntKind} {q : Int} (ho : o.op = .indexAddr t x ix) (htt : TTok P TT) (ht : TT t = some i) (hi : i.kind = .array n e) (he : TT e = some j) (hix : ev σ ix = .int k q) (h0 : 0 ≤ q ∧ q < (n : Int))
    (hk : match ev σ x with | .lv y p c => K (σ.put o.dst (.lv y p (c + q.toNat * j.size))) | .fp l => K (σ.put o.dst (.fp (l.drop (q.toNat * j.size)))) | _ => False) : Snd P o σ K := by
  have hkd := (htt t i ht).kind
  rw [hi] at hkd
  have hkd : P.underlying t = some (.array n e) := hkd
  have hrun : ∀ (a : Act) (w : World) (ad : Addr), a.eval x = .pointer (some ad) → a.eval ix = .int k q → (execOp a.eval o).run P w = .ok (.value (.pointer (some (ad.add (q.toNat * j.size))))) w := by
    intro a w ad hx hq
    simp [execOp, ho, Instr.indexAt, hx, hq, asIntOf_int, run_underlying hkd, Instr.sureAddr, h0.1, h0.2, (htt e j he).run_size w]
  cases hx : ev σ x <;> rw [hx] at hk <;> try (exact hk.elim)
  · rename_i l
    refine snd_val _ hk fun {A0 D0 w0 nt a w G} h => ?_
    have hb := h.ev x
    rw [hx] at hb
    have hb := hb.fr_of trivial
    have hc := h.ev ix
    rw [hix] at hc
    generalize he : a.eval x = u at hb
    cases hb with
    | fp _ b of h1 h2 =>
      refine ⟨_, hrun a w _ he hc.int_inv, .fr _ _ ?_⟩
      rw [Addr.add_lit]
      refine .fp _ _ _ (fun q av hq => ?_) (fun q av hq => ?_)
      · rw [List.getElem?_drop] at hq
        have := h1 _ av hq
        rwa [← Nat.add_assoc] at this
      · rw [List.getElem?_drop] at hq
        have := h2 _ av hq
        rwa [← Nat.add_assoc] at this
  · rename_i y p c
    refine snd_val _ hk fun {A0 D0 w0 nt a w G} h => ?_
    have hb := h.ev x
    rw [hx] at hb
    have hc := h.ev ix
    rw [hix] at hc
    obtain ⟨ad, h1, h2, h3⟩ := hb.lv_inv
    refine ⟨_, hrun a w ad h1 hc.int_inv, .lv _ _ _ _ h2 fun r b of hr hp => ?_⟩
    rw [h3 r b of hr hp, Addr.add_lit, Nat.add_assoc]
end
end Go.Ab
