/-
  What a machine's memory holds of plain values, and that each operation, block, loop and call of the model turns such a state as told. No condition but those of each theorem.
-/
import Derived.WalkKit
import Derived.Below
set_option linter.unusedVariables false
set_option linter.unusedSimpArgs false
namespace Go.Ab
open Go Go.RowKit
inductive AV where
  | undef | bool (b : Bool) | int (k : IntKind) (i : Int) | str (s : ByteArray)
  | nilsl | sl (n : Nat) (l : List (List AV)) | tight (n : Nat) (l : List (List AV)) | own (n : Nat) (l : List (List AV))
  | ref (x : Nat) (p : List (Nat × Nat)) (c : Nat)
  | nilp | fp (l : List AV) | lv (x : Nat) (p : List (Nat × Nat)) (j : Nat)
  | nilmap | fmap (l : List (Int × AV)) | omap (l : List (Int × AV))
  | iter (s : ByteArray) (pos : Nat)
  | func (fn : Fn) (first caps : List AV) | nilfunc
  | ifc (t : TypeId) (v : AV) | nili
  | agg (l : List AV) | tup (l : List AV)
inductive GT where
  | lf (a : AV) (v : Value)
  | own (n : Nat) (v : Value) (rows : List (List GT))
  | map (b : Nat) (es : List (Int × AV))
  | iter (b : Nat) (s : ByteArray) (pos : Nat)
def GT.er : GT → AV
  | lf a _ => a
  | own n _ rows => .own n (rows.map fun r => r.map er)
  | map _ es => .omap es
  | iter _ s p => .iter s p
  decreasing_by
  have h1 := List.sizeOf_lt_of_mem ‹r ∈ rows›
  have h2 := List.sizeOf_lt_of_mem ‹_ ∈ r›
  simp
  omega
def GT.val : GT → Value
  | lf _ v => v
  | own _ v _ => v
  | map b _ => .map (some b)
  | iter b _ _ => .pointer (some ⟨b, 0, none⟩)
def GT.leaf : GT → Bool
  | lf _ _ => true
  | _ => false
def AV.tree : AV → Bool
  | .own _ _ | .omap _ | .iter _ _ => true
  | _ => false
def MX : Nat := 140737488355328
def rdw (w : World) (b o : Nat) : Value := (w.cell? ⟨b, o, none⟩).getD undef
inductive FR (w : World) (A : Nat → Prop) : AV → Value → Prop
  | undef (v : Value) : FR w A .undef v
  | bool (b : Bool) : FR w A (.bool b) (.bool b)
  | int (k : IntKind) (i : Int) : FR w A (.int k i) (.int k i)
  | str (s : ByteArray) : s.size ≤ MX → FR w A (.str s) (.string s)
  | nilsl : FR w A .nilsl (.slice none 0 0)
  | slnil (n : Nat) : FR w A (.sl n []) (.slice none 0 0)
  | slmt (n : Nat) (a : Addr) (cap : Nat) : cap ≤ maxLen → FR w A (.sl n []) (.slice (some a) 0 cap)
  | sl (n : Nat) (l : List (List AV)) (b o cap : Nat) : l.length ≤ cap → cap ≤ maxLen → l.length ≤ MX → (∀ (i : Nat) (e : List AV), l[i]? = some e → e.length = n) →
      (∀ (i : Nat) (e : List AV) (j : Nat) (a : AV), l[i]? = some e → e[j]? = some a → ¬ A b ∧ (w.cell? ⟨b, o + (i * n + j), none⟩).isSome = true) →
      (∀ (i : Nat) (e : List AV) (j : Nat) (a : AV), l[i]? = some e → e[j]? = some a → FR w A a (rdw w b (o + (i * n + j)))) → FR w A (.sl n l) (.slice (some ⟨b, o, none⟩) l.length cap)
  | tight (n : Nat) (l : List (List AV)) (ad : Option Addr) : FR w A (.sl n l) (.slice ad l.length l.length) → FR w A (.tight n l) (.slice ad l.length l.length)
  | nilp : FR w A .nilp (.pointer none)
  | fp (l : List AV) (b o : Nat) : (∀ (j : Nat) (a : AV), l[j]? = some a → ¬ A b ∧ (w.cell? ⟨b, o + j, none⟩).isSome = true) →
      (∀ (j : Nat) (a : AV), l[j]? = some a → FR w A a (rdw w b (o + j))) → FR w A (.fp l) (.pointer (some ⟨b, o, none⟩))
  | nilmap : FR w A .nilmap (.map none)
  | fmap (es : List (Int × AV)) (b : Nat) (ents : Array MapEntry) (clock : Nat) : ¬ A b → w.heap[b]? = some (.map ents clock) → ents.size = es.length → es.length ≤ MX →
      (∀ (i : Nat) (p : Int × AV), es[i]? = some p → ents[i]?.map (fun m : MapEntry => m.key) = some (.int .i64 p.1)) → (∀ (i : Nat) (p : Int × AV), es[i]? = some p → FR w A p.2 ((ents[i]?.map (fun m : MapEntry => m.val)).getD Go.undef)) → FR w A (.fmap es) (.map (some b))
  | func (fn : Fn) (first caps : List AV) (us vs : List Value) : us.length = first.length → vs.length = caps.length → (∀ (i : Nat) (a : AV), first[i]? = some a → FR w A a (us.getD i Go.undef)) →
      (∀ (i : Nat) (a : AV), caps[i]? = some a → FR w A a (vs.getD i Go.undef)) → FR w A (.func fn first caps) (.func fn us.toArray vs.toArray)
  | nilfunc : FR w A .nilfunc .nilFunc
  | ifc (t : TypeId) (v : AV) (u : Value) : FR w A v u → FR w A (.ifc t v) (.iface t u)
  | nili : FR w A .nili .nilIface
  | agg (l : List AV) (vs : List Value) : vs.length = l.length → (∀ (i : Nat) (a : AV), l[i]? = some a → FR w A a (vs.getD i Go.undef)) → FR w A (.agg l) (.agg vs.toArray)
  | tup (l : List AV) (vs : List Value) : vs.length = l.length → (∀ (i : Nat) (a : AV), l[i]? = some a → FR w A a (vs.getD i Go.undef)) → FR w A (.tup l) (.tuple vs.toArray)
theorem cell_keep {w w' : World} {b o : Nat} (h : (w.cell? ⟨b, o, none⟩).isSome = true) (hw : ∀ k, k < w.heap.size → k = b → w'.heap[k]? = w.heap[k]?) :
    w'.cell? ⟨b, o, none⟩ = w.cell? ⟨b, o, none⟩ := by
  obtain ⟨v, hv⟩ := Option.isSome_iff_exists.1 h
  exact World.cell?_of_block (a := ⟨b, o, none⟩) (hw b (World.block_lt_of_cell? w _ hv) rfl)
theorem FR.keep {w w' : World} {A A' : Nat → Prop} (hw : ∀ b, b < w.heap.size → ¬ A b → w'.heap[b]? = w.heap[b]?) (hA : ∀ b, b < w.heap.size → A' b → A b) {a : AV} {v : Value}
    (h : FR w A a v) : FR w' A' a v := by
  induction h with
  | undef v => exact .undef v
  | bool b => exact .bool b
  | int k i => exact .int k i
  | str s h => exact .str s h
  | nilsl => exact .nilsl
  | slnil n => exact .slnil n
  | slmt n a cap h => exact .slmt n a cap h
  | sl n l b o cap h1 h2 h3 h4 h5 h6 ih =>
    refine .sl n l b o cap h1 h2 h3 h4 (fun i e j a hi hj => ?_) (fun i e j a hi hj => ?_)
    all_goals
      obtain ⟨ha, hs⟩ := h5 i e j a hi hj
      obtain ⟨v, hv⟩ := Option.isSome_iff_exists.1 hs
      have hlt := World.block_lt_of_cell? w _ hv
      have hk := cell_keep (w' := w') hs (fun k hk e => by subst e; exact hw _ hk ha)
    · exact ⟨fun hb => ha (hA b hlt hb), by rw [hk]; exact hs⟩
    · have := ih i e j a hi hj
      unfold rdw at this ⊢
      rwa [hk]
  | tight n l ad h ih => exact .tight n l ad ih
  | nilp => exact .nilp
  | fp l b o h5 h6 ih =>
    refine .fp l b o (fun j a hj => ?_) (fun j a hj => ?_)
    all_goals
      obtain ⟨ha, hs⟩ := h5 j a hj
      obtain ⟨v, hv⟩ := Option.isSome_iff_exists.1 hs
      have hlt := World.block_lt_of_cell? w _ hv
      have hk := cell_keep (w' := w') hs (fun k hk e => by subst e; exact hw _ hk ha)
    · exact ⟨fun hb => ha (hA b hlt hb), by rw [hk]; exact hs⟩
    · have := ih j a hj
      unfold rdw at this ⊢
      rwa [hk]
  | nilmap => exact .nilmap
  | fmap es b ents clock h1 h2 h3 h4 h5 h6 ih2 =>
    have hlt : b < w.heap.size := (Array.getElem?_eq_some_iff.1 h2).1
    exact .fmap es b ents clock (fun hb => h1 (hA b hlt hb)) (by rw [hw b hlt h1]; exact h2) h3 h4 h5 ih2
  | func fn first caps us vs h1 h2 h3 h4 ih1 ih2 => exact .func fn first caps us vs h1 h2 ih1 ih2
  | nilfunc => exact .nilfunc
  | ifc t v u h ih => exact .ifc t v u ih
  | nili => exact .nili
  | agg l vs h1 h2 ih => exact .agg l vs h1 ih
  | tup l vs h1 h2 ih => exact .tup l vs h1 ih
inductive Fp : GT → Nat → Prop
  | own0 (n : Nat) (ad : Addr) (l c : Nat) (rows : List (List GT)) : Fp (.own n (.slice (some ad) l c) rows) ad.block
  | own (n : Nat) (v : Value) (rows : List (List GT)) (i : Nat) (r : List GT) (j : Nat) (g : GT) (b : Nat) : rows[i]? = some r → r[j]? = some g → Fp g b → Fp (.own n v rows) b
  | map (b : Nat) (es : List (Int × AV)) : Fp (.map b es) b
  | iter (b : Nat) (s : ByteArray) (p : Nat) : Fp (.iter b s p) b
inductive Sep : GT → Prop
  | lf (a : AV) (v : Value) : Sep (.lf a v)
  | map (b : Nat) (es : List (Int × AV)) : Sep (.map b es)
  | iter (b : Nat) (s : ByteArray) (p : Nat) : Sep (.iter b s p)
  | own (n : Nat) (v : Value) (rows : List (List GT)) : (∀ (i : Nat) (r : List GT) (j : Nat) (g : GT), rows[i]? = some r → r[j]? = some g → Sep g) →
      (∀ (i : Nat) (r : List GT) (j : Nat) (g : GT), rows[i]? = some r → r[j]? = some g → ∀ (ad : Addr) (l c : Nat), v = .slice (some ad) l c → ¬ Fp g ad.block) →
      (∀ (i : Nat) (r : List GT) (j : Nat) (g : GT) (i' : Nat) (r' : List GT) (j' : Nat) (g' : GT), rows[i]? = some r → r[j]? = some g → rows[i']? = some r' → r'[j']? = some g' → (i, j) ≠ (i', j') → ∀ b, Fp g b → ¬ Fp g' b) → Sep (.own n v rows)
def StampOK (ents : Array MapEntry) (clock : Nat) : Prop := (∀ (i : Nat) (e : MapEntry), ents[i]? = some e → e.born < clock) ∧ ∀ (i j : Nat) (e f : MapEntry), ents[i]? = some e → ents[j]? = some f → e.born = f.born → i = j
theorem StampOK.modify {ents : Array MapEntry} {clock : Nat} (h : StampOK ents clock) (k : Nat) (f : MapEntry → MapEntry) (hf : ∀ e, (f e).born = e.born) : StampOK (ents.modify k f) clock := by
  have key : ∀ (i : Nat) (e : MapEntry), (ents.modify k f)[i]? = some e → ∃ e0, ents[i]? = some e0 ∧ e0.born = e.born := fun i e hi => by
    rw [Array.getElem?_modify] at hi
    split at hi
    · cases h0 : ents[i]? with
      | none => rw [h0] at hi; cases hi
      | some e0 => rw [h0] at hi; cases hi; exact ⟨e0, rfl, (hf e0).symm⟩
    · exact ⟨e, hi, rfl⟩
  refine ⟨fun i e hi => ?_, fun i j e g hi hj hb => ?_⟩
  · obtain ⟨e0, h0, h1⟩ := key i e hi
    rw [← h1]; exact h.1 i e0 h0
  · obtain ⟨e0, h0, h1⟩ := key i e hi
    obtain ⟨g0, h2, h3⟩ := key j g hj
    exact h.2 i j e0 g0 h0 h2 (by rw [h1, h3, hb])
theorem StampOK.push {ents : Array MapEntry} {clock : Nat} (h : StampOK ents clock) {e : MapEntry} (he : e.born = clock) : StampOK (ents.push e) (clock + 1) := by
  have key : ∀ (i : Nat) (x : MapEntry), (ents.push e)[i]? = some x → (i < ents.size ∧ ents[i]? = some x) ∨ (i = ents.size ∧ x = e) := fun i x hi => by
    rw [Array.getElem?_push] at hi
    split at hi
    · rename_i h0; cases hi; exact .inr ⟨h0, rfl⟩
    · exact .inl ⟨(Array.getElem?_eq_some_iff.1 hi).1, hi⟩
  refine ⟨fun i x hi => ?_, fun i j x y hi hj hb => ?_⟩
  · rcases key i x hi with ⟨_, h0⟩ | ⟨_, rfl⟩
    · have := h.1 i x h0; omega
    · omega
  · rcases key i x hi with ⟨_, h0⟩ | ⟨h0, rfl⟩ <;> rcases key j y hj with ⟨_, h1⟩ | ⟨h1, rfl⟩
    · exact h.2 i j x y h0 h1 hb
    · have := h.1 i x h0; omega
    · have := h.1 j y h1; omega
    · rw [h0, h1]
theorem stampOK_nil : StampOK #[] 0 := ⟨fun i e h => by simp at h, fun i j e f h => by simp at h⟩
inductive Mem (w : World) (A : Nat → Prop) : GT → Prop
  | lf (a : AV) (v : Value) : FR w A a v → v.oneCell' = true → Mem w A (.lf a v)
  | onil (n : Nat) : Mem w A (.own n (.slice none 0 0) [])
  | own (n b cap : Nat) (vs : Array Value) (T : TypeId) (rows : List (List GT)) : w.heap[b]? = some (.cells vs T (0, 0)) → vs.size = cap * n → rows.length ≤ cap → cap ≤ maxLen → rows.length ≤ MX →
      (∀ (i : Nat) (r : List GT), rows[i]? = some r → r.length = n) → (∀ (i : Nat) (r : List GT) (j : Nat) (g : GT), rows[i]? = some r → r[j]? = some g → w.cell? ⟨b, i * n + j, none⟩ = some g.val) →
      (∀ (i : Nat) (r : List GT) (j : Nat) (g : GT), rows[i]? = some r → r[j]? = some g → Mem w A g) → Mem w A (.own n (.slice (some ⟨b, 0, none⟩) rows.length cap) rows)
  | map (b : Nat) (ents : Array MapEntry) (clock : Nat) (es : List (Int × AV)) : w.heap[b]? = some (.map ents clock) → ents.size = es.length → es.length ≤ MX →
      (∀ (i : Nat) (p : Int × AV), es[i]? = some p → ents[i]?.map (fun m : MapEntry => m.key) = some (.int .i64 p.1)) → (∀ (i : Nat) (p : Int × AV), es[i]? = some p → FR w A p.2 ((ents[i]?.map (fun m : MapEntry => m.val)).getD undef)) → StampOK ents clock → Mem w A (.map b es)
  | iter (b : Nat) (s : ByteArray) (p : Nat) : w.heap[b]? = some (.stringIter s p) → Mem w A (.iter b s p)
theorem Mem.own_inv {w : World} {A : Nat → Prop} {n : Nat} {v : Value} {rows : List (List GT)} (h : Mem w A (.own n v rows)) : (v = .slice none 0 0 ∧ rows = []) ∨
    ∃ b cap vs T, v = .slice (some ⟨b, 0, none⟩) rows.length cap ∧ w.heap[b]? = some (.cells vs T (0, 0)) ∧ vs.size = cap * n ∧ rows.length ≤ cap ∧ cap ≤ maxLen ∧ rows.length ≤ MX ∧
      (∀ (i : Nat) (r : List GT), rows[i]? = some r → r.length = n) ∧ (∀ (i : Nat) (r : List GT) (j : Nat) (g : GT), rows[i]? = some r → r[j]? = some g → w.cell? ⟨b, i * n + j, none⟩ = some g.val) ∧
      (∀ (i : Nat) (r : List GT) (j : Nat) (g : GT), rows[i]? = some r → r[j]? = some g → Mem w A g) := by
  cases h with
  | onil => exact .inl ⟨rfl, rfl⟩
  | own n b cap vs T rows h1 h2 h3 h4 h5 h6 h7 h8 => exact .inr ⟨b, cap, vs, T, rfl, h1, h2, h3, h4, h5, h6, h7, h8⟩
theorem Mem.oneCell {w : World} {A : Nat → Prop} {g : GT} (h : Mem w A g) : g.val.oneCell' = true := by
  cases h with
  | lf a v _ h => exact h
  | _ => rfl
theorem Mem.fp_lt {w : World} {A : Nat → Prop} {g : GT} (h : Mem w A g) : ∀ b, Fp g b → b < w.heap.size := by
  induction h with
  | lf a v => intro b hb; cases hb
  | onil n =>
    intro b hb
    cases hb with
    | own _ _ _ i r j g b h => simp at h
  | own n b cap vs T rows h1 h2 h3 h4 h5 h6 h7 h8 ih =>
    intro b' hb
    cases hb with
    | own0 => exact (Array.getElem?_eq_some_iff.1 h1).1
    | own _ _ _ i r j g b hr hj hg => exact ih i r j g hr hj b' hg
  | map b ents clock es h1 => intro b' hb; cases hb; exact (Array.getElem?_eq_some_iff.1 h1).1
  | iter b s p h1 => intro b' hb; cases hb; exact (Array.getElem?_eq_some_iff.1 h1).1
theorem Mem.keep {w w' : World} {A A' : Nat → Prop} (hw : ∀ b, b < w.heap.size → ¬ A b → w'.heap[b]? = w.heap[b]?) (hA : ∀ b, b < w.heap.size → A' b → A b) {g : GT}
    (h : Mem w A g) (hf : ∀ b, Fp g b → w'.heap[b]? = w.heap[b]?) : Mem w' A' g := by
  induction h with
  | lf a v h h1 => exact .lf a v (h.keep hw hA) h1
  | onil n => exact .onil n
  | own n b cap vs T rows h1 h2 h3 h4 h5 h6 h7 h8 ih =>
    have hb := hf b (Fp.own0 n ⟨b, 0, none⟩ _ _ _)
    refine .own n b cap vs T rows (by rw [hb]; exact h1) h2 h3 h4 h5 h6 (fun i r j g hr hj => ?_) (fun i r j g hr hj => ih i r j g hr hj fun k hk => hf k (.own _ _ _ i r j g k hr hj hk))
    rw [World.cell?_of_block (a := ⟨b, i * n + j, none⟩) hb]
    exact h7 i r j g hr hj
  | map b ents clock es h1 h2 h3 h4 h5 h6 =>
    exact .map b ents clock es (by rw [hf b (.map b es)]; exact h1) h2 h3 h4 (fun i p hp => (h5 i p hp).keep hw hA) h6
  | iter b s p h1 => exact .iter b s p (by rw [hf b (.iter b s p)]; exact h1)
def FpRow (cells : List GT) (b : Nat) : Prop := ∃ (c : Nat) (g : GT), cells[c]? = some g ∧ Fp g b
def SepRow (cells : List GT) : Prop :=
  (∀ (c : Nat) (g : GT), cells[c]? = some g → Sep g) ∧ ∀ (c : Nat) (g : GT) (c' : Nat) (g' : GT), cells[c]? = some g → cells[c']? = some g' → c ≠ c' → ∀ b, Fp g b → ¬ Fp g' b
def gRow : List GT → List (Nat × Nat) → Option (List GT)
  | cells, [] => some cells
  | cells, (c, i) :: p => match cells[c]? with
    | some (.own _ _ rows) => match rows[i]? with
      | some r => gRow r p
      | none => none
    | _ => none
def gBase : Option (Nat × Nat) → List GT → List (Nat × Nat) → Option (Nat × Nat)
  | base, _, [] => base
  | _, cells, (c, i) :: p => match cells[c]? with
    | some (.own n (.slice (some ad) _ _) rows) => match rows[i]? with
      | some r => gBase (some (ad.block, i * n)) r p
      | none => none
    | _ => none
def gPut : List GT → List (Nat × Nat) → Nat → GT → List GT
  | cells, [], j, g => cells.set j g
  | cells, (c, i) :: p, j, g => match cells[c]? with
    | some (.own n v rows) => match rows[i]? with
      | some r => cells.set c (.own n v (rows.set i (gPut r p j g)))
      | none => cells
    | _ => cells
structure RowMem (w : World) (A : Nat → Prop) (base : Option (Nat × Nat)) (cells : List GT) : Prop where
  mem : ∀ (c : Nat) (g : GT), cells[c]? = some g → Mem w A g
  sep : SepRow cells
  at_ : ∀ b o, base = some (b, o) → ∀ (c : Nat) (g : GT), cells[c]? = some g → w.cell? ⟨b, o + c, none⟩ = some g.val
  off : ∀ b o, base = some (b, o) → ¬ FpRow cells b
theorem set_some {α : Type} {l : List α} {i j : Nat} {a x : α} (h : (l.set i a)[j]? = some x) : (j = i ∧ x = a) ∨ (j ≠ i ∧ l[j]? = some x) := by
  rw [List.getElem?_set] at h
  by_cases e : i = j
  · subst e
    by_cases hl : i < l.length
    · simp [hl] at h; exact .inl ⟨rfl, h.symm⟩
    · simp [hl] at h
  · simp [e] at h; exact .inr ⟨fun e' => e e'.symm, h⟩
theorem FpRow.set {cells : List GT} {c : Nat} {g : GT} {b : Nat} (h : FpRow (cells.set c g) b) : FpRow cells b ∨ Fp g b := by
  obtain ⟨c', g', h1, h2⟩ := h
  rcases set_some h1 with ⟨rfl, rfl⟩ | ⟨_, h1⟩
  · exact .inr h2
  · exact .inl ⟨c', g', h1, h2⟩
theorem SepRow.set {cells : List GT} (h : SepRow cells) {c : Nat} {g0 g : GT} (hc : cells[c]? = some g0) (hs : Sep g)
    (hd : ∀ b, Fp g b → Fp g0 b ∨ ¬ FpRow cells b) : SepRow (cells.set c g) := by
  obtain ⟨h1, h2⟩ := h
  have hlt : c < cells.length := (List.getElem?_eq_some_iff.1 hc).1
  refine ⟨fun c' g' h' => ?_, fun c1 g1 c2 g2 e1 e2 hne b hb1 hb2 => ?_⟩
  · rcases set_some h' with ⟨rfl, rfl⟩ | ⟨_, h'⟩
    · exact hs
    · exact h1 _ _ h'
  · rcases set_some e1 with ⟨rfl, rfl⟩ | ⟨_, k1⟩ <;> rcases set_some e2 with ⟨rfl, rfl⟩ | ⟨_, k2⟩
    · exact hne rfl
    · rcases hd b hb1 with hx | hx
      · exact h2 _ _ _ _ hc k2 hne b hx hb2
      · exact hx ⟨_, _, k2, hb2⟩
    · rcases hd b hb2 with hx | hx
      · exact h2 _ _ _ _ k1 hc hne b hb1 hx
      · exact hx ⟨_, _, k1, hb1⟩
    · exact h2 _ _ _ _ k1 k2 hne b hb1 hb2
theorem RowMem.inner {w : World} {A : Nat → Prop} {base : Option (Nat × Nat)} {cells : List GT} (h : RowMem w A base cells) {c i n : Nat} {v : Value} {rows : List (List GT)} {r : List GT}
    (hc : cells[c]? = some (.own n v rows)) (hr : rows[i]? = some r) :
    ∃ b cap, v = .slice (some ⟨b, 0, none⟩) rows.length cap ∧ RowMem w A (some (b, i * n)) r ∧ r.length = n ∧ (∀ k, FpRow r k → FpRow cells k) ∧ Fp (.own n v rows) b ∧
      ∃ vs T, w.heap[b]? = some (.cells vs T (0, 0)) ∧ vs.size = cap * n ∧ i * n + n ≤ vs.size := by
  have hm := h.mem _ _ hc
  have hs := h.sep.1 _ _ hc
  cases hm with
  | onil => simp at hr
  | own n b cap vs T rows h1 h2 h3 h4 h5 h6 h7 h8 =>
    cases hs with
    | own _ _ _ s1 s2 s3 =>
      refine ⟨b, cap, rfl, ⟨fun c g hg => h8 i r c g hr hg, ⟨fun c g hg => s1 i r c g hr hg, fun c g c' g' e e' hne k hk => s3 i r c g i r c' g' hr e hr e' (by simp [hne]) k hk⟩, fun b' o' e c' g' hg => ?_, fun b' o' e => ?_⟩,
        h6 i r hr, fun k ⟨c', g', hg, hk⟩ => ⟨c, _, hc, .own _ _ _ i r c' g' k hr hg hk⟩, .own0 n ⟨b, 0, none⟩ _ _ _, vs, T, h1, h2, ?_⟩
      · cases e; exact h7 i r c' g' hr hg
      · cases e
        rintro ⟨c', g', hg, hk⟩
        exact s2 i r c' g' hr hg ⟨_, 0, none⟩ _ _ rfl hk
      · have hil : i < rows.length := (List.getElem?_eq_some_iff.1 hr).1
        rw [h2]
        have : (i + 1) * n ≤ cap * n := Nat.mul_le_mul_right _ (by omega)
        rw [Nat.add_mul] at this; omega
theorem RowMem.row {w : World} {A : Nat → Prop} : ∀ (p : List (Nat × Nat)) {base : Option (Nat × Nat)} {cells row : List GT}, RowMem w A base cells → gRow cells p = some row →
    RowMem w A (gBase base cells p) row ∧ (∀ k, FpRow row k → FpRow cells k) ∧ (p ≠ [] → ∃ b o vs T, gBase base cells p = some (b, o) ∧ FpRow cells b ∧ w.heap[b]? = some (.cells vs T (0, 0)) ∧ o + row.length ≤ vs.size) := by
  intro p
  induction p with
  | nil =>
    intro base cells row h hr
    cases hr
    exact ⟨h, fun k hk => hk, fun e => absurd rfl e⟩
  | cons q p ih =>
    obtain ⟨c, i⟩ := q
    intro base cells row h hrow
    simp only [gRow] at hrow
    split at hrow
    · rename_i n v rows hc
      split at hrow
      · rename_i r hr
        obtain ⟨b, cap, rfl, hin, hlen, hsub, hfp, vs, T, hh, hvs, hle⟩ := h.inner hc hr
        obtain ⟨h1, h2, h3⟩ := ih hin hrow
        have hb : gBase base cells ((c, i) :: p) = gBase (some (b, i * n)) r p := by simp only [gBase, hc, hr]
        refine ⟨by rw [hb]; exact h1, fun k hk => hsub k (h2 k hk), fun _ => ?_⟩
        rw [hb]
        cases p with
        | nil =>
          cases hrow
          exact ⟨b, i * n, vs, T, rfl, ⟨c, _, hc, hfp⟩, hh, by rw [hlen]; exact hle⟩
        | cons q p =>
          obtain ⟨b', o', vs', T', e, k1, k2, k3⟩ := h3 (by simp)
          exact ⟨b', o', vs', T', e, hsub _ k1, k2, k3⟩
      · cases hrow
    · cases hrow
theorem heap_setCell_self {w : World} {b k : Nat} {vs : Array Value} {T : TypeId} {u : Value} (h : w.heap[b]? = some (.cells vs T (0, 0))) :
    (w.setCell ⟨b, k, none⟩ u).heap[b]? = some (.cells (vs.setIfInBounds k u) T (0, 0)) := heap_setCell_same w b k vs T u h
theorem RowMem.keep {w w' : World} {A A' : Nat → Prop} {base : Option (Nat × Nat)} {cells : List GT} (h : RowMem w A base cells)
    (hw : ∀ b, b < w.heap.size → ¬ A b → w'.heap[b]? = w.heap[b]?) (hA : ∀ b, b < w.heap.size → A' b → A b) (hf : ∀ b, FpRow cells b → w'.heap[b]? = w.heap[b]?)
    (hb : ∀ b o, base = some (b, o) → w'.heap[b]? = w.heap[b]?) : RowMem w' A' base cells :=
  ⟨fun c g hg => (h.mem c g hg).keep hw hA fun b hb => hf b ⟨c, g, hg, hb⟩, h.sep, fun b o e c g hg => by
    rw [World.cell?_of_block (a := ⟨b, o + c, none⟩) (hb b o e)]; exact h.at_ b o e c g hg, h.off⟩
theorem RowMem.put {w : World} {A : Nat → Prop} {g1 : GT} {b o j : Nat} (hg1 : Mem w A g1) (hs1 : Sep g1) (hA : A b) (hb1 : ¬ Fp g1 b) :
    ∀ (p : List (Nat × Nat)) {base : Option (Nat × Nat)} {cells row : List GT} {g0 : GT}, RowMem w A base cells → gRow cells p = some row → row[j]? = some g0 → gBase base cells p = some (b, o) →
    (∀ k, Fp g1 k → ¬ FpRow cells k) → (∀ b' o', base = some (b', o') → ¬ Fp g1 b') →
    RowMem (w.setCell ⟨b, o + j, none⟩ g1.val) A base (gPut cells p j g1) ∧ (∀ k, FpRow (gPut cells p j g1) k → FpRow cells k ∨ Fp g1 k) ∧ (gPut cells p j g1).length = cells.length := by
  have hkeep : ∀ k, k ≠ b → (w.setCell ⟨b, o + j, none⟩ g1.val).heap[k]? = w.heap[k]? := fun k hk => heap_setCell_other w ⟨b, o + j, none⟩ k _ hk
  have hkA : ∀ k, k < w.heap.size → ¬ A k → (w.setCell ⟨b, o + j, none⟩ g1.val).heap[k]? = w.heap[k]? := fun k _ hk => hkeep k fun e => hk (e ▸ hA)
  have hm1 : Mem (w.setCell ⟨b, o + j, none⟩ g1.val) A g1 := hg1.keep hkA (fun _ _ h => h) fun k hk => hkeep k fun e => hb1 (e ▸ hk)
  intro p
  induction p with
  | nil =>
    intro base cells row g0 h hrow hj hbase hd hdb
    cases hrow
    simp only [gBase] at hbase
    have hoff := h.off b o hbase
    have hlt : j < cells.length := (List.getElem?_eq_some_iff.1 hj).1
    refine ⟨⟨fun c g hg => ?_, h.sep.set hj hs1 fun k hk => .inr (hd k hk), fun b' o' e c g hg => ?_, fun b' o' e hk => ?_⟩, fun k hk => hk.set, by simp [gPut]⟩
    · rcases set_some hg with ⟨rfl, rfl⟩ | ⟨_, hg⟩
      · exact hm1
      · exact (h.mem c g hg).keep hkA (fun _ _ h => h) fun k hk => hkeep k fun e => hoff ⟨c, g, hg, e ▸ hk⟩
    · rw [hbase] at e; cases e
      rcases set_some hg with ⟨rfl, rfl⟩ | ⟨hjc, hg⟩
      · exact World.cell?_setCell_same w _ _ (h.at_ b o hbase c g0 hj)
      · rw [World.cell?_setCell_other]
        · exact h.at_ b o hbase c g hg
        · intro e; simp only [Addr.mk.injEq, true_and, and_true] at e; omega
    · rw [hbase] at e; cases e
      rcases hk.set with hk | hk
      · exact hoff hk
      · exact hb1 hk
  | cons q p ih =>
    obtain ⟨c, i⟩ := q
    intro base cells row g0 h hrow hj hbase hd hdb
    simp only [gRow] at hrow
    split at hrow
    · rename_i n v rows hc
      split at hrow
      · rename_i r hr
        obtain ⟨b1, cap, rfl, hin, hlen, hsub, hfp, vs, T, hh, hvs, hle⟩ := h.inner hc hr
        have hbb : gBase base cells ((c, i) :: p) = gBase (some (b1, i * n)) r p := by simp only [gBase, hc, hr]
        rw [hbb] at hbase
        have hput : gPut cells ((c, i) :: p) j g1 = cells.set c (.own n (.slice (some ⟨b1, 0, none⟩) rows.length cap) (rows.set i (gPut r p j g1))) := by simp only [gPut, hc, hr]
        rw [hput]
        have hd1 : ¬ Fp g1 b1 := fun hk => hd b1 hk ⟨c, _, hc, hfp⟩
        obtain ⟨k1, k2, k3⟩ := ih hin hrow hj hbase (fun k hk hk' => hd k hk (hsub k hk')) (fun b' o' e => by cases e; exact hd1)
        -- b lies in what the cell c owns
        have hbfp : Fp (.own n (.slice (some ⟨b1, 0, none⟩) rows.length cap) rows) b := by
          cases p with
          | nil => simp only [gBase] at hbase; cases hbase; exact hfp
          | cons q p =>
            obtain ⟨_, _, k3⟩ := hin.row (q :: p) hrow
            obtain ⟨b', o', _, _, e, ⟨c', g', hg', hk'⟩, _⟩ := k3 (by simp)
            rw [hbase] at e; cases e
            exact .own _ _ _ i r c' g' _ hr hg' hk'
        have hltc : c < cells.length := (List.getElem?_eq_some_iff.1 hc).1
        have hlti : i < rows.length := (List.getElem?_eq_some_iff.1 hr).1
        have hsc := h.sep.1 _ _ hc
        have hmc := h.mem _ _ hc
        have s1 : ∀ (i : Nat) (r : List GT) (j : Nat) (g : GT), rows[i]? = some r → r[j]? = some g → Sep g := by cases hsc; assumption
        have s2 : ∀ (i : Nat) (r : List GT) (j : Nat) (g : GT), rows[i]? = some r → r[j]? = some g → ¬ Fp g b1 := by
          cases hsc with
          | own _ _ _ s1 s2 s3 => exact fun i r j g hr hg => s2 i r j g hr hg ⟨b1, 0, none⟩ _ _ rfl
        have s3 : ∀ (i : Nat) (r : List GT) (j : Nat) (g : GT) (i' : Nat) (r' : List GT) (j' : Nat) (g' : GT), rows[i]? = some r → r[j]? = some g → rows[i']? = some r' → r'[j']? = some g' → (i, j) ≠ (i', j') → ∀ b, Fp g b → ¬ Fp g' b := by cases hsc; assumption
        obtain ⟨m3, m4, m5, m6, m7, m8⟩ : rows.length ≤ cap ∧ cap ≤ maxLen ∧ rows.length ≤ MX ∧ (∀ (i : Nat) (r : List GT), rows[i]? = some r → r.length = n) ∧ (∀ (i : Nat) (r : List GT) (j : Nat) (g : GT), rows[i]? = some r → r[j]? = some g → w.cell? ⟨b1, i * n + j, none⟩ = some g.val) ∧ (∀ (i : Nat) (r : List GT) (j : Nat) (g : GT), rows[i]? = some r → r[j]? = some g → Mem w A g) := by
          rcases hmc.own_inv with ⟨e, _⟩ | ⟨b2, cap2, vs2, T2, e, _, _, m3, m4, m5, m6, m7, m8⟩
          · cases e
          · cases e; exact ⟨m3, m4, m5, m6, m7, m8⟩
        -- what the new row owns
        have hnew : ∀ k, FpRow (gPut r p j g1) k → FpRow r k ∨ Fp g1 k := k2
        -- another row's trees do not hold b
        have hother : ∀ (i' : Nat) (r' : List GT) (j' : Nat) (g' : GT), rows[i']? = some r' → r'[j']? = some g' → i' ≠ i → ¬ Fp g' b := by
          intro i' r' j' g' hr' hg' hne hk
          cases p with
          | nil => simp only [gBase] at hbase; cases hbase; exact s2 i' r' j' g' hr' hg' hk
          | cons q p =>
            obtain ⟨_, _, k3⟩ := hin.row (q :: p) hrow
            obtain ⟨b', o', _, _, e, ⟨c', g'', hg'', hk''⟩, _⟩ := k3 (by simp)
            rw [hbase] at e; cases e
            exact s3 i' r' j' g' i r c' g'' hr' hg' hr hg'' (by simp [hne]) b hk hk''
        have rowset : ∀ (i' : Nat) (r' : List GT), (rows.set i (gPut r p j g1))[i']? = some r' → (i' = i ∧ r' = gPut r p j g1) ∨ (i' ≠ i ∧ rows[i']? = some r') := by
          intro i' r' hr'
          exact set_some hr'
        have hMown : Mem (w.setCell ⟨b, o + j, none⟩ g1.val) A (.own n (.slice (some ⟨b1, 0, none⟩) rows.length cap) (rows.set i (gPut r p j g1))) := by
          have hb1' : ∃ vs', (w.setCell ⟨b, o + j, none⟩ g1.val).heap[b1]? = some (.cells vs' T (0, 0)) ∧ vs'.size = cap * n := by
            by_cases e : b1 = b
            · subst e; exact ⟨_, heap_setCell_self hh, by simpa using hvs⟩
            · exact ⟨vs, by rw [hkeep b1 e]; exact hh, hvs⟩
          obtain ⟨vs', hh', hvs'⟩ := hb1'
          have hl : rows.length = (rows.set i (gPut r p j g1)).length := by simp
          rw [hl]
          refine .own n b1 cap vs' T _ hh' hvs' (by simpa using m3) m4 (by simpa using m5) (fun i' r' hr' => ?_) (fun i' r' j' g' hr' hg' => ?_) (fun i' r' j' g' hr' hg' => ?_)
          · rcases rowset i' r' hr' with ⟨rfl, rfl⟩ | ⟨_, hr''⟩
            · rw [k3]; exact hlen
            · exact m6 i' r' hr''
          · rcases rowset i' r' hr' with ⟨rfl, rfl⟩ | ⟨hne, hr''⟩
            · exact k1.at_ b1 (i' * n) rfl j' g' hg'
            · have hold := m7 i' r' j' g' hr'' hg'
              by_cases e : b1 = b
              · subst e
                rw [World.cell?_setCell_other]
                · exact hold
                · -- the cell that is written lies in row i
                  intro e
                  simp only [Addr.mk.injEq, true_and, and_true] at e
                  cases p with
                  | nil =>
                    simp only [gBase] at hbase; cases hbase
                    cases hrow
                    have hj1 : j < n := by have := (List.getElem?_eq_some_iff.1 hj).1; omega
                    have hj2 : j' < n := by have := (List.getElem?_eq_some_iff.1 hg').1; have := m6 i' r' hr''; omega
                    rcases Nat.lt_or_gt_of_ne hne with hlt | hlt
                    · have : (i' + 1) * n ≤ i * n := Nat.mul_le_mul_right _ hlt
                      rw [Nat.add_mul] at this; omega
                    · have : (i + 1) * n ≤ i' * n := Nat.mul_le_mul_right _ hlt
                      rw [Nat.add_mul] at this; omega
                  | cons q p =>
                    obtain ⟨_, _, k3⟩ := hin.row (q :: p) hrow
                    obtain ⟨b', o', _, _, e', ⟨c', g'', hg'', hk''⟩, _⟩ := k3 (by simp)
                    rw [hbase] at e'; cases e'
                    exact s2 i r c' g'' hr hg'' hk''
              · rw [World.cell?_of_block (a := ⟨b1, i' * n + j', none⟩) (hkeep b1 e)]
                exact hold
          · rcases rowset i' r' hr' with ⟨rfl, rfl⟩ | ⟨hne, hr''⟩
            · exact k1.mem j' g' hg'
            · exact (m8 i' r' j' g' hr'' hg').keep hkA (fun _ _ h => h) fun k hk => hkeep k fun e => hother i' r' j' g' hr'' hg' hne (e ▸ hk)
        have hSown : Sep (.own n (.slice (some ⟨b1, 0, none⟩) rows.length cap) (rows.set i (gPut r p j g1))) := by
          refine .own _ _ _ (fun i' r' j' g' hr' hg' => ?_) (fun i' r' j' g' hr' hg' ad l c e hk => ?_) (fun i' r' j' g' i'' r'' j'' g'' hr' hg' hr'' hg'' hne k hk hk' => ?_)
          · rcases rowset i' r' hr' with ⟨rfl, rfl⟩ | ⟨_, hr''⟩
            · exact k1.sep.1 j' g' hg'
            · exact s1 i' r' j' g' hr'' hg'
          · cases e
            rcases rowset i' r' hr' with ⟨rfl, rfl⟩ | ⟨_, hr''⟩
            · exact k1.off b1 _ rfl ⟨j', g', hg', hk⟩
            · exact s2 i' r' j' g' hr'' hg' hk
          · rcases rowset i' r' hr' with ⟨rfl, rfl⟩ | ⟨hne1, h1'⟩ <;> rcases rowset i'' r'' hr'' with ⟨rfl, rfl⟩ | ⟨hne2, h2'⟩
            · exact k1.sep.2 j' g' j'' g'' hg' hg'' (fun e => hne (by rw [e])) k hk hk'
            · rcases hnew k ⟨j', g', hg', hk⟩ with ⟨c', g3, hg3, hk3⟩ | hk3
              · exact s3 i' r c' g3 i'' r'' j'' g'' hr hg3 h2' hg'' (by simp [Ne.symm hne2]) k hk3 hk'
              · exact hd k hk3 ⟨c, _, hc, .own _ _ _ i'' r'' j'' g'' k h2' hg'' hk'⟩
            · rcases hnew k ⟨j'', g'', hg'', hk'⟩ with ⟨c', g3, hg3, hk3⟩ | hk3
              · exact s3 i' r' j' g' i'' r c' g3 h1' hg' hr hg3 (by simp [hne1]) k hk hk3
              · exact hd k hk3 ⟨c, _, hc, .own _ _ _ i' r' j' g' k h1' hg' hk⟩
            · exact s3 i' r' j' g' i'' r'' j'' g'' h1' hg' h2' hg'' hne k hk hk'
        have hFown : ∀ k, Fp (.own n (.slice (some ⟨b1, 0, none⟩) rows.length cap) (rows.set i (gPut r p j g1))) k → Fp (.own n (.slice (some ⟨b1, 0, none⟩) rows.length cap) rows) k ∨ Fp g1 k := by
          intro k hk
          cases hk with
          | own0 => exact .inl hfp
          | own _ _ _ i' r' j' g' _ hr' hg' hk =>
            rcases rowset i' r' hr' with ⟨rfl, rfl⟩ | ⟨_, hr''⟩
            · rcases hnew k ⟨j', g', hg', hk⟩ with ⟨c', g3, hg3, hk3⟩ | hk3
              · exact .inl (.own _ _ _ _ r c' g3 k hr hg3 hk3)
              · exact .inr hk3
            · exact .inl (.own _ _ _ i' r' j' g' k hr'' hg' hk)
        have hbcell : ∀ (c' : Nat) (g' : GT), cells[c']? = some g' → c' ≠ c → ¬ Fp g' b := fun c' g' hg' hne hk => h.sep.2 c' g' c _ hg' hc hne b hk hbfp
        refine ⟨⟨fun c' g' hg' => ?_, h.sep.set hc hSown fun k hk => ?_, fun b' o' e c' g' hg' => ?_, fun b' o' e hk => ?_⟩, fun k hk => ?_, by simp⟩
        · rcases set_some hg' with ⟨rfl, rfl⟩ | ⟨hne, hg'⟩
          · exact hMown
          · exact (h.mem c' g' hg').keep hkA (fun _ _ h => h) fun k hk => hkeep k fun e => hbcell c' g' hg' hne (e ▸ hk)
        · rcases hFown k hk with hk | hk
          · exact .inl hk
          · exact .inr (hd k hk)
        · have hne : b' ≠ b := fun e' => h.off b' o' e ⟨c, _, hc, e' ▸ hbfp⟩
          rw [World.cell?_of_block (a := ⟨b', o' + c', none⟩) (hkeep b' hne)]
          rcases set_some hg' with ⟨rfl, rfl⟩ | ⟨_, hg'⟩
          · have hx := h.at_ b' o' e _ _ hc
            exact hx
          · exact h.at_ b' o' e c' g' hg'
        · rcases hk.set with hk | hk
          · exact h.off b' o' e hk
          · rcases hFown _ hk with hk | hk
            · exact h.off b' o' e ⟨c, _, hc, hk⟩
            · exact hdb b' o' e hk
        · rcases hk.set with hk | hk
          · exact .inl hk
          · rcases hFown _ hk with hk | hk
            · exact .inl ⟨c, _, hc, hk⟩
            · exact .inr hk
      · cases hrow
    · cases hrow
theorem RowMem.same {w : World} {A : Nat → Prop} {g1 : GT} {j : Nat} (hg1 : Mem w A g1) (hs1 : Sep g1) :
    ∀ (p : List (Nat × Nat)) {base : Option (Nat × Nat)} {cells row : List GT} {g0 : GT}, RowMem w A base cells → gRow cells p = some row → row[j]? = some g0 →
    g1.val = g0.val → (∀ k, Fp g1 k → Fp g0 k ∨ (¬ FpRow cells k ∧ ∀ o, base ≠ some (k, o))) →
    RowMem w A base (gPut cells p j g1) ∧ (∀ k, FpRow (gPut cells p j g1) k → FpRow cells k ∨ Fp g1 k) ∧ (gPut cells p j g1).length = cells.length := by
  intro p
  induction p with
  | nil =>
    intro base cells row g0 h hrow hj hv hf
    cases hrow
    refine ⟨⟨fun c g hg => ?_, h.sep.set hj hs1 fun k hk => (hf k hk).imp id (·.1), fun b' o' e c g hg => ?_, fun b' o' e hk => ?_⟩, fun k hk => ?_, by simp [gPut]⟩
    · rcases set_some hg with ⟨rfl, rfl⟩ | ⟨_, hg⟩
      · exact hg1
      · exact h.mem c g hg
    · rcases set_some hg with ⟨rfl, rfl⟩ | ⟨_, hg⟩
      · rw [hv]; exact h.at_ b' o' e c g0 hj
      · exact h.at_ b' o' e c g hg
    · rcases hk.set with hk | hk
      · exact h.off b' o' e hk
      · rcases hf _ hk with hx | hx
        · exact h.off b' o' e ⟨_, _, hj, hx⟩
        · exact hx.2 o' e
    · exact hk.set
  | cons q p ih =>
    obtain ⟨c, i⟩ := q
    intro base cells row g0 h hrow hj hv hf
    simp only [gRow] at hrow
    split at hrow
    · rename_i n v rows hc
      split at hrow
      · rename_i r hr
        obtain ⟨b1, cap, rfl, hin, hlen, hsub, hfp, vs, T, hh, hvs, hle⟩ := h.inner hc hr
        have hput : gPut cells ((c, i) :: p) j g1 = cells.set c (.own n (.slice (some ⟨b1, 0, none⟩) rows.length cap) (rows.set i (gPut r p j g1))) := by simp only [gPut, hc, hr]
        rw [hput]
        have hb1 : FpRow cells b1 := ⟨c, _, hc, hfp⟩
        obtain ⟨k1, k2, k3⟩ := ih hin hrow hj hv fun k hk => (hf k hk).imp id fun hx => ⟨fun h' => hx.1 (hsub k h'), fun o e => by cases e; exact hx.1 hb1⟩
        -- what the new tree owns is the old one's, or none's of the row
        have hg0r : ∀ k, Fp g0 k → FpRow r k := fun k hk => by
          obtain ⟨_, k2', _⟩ := hin.row p hrow
          exact k2' k ⟨j, g0, hj, hk⟩
        have hnew : ∀ k, FpRow (gPut r p j g1) k → FpRow r k ∨ (Fp g1 k ∧ ¬ FpRow cells k ∧ ∀ o, base ≠ some (k, o)) := fun k hk => by
          rcases k2 k hk with hk | hk
          · exact .inl hk
          · rcases hf k hk with hx | hx
            · exact .inl (hg0r k hx)
            · exact .inr ⟨hk, hx⟩
        have hsc := h.sep.1 _ _ hc
        have hmc := h.mem _ _ hc
        have s1 : ∀ (i : Nat) (r : List GT) (j : Nat) (g : GT), rows[i]? = some r → r[j]? = some g → Sep g := by cases hsc; assumption
        have s2 : ∀ (i : Nat) (r : List GT) (j : Nat) (g : GT), rows[i]? = some r → r[j]? = some g → ¬ Fp g b1 := by
          cases hsc with
          | own _ _ _ s1 s2 s3 => exact fun i r j g hr hg => s2 i r j g hr hg ⟨b1, 0, none⟩ _ _ rfl
        have s3 : ∀ (i : Nat) (r : List GT) (j : Nat) (g : GT) (i' : Nat) (r' : List GT) (j' : Nat) (g' : GT), rows[i]? = some r → r[j]? = some g → rows[i']? = some r' → r'[j']? = some g' → (i, j) ≠ (i', j') → ∀ b, Fp g b → ¬ Fp g' b := by cases hsc; assumption
        obtain ⟨m3, m4, m5, m6, m7, m8⟩ : rows.length ≤ cap ∧ cap ≤ maxLen ∧ rows.length ≤ MX ∧ (∀ (i : Nat) (r : List GT), rows[i]? = some r → r.length = n) ∧ (∀ (i : Nat) (r : List GT) (j : Nat) (g : GT), rows[i]? = some r → r[j]? = some g → w.cell? ⟨b1, i * n + j, none⟩ = some g.val) ∧ (∀ (i : Nat) (r : List GT) (j : Nat) (g : GT), rows[i]? = some r → r[j]? = some g → Mem w A g) := by
          rcases hmc.own_inv with ⟨e, _⟩ | ⟨b2, cap2, vs2, T2, e, _, _, m3, m4, m5, m6, m7, m8⟩
          · cases e
          · cases e; exact ⟨m3, m4, m5, m6, m7, m8⟩
        have rowset : ∀ (i' : Nat) (r' : List GT), (rows.set i (gPut r p j g1))[i']? = some r' → (i' = i ∧ r' = gPut r p j g1) ∨ (i' ≠ i ∧ rows[i']? = some r') := fun i' r' hr' => set_some hr'
        have hMown : Mem w A (.own n (.slice (some ⟨b1, 0, none⟩) rows.length cap) (rows.set i (gPut r p j g1))) := by
          have hl : rows.length = (rows.set i (gPut r p j g1)).length := by simp
          rw [hl]
          refine .own n b1 cap vs T _ hh hvs (by simpa using m3) m4 (by simpa using m5) (fun i' r' hr' => ?_) (fun i' r' j' g' hr' hg' => ?_) (fun i' r' j' g' hr' hg' => ?_)
          · rcases rowset i' r' hr' with ⟨rfl, rfl⟩ | ⟨_, hr''⟩
            · rw [k3]; exact hlen
            · exact m6 i' r' hr''
          · rcases rowset i' r' hr' with ⟨rfl, rfl⟩ | ⟨hne, hr''⟩
            · exact k1.at_ b1 (i' * n) rfl j' g' hg'
            · exact m7 i' r' j' g' hr'' hg'
          · rcases rowset i' r' hr' with ⟨rfl, rfl⟩ | ⟨hne, hr''⟩
            · exact k1.mem j' g' hg'
            · exact m8 i' r' j' g' hr'' hg'
        have hSown : Sep (.own n (.slice (some ⟨b1, 0, none⟩) rows.length cap) (rows.set i (gPut r p j g1))) := by
          refine .own _ _ _ (fun i' r' j' g' hr' hg' => ?_) (fun i' r' j' g' hr' hg' ad l c e hk => ?_) (fun i' r' j' g' i'' r'' j'' g'' hr' hg' hr'' hg'' hne k hk hk' => ?_)
          · rcases rowset i' r' hr' with ⟨rfl, rfl⟩ | ⟨_, hr''⟩
            · exact k1.sep.1 j' g' hg'
            · exact s1 i' r' j' g' hr'' hg'
          · cases e
            rcases rowset i' r' hr' with ⟨rfl, rfl⟩ | ⟨_, hr''⟩
            · exact k1.off b1 _ rfl ⟨j', g', hg', hk⟩
            · exact s2 i' r' j' g' hr'' hg' hk
          · rcases rowset i' r' hr' with ⟨rfl, rfl⟩ | ⟨hne1, h1'⟩ <;> rcases rowset i'' r'' hr'' with ⟨rfl, rfl⟩ | ⟨hne2, h2'⟩
            · exact k1.sep.2 j' g' j'' g'' hg' hg'' (fun e => hne (by rw [e])) k hk hk'
            · rcases hnew k ⟨j', g', hg', hk⟩ with ⟨c', g3, hg3, hk3⟩ | hk3
              · exact s3 i' r c' g3 i'' r'' j'' g'' hr hg3 h2' hg'' (by simp [Ne.symm hne2]) k hk3 hk'
              · exact hk3.2.1 ⟨c, _, hc, .own _ _ _ i'' r'' j'' g'' k h2' hg'' hk'⟩
            · rcases hnew k ⟨j'', g'', hg'', hk'⟩ with ⟨c', g3, hg3, hk3⟩ | hk3
              · exact s3 i' r' j' g' i'' r c' g3 h1' hg' hr hg3 (by simp [hne1]) k hk hk3
              · exact hk3.2.1 ⟨c, _, hc, .own _ _ _ i' r' j' g' k h1' hg' hk⟩
            · exact s3 i' r' j' g' i'' r'' j'' g'' h1' hg' h2' hg'' hne k hk hk'
        have hFown : ∀ k, Fp (.own n (.slice (some ⟨b1, 0, none⟩) rows.length cap) (rows.set i (gPut r p j g1))) k → Fp (.own n (.slice (some ⟨b1, 0, none⟩) rows.length cap) rows) k ∨ (Fp g1 k ∧ ¬ FpRow cells k ∧ ∀ o, base ≠ some (k, o)) := by
          intro k hk
          cases hk with
          | own0 => exact .inl hfp
          | own _ _ _ i' r' j' g' _ hr' hg' hk =>
            rcases rowset i' r' hr' with ⟨rfl, rfl⟩ | ⟨_, hr''⟩
            · rcases hnew k ⟨j', g', hg', hk⟩ with ⟨c', g3, hg3, hk3⟩ | hk3
              · exact .inl (.own _ _ _ _ r c' g3 k hr hg3 hk3)
              · exact .inr hk3
            · exact .inl (.own _ _ _ i' r' j' g' k hr'' hg' hk)
        refine ⟨⟨fun c' g' hg' => ?_, h.sep.set hc hSown fun k hk => (hFown k hk).imp id (·.2.1), fun b' o' e c' g' hg' => ?_, fun b' o' e hk => ?_⟩, fun k hk => ?_, by simp⟩
        · rcases set_some hg' with ⟨rfl, rfl⟩ | ⟨hne, hg'⟩
          · exact hMown
          · exact h.mem c' g' hg'
        · rcases set_some hg' with ⟨rfl, rfl⟩ | ⟨_, hg'⟩
          · have hx := h.at_ b' o' e _ _ hc
            exact hx
          · exact h.at_ b' o' e c' g' hg'
        · rcases hk.set with hk | hk
          · exact h.off b' o' e hk
          · rcases hFown _ hk with hk | hk
            · exact h.off b' o' e ⟨c, _, hc, hk⟩
            · exact hk.2.2 o' e
        · rcases hk.set with hk | hk
          · exact .inl hk
          · rcases hFown _ hk with hk | hk
            · exact .inl ⟨c, _, hc, hk⟩
            · exact .inr hk.1
      · cases hrow
    · cases hrow
def through : List (Nat × Nat) → Nat → List (Nat × Nat) → Nat → Bool
  | [], j, [], c => j == c
  | [], j, (c, _) :: _, _ => j == c
  | (c0, _) :: p, j, (c1, _) :: q, c => c0 == c1 && through p j q c
  | _ :: _, _, [], _ => false
theorem gRow_put {g1 : GT} : ∀ (p : List (Nat × Nat)) {j : Nat} {cells row : List GT} {g0 : GT}, gRow cells p = some row → row[j]? = some g0 →
    gRow (gPut cells p j g1) p = some (row.set j g1) := by
  intro p
  induction p with
  | nil => intro j cells row g0 h hj; cases h; rfl
  | cons q p ih =>
    obtain ⟨c, i⟩ := q
    intro j cells row g0 h hj
    simp only [gRow] at h
    split at h
    · rename_i n v rows hc
      split at h
      · rename_i r hr
        have hl : c < cells.length := (List.getElem?_eq_some_iff.1 hc).1
        have hli : i < rows.length := (List.getElem?_eq_some_iff.1 hr).1
        simp only [gPut, hc, hr, gRow, List.getElem?_set_self hl, List.getElem?_set_self hli]
        exact ih h hj
      · cases h
    · cases h
theorem gPut_back {g1 : GT} : ∀ (p : List (Nat × Nat)) {j : Nat} {cells row : List GT} {g0 : GT} (q : List (Nat × Nat)) {c : Nat} {row' : List GT} {g : GT}, gRow cells p = some row → row[j]? = some g0 →
    gRow (gPut cells p j g1) q = some row' → row'[c]? = some g → g.leaf = false → (through p j q c = false ∨ g1.leaf = true) →
    ∃ row0 g', gRow cells q = some row0 ∧ row0[c]? = some g' ∧ g'.leaf = false ∧ g'.val = g.val := by
  intro p
  induction p with
  | nil =>
    intro j cells row g0 q c row' g hrow hj hq hc hg hth
    cases hrow
    cases q with
    | nil =>
      cases hq
      rcases set_some hc with ⟨rfl, rfl⟩ | ⟨_, hc⟩
      · rcases hth with h | h
        · simp [through] at h
        · rw [hg] at h; cases h
      · exact ⟨_, g, rfl, hc, hg, rfl⟩
    | cons s q =>
      obtain ⟨c1, i1⟩ := s
      have hne : j ≠ c1 := by
        rcases hth with h | h
        · simpa [through] using h
        · rintro rfl
          simp only [gPut, gRow] at hq
          rw [List.getElem?_set_self (List.getElem?_eq_some_iff.1 hj).1] at hq
          cases g1 with
          | lf a v => simp at hq
          | _ => cases h
      simp only [gPut, gRow, List.getElem?_set_ne hne] at hq
      exact ⟨row', g, by simpa only [gRow] using hq, hc, hg, rfl⟩
  | cons s p ih =>
    obtain ⟨c0, i0⟩ := s
    intro j cells row g0 q c row' g hrow hj hq hc hg hth
    simp only [gRow] at hrow
    split at hrow
    · rename_i n v rows hcc
      split at hrow
      · rename_i r hr
        have hl : c0 < cells.length := (List.getElem?_eq_some_iff.1 hcc).1
        have hli : i0 < rows.length := (List.getElem?_eq_some_iff.1 hr).1
        have hput : gPut cells ((c0, i0) :: p) j g1 = cells.set c0 (.own n v (rows.set i0 (gPut r p j g1))) := by simp only [gPut, hcc, hr]
        rw [hput] at hq
        cases q with
        | nil =>
          cases hq
          rcases set_some hc with ⟨rfl, rfl⟩ | ⟨_, hc⟩
          · exact ⟨_, _, rfl, hcc, rfl, rfl⟩
          · exact ⟨_, g, rfl, hc, hg, rfl⟩
        | cons s q =>
          obtain ⟨c1, i1⟩ := s
          by_cases hcn : c0 = c1
          · subst hcn
            simp only [gRow, List.getElem?_set_self hl] at hq
            split at hq
            · rename_i r1 hr1
              rcases set_some hr1 with ⟨rfl, rfl⟩ | ⟨hne, hr1⟩
              · obtain ⟨row0, g', k1, k2, k3, k4⟩ := ih q hrow hj hq hc hg (hth.imp (fun h => by simpa [through] using h) id)
                exact ⟨row0, g', by simp only [gRow, hcc, hr]; exact k1, k2, k3, k4⟩
              · exact ⟨row', g, by simp only [gRow, hcc, hr1]; exact hq, hc, hg, rfl⟩
            · cases hq
          · simp only [gRow, List.getElem?_set_ne hcn] at hq
            exact ⟨row', g, by simpa only [gRow] using hq, hc, hg, rfl⟩
      · cases hrow
    · cases hrow
end Go.Ab
namespace Go.Ab
open Go Go.RowKit
structure Root where
  box : Bool
  cells : List AV
structure St where
  n : Nat
  t : List (Nat × AV)
  s : List (Nat × Root)
def getT : List (Nat × AV) → Nat → AV
  | [], _ => .undef
  | (j, v) :: r, i => if j = i then v else getT r i
def getS : List (Nat × Root) → Nat → Option Root
  | [], _ => none
  | (j, v) :: r, i => if j = i then some v else getS r i
def updS : List (Nat × Root) → Nat → Root → List (Nat × Root)
  | [], _, _ => []
  | (j, v) :: r, i, u => if j = i then (j, u) :: r else (j, v) :: updS r i u
def delS : List (Nat × Root) → Nat → List (Nat × Root)
  | [], _ => []
  | (j, v) :: r, i => if j = i then delS r i else (j, v) :: delS r i
theorem getS_upd (s : List (Nat × Root)) (x : Nat) (u : Root) (y : Nat) : getS (updS s x u) y = if y = x then (getS s x).map (fun _ => u) else getS s y := by
  induction s with
  | nil => simp [updS, getS]
  | cons q r ih =>
    obtain ⟨j, v⟩ := q
    simp only [updS]
    by_cases hj : j = x
    · subst hj
      by_cases hy : y = j
      · subst hy; simp [getS]
      · simp [getS, hy, Ne.symm hy]
    · simp only [hj, if_false, getS, ih]
      by_cases hy : y = x
      · subst hy; simp [hj]
      · simp [hy]
theorem getS_del (s : List (Nat × Root)) (x y : Nat) : getS (delS s x) y = if y = x then none else getS s y := by
  induction s with
  | nil => simp [delS, getS]
  | cons q r ih =>
    obtain ⟨j, v⟩ := q
    simp only [delS]
    by_cases hj : j = x
    · subst hj
      simp only [if_true, ih]
      by_cases hy : y = j
      · simp [hy]
      · simp [hy, getS, Ne.symm hy]
    · simp only [hj, if_false, getS, ih]
      by_cases hy : y = x
      · subst hy; simp [hj]
      · simp [hy]
structure GR where
  base : Option Nat
  cells : List GT
abbrev GR.at_ (g : GR) : Option (Nat × Nat) := g.base.map fun b => (b, 0)
def RFp (g : GR) (b : Nat) : Prop := g.base = some b ∨ FpRow g.cells b
def GFp (G : Nat → Option GR) (b : Nat) : Prop := ∃ x g, G x = some g ∧ RFp g b
def RefOK (G : Nat → Option GR) (x : Nat) (p : List (Nat × Nat)) (c : Nat) (v : Value) : Prop :=
  ∀ r row g, G x = some r → gRow r.cells p = some row → row[c]? = some g → g.leaf = false → v = g.val
def LvOK (G : Nat → Option GR) (x : Nat) (p : List (Nat × Nat)) (j : Nat) (ad : Addr) : Prop :=
  ∀ r b o, G x = some r → gBase r.at_ r.cells p = some (b, o) → ad = ⟨b, o + j, none⟩
inductive Rel (w : World) (A : Nat → Prop) (G : Nat → Option GR) (n : Nat) : AV → Value → Prop
  | fr (a : AV) (v : Value) : FR w A a v → Rel w A G n a v
  | ref (x : Nat) (p : List (Nat × Nat)) (c : Nat) (v : Value) : x < n → v.oneCell' = true → RefOK G x p c v → Rel w A G n (.ref x p c) v
  | lv (x : Nat) (p : List (Nat × Nat)) (j : Nat) (ad : Addr) : x < n → LvOK G x p j ad → Rel w A G n (.lv x p j) (.pointer (some ad))
  | func (fn : Fn) (first caps : List AV) (us vs : List Value) : us.length = first.length → vs.length = caps.length → (∀ (i : Nat) (a : AV), first[i]? = some a → Rel w A G n a (us.getD i Go.undef)) →
      (∀ (i : Nat) (a : AV), caps[i]? = some a → Rel w A G n a (vs.getD i Go.undef)) → Rel w A G n (.func fn first caps) (.func fn us.toArray vs.toArray)
  | ifc (t : TypeId) (v : AV) (u : Value) : Rel w A G n v u → Rel w A G n (.ifc t v) (.iface t u)
  | agg (l : List AV) (vs : List Value) : vs.length = l.length → (∀ (i : Nat) (a : AV), l[i]? = some a → Rel w A G n a (vs.getD i Go.undef)) → Rel w A G n (.agg l) (.agg vs.toArray)
  | tup (l : List AV) (vs : List Value) : vs.length = l.length → (∀ (i : Nat) (a : AV), l[i]? = some a → Rel w A G n a (vs.getD i Go.undef)) → Rel w A G n (.tup l) (.tuple vs.toArray)
def AV.kill (x : Nat) (p : List (Nat × Nat)) (j : Nat) : AV → AV
  | .ref y q c => if x = y then (if through p j q c then .undef else .ref y q c) else .ref y q c
  | .lv y q c => if x = y then (match q with | [] => .lv y q c | _ :: _ => .undef) else .lv y q c
  | .agg l => .agg (l.map fun a => a.kill x p j)
  | .tup l => .tup (l.map fun a => a.kill x p j)
  | .func f a b => .func f (a.map fun a => a.kill x p j) (b.map fun a => a.kill x p j)
  | .ifc t a => .ifc t (a.kill x p j)
  | a => a
theorem getD_of {α : Type} {l : List α} {i : Nat} {d a : α} (h : l[i]? = some a) : l.getD i d = a := by simp [h]
theorem Rel.keep {w w' : World} {A A' : Nat → Prop} {G G' : Nat → Option GR} {n n' : Nat} (hn : n ≤ n')
    (hw : ∀ b, b < w.heap.size → ¬ A b → w'.heap[b]? = w.heap[b]?) (hA : ∀ b, b < w.heap.size → A' b → A b)
    (hR : ∀ x p c v, x < n → RefOK G x p c v → RefOK G' x p c v) (hL : ∀ x p j ad, x < n → LvOK G x p j ad → LvOK G' x p j ad) {a : AV} {v : Value}
    (h : Rel w A G n a v) : Rel w' A' G' n' a v := by
  induction h with
  | fr a v h => exact .fr a v (h.keep hw hA)
  | ref x p c v h1 h2 h3 => exact .ref x p c v (Nat.lt_of_lt_of_le h1 hn) h2 (hR _ _ _ _ h1 h3)
  | lv x p j ad h1 h2 => exact .lv x p j ad (Nat.lt_of_lt_of_le h1 hn) (hL _ _ _ _ h1 h2)
  | func fn first caps us vs h1 h2 h3 h4 ih1 ih2 => exact .func fn first caps us vs h1 h2 ih1 ih2
  | ifc t v u h ih => exact .ifc t v u ih
  | agg l vs h1 h2 ih => exact .agg l vs h1 ih
  | tup l vs h1 h2 ih => exact .tup l vs h1 ih
theorem FR.kill {w : World} {A : Nat → Prop} {x : Nat} {p : List (Nat × Nat)} {j : Nat} {a : AV} {v : Value} (h : FR w A a v) : FR w A (a.kill x p j) v := by
  induction h with
  | func fn first caps us vs h1 h2 h3 h4 ih1 ih2 =>
    simp only [AV.kill]
    refine .func fn _ _ us vs (by simpa using h1) (by simpa using h2) (fun i a h => ?_) (fun i a h => ?_)
    · simp only [List.getElem?_map, Option.map_eq_some_iff] at h
      obtain ⟨a', h', rfl⟩ := h; exact ih1 i a' h'
    · simp only [List.getElem?_map, Option.map_eq_some_iff] at h
      obtain ⟨a', h', rfl⟩ := h; exact ih2 i a' h'
  | ifc t v u h ih => simp only [AV.kill]; exact .ifc t _ u ih
  | agg l vs h1 h2 ih =>
    simp only [AV.kill]
    refine .agg _ vs (by simpa using h1) fun i a h => ?_
    simp only [List.getElem?_map, Option.map_eq_some_iff] at h
    obtain ⟨a', h', rfl⟩ := h; exact ih i a' h'
  | tup l vs h1 h2 ih =>
    simp only [AV.kill]
    refine .tup _ vs (by simpa using h1) fun i a h => ?_
    simp only [List.getElem?_map, Option.map_eq_some_iff] at h
    obtain ⟨a', h', rfl⟩ := h; exact ih i a' h'
  | sl n l b o cap h1 h2 h3 h4 h5 h6 _ => simp only [AV.kill]; exact .sl n l b o cap h1 h2 h3 h4 h5 h6
  | fp l b o h5 h6 _ => simp only [AV.kill]; exact .fp l b o h5 h6
  | fmap es b ents clock h1 h2 h3 h4 h5 h6 _ => simp only [AV.kill]; exact .fmap es b ents clock h1 h2 h3 h4 h5 h6
  | str s h => simp only [AV.kill]; exact .str s h
  | undef v => simp only [AV.kill]; exact .undef v
  | bool v => simp only [AV.kill]; exact .bool v
  | int k v => simp only [AV.kill]; exact .int k v
  | nilsl => simp only [AV.kill]; exact .nilsl
  | slnil n => simp only [AV.kill]; exact .slnil n
  | slmt n a cap h => simp only [AV.kill]; exact .slmt n a cap h
  | tight n l ad h _ => simp only [AV.kill]; exact .tight n l ad h
  | nilp => simp only [AV.kill]; exact .nilp
  | nilmap => simp only [AV.kill]; exact .nilmap
  | nilfunc => simp only [AV.kill]; exact .nilfunc
  | nili => simp only [AV.kill]; exact .nili
theorem Rel.keepKill {w w' : World} {A A' : Nat → Prop} {G G' : Nat → Option GR} {n n' : Nat} {x0 : Nat} {p0 : List (Nat × Nat)} {j0 : Nat} (hn : n ≤ n')
    (hw : ∀ b, b < w.heap.size → ¬ A b → w'.heap[b]? = w.heap[b]?) (hA : ∀ b, b < w.heap.size → A' b → A b)
    (hR : ∀ x p c v, x < n → (x0 = x → through p0 j0 p c = false) → RefOK G x p c v → RefOK G' x p c v) (hL : ∀ x p j ad, x < n → (x0 = x → p = []) → LvOK G x p j ad → LvOK G' x p j ad) {a : AV} {v : Value}
    (h : Rel w A G n a v) : Rel w' A' G' n' (a.kill x0 p0 j0) v := by
  induction h with
  | fr a v h => exact .fr _ v ((h.keep hw hA).kill)
  | ref x p c v h1 h2 h3 =>
    simp only [AV.kill]
    split
    · rename_i hx
      split
      · exact .fr _ _ (.undef v)
      · rename_i ht
        exact .ref x p c v (Nat.lt_of_lt_of_le h1 hn) h2 (hR _ _ _ _ h1 (fun _ => by simpa using ht) h3)
    · rename_i hx
      exact .ref x p c v (Nat.lt_of_lt_of_le h1 hn) h2 (hR _ _ _ _ h1 (fun e => absurd e hx) h3)
  | lv x p j ad h1 h2 =>
    cases p with
    | nil =>
      have e : AV.kill x0 p0 j0 (.lv x [] j) = .lv x [] j := by simp only [AV.kill]; split <;> rfl
      rw [e]
      exact .lv x _ j ad (Nat.lt_of_lt_of_le h1 hn) (hL _ _ _ _ h1 (fun _ => rfl) h2)
    | cons q p =>
      simp only [AV.kill]
      split
      · exact .fr _ _ (.undef _)
      · rename_i hx
        exact .lv x _ j ad (Nat.lt_of_lt_of_le h1 hn) (hL _ _ _ _ h1 (fun e => absurd e hx) h2)
  | func fn first caps us vs h1 h2 h3 h4 ih1 ih2 =>
    simp only [AV.kill]
    refine .func fn _ _ us vs (by simpa using h1) (by simpa using h2) (fun i a h => ?_) (fun i a h => ?_)
    · simp only [List.getElem?_map, Option.map_eq_some_iff] at h
      obtain ⟨a', h', rfl⟩ := h; exact ih1 i a' h'
    · simp only [List.getElem?_map, Option.map_eq_some_iff] at h
      obtain ⟨a', h', rfl⟩ := h; exact ih2 i a' h'
  | ifc t v u h ih => simp only [AV.kill]; exact .ifc t _ u ih
  | agg l vs h1 h2 ih =>
    simp only [AV.kill]
    refine .agg _ vs (by simpa using h1) fun i a h => ?_
    simp only [List.getElem?_map, Option.map_eq_some_iff] at h
    obtain ⟨a', h', rfl⟩ := h; exact ih i a' h'
  | tup l vs h1 h2 ih =>
    simp only [AV.kill]
    refine .tup _ vs (by simpa using h1) fun i a h => ?_
    simp only [List.getElem?_map, Option.map_eq_some_iff] at h
    obtain ⟨a', h', rfl⟩ := h; exact ih i a' h'
structure CellsOK (w : World) (A : Nat → Prop) (G : Nat → Option GR) (n : Nat) (cs : List AV) (gs : List GT) : Prop where
  len : cs.length = gs.length
  cell : ∀ (c : Nat) (a : AV) (g : GT), cs[c]? = some a → gs[c]? = some g → (g.leaf = false ∧ a = g.er) ∨ (g.leaf = true ∧ Rel w A G n a g.val)
def Own (A0 : Nat → Prop) (G : Nat → Option GR) (b : Nat) : Prop := A0 b ∨ GFp G b
structure Inv (A0 : Nat → Prop) (w : World) (n : Nat) (s : List (Nat × Root)) (G : Nat → Option GR) : Prop where
  dom : ∀ x, (getS s x).isSome = (G x).isSome
  box : ∀ x r g, getS s x = some r → G x = some g → r.box = g.base.isSome
  cells : ∀ x r g, getS s x = some r → G x = some g → CellsOK w (Own A0 G) G n r.cells g.cells
  row : ∀ x g, G x = some g → RowMem w (Own A0 G) g.at_ g.cells
  base : ∀ x g b, G x = some g → g.base = some b → ∃ vs T, w.heap[b]? = some (.cells vs T (0, 0)) ∧ vs.size = g.cells.length
  sep : ∀ x g x' g', G x = some g → G x' = some g' → x ≠ x' → ∀ b, RFp g b → ¬ RFp g' b
  lt : ∀ x g, G x = some g → x < n
  a0 : ∀ b, GFp G b → ¬ A0 b
structure Fr (D0 : Nat → Prop) (w0 w : World) : Prop where
  os : w.os = w0.os
  tape : w.tape = w0.tape
  output : w.output = w0.output
  size : w0.heap.size ≤ w.heap.size
  block : ∀ b, b < w0.heap.size → ¬ D0 b → w.heap[b]? = w0.heap[b]?
structure Holds (A0 D0 : Nat → Prop) (w0 : World) (nt : Nat) (σ : St) (a : Act) (w : World) (G : Nat → Option GR) : Prop where
  inv : Inv A0 w σ.n σ.s G
  size : a.tmps.size = nt
  defers : a.defers = []
  tmp : ∀ i, i < nt → Rel w (Own A0 G) G σ.n (getT σ.t i) (a.tmps.getD i undef)
  far : ∀ i, nt ≤ i → getT σ.t i = .undef
  fr : Fr D0 w0 w
  own : ∀ b, GFp G b → D0 b ∨ w0.heap.size ≤ b
  a0lt : ∀ b, A0 b → b < w0.heap.size
def St.put (σ : St) (d : Option Tmp) (v : AV) : St :=
  match d with
  | some d => { σ with t := (d, v) :: σ.t }
  | none => σ
theorem Holds.put {A0 D0 : Nat → Prop} {w0 : World} {nt : Nat} {σ : St} {a : Act} {w : World} {G : Nat → Option GR} (h : Holds A0 D0 w0 nt σ a w G) {d : Option Tmp} {v : AV} {u : Value}
    (hv : Rel w (Own A0 G) G σ.n v u) (hd : ∀ i, d = some i → i < nt) : Holds A0 D0 w0 nt (σ.put d v) (a.put d u) w G := by
  cases d with
  | none => exact h
  | some d =>
    have hd := hd d rfl
    refine ⟨h.inv, by simp [Act.put, h.size], h.defers, fun i hi => ?_, fun i hi => ?_, h.fr, h.own, h.a0lt⟩
    · simp only [St.put, getT, Act.put]
      split
      · rename_i e; subst e
        rw [Array.getD_eq_getD_getElem?, Array.getElem?_setIfInBounds_self_of_lt (by rw [h.size]; exact hd)]
        exact hv
      · rename_i e
        rw [Array.getD_eq_getD_getElem?, Array.getElem?_setIfInBounds_ne e, ← Array.getD_eq_getD_getElem?]
        exact h.tmp i hi
    · simp only [St.put, getT]
      have hne : ¬ d = i := Nat.ne_of_lt (Nat.lt_of_lt_of_le hd hi)
      rw [if_neg hne]
      exact h.far i hi
end Go.Ab
namespace Go.Ab
open Go Go.RowKit
def mapT (f : AV → AV) (t : List (Nat × AV)) : List (Nat × AV) := t.map fun q => (q.1, f q.2)
def mapS (f : AV → AV) (s : List (Nat × Root)) : List (Nat × Root) := s.map fun q => (q.1, { q.2 with cells := q.2.cells.map f })
theorem getT_map {f : AV → AV} (hf : f .undef = .undef) (t : List (Nat × AV)) (i : Nat) : getT (mapT f t) i = f (getT t i) := by
  induction t with
  | nil => simp [mapT, getT, hf]
  | cons q r ih =>
    obtain ⟨j, v⟩ := q
    simp only [mapT, List.map_cons, getT] at ih ⊢
    split
    · rfl
    · exact ih
theorem getS_map {f : AV → AV} (s : List (Nat × Root)) (i : Nat) : getS (mapS f s) i = (getS s i).map fun r => { r with cells := r.cells.map f } := by
  induction s with
  | nil => simp [mapS, getS]
  | cons q r ih =>
    obtain ⟨j, v⟩ := q
    simp only [mapS, List.map_cons, getS] at ih ⊢
    split
    · rfl
    · exact ih
theorem tree_of_leaf {g : GT} (h : g.leaf = false) : g.er.tree = true := by
  cases g with
  | lf a v => cases h
  | _ => simp [GT.er, AV.tree]
theorem Holds.change {A0 D0 : Nat → Prop} {w0 : World} {nt : Nat} {σ : St} {a : Act} {w : World} {G : Nat → Option GR} (h : Holds A0 D0 w0 nt σ a w G) {σ' : St} {w' : World} {G' : Nat → Option GR}
    (f : AV → AV) (Chg : Nat → Prop) (hn : σ.n ≤ σ'.n) (hwo : ∀ b, b < w.heap.size → ¬ GFp G b → w'.heap[b]? = w.heap[b]?)
    (hwf : w'.os = w.os ∧ w'.tape = w.tape ∧ w'.output = w.output ∧ w.heap.size ≤ w'.heap.size) (hown : ∀ b, GFp G' b → GFp G b ∨ w.heap.size ≤ b)
    (hf : ∀ a v, Rel w (Own A0 G) G σ.n a v → Rel w' (Own A0 G') G' σ'.n (f a) v) (hfu : f .undef = .undef) (hft : ∀ a, a.tree = true → f a = a)
    (hdom : ∀ x, (getS σ'.s x).isSome = (G' x).isSome) (hsame : ∀ x, ¬ Chg x → getS σ'.s x = (getS σ.s x).map (fun r => { r with cells := r.cells.map f }) ∧ G' x = G x)
    (hsamew : ∀ x g, ¬ Chg x → G x = some g → ∀ b, RFp g b → w'.heap[b]? = w.heap[b]?)
    (hchg : ∀ x r g, Chg x → getS σ'.s x = some r → G' x = some g → r.box = g.base.isSome ∧ CellsOK w' (Own A0 G') G' σ'.n r.cells g.cells ∧ RowMem w' (Own A0 G') g.at_ g.cells ∧
      (∀ b, g.base = some b → ∃ vs T, w'.heap[b]? = some (.cells vs T (0, 0)) ∧ vs.size = g.cells.length) ∧ x < σ'.n)
    (hsep : ∀ x g x' g', Chg x → G' x = some g → G' x' = some g' → x ≠ x' → ∀ b, RFp g b → ¬ RFp g' b)
    (htmp : σ'.t = mapT f σ.t) : Holds A0 D0 w0 nt σ' a w' G' := by
  have hA : ∀ b, b < w.heap.size → Own A0 G' b → Own A0 G b := fun b hb ho => ho.imp id fun hg => (hown b hg).resolve_right (by omega)
  have hw1 : ∀ b, b < w.heap.size → ¬ Own A0 G b → w'.heap[b]? = w.heap[b]? := fun b hb ho => hwo b hb fun hg => ho (.inr hg)
  have ha0 : ∀ b, A0 b → b < w.heap.size := fun b hb => Nat.lt_of_lt_of_le (h.a0lt b hb) h.fr.size
  refine ⟨⟨hdom, fun x r g hr hg => ?_, fun x r g hr hg => ?_, fun x g hg => ?_, fun x g b hg hb => ?_, fun x g x' g' hg hg' hne => ?_, fun x g hg => ?_, fun b hb ha => ?_⟩,
    h.size, h.defers, fun i hi => ?_, fun i hi => ?_, ⟨hwf.1.trans h.fr.os, hwf.2.1.trans h.fr.tape, hwf.2.2.1.trans h.fr.output, Nat.le_trans h.fr.size hwf.2.2.2, fun b hb hd => ?_⟩, fun b hb => ?_, h.a0lt⟩
  · by_cases hc : Chg x
    · exact (hchg x r g hc hr hg).1
    · obtain ⟨e1, e2⟩ := hsame x hc
      rw [e1] at hr; rw [e2] at hg
      simp only [Option.map_eq_some_iff] at hr
      obtain ⟨r0, hr0, rfl⟩ := hr
      exact h.inv.box x r0 g hr0 hg
  · by_cases hc : Chg x
    · exact (hchg x r g hc hr hg).2.1
    · obtain ⟨e1, e2⟩ := hsame x hc
      rw [e1] at hr; rw [e2] at hg
      simp only [Option.map_eq_some_iff] at hr
      obtain ⟨r0, hr0, rfl⟩ := hr
      obtain ⟨c1, c2⟩ := h.inv.cells x r0 g hr0 hg
      refine ⟨by simpa using c1, fun c av gt hav hgt => ?_⟩
      simp only [List.getElem?_map, Option.map_eq_some_iff] at hav
      obtain ⟨av0, hav0, rfl⟩ := hav
      rcases c2 c av0 gt hav0 hgt with ⟨k1, rfl⟩ | ⟨k1, k2⟩
      · exact .inl ⟨k1, hft _ (tree_of_leaf k1)⟩
      · exact .inr ⟨k1, hf _ _ k2⟩
  · by_cases hc : Chg x
    · cases hs : getS σ'.s x with
      | none => have := hdom x; rw [hs, hg] at this; cases this
      | some r => exact (hchg x r g hc hs hg).2.2.1
    · obtain ⟨e1, e2⟩ := hsame x hc
      rw [e2] at hg
      refine (h.inv.row x g hg).keep hw1 hA (fun b hb => hsamew x g hc hg b (.inr hb)) fun b o e => ?_
      simp only [GR.at_, Option.map_eq_some_iff] at e
      obtain ⟨b', e1, e2⟩ := e
      cases e2
      exact hsamew x g hc hg b (.inl e1)
  · by_cases hc : Chg x
    · cases hs : getS σ'.s x with
      | none => have := hdom x; rw [hs, hg] at this; cases this
      | some r => exact (hchg x r g hc hs hg).2.2.2.1 b hb
    · obtain ⟨e1, e2⟩ := hsame x hc
      rw [e2] at hg
      rw [hsamew x g hc hg b (.inl hb)]
      exact h.inv.base x g b hg hb
  · by_cases hc : Chg x
    · exact hsep x g x' g' hc hg hg' hne
    · by_cases hc' : Chg x'
      · exact fun b hb hb' => hsep x' g' x g hc' hg' hg (Ne.symm hne) b hb' hb
      · rw [(hsame x hc).2] at hg
        rw [(hsame x' hc').2] at hg'
        exact h.inv.sep x g x' g' hg hg' hne
  · by_cases hc : Chg x
    · cases hs : getS σ'.s x with
      | none => have := hdom x; rw [hs, hg] at this; cases this
      | some r => exact (hchg x r g hc hs hg).2.2.2.2
    · rw [(hsame x hc).2] at hg
      exact Nat.lt_of_lt_of_le (h.inv.lt x g hg) hn
  · rcases hown b hb with hb | hb
    · exact h.inv.a0 b hb ha
    · have := ha0 b ha; omega
  · rw [htmp, getT_map hfu]
    exact hf _ _ (h.tmp i hi)
  · rw [htmp, getT_map hfu, h.far i hi, hfu]
  · have hsz := h.fr.size
    rw [hwo b (by omega) (fun hg => by rcases h.own b hg with hd' | hd'
                                       · exact hd hd'
                                       · omega)]
    exact h.fr.block b hb hd
  · rcases hown b hb with hb | hb
    · exact h.own b hb
    · exact .inr (Nat.le_trans h.fr.size hb)
theorem mapT_id (t : List (Nat × AV)) : mapT id t = t := by simp [mapT]
theorem Holds.drew {A0 D0 : Nat → Prop} {w0 : World} {nt : Nat} {σ : St} {a : Act} {w : World} {G : Nat → Option GR} (h : Holds A0 D0 w0 nt σ a w G) : Holds A0 D0 w0 nt σ a w.drew G :=
  h.change (σ' := σ) (G' := G) id (fun _ => False) (Nat.le_refl _) (fun b _ _ => rfl) ⟨rfl, rfl, rfl, Nat.le_refl _⟩ (fun b hb => .inl hb)
    (fun a v hr => (show Rel w.drew (Own A0 G) G σ.n a v from Rel.keep (w := w) (w' := w.drew) (Nat.le_refl _) (fun _ _ _ => rfl) (fun _ _ h => h) (fun _ _ _ _ _ h => h) (fun _ _ _ _ _ h => h) hr)) rfl (fun _ _ => rfl) h.inv.dom
    (fun x _ => ⟨by cases getS σ.s x <;> simp, rfl⟩) (fun _ _ _ _ _ _ => rfl) (fun _ _ _ hc => hc.elim) (fun _ _ _ _ hc => hc.elim) (mapT_id _).symm
def Gset (G : Nat → Option GR) (x : Nat) (r : Option GR) : Nat → Option GR := fun y => if y = x then r else G y
theorem Gset_self (G : Nat → Option GR) (x : Nat) (r : Option GR) : Gset G x r x = r := by simp [Gset]
theorem Gset_ne {G : Nat → Option GR} {x y : Nat} {r : Option GR} (h : y ≠ x) : Gset G x r y = G y := by simp [Gset, h]
theorem RefOK.new {G : Nat → Option GR} {x0 : Nat} {r0 : Option GR} {x : Nat} {p : List (Nat × Nat)} {c : Nat} {v : Value} (hne : x ≠ x0) (h : RefOK G x p c v) : RefOK (Gset G x0 r0) x p c v :=
  fun r row g hg => h r row g (by rwa [Gset_ne hne] at hg)
theorem LvOK.new {G : Nat → Option GR} {x0 : Nat} {r0 : Option GR} {x : Nat} {p : List (Nat × Nat)} {c : Nat} {ad : Addr} (hne : x ≠ x0) (h : LvOK G x p c ad) : LvOK (Gset G x0 r0) x p c ad :=
  fun r b o hg => h r b o (by rwa [Gset_ne hne] at hg)
theorem rfp_lt {A0 : Nat → Prop} {w : World} {n : Nat} {s : List (Nat × Root)} {G : Nat → Option GR} (h : Inv A0 w n s G) {b : Nat} (hb : GFp G b) : b < w.heap.size := by
  obtain ⟨x, g, hg, hb | ⟨c, t, ht, hb⟩⟩ := hb
  · obtain ⟨vs, T, hh, _⟩ := h.base x g b hg hb
    exact (Array.getElem?_eq_some_iff.1 hh).1
  · exact ((h.row x g hg).mem c t ht).fp_lt b hb
theorem Holds.newRoot {A0 D0 : Nat → Prop} {w0 : World} {nt : Nat} {σ : St} {a : Act} {w : World} {G : Nat → Option GR} (h : Holds A0 D0 w0 nt σ a w G) {w' : World} {N : Nat} {r : Root} {g : GR}
    (hN : σ.n ≤ N) (hwo : ∀ b, b < w.heap.size → w'.heap[b]? = w.heap[b]?) (hwf : w'.os = w.os ∧ w'.tape = w.tape ∧ w'.output = w.output ∧ w.heap.size ≤ w'.heap.size)
    (hnew : ∀ b, RFp g b → w.heap.size ≤ b) (hbox : r.box = g.base.isSome)
    (hcells : ∀ A, (∀ b, b < w.heap.size → A b → Own A0 G b) → CellsOK w' A (Gset G N (some g)) (N + 1) r.cells g.cells) (hrow : ∀ A, (∀ b, b < w.heap.size → A b → Own A0 G b) → RowMem w' A g.at_ g.cells)
    (hbase : ∀ b, g.base = some b → ∃ vs T, w'.heap[b]? = some (.cells vs T (0, 0)) ∧ vs.size = g.cells.length) :
    Holds A0 D0 w0 nt { n := N + 1, t := σ.t, s := (N, r) :: σ.s } a w' (Gset G N (some g)) := by
  have hfresh : ∀ x g', G x = some g' → x ≠ N := fun x g' hg => by have := h.inv.lt x g' hg; omega
  have hGN : G N = none := by
    cases hg : G N with
    | none => rfl
    | some g' => exact absurd rfl (hfresh N g' hg)
  have hown : ∀ b, GFp (Gset G N (some g)) b → GFp G b ∨ w.heap.size ≤ b := by
    rintro b ⟨x, g', hg, hb⟩
    by_cases e : x = N
    · subst e
      rw [Gset_self] at hg; cases hg
      exact .inr (hnew b hb)
    · rw [Gset_ne e] at hg
      exact .inl ⟨x, g', hg, hb⟩
  have hA : ∀ b, b < w.heap.size → Own A0 (Gset G N (some g)) b → Own A0 G b := fun b hb ho => ho.imp id fun hg => (hown b hg).resolve_right (by omega)
  refine h.change (σ' := { n := N + 1, t := σ.t, s := (N, r) :: σ.s }) id (fun x => x = N) (by simp; omega) (fun b hb _ => hwo b hb) hwf hown
    (fun a v hr => hr.keep (by simp; omega) (fun b hb _ => hwo b hb) hA (fun x p c v hx hr => hr.new (by omega)) (fun x p j ad hx hr => hr.new (by omega))) rfl (fun _ _ => rfl)
    (fun x => ?_) (fun x hx => ?_) (fun x g' hx hg b hb => hwo b (rfp_lt h.inv ⟨x, g', hg, hb⟩)) (fun x r' g' hx hr hg => ?_) (fun x g1 x' g2 hx hg hg' hne b hb hb' => ?_) (mapT_id _).symm
  · simp only [getS]
    by_cases e : N = x
    · subst e; simp [Gset_self]
    · simp only [e, if_false, Gset_ne (Ne.symm e)]; exact h.inv.dom x
  · simp only [getS]
    rw [if_neg (fun e => hx e.symm), Gset_ne hx]
    exact ⟨by cases getS σ.s x <;> simp, rfl⟩
  · subst hx
    simp only [getS, if_true] at hr; cases hr
    rw [Gset_self] at hg; cases hg
    exact ⟨hbox, hcells _ hA, hrow _ hA, hbase, by simp⟩
  · subst hx
    rw [Gset_self] at hg; cases hg
    rw [Gset_ne (Ne.symm hne)] at hg'
    have := rfp_lt h.inv ⟨x', g2, hg', hb'⟩
    have := hnew b hb
    omega
def rowOf : List AV → List (Nat × Nat) → Option (List AV)
  | cells, [] => some cells
  | cells, (c, i) :: p => match cells[c]? with
    | some (.own _ es) => match es[i]? with
      | some r => rowOf r p
      | none => none
    | _ => none
def putAt : List AV → List (Nat × Nat) → Nat → AV → List AV
  | cells, [], j, v => cells.set j v
  | cells, (c, i) :: p, j, v => match cells[c]? with
    | some (.own n es) => match es[i]? with
      | some r => cells.set c (.own n (es.set i (putAt r p j v)))
      | none => cells
    | _ => cells
theorem er_own {g : GT} {n : Nat} {es : List (List AV)} (h : g.er = .own n es) (hl : g.leaf = false) : ∃ v rows, g = .own n v rows ∧ es = rows.map fun r => r.map GT.er := by
  cases g with
  | lf a v => cases hl
  | own m v rows => simp only [GT.er] at h; cases h; exact ⟨v, rows, rfl, rfl⟩
  | map b es => simp [GT.er] at h
  | iter b s p => simp [GT.er] at h
theorem rowOf_er : ∀ (p : List (Nat × Nat)) {gs : List GT} {row : List AV}, rowOf (gs.map GT.er) p = some row → (∀ (c : Nat) (g : GT), gs[c]? = some g → g.leaf = true → g.er.tree = false) →
    (∀ (w : World) (A : Nat → Prop) (base : Option (Nat × Nat)), RowMem w A base gs → ∃ grow, gRow gs p = some grow ∧ row = grow.map GT.er) := by
  intro p
  induction p with
  | nil => intro gs row h _ w A base hm; cases h; exact ⟨gs, rfl, rfl⟩
  | cons q p ih =>
    obtain ⟨c, i⟩ := q
    intro gs row h hl w A base hm
    simp only [rowOf, List.getElem?_map] at h
    cases hc : gs[c]? with
    | none => simp [hc] at h
    | some g =>
      simp only [hc, Option.map_some] at h
      split at h
      · rename_i n es he
        have hgl : g.leaf = false := by
          cases hg : g.leaf with
          | false => rfl
          | true => have := hl c g hc hg; simp only [Option.some.injEq] at he; rw [he] at this; simp [AV.tree] at this
        simp only [Option.some.injEq] at he
        obtain ⟨v, rows, rfl, rfl⟩ := er_own he hgl
        simp only [List.getElem?_map] at h
        cases hr : rows[i]? with
        | none => simp [hr] at h
        | some r =>
          simp only [hr, Option.map_some] at h
          obtain ⟨b, cap, hv, hin, _⟩ := hm.inner hc hr
          obtain ⟨grow, k1, k2⟩ := ih h (fun c' g' hg' hl' => by
            have := hin.mem c' g' hg'
            cases this with
            | lf a v hfr _ => simp only [GT.er]; cases hfr <;> rfl
            | _ => cases hl') w A _ hin
          exact ⟨grow, by simp only [gRow, hc, hr]; exact k1, k2⟩
      · cases h
theorem leaf_plain {w : World} {A : Nat → Prop} {g : GT} (h : Mem w A g) (hl : g.leaf = true) : g.er.tree = false := by
  cases h with
  | lf a v hfr _ => simp only [GT.er]; cases hfr <;> rfl
  | _ => cases hl
theorem CellsOK.of_er {w : World} {A : Nat → Prop} {G : Nat → Option GR} {n : Nat} {base : Option (Nat × Nat)} {gs : List GT} (h : RowMem w A base gs) : CellsOK w A G n (gs.map GT.er) gs := by
  refine ⟨by simp, fun c a g ha hg => ?_⟩
  simp only [List.getElem?_map, hg, Option.map_some, Option.some.injEq] at ha
  subst ha
  have hm := h.mem c g hg
  cases hl : g.leaf with
  | false => exact .inl ⟨rfl, rfl⟩
  | true =>
    refine .inr ⟨rfl, ?_⟩
    cases hm with
    | lf a v hfr _ => exact .fr _ _ (by simpa only [GT.er, GT.val] using hfr)
    | _ => cases hl
theorem row_at {w : World} {A : Nat → Prop} {G : Nat → Option GR} {n : Nat} {cs row : List AV} {gs : List GT} {p : List (Nat × Nat)} {base : Option (Nat × Nat)} (hc : CellsOK w A G n cs gs) (hm : RowMem w A base gs)
    (h : rowOf cs p = some row) : ∃ grow, gRow gs p = some grow ∧ CellsOK w A G n row grow ∧ RowMem w A (gBase base gs p) grow ∧ (p ≠ [] → row = grow.map GT.er) := by
  cases p with
  | nil => cases h; exact ⟨gs, rfl, hc, hm, fun e => absurd rfl e⟩
  | cons q p =>
    obtain ⟨c, i⟩ := q
    simp only [rowOf] at h
    split at h
    · rename_i m es he
      have hcl : c < gs.length := by rw [← hc.len]; exact (List.getElem?_eq_some_iff.1 he).1
      obtain ⟨g, hg⟩ : ∃ g, gs[c]? = some g := ⟨gs[c], List.getElem?_eq_getElem hcl⟩
      rcases hc.cell c _ g he hg with ⟨hl, hgr⟩ | ⟨_, hrel⟩
      · obtain ⟨v, rows, rfl, rfl⟩ := er_own hgr.symm hl
        simp only [List.getElem?_map] at h
        cases hr : rows[i]? with
        | none => simp [hr] at h
        | some r =>
          simp only [hr, Option.map_some] at h
          obtain ⟨b, cap, hv, hin, _⟩ := hm.inner hg hr
          obtain ⟨grow, k1, k2⟩ := rowOf_er p h (fun c' g' hg' hl' => leaf_plain (hin.mem c' g' hg') hl') w A _ hin
          obtain ⟨m1, m2, m3⟩ := hm.row ((c, i) :: p) (row := grow) (by simp only [gRow, hg, hr]; exact k1)
          refine ⟨grow, by simp only [gRow, hg, hr]; exact k1, ?_, m1, fun _ => k2⟩
          rw [k2]; exact .of_er m1
      · exfalso
        cases hrel with
        | fr _ _ h => cases h
    · cases h
theorem er_put {g' : GT} {j : Nat} : ∀ (p : List (Nat × Nat)) {gs grow : List GT}, gRow gs p = some grow → (gPut gs p j g').map GT.er = putAt (gs.map GT.er) p j g'.er := by
  intro p
  induction p with
  | nil => intro gs grow _; simp [gPut, putAt, List.map_set]
  | cons q p ih =>
    obtain ⟨c, i⟩ := q
    intro gs grow h
    simp only [gRow] at h
    split at h
    · rename_i n v rows hc
      split at h
      · rename_i r hr
        simp only [gPut, putAt, hc, hr, List.getElem?_map, Option.map_some, GT.er, List.map_set, ih h]
      · cases h
    · cases h
theorem cells_put {w w' : World} {A A' : Nat → Prop} {G G' : Nat → Option GR} {n n' : Nat} {cs row : List AV} {gs : List GT} {p : List (Nat × Nat)} {base : Option (Nat × Nat)} {j : Nat} {av : AV} {g' : GT} {f : AV → AV}
    (hc : CellsOK w A G n cs gs) (hm : RowMem w A base gs) (h : rowOf cs p = some row) (hf : ∀ a v, Rel w A G n a v → Rel w' A' G' n' (f a) v) (hft : ∀ a, a.tree = true → f a = a)
    (hnew : (av = g'.er ∧ g'.leaf = false) ∨ (p = [] ∧ g'.leaf = true ∧ Rel w' A' G' n' av g'.val) ∨ (p ≠ [] ∧ av = g'.er)) : CellsOK w' A' G' n' (putAt (cs.map f) p j av) (gPut gs p j g') := by
  cases p with
  | nil =>
    refine ⟨by simp [putAt, gPut, hc.len], fun c a g ha hg => ?_⟩
    simp only [putAt, gPut] at ha hg
    rcases set_some ha with ⟨rfl, rfl⟩ | ⟨hne, ha⟩ <;> rcases set_some hg with ⟨e, rfl⟩ | ⟨hne', hg⟩
    · rcases hnew with ⟨h1, h2⟩ | ⟨_, h2, h3⟩ | ⟨h1, _⟩
      · exact .inl ⟨h2, h1⟩
      · exact .inr ⟨h2, h3⟩
      · exact absurd rfl h1
    · exact absurd rfl hne'
    · exact absurd e hne
    · simp only [List.getElem?_map, Option.map_eq_some_iff] at ha
      obtain ⟨a0, ha0, rfl⟩ := ha
      rcases hc.cell c a0 g ha0 hg with ⟨k1, rfl⟩ | ⟨k1, k2⟩
      · exact .inl ⟨k1, hft _ (tree_of_leaf k1)⟩
      · exact .inr ⟨k1, hf _ _ k2⟩
  | cons q p =>
    obtain ⟨c, i⟩ := q
    have h0 := h
    simp only [rowOf] at h
    split at h
    · rename_i m es he
      have hcl : c < gs.length := by rw [← hc.len]; exact (List.getElem?_eq_some_iff.1 he).1
      obtain ⟨g, hg⟩ : ∃ g, gs[c]? = some g := ⟨gs[c], List.getElem?_eq_getElem hcl⟩
      rcases hc.cell c _ g he hg with ⟨hl, hgr⟩ | ⟨_, hrel⟩
      · obtain ⟨v, rows, rfl, rfl⟩ := er_own hgr.symm hl
        simp only [List.getElem?_map] at h
        cases hr : rows[i]? with
        | none => simp [hr] at h
        | some r =>
          simp only [hr, Option.map_some] at h
          obtain ⟨b, cap, hv, hin, _⟩ := hm.inner hg hr
          obtain ⟨grow, k1, k2⟩ := rowOf_er p h (fun c' g' hg' hl' => leaf_plain (hin.mem c' g' hg') hl') w A _ hin
          have hav : av = g'.er := by
            rcases hnew with ⟨h1, _⟩ | ⟨h1, _⟩ | ⟨_, h2⟩
            · exact h1
            · cases h1
            · exact h2
          have hput : gPut gs ((c, i) :: p) j g' = gs.set c (.own m v (rows.set i (gPut r p j g'))) := by simp only [gPut, hg, hr]
          have hfo : f (.own m (rows.map fun r => r.map GT.er)) = .own m (rows.map fun r => r.map GT.er) := hft _ rfl
          have hputA : putAt (cs.map f) ((c, i) :: p) j av = (cs.map f).set c (.own m ((rows.set i (gPut r p j g')).map fun r => r.map GT.er)) := by
            simp only [putAt, List.getElem?_map, he, Option.map_some, hfo, hr, List.map_set]
            rw [er_put p k1, hav]
          rw [hput, hputA]
          refine ⟨by simp [hc.len], fun c' a' g1 ha' hg1 => ?_⟩
          rcases set_some ha' with ⟨rfl, rfl⟩ | ⟨hne, ha'⟩ <;> rcases set_some hg1 with ⟨e, rfl⟩ | ⟨hne', hg1⟩
          · exact .inl ⟨rfl, by simp only [GT.er]⟩
          · exact absurd rfl hne'
          · exact absurd e hne
          · simp only [List.getElem?_map, Option.map_eq_some_iff] at ha'
            obtain ⟨a0, ha0, rfl⟩ := ha'
            rcases hc.cell c' a0 g1 ha0 hg1 with ⟨k1, rfl⟩ | ⟨k1, k2⟩
            · exact .inl ⟨k1, hft _ (tree_of_leaf k1)⟩
            · exact .inr ⟨k1, hf _ _ k2⟩
      · exfalso
        cases hrel with
        | fr _ _ h => cases h
    · cases h
theorem gPut_off {g1 : GT} {j : Nat} (hl : g1.leaf = true) : ∀ (p : List (Nat × Nat)) {cells row : List GT} {g0 : GT}, SepRow cells → gRow cells p = some row → row[j]? = some g0 → ∀ k, FpRow (gPut cells p j g1) k → ¬ Fp g0 k := by
  have hno : ∀ k, ¬ Fp g1 k := fun k hk => by cases g1 with | lf a v => cases hk | _ => cases hl
  intro p
  induction p with
  | nil =>
    intro cells row g0 hs hrow hj k hk hk0
    cases hrow
    obtain ⟨c, g, hg, hk⟩ := hk
    rcases set_some hg with ⟨rfl, rfl⟩ | ⟨hne, hg⟩
    · exact hno k hk
    · exact hs.2 c g j g0 hg hj hne k hk hk0
  | cons q p ih =>
    obtain ⟨c, i⟩ := q
    intro cells row g0 hs hrow hj k hk hk0
    simp only [gRow] at hrow
    split at hrow
    · rename_i n v rows hc
      split at hrow
      · rename_i r hr
        have hsc := hs.1 _ _ hc
        cases hsc with
        | own _ _ _ s1 s2 s3 =>
          have hsr : SepRow r := ⟨fun c g hg => s1 i r c g hr hg, fun c g c' g' e e' hne k hk => s3 i r c g i r c' g' hr e hr e' (by simp [hne]) k hk⟩
          -- what lies deeper is the row's
          have hsub : ∀ (p : List (Nat × Nat)) {cells row : List GT}, gRow cells p = some row → ∀ k, FpRow row k → FpRow cells k := by
            intro p
            induction p with
            | nil => intro cells row h k hk; cases h; exact hk
            | cons q p ih2 =>
              obtain ⟨c2, i2⟩ := q
              intro cells row h k hk
              simp only [gRow] at h
              split at h
              · rename_i n2 v2 rows2 hc2
                split at h
                · rename_i r2 hr2
                  obtain ⟨c3, g3, hg3, hk3⟩ := ih2 h k hk
                  exact ⟨c2, _, hc2, .own _ _ _ i2 r2 c3 g3 k hr2 hg3 hk3⟩
                · cases h
              · cases h
          have h0r : FpRow r k := hsub p hrow k ⟨j, g0, hj, hk0⟩
          have hput : gPut cells ((c, i) :: p) j g1 = cells.set c (.own n v (rows.set i (gPut r p j g1))) := by simp only [gPut, hc, hr]
          rw [hput] at hk
          obtain ⟨c', g', hg', hk⟩ := hk
          rcases set_some hg' with ⟨rfl, rfl⟩ | ⟨hne, hg'⟩
          · generalize hq : GT.own n v (rows.set i (gPut r p j g1)) = q at hk
            cases hk with
            | own0 n' ad l cp rows' =>
              cases hq
              obtain ⟨c3, g3, hg3, hk3⟩ := h0r
              exact s2 i r c3 g3 hr hg3 ad l cp rfl hk3
            | own n' v' rows' i' r' j' g' _ hr' hg' hk =>
              cases hq
              rcases set_some hr' with ⟨rfl, rfl⟩ | ⟨hne, hr'⟩
              · exact ih hsr hrow hj k ⟨j', g', hg', hk⟩ hk0
              · obtain ⟨c3, g3, hg3, hk3⟩ := h0r
                exact s3 i' r' j' g' i r c3 g3 hr' hg' hr hg3 (by simp [hne]) k hk hk3
            | map => cases hq
            | iter => cases hq
          · obtain ⟨c3, g3, hg3, hk3⟩ := h0r
            exact hs.2 c' g' c _ hg' hc hne k hk (.own _ _ _ i r c3 g3 k hr hg3 hk3)
      · cases hrow
    · cases hrow
theorem gPut_put {g1 g2 : GT} {j : Nat} : ∀ (p : List (Nat × Nat)) {cells row : List GT}, gRow cells p = some row → gPut (gPut cells p j g1) p j g2 = gPut cells p j g2 := by
  intro p
  induction p with
  | nil => intro cells row h; simp [gPut]
  | cons q p ih =>
    obtain ⟨c, i⟩ := q
    intro cells row h
    simp only [gRow] at h
    split at h
    · rename_i n v rows hc
      split at h
      · rename_i r hr
        have hl : c < cells.length := (List.getElem?_eq_some_iff.1 hc).1
        have hli : i < rows.length := (List.getElem?_eq_some_iff.1 hr).1
        simp only [gPut, hc, hr, List.getElem?_set_self hl, List.getElem?_set_self hli, List.set_set, ih h]
      · cases h
    · cases h
theorem RowMem.alter {w w' : World} {A A' : Nat → Prop} {g0 g1 : GT} {j : Nat} {p : List (Nat × Nat)} {base : Option (Nat × Nat)} {cells row : List GT} (h : RowMem w A base cells) (hrow : gRow cells p = some row)
    (hj : row[j]? = some g0) (hv : g1.val = g0.val) (hm1 : Mem w' A' g1) (hs1 : Sep g1) (hf : ∀ k, Fp g1 k → Fp g0 k)
    (hw : ∀ b, b < w.heap.size → ¬ Fp g0 b → w'.heap[b]? = w.heap[b]?) (hwA : ∀ b, Fp g0 b → A b) (hA : ∀ b, b < w.heap.size → A' b → A b) (hb0 : ∀ b o, base = some (b, o) → b < w.heap.size ∧ ¬ Fp g0 b) :
    RowMem w' A' base (gPut cells p j g1) ∧ (∀ k, FpRow (gPut cells p j g1) k → FpRow cells k) ∧ (gPut cells p j g1).length = cells.length := by
  have hoc : g0.val.oneCell' = true := by
    obtain ⟨m1, _, _⟩ := h.row p hrow
    exact (m1.mem j g0 hj).oneCell
  obtain ⟨a1, a2, a3⟩ := RowMem.same (g1 := .lf .undef g0.val) (.lf _ _ (.undef _) hoc) (.lf _ _) p h hrow hj rfl (fun k hk => by cases hk)
  have hoff := gPut_off (g1 := .lf .undef g0.val) rfl p h.sep hrow hj
  have hA1 : ∀ b, b < w.heap.size → ¬ A b → w'.heap[b]? = w.heap[b]? := fun b hb ha => hw b hb fun hk => ha (hwA b hk)
  have hlt : ∀ k, FpRow (gPut cells p j (.lf .undef g0.val)) k → k < w.heap.size := fun k ⟨c, g, hg, hk⟩ => (a1.mem c g hg).fp_lt k hk
  have b1 : RowMem w' A' base (gPut cells p j (.lf .undef g0.val)) := a1.keep hA1 hA (fun b hb => hw b (hlt b hb) (hoff b hb)) (fun b o e => hw b (hb0 b o e).1 (hb0 b o e).2)
  obtain ⟨c1, c2, c3⟩ := RowMem.same (g1 := g1) hm1 hs1 p b1 (gRow_put p hrow hj) (List.getElem?_set_self (List.getElem?_eq_some_iff.1 hj).1) hv
    (fun k hk => .inr ⟨fun hk' => hoff k hk' (hf k hk), fun o e => (hb0 k o e).2 (hf k hk)⟩)
  rw [gPut_put p hrow] at c1 c2 c3
  refine ⟨c1, fun k hk => ?_, by rw [c3, a3]⟩
  rcases c2 k hk with hk | hk
  · rcases a2 k hk with hk | hk
    · exact hk
    · cases hk
  · obtain ⟨_, m2, _⟩ := h.row p hrow
    exact m2 k ⟨j, g0, hj, hf k hk⟩
end Go.Ab
namespace Go.Ab
open Go Go.RowKit
section
variable {A0 D0 : Nat → Prop} {w0 : World} {nt : Nat} {σ : St} {a : Act} {w : World} {G : Nat → Option GR}
theorem Holds.root (h : Holds A0 D0 w0 nt σ a w G) {x : Nat} {r : Root} (hs : getS σ.s x = some r) : ∃ g, G x = some g ∧ r.box = g.base.isSome ∧ CellsOK w (Own A0 G) G σ.n r.cells g.cells ∧ RowMem w (Own A0 G) g.at_ g.cells := by
  have hd := h.inv.dom x
  rw [hs] at hd
  obtain ⟨g, hg⟩ := Option.isSome_iff_exists.1 (show (G x).isSome = true from hd.symm)
  exact ⟨g, hg, h.inv.box x r g hs hg, h.inv.cells x r g hs hg, h.inv.row x g hg⟩
theorem Holds.place (h : Holds A0 D0 w0 nt σ a w G) {x : Nat} {r : Root} {g : GR} {p : List (Nat × Nat)} {grow : List GT} (hs : getS σ.s x = some r) (hg : G x = some g) (hrow : gRow g.cells p = some grow)
    (hbox : p = [] → r.box = true) : ∃ b o vs T, gBase g.at_ g.cells p = some (b, o) ∧ RFp g b ∧ w.heap[b]? = some (.cells vs T (0, 0)) ∧ o + grow.length ≤ vs.size := by
  have hm := h.inv.row x g hg
  by_cases hp : p = []
  · subst hp
    have hb := h.inv.box x r g hs hg
    rw [hbox rfl] at hb
    obtain ⟨b, hb⟩ := Option.isSome_iff_exists.1 hb.symm
    obtain ⟨vs, T, hh, hl⟩ := h.inv.base x g b hg hb
    cases hrow
    exact ⟨b, 0, vs, T, by simp [gBase, GR.at_, hb], .inl hb, hh, by omega⟩
  · obtain ⟨_, _, k3⟩ := hm.row p hrow
    obtain ⟨b, o, vs, T, e, k1, k2, k4⟩ := k3 hp
    exact ⟨b, o, vs, T, e, .inr k1, k2, k4⟩
theorem Holds.turn (h : Holds A0 D0 w0 nt σ a w G) {w' : World} {x : Nat} {r r' : Root} {g g' : GR} (hs : getS σ.s x = some r) (hg : G x = some g) (hbase : g'.base = g.base) (hr'b : r'.box = r.box) (hlen : g'.cells.length = g.cells.length)
    (hw : ∀ b, b < w.heap.size → ¬ RFp g b → w'.heap[b]? = w.heap[b]?) (hwf : w'.os = w.os ∧ w'.tape = w.tape ∧ w'.output = w.output ∧ w.heap.size ≤ w'.heap.size)
    (hwb : ∀ b vs T, g.base = some b → w.heap[b]? = some (.cells vs T (0, 0)) → ∃ vs', w'.heap[b]? = some (.cells vs' T (0, 0)) ∧ vs'.size = vs.size)
    (hfp : ∀ b, RFp g' b → RFp g b) (hrow : RowMem w' (Own A0 (Gset G x (some g'))) g.at_ g'.cells)
    (hR : ∀ y q c v, RefOK G y q c v → RefOK (Gset G x (some g')) y q c v) (hL : ∀ y q c v, LvOK G y q c v → LvOK (Gset G x (some g')) y q c v)
    (hcells : (∀ b, b < w.heap.size → Own A0 (Gset G x (some g')) b → Own A0 G b) → (∀ a v, Rel w (Own A0 G) G σ.n a v → Rel w' (Own A0 (Gset G x (some g'))) (Gset G x (some g')) σ.n a v) →
      CellsOK w' (Own A0 (Gset G x (some g'))) (Gset G x (some g')) σ.n r'.cells g'.cells) :
    Holds A0 D0 w0 nt { σ with s := updS σ.s x r' } a w' (Gset G x (some g')) := by
  have hown : ∀ b, GFp (Gset G x (some g')) b → GFp G b ∨ w.heap.size ≤ b := by
    rintro b ⟨y, gy, hy, hb⟩
    by_cases e : y = x
    · subst e; rw [Gset_self] at hy; cases hy
      exact .inl ⟨y, g, hg, hfp b hb⟩
    · rw [Gset_ne e] at hy; exact .inl ⟨y, gy, hy, hb⟩
  have hA : ∀ b, b < w.heap.size → Own A0 (Gset G x (some g')) b → Own A0 G b := fun b hb ho => ho.imp id fun hg' => (hown b hg').resolve_right (by omega)
  have hrel : ∀ a v, Rel w (Own A0 G) G σ.n a v → Rel w' (Own A0 (Gset G x (some g'))) (Gset G x (some g')) σ.n a v := fun a v hr =>
    hr.keep (Nat.le_refl _) (fun b hb ho => hw b hb fun hk => ho (.inr ⟨x, g, hg, hk⟩)) hA (fun y q c v _ => hR y q c v) (fun y q c v _ => hL y q c v)
  have hbx := h.inv.box x r g hs hg
  refine h.change id (fun y => y = x) (Nat.le_refl _) (fun b hb ho => hw b hb fun hk => ho ⟨x, g, hg, hk⟩) hwf hown hrel rfl (fun _ _ => rfl) (fun y => ?_) (fun y hy => ?_) (fun y gy hy hgy b hb => ?_) (fun y r1 g1 hy hr1 hg1 => ?_)
    (fun y g1 y' g2 hy hg1 hg2 hne b hb hb' => ?_) (mapT_id _).symm
  · show (getS (updS σ.s x r') y).isSome = _
    rw [getS_upd]
    by_cases e : y = x
    · subst e; simp [hs, Gset_self]
    · simp only [e, if_false, Gset_ne e]; exact h.inv.dom y
  · show getS (updS σ.s x r') y = _ ∧ _
    rw [getS_upd, if_neg hy, Gset_ne hy]
    exact ⟨by cases getS σ.s y <;> simp, rfl⟩
  · refine hw b (rfp_lt h.inv ⟨y, gy, hgy, hb⟩) fun hk => ?_
    exact h.inv.sep x g y gy hg hgy (Ne.symm hy) b hk hb
  · subst hy
    have hr1 : getS (updS σ.s y r') y = some r1 := hr1
    rw [getS_upd, if_pos rfl, hs] at hr1
    cases hr1
    rw [Gset_self] at hg1; cases hg1
    refine ⟨by rw [hr'b, hbx, hbase], hcells hA hrel, by rw [show g'.at_ = g.at_ by simp [GR.at_, hbase]]; exact hrow, fun b hb => ?_, h.inv.lt y g hg⟩
    rw [hbase] at hb
    obtain ⟨vs, T, hh, hl⟩ := h.inv.base y g b hg hb
    obtain ⟨vs', hh', hl'⟩ := hwb b vs T hb hh
    exact ⟨vs', T, hh', by rw [hl', hl, hlen]⟩
  · subst hy
    rw [Gset_self] at hg1; cases hg1
    rw [Gset_ne (Ne.symm hne)] at hg2
    exact h.inv.sep y g y' g2 hg hg2 hne b (hfp b hb) hb'
end
def GT.isOwn : GT → Bool
  | .own _ _ _ => true
  | _ => false
theorem not_own {g : GT} (h : g.isOwn = false) {n : Nat} {v : Value} {rows : List (List GT)} : g ≠ .own n v rows := by rintro rfl; cases h
theorem gPut_back2 {j : Nat} {g0 g1 : GT} (hno : g1.isOwn = false) (h1 : g1.leaf = true ∨ (g1.val = g0.val ∧ g0.leaf = false)) : ∀ (p : List (Nat × Nat)) {cells grow : List GT}, gRow cells p = some grow → grow[j]? = some g0 → ∀ (q : List (Nat × Nat)) {c : Nat} {row : List GT} {t : GT},
    gRow (gPut cells p j g1) q = some row → row[c]? = some t → t.leaf = false → ∃ row0 t', gRow cells q = some row0 ∧ row0[c]? = some t' ∧ t'.leaf = false ∧ t'.val = t.val := by
  intro p
  induction p with
  | nil =>
    intro cells grow hrow hj q c row t hq hc hl
    cases hrow
    cases q with
    | nil =>
      cases hq
      rcases set_some hc with ⟨rfl, rfl⟩ | ⟨_, hc⟩
      · rcases h1 with h | ⟨hv, hl0⟩
        · rw [hl] at h; cases h
        · exact ⟨_, g0, rfl, hj, hl0, hv.symm⟩
      · exact ⟨_, t, rfl, hc, hl, rfl⟩
    | cons s q =>
      obtain ⟨c1, i1⟩ := s
      by_cases hne : j = c1
      · subst hne
        exfalso
        simp only [gPut, gRow, List.getElem?_set_self (List.getElem?_eq_some_iff.1 hj).1] at hq
        split at hq
        · rename_i n v rows e; exact not_own hno (Option.some.inj e)
        · cases hq
      · simp only [gPut, gRow, List.getElem?_set_ne hne] at hq
        exact ⟨row, t, by simpa only [gRow] using hq, hc, hl, rfl⟩
  | cons s p ih =>
    obtain ⟨c0, i0⟩ := s
    intro cells grow hrow hj q c row t hq hc hl
    simp only [gRow] at hrow
    split at hrow
    · rename_i n v rows hcc
      split at hrow
      · rename_i r hr
        have hlc : c0 < cells.length := (List.getElem?_eq_some_iff.1 hcc).1
        have hput : gPut cells ((c0, i0) :: p) j g1 = cells.set c0 (.own n v (rows.set i0 (gPut r p j g1))) := by simp only [gPut, hcc, hr]
        rw [hput] at hq
        cases q with
        | nil =>
          cases hq
          rcases set_some hc with ⟨rfl, rfl⟩ | ⟨_, hc⟩
          · exact ⟨_, _, rfl, hcc, rfl, rfl⟩
          · exact ⟨_, t, rfl, hc, hl, rfl⟩
        | cons s q =>
          obtain ⟨c1, i1⟩ := s
          by_cases hcn : c0 = c1
          · subst hcn
            simp only [gRow, List.getElem?_set_self hlc] at hq
            split at hq
            · rename_i r1 hr1
              rcases set_some hr1 with ⟨rfl, rfl⟩ | ⟨hne, hr1⟩
              · obtain ⟨row0, t', k1, k2, k3, k4⟩ := ih hrow hj q hq hc hl
                exact ⟨row0, t', by simp only [gRow, hcc, hr]; exact k1, k2, k3, k4⟩
              · exact ⟨row, t, by simp only [gRow, hcc, hr1]; exact hq, hc, hl, rfl⟩
            · cases hq
          · simp only [gRow, List.getElem?_set_ne hcn] at hq
            exact ⟨row, t, by simpa only [gRow] using hq, hc, hl, rfl⟩
      · cases hrow
    · cases hrow
theorem gBase_put2 {j : Nat} {g1 : GT} (hno : g1.isOwn = false) : ∀ (p : List (Nat × Nat)) {cells row : List GT} {g0 : GT} (q : List (Nat × Nat)) {base : Option (Nat × Nat)} {s : Nat × Nat}, gRow cells p = some row → row[j]? = some g0 →
    gBase base (gPut cells p j g1) q = some s → gBase base cells q = some s := by
  intro p
  induction p with
  | nil =>
    intro cells row g0 q base s hrow hj hq
    cases hrow
    cases q with
    | nil => exact hq
    | cons x q =>
      obtain ⟨c1, i1⟩ := x
      by_cases hne : j = c1
      · subst hne
        exfalso
        simp only [gPut, gBase, List.getElem?_set_self (List.getElem?_eq_some_iff.1 hj).1] at hq
        split at hq
        · rename_i n ad l cp rows e; exact not_own hno (Option.some.inj e)
        · cases hq
      · simp only [gPut, gBase, List.getElem?_set_ne hne] at hq
        simpa only [gBase] using hq
  | cons x p ih =>
    obtain ⟨c0, i0⟩ := x
    intro cells row g0 q base s hrow hj hq
    simp only [gRow] at hrow
    split at hrow
    · rename_i n v rows hcc
      split at hrow
      · rename_i r hr
        have hl : c0 < cells.length := (List.getElem?_eq_some_iff.1 hcc).1
        have hput : gPut cells ((c0, i0) :: p) j g1 = cells.set c0 (.own n v (rows.set i0 (gPut r p j g1))) := by simp only [gPut, hcc, hr]
        rw [hput] at hq
        cases q with
        | nil => exact hq
        | cons y q =>
          obtain ⟨c1, i1⟩ := y
          by_cases hcn : c0 = c1
          · subst hcn
            simp only [gBase, List.getElem?_set_self hl] at hq
            cases v with
            | slice a l cp =>
              cases a with
              | none => simp at hq
              | some ad =>
                simp only at hq
                split at hq
                · rename_i r1 hr1
                  rcases set_some hr1 with ⟨rfl, rfl⟩ | ⟨hne, hr1⟩
                  · simp only [gBase, hcc, hr]
                    exact ih q hrow hj hq
                  · simp only [gBase, hcc, hr1]; exact hq
                · cases hq
            | _ => simp at hq
          · simp only [gBase, List.getElem?_set_ne hcn] at hq
            simpa only [gBase] using hq
      · cases hrow
    · cases hrow
theorem RefOK.turn {G : Nat → Option GR} {x : Nat} {g : GR} {p : List (Nat × Nat)} {grow : List GT} {j : Nat} {g0 g1 : GT} (hg : G x = some g) (hrow : gRow g.cells p = some grow) (hj : grow[j]? = some g0) (hno : g1.isOwn = false)
    (h1 : g1.leaf = true ∨ (g1.val = g0.val ∧ g0.leaf = false)) {y : Nat} {q : List (Nat × Nat)} {c : Nat} {v : Value} (h : RefOK G y q c v) : RefOK (Gset G x (some { g with cells := gPut g.cells p j g1 })) y q c v := by
  by_cases e : y = x
  · subst e
    intro r row t hr hrow' hc hl
    rw [Gset_self] at hr; cases hr
    obtain ⟨row0, t', k1, k2, k3, k4⟩ := gPut_back2 hno h1 p hrow hj q hrow' hc hl
    rw [← k4]; exact h g row0 t' hg k1 k2 k3
  · exact h.new e
theorem LvOK.turn {G : Nat → Option GR} {x : Nat} {g : GR} {p : List (Nat × Nat)} {grow : List GT} {j : Nat} {g0 g1 : GT} (hg : G x = some g) (hrow : gRow g.cells p = some grow) (hj : grow[j]? = some g0) (hno : g1.isOwn = false)
    {y : Nat} {q : List (Nat × Nat)} {c : Nat} {ad : Addr} (h : LvOK G y q c ad) : LvOK (Gset G x (some { g with cells := gPut g.cells p j g1 })) y q c ad := by
  by_cases e : y = x
  · subst e
    intro r b o hr hb
    rw [Gset_self] at hr; cases hr
    exact h g b o hg (gBase_put2 hno p q hrow hj hb)
  · exact h.new e
section
variable {A0 D0 : Nat → Prop} {w0 : World} {nt : Nat} {σ : St} {a : Act} {w : World} {G : Nat → Option GR}
theorem gPut_len {g1 : GT} {j : Nat} : ∀ (p : List (Nat × Nat)) (cells : List GT), (gPut cells p j g1).length = cells.length := by
  intro p cells
  cases p with
  | nil => simp [gPut]
  | cons q p =>
    obtain ⟨c, i⟩ := q
    simp only [gPut]
    split
    · split <;> simp
    · rfl
theorem cellAt {n : Nat} {A : Nat → Prop} {cs : List AV} {gs : List GT} (h : CellsOK w A G n cs gs) {j : Nat} (hj : j < cs.length) : ∃ g, gs[j]? = some g := ⟨gs[j]'(by rw [← h.len]; exact hj), List.getElem?_eq_getElem _⟩
theorem Holds.setLeaf (h : Holds A0 D0 w0 nt σ a w G) {x : Nat} {r : Root} {p : List (Nat × Nat)} {row : List AV} {j : Nat} (hs : getS σ.s x = some r) (hrow : rowOf r.cells p = some row) (hj : j < row.length) (hbox : p = [] → r.box = true)
    {av : AV} {u : Value} (hv : Rel w (Own A0 G) G σ.n av u) (hp : p ≠ [] → FR w (Own A0 G) av u) (hu : u.oneCell' = true) :
    ∃ g b o vs T grow g0, G x = some g ∧ gBase g.at_ g.cells p = some (b, o) ∧ w.heap[b]? = some (.cells vs T (0, 0)) ∧ o + j < vs.size ∧ gRow g.cells p = some grow ∧ grow[j]? = some g0 ∧
      Holds A0 D0 w0 nt { σ with s := updS σ.s x { r with cells := putAt r.cells p j av } } a (w.setCell ⟨b, o + j, none⟩ u) (Gset G x (some { g with cells := gPut g.cells p j (.lf (if p = [] then .undef else av) u) })) ∧
      ∀ a v, Rel w (Own A0 G) G σ.n a v → Rel (w.setCell ⟨b, o + j, none⟩ u) (Own A0 (Gset G x (some { g with cells := gPut g.cells p j (.lf (if p = [] then .undef else av) u) }))) (Gset G x (some { g with cells := gPut g.cells p j (.lf (if p = [] then .undef else av) u) })) σ.n a v := by
  obtain ⟨g, hg, hb, hcs, hm⟩ := h.root hs
  obtain ⟨grow, k1, k2, k3, k4⟩ := row_at hcs hm hrow
  obtain ⟨g0, hg0⟩ := cellAt k2 hj
  obtain ⟨b, o, vs, T, e1, e2, e3, e4⟩ := h.place hs hg k1 hbox
  have hjl : j < grow.length := (List.getElem?_eq_some_iff.1 hg0).1
  refine ⟨g, b, o, vs, T, grow, g0, hg, e1, e3, by omega, k1, hg0, ?_⟩
  have hmem : Mem w (Own A0 G) (.lf (if p = [] then .undef else av) u) := by
    refine .lf _ _ ?_ hu
    split
    · exact .undef u
    · rename_i hp'; exact hp hp'
  have hAb : Own A0 G b := .inr ⟨x, g, hg, e2⟩
  obtain ⟨m1, m2, m3⟩ := RowMem.put (w := w) (b := b) (o := o) (j := j) hmem (.lf _ _) hAb (fun hk => by cases hk) p hm k1 hg0 e1 (fun k hk => by cases hk) (fun b' o' _ hk => by cases hk)
  have hfp : ∀ k, RFp { g with cells := gPut g.cells p j (.lf (if p = [] then .undef else av) u) } k → RFp g k := fun k hk => hk.imp id fun hk => (m2 k hk).resolve_right (fun hk => by cases hk)
  have hkeep : ∀ k, k ≠ b → (w.setCell ⟨b, o + j, none⟩ u).heap[k]? = w.heap[k]? := fun k hk => heap_setCell_other w ⟨b, o + j, none⟩ k _ hk
  have hown : ∀ k, GFp (Gset G x (some { g with cells := gPut g.cells p j (.lf (if p = [] then .undef else av) u) })) k → GFp G k := by
    rintro k ⟨y, gy, hy, hk⟩
    by_cases e : y = x
    · subst e; rw [Gset_self] at hy; cases hy; exact ⟨y, g, hg, hfp k hk⟩
    · rw [Gset_ne e] at hy; exact ⟨y, gy, hy, hk⟩
  refine ⟨?_, fun a v hr => hr.keep (Nat.le_refl _) (fun k _ hk => hkeep k fun e => hk (e ▸ hAb)) (fun k _ hk => hk.imp id (hown k)) (fun y q c v _ hr => hr.turn hg k1 hg0 rfl (.inl rfl)) (fun y q c v _ hr => hr.turn hg k1 hg0 rfl)⟩
  refine h.turn (g' := { g with cells := gPut g.cells p j (.lf (if p = [] then .undef else av) u) }) hs hg rfl rfl (gPut_len p g.cells) (fun k _ hk => hkeep k fun e => hk (e ▸ e2)) ⟨rfl, rfl, rfl, by simp⟩ (fun b' vs' T' hb' hh' => ?_) hfp
    (m1.keep (fun _ _ _ => rfl) (fun k _ hk => hk.imp id (hown k)) (fun _ _ => rfl) (fun _ _ _ => rfl)) (fun y q c v hr => hr.turn hg k1 hg0 rfl (.inl rfl)) (fun y q c v hr => hr.turn hg k1 hg0 rfl) (fun hA hrel => ?_)
  · by_cases e : b' = b
    · subst e
      rw [e3] at hh'; cases hh'
      exact ⟨_, heap_setCell_self e3, by simp⟩
    · exact ⟨vs', by rw [hkeep b' e]; exact hh', rfl⟩
  · have hc := cells_put (f := id) (p := p) (j := j) (av := av) (g' := .lf (if p = [] then .undef else av) u) hcs hm hrow hrel (fun _ _ => rfl) ?_
    · rw [List.map_id] at hc; exact hc
    · by_cases hp' : p = []
      · exact .inr (.inl ⟨hp', rfl, hrel _ _ hv⟩)
      · exact .inr (.inr ⟨hp', by simp [GT.er, hp']⟩)
theorem Holds.setObj (h : Holds A0 D0 w0 nt σ a w G) {x : Nat} {r : Root} {p : List (Nat × Nat)} {row : List AV} {j : Nat} (hs : getS σ.s x = some r) (hrow : rowOf r.cells p = some row) {g : GR} {grow : List GT} {g0 g1 : GT} {w' : World}
    (hg : G x = some g) (hgr : gRow g.cells p = some grow) (hj : grow[j]? = some g0) (hl0 : g0.leaf = false) (hl1 : g1.leaf = false) (hno : g1.isOwn = false) (hv : g1.val = g0.val) (hs1 : Sep g1) (hf : ∀ k, Fp g1 k → Fp g0 k)
    (hw : ∀ b, b < w.heap.size → ¬ Fp g0 b → w'.heap[b]? = w.heap[b]?) (hwf : w'.os = w.os ∧ w'.tape = w.tape ∧ w'.output = w.output ∧ w.heap.size ≤ w'.heap.size)
    (hm1 : ∀ A, (∀ b, b < w.heap.size → A b → Own A0 G b) → Mem w' A g1) :
    Holds A0 D0 w0 nt { σ with s := updS σ.s x { r with cells := putAt r.cells p j g1.er } } a w' (Gset G x (some { g with cells := gPut g.cells p j g1 })) := by
  obtain ⟨g', hg', hb, hcs, hm⟩ := h.root hs
  rw [hg] at hg'; cases hg'
  have hfp0 : ∀ k, Fp g0 k → FpRow g.cells k := fun k hk => by
    obtain ⟨_, m2, _⟩ := hm.row p hgr
    exact m2 k ⟨j, g0, hj, hk⟩
  have hb0 : ∀ b o, g.at_ = some (b, o) → b < w.heap.size ∧ ¬ Fp g0 b := fun b o e => by
    have hbb : g.base = some b := by
      simp only [GR.at_, Option.map_eq_some_iff] at e
      obtain ⟨b', e1, e2⟩ := e; cases e2; exact e1
    exact ⟨rfp_lt h.inv ⟨x, g, hg, .inl hbb⟩, fun hk => hm.off b o e (hfp0 b hk)⟩
  have hA1 : ∀ (G' : Nat → Option GR), (∀ b, GFp G' b → GFp G b) → ∀ b, b < w.heap.size → Own A0 G' b → Own A0 G b := fun G' hG b _ hk => hk.imp id (hG b)
  have hgf : ∀ (cells : List GT), (∀ k, FpRow cells k → FpRow g.cells k) → ∀ k, GFp (Gset G x (some { g with cells := cells })) k → GFp G k := by
    rintro cells hc k ⟨y, gy, hy, hk⟩
    by_cases e : y = x
    · subst e; rw [Gset_self] at hy; cases hy; exact ⟨y, g, hg, hk.imp id (hc k)⟩
    · rw [Gset_ne e] at hy; exact ⟨y, gy, hy, hk⟩
  obtain ⟨m1, m2, m3⟩ := hm.alter (A' := Own A0 G) (w' := w') hgr hj hv (hm1 _ fun _ _ h => h) hs1 hf hw (fun b hk => .inr ⟨x, g, hg, .inr (hfp0 b hk)⟩) (fun _ _ h => h) hb0
  refine h.turn (g' := { g with cells := gPut g.cells p j g1 }) hs hg rfl rfl (gPut_len p g.cells) (fun k hk hn => hw k hk fun hk' => hn (.inr (hfp0 k hk'))) hwf (fun b vs T hb' hh => ⟨vs, ?_, rfl⟩) (fun k hk => hk.imp id (m2 k))
    (m1.keep (fun _ _ _ => rfl) (fun k _ hk => hk.imp id (hgf _ m2 k)) (fun _ _ => rfl) (fun _ _ _ => rfl)) (fun y q c v hr => hr.turn hg hgr hj hno (.inr ⟨hv, hl0⟩)) (fun y q c v hr => hr.turn hg hgr hj hno) (fun hA hrel => ?_)
  · obtain ⟨q1, q2⟩ := hb0 b 0 (by simp [GR.at_, hb'])
    rw [hw b q1 q2]; exact hh
  · have hc := cells_put (f := id) (p := p) (j := j) (av := g1.er) (g' := g1) hcs hm hrow hrel (fun _ _ => rfl) (.inl ⟨rfl, hl1⟩)
    rw [List.map_id] at hc; exact hc
theorem kill_tree {x : Nat} {p : List (Nat × Nat)} {j : Nat} (a : AV) (h : a.tree = true) : a.kill x p j = a := by
  cases a <;> first | (cases h; done) | (simp only [AV.kill])
theorem kill_undef {x : Nat} {p : List (Nat × Nat)} {j : Nat} : AV.undef.kill x p j = .undef := by simp only [AV.kill]
theorem Holds.adopt (h : Holds A0 D0 w0 nt σ a w G) {x y : Nat} {r : Root} {p : List (Nat × Nat)} {row : List AV} {j : Nat} (hs : getS σ.s x = some r) (hrow : rowOf r.cells p = some row) {g : GR} {grow : List GT} {g0 t : GT} (hxy : y ≠ x)
    (hg : G x = some g) (hgr : gRow g.cells p = some grow) (hj : grow[j]? = some g0) (hy : G y = some ⟨none, [t]⟩) (htl : t.leaf = false) (hv : t.val = g0.val) :
    Holds A0 D0 w0 nt { n := σ.n, t := mapT (AV.kill x p j) σ.t, s := updS (delS (mapS (AV.kill x p j) σ.s) y) x { r with cells := putAt (r.cells.map (AV.kill x p j)) p j t.er } } a w
      (Gset (Gset G x (some { g with cells := gPut g.cells p j t })) y none) ∧
      ∀ a v, Rel w (Own A0 G) G σ.n a v → Rel w (Own A0 (Gset (Gset G x (some { g with cells := gPut g.cells p j t })) y none)) (Gset (Gset G x (some { g with cells := gPut g.cells p j t })) y none) σ.n (a.kill x p j) v := by
  obtain ⟨g', hg', hb, hcs, hm⟩ := h.root hs
  rw [hg] at hg'; cases hg'
  have hty := h.inv.row y _ hy
  have htm : Mem w (Own A0 G) t := hty.mem 0 t rfl
  have hts : Sep t := hty.sep.1 0 t rfl
  have hyfp : ∀ k, Fp t k → RFp ⟨none, [t]⟩ k := fun k hk => .inr ⟨0, t, rfl, hk⟩
  have hdis : ∀ k, Fp t k → ¬ RFp g k := fun k hk => h.inv.sep y _ x g hy hg hxy k (hyfp k hk)
  obtain ⟨m1, m2, m3⟩ := RowMem.same (g1 := t) htm hts p hm hgr hj hv (fun k hk => .inr ⟨fun hk' => hdis k hk (.inr hk'), fun o e => hdis k hk (.inl (by
    simp only [GR.at_, Option.map_eq_some_iff] at e
    obtain ⟨b', e1, e2⟩ := e; cases e2; exact e1))⟩)
  have hfp : ∀ k, RFp { g with cells := gPut g.cells p j t } k → RFp g k ∨ Fp t k := fun k hk => by
    rcases hk with hk | hk
    · exact .inl (.inl hk)
    · exact (m2 k hk).imp .inr id
  have hown : ∀ k, GFp (Gset (Gset G x (some { g with cells := gPut g.cells p j t })) y none) k → GFp G k := by
    rintro k ⟨z, gz, hz, hk⟩
    by_cases e : z = y
    · subst e; rw [Gset_self] at hz; cases hz
    · rw [Gset_ne e] at hz
      by_cases e' : z = x
      · subst e'; rw [Gset_self] at hz; cases hz
        rcases hfp k hk with hk | hk
        · exact ⟨z, g, hg, hk⟩
        · exact ⟨y, _, hy, hyfp k hk⟩
      · rw [Gset_ne e'] at hz; exact ⟨z, gz, hz, hk⟩
  have hR : ∀ z q c v, z < σ.n → (x = z → through p j q c = false) → RefOK G z q c v → RefOK (Gset (Gset G x (some { g with cells := gPut g.cells p j t })) y none) z q c v := by
    intro z q c v _ hth hr r' row' u hz hq hc hl
    by_cases e : z = y
    · subst e; rw [Gset_self] at hz; cases hz
    · rw [Gset_ne e] at hz
      by_cases e' : z = x
      · subst e'; rw [Gset_self] at hz; cases hz
        obtain ⟨row0, t', k1, k2, k3, k4⟩ := gPut_back p q hgr hj hq hc hl (.inl (hth rfl))
        rw [← k4]; exact hr g row0 t' hg k1 k2 k3
      · rw [Gset_ne e'] at hz; exact hr r' row' u hz hq hc hl
  have hL : ∀ z q c ad, z < σ.n → (x = z → q = []) → LvOK G z q c ad → LvOK (Gset (Gset G x (some { g with cells := gPut g.cells p j t })) y none) z q c ad := by
    intro z q c ad _ hth hr r' b o hz hq
    by_cases e : z = y
    · subst e; rw [Gset_self] at hz; cases hz
    · rw [Gset_ne e] at hz
      by_cases e' : z = x
      · subst e'; rw [Gset_self] at hz; cases hz
        have := hth rfl; subst this
        exact hr g b o hg hq
      · rw [Gset_ne e'] at hz; exact hr r' b o hz hq
  have hA : ∀ b, b < w.heap.size → Own A0 (Gset (Gset G x (some { g with cells := gPut g.cells p j t })) y none) b → Own A0 G b := fun b _ hk => hk.imp id (hown b)
  have hrel : ∀ a v, Rel w (Own A0 G) G σ.n a v → Rel w (Own A0 (Gset (Gset G x (some { g with cells := gPut g.cells p j t })) y none)) (Gset (Gset G x (some { g with cells := gPut g.cells p j t })) y none) σ.n (a.kill x p j) v :=
    fun a v hr => hr.keepKill (Nat.le_refl _) (fun _ _ _ => rfl) hA hR hL
  refine ⟨?_, hrel⟩
  refine h.change (σ' := { n := σ.n, t := mapT (AV.kill x p j) σ.t, s := updS (delS (mapS (AV.kill x p j) σ.s) y) x { r with cells := putAt (r.cells.map (AV.kill x p j)) p j t.er } }) (AV.kill x p j) (fun z => z = x ∨ z = y) (Nat.le_refl _) (fun _ _ _ => rfl) ⟨rfl, rfl, rfl, Nat.le_refl _⟩ (fun b hb => .inl (hown b hb)) hrel kill_undef kill_tree (fun z => ?_) (fun z hz => ?_) (fun _ _ _ _ _ _ => rfl)
    (fun z r1 g1 hz hr1 hg1 => ?_) (fun z g1 z' g2 hz hg1 hg2 hne b hb hb' => ?_) rfl
  · show (getS (updS (delS (mapS _ σ.s) y) x _) z).isSome = _
    rw [getS_upd, getS_del, getS_map]
    by_cases e : z = y
    · subst e; rw [Gset_self, if_neg hxy, getS_del]; simp
    · rw [Gset_ne e]
      by_cases e' : z = x
      · subst e'; simp [hs, Gset_self, e]
      · rw [Gset_ne e', if_neg e', getS_del, if_neg e, getS_map]
        have := h.inv.dom z
        simpa using this
  · have e' : z ≠ x := fun e => hz (.inl e)
    have e : z ≠ y := fun e => hz (.inr e)
    show getS (updS (delS (mapS _ σ.s) y) x _) z = _ ∧ _
    rw [getS_upd, if_neg e', getS_del, if_neg e, getS_map, Gset_ne e, Gset_ne e']
    exact ⟨rfl, rfl⟩
  · have hr1 : getS (updS (delS (mapS (AV.kill x p j) σ.s) y) x { r with cells := putAt (r.cells.map (AV.kill x p j)) p j t.er }) z = some r1 := hr1
    rcases hz with rfl | rfl
    · rw [getS_upd, if_pos rfl, getS_del, if_neg (Ne.symm hxy), getS_map, hs] at hr1
      cases hr1
      rw [Gset_ne (Ne.symm hxy), Gset_self] at hg1; cases hg1
      refine ⟨hb, cells_put hcs hm hrow hrel kill_tree (.inl ⟨rfl, htl⟩), m1.keep (fun _ _ _ => rfl) hA (fun _ _ => rfl) (fun _ _ _ => rfl), fun b hb => ?_, h.inv.lt z g hg⟩
      obtain ⟨vs, T, hh, hl⟩ := h.inv.base z g b hg hb
      exact ⟨vs, T, hh, by rw [hl]; exact (gPut_len p g.cells).symm⟩
    · rw [Gset_self] at hg1; cases hg1
  · have hz'y : z' ≠ y := fun e => by subst e; rw [Gset_self] at hg2; cases hg2
    have hzy : z ≠ y := fun e => by subst e; rw [Gset_self] at hg1; cases hg1
    have hzx : z = x := hz.resolve_right hzy
    subst hzx
    rw [Gset_ne hzy, Gset_self] at hg1; cases hg1
    rw [Gset_ne hz'y, Gset_ne (Ne.symm hne)] at hg2
    rcases hfp b hb with hb | hb
    · exact h.inv.sep z g z' g2 hg hg2 hne b hb hb'
    · exact h.inv.sep y _ z' g2 hy hg2 (Ne.symm hz'y) b (hyfp b hb) hb'
theorem Holds.consume (h : Holds A0 D0 w0 nt σ a w G) {x N : Nat} {r : Root} {p : List (Nat × Nat)} {row : List AV} {j : Nat} (hN : σ.n ≤ N) (hs : getS σ.s x = some r) (hrow : rowOf r.cells p = some row) {g : GR} {grow : List GT} {g0 t : GT} {w' : World}
    (hg : G x = some g) (hgr : gRow g.cells p = some grow) (hj : grow[j]? = some g0)
    (hw : ∀ b, b < w.heap.size → ¬ Fp g0 b → w'.heap[b]? = w.heap[b]?) (hwf : w'.os = w.os ∧ w'.tape = w.tape ∧ w'.output = w.output ∧ w.heap.size ≤ w'.heap.size)
    (htl : t.leaf = false) (hts : Sep t) (htf : ∀ k, Fp t k → Fp g0 k ∨ w.heap.size ≤ k) (htm : ∀ A, (∀ b, b < w.heap.size → A b → Own A0 G b) → Mem w' A t) :
    Holds A0 D0 w0 nt { n := N + 1, t := σ.t, s := (N, ⟨false, [t.er]⟩) :: updS σ.s x { r with cells := putAt r.cells p j .undef } } a w'
      (Gset (Gset G x (some { g with cells := gPut g.cells p j (.lf .undef g0.val) })) N (some ⟨none, [t]⟩)) := by
  obtain ⟨g', hg', hb, hcs, hm⟩ := h.root hs
  rw [hg] at hg'; cases hg'
  have hfp0 : ∀ k, Fp g0 k → FpRow g.cells k := fun k hk => by
    obtain ⟨_, m2, _⟩ := hm.row p hgr
    exact m2 k ⟨j, g0, hj, hk⟩
  have hoc : g0.val.oneCell' = true := by
    obtain ⟨m1, _, _⟩ := hm.row p hgr
    exact (m1.mem j g0 hj).oneCell
  have hxN : x ≠ N := fun e => by have := h.inv.lt x g hg; omega
  obtain ⟨m1, m2, m3⟩ := RowMem.same (g1 := .lf .undef g0.val) (.lf _ _ (.undef _) hoc) (.lf _ _) p hm hgr hj rfl (fun k hk => by cases hk)
  have hoff := gPut_off (g1 := .lf .undef g0.val) (j := j) rfl p hm.sep hgr hj
  have hbase0 : ∀ b o, g.at_ = some (b, o) → b < w.heap.size ∧ ¬ Fp g0 b := fun b o e => by
    have hbb : g.base = some b := by
      simp only [GR.at_, Option.map_eq_some_iff] at e
      obtain ⟨b', e1, e2⟩ := e; cases e2; exact e1
    exact ⟨rfp_lt h.inv ⟨x, g, hg, .inl hbb⟩, fun hk => hm.off b o e (hfp0 b hk)⟩
  have hfp : ∀ k, RFp { g with cells := gPut g.cells p j (.lf .undef g0.val) } k → RFp g k ∧ ¬ Fp g0 k := fun k hk => by
    rcases hk with hk | hk
    · exact ⟨.inl hk, (hbase0 k 0 (by simp [GR.at_]; exact hk)).2⟩
    · exact ⟨.inr ((m2 k hk).resolve_right (fun hk => by cases hk)), hoff k hk⟩
  have hNfp : ∀ k, RFp ⟨none, [t]⟩ k → Fp t k := by
    rintro k (hk | ⟨c, g1, hc, hk⟩)
    · cases hk
    · cases c with
      | zero => cases hc; exact hk
      | succ c => simp at hc
  have hown : ∀ k, GFp (Gset (Gset G x (some { g with cells := gPut g.cells p j (.lf .undef g0.val) })) N (some ⟨none, [t]⟩)) k → GFp G k ∨ w.heap.size ≤ k := by
    rintro k ⟨z, gz, hz, hk⟩
    by_cases e : z = N
    · subst e; rw [Gset_self] at hz; cases hz
      exact (htf k (hNfp k hk)).imp (fun hk => ⟨x, g, hg, .inr (hfp0 k hk)⟩) id
    · rw [Gset_ne e] at hz
      by_cases e' : z = x
      · subst e'; rw [Gset_self] at hz; cases hz
        exact .inl ⟨z, g, hg, (hfp k hk).1⟩
      · rw [Gset_ne e'] at hz; exact .inl ⟨z, gz, hz, hk⟩
  have hA : ∀ b, b < w.heap.size → Own A0 (Gset (Gset G x (some { g with cells := gPut g.cells p j (.lf .undef g0.val) })) N (some ⟨none, [t]⟩)) b → Own A0 G b := fun b hb hk => hk.imp id fun hk => (hown b hk).resolve_right (by omega)
  have hwo : ∀ b, b < w.heap.size → ¬ GFp G b → w'.heap[b]? = w.heap[b]? := fun b hb hk => hw b hb fun hk' => hk ⟨x, g, hg, .inr (hfp0 b hk')⟩
  have hR : ∀ z q c v, z < σ.n → RefOK G z q c v → RefOK (Gset (Gset G x (some { g with cells := gPut g.cells p j (.lf .undef g0.val) })) N (some ⟨none, [t]⟩)) z q c v := fun z q c v hz hr =>
    RefOK.new (by omega) (hr.turn hg hgr hj rfl (.inl rfl))
  have hL : ∀ z q c v, z < σ.n → LvOK G z q c v → LvOK (Gset (Gset G x (some { g with cells := gPut g.cells p j (.lf .undef g0.val) })) N (some ⟨none, [t]⟩)) z q c v := fun z q c v hz hr =>
    LvOK.new (by omega) (hr.turn hg hgr hj rfl)
  have hrel : ∀ a v, Rel w (Own A0 G) G σ.n a v → Rel w' (Own A0 (Gset (Gset G x (some { g with cells := gPut g.cells p j (.lf .undef g0.val) })) N (some ⟨none, [t]⟩))) (Gset (Gset G x (some { g with cells := gPut g.cells p j (.lf .undef g0.val) })) N (some ⟨none, [t]⟩)) (N + 1) a v :=
    fun a v hr => hr.keep (by omega) (fun b hb ho => hwo b hb fun hk => ho (.inr hk)) hA hR hL
  refine h.change (σ' := { n := N + 1, t := σ.t, s := (N, ⟨false, [t.er]⟩) :: updS σ.s x { r with cells := putAt r.cells p j .undef } }) id (fun z => z = x ∨ z = N) (by simp; omega) hwo hwf hown hrel rfl (fun _ _ => rfl) (fun z => ?_) (fun z hz => ?_) (fun z gz hz hgz b hb => ?_)
    (fun z r1 g1 hz hr1 hg1 => ?_) (fun z g1 z' g2 hz hg1 hg2 hne b hb hb' => ?_) (mapT_id _).symm
  · simp only [getS]
    by_cases e : N = z
    · subst e; simp [Gset_self]
    · rw [if_neg e, Gset_ne (Ne.symm e), getS_upd]
      by_cases e' : z = x
      · subst e'; simp [hs, Gset_self]
      · rw [if_neg e', Gset_ne e']; exact h.inv.dom z
  · have e' : z ≠ x := fun e => hz (.inl e)
    have e : z ≠ N := fun e => hz (.inr e)
    simp only [getS]
    rw [if_neg (Ne.symm e), getS_upd, if_neg e', Gset_ne e, Gset_ne e']
    exact ⟨by cases getS σ.s z <;> simp, rfl⟩
  · have e' : z ≠ x := fun e => hz (.inl e)
    exact hw b (rfp_lt h.inv ⟨z, gz, hgz, hb⟩) fun hk => h.inv.sep x g z gz hg hgz (Ne.symm e') b (.inr (hfp0 b hk)) hb
  · simp only [getS] at hr1
    rcases hz with rfl | rfl
    · rw [if_neg (Ne.symm hxN), getS_upd, if_pos rfl, hs] at hr1
      cases hr1
      rw [Gset_ne hxN, Gset_self] at hg1; cases hg1
      refine ⟨hb, ?_, m1.keep (fun b hb ho => hw b hb fun hk => ho (.inr ⟨z, g, hg, .inr (hfp0 b hk)⟩)) hA (fun b hb => ?_) (fun b o e => ?_), fun b hb => ?_, by have := h.inv.lt z g hg; simp; omega⟩
      · have hc := cells_put (f := id) (p := p) (j := j) (av := .undef) (g' := .lf .undef g0.val) hcs hm hrow hrel (fun _ _ => rfl) ?_
        · rw [List.map_id] at hc; exact hc
        · by_cases hp' : p = []
          · exact .inr (.inl ⟨hp', rfl, .fr _ _ (.undef _)⟩)
          · exact .inr (.inr ⟨hp', by simp [GT.er]⟩)
      · refine hw b ?_ (hoff b hb)
        obtain ⟨c, gc, hgc, hk⟩ := hb
        exact (m1.mem c gc hgc).fp_lt b hk
      · exact hw b (hbase0 b o e).1 (hbase0 b o e).2
      · obtain ⟨vs, T, hh, hl⟩ := h.inv.base z g b hg hb
        refine ⟨vs, T, ?_, by rw [hl]; exact (gPut_len p g.cells).symm⟩
        obtain ⟨q1, q2⟩ := hbase0 b 0 (by simp [GR.at_]; exact hb)
        rw [hw b q1 q2]; exact hh
    · rw [if_pos rfl] at hr1; cases hr1
      rw [Gset_self] at hg1; cases hg1
      refine ⟨rfl, ⟨rfl, fun c a g1 ha hg1 => ?_⟩, ⟨fun c g1 hg1 => ?_, ⟨fun c g1 hg1 => ?_, fun c g1 c' g2 hg1 hg2 hne => ?_⟩, fun b o e => by simp [GR.at_] at e, fun b o e => by simp [GR.at_] at e⟩, fun b e => by simp at e, by simp⟩
      · cases c with
        | zero => cases ha; cases hg1; exact .inl ⟨htl, rfl⟩
        | succ c => simp at ha
      · cases c with
        | zero => cases hg1; exact htm _ hA
        | succ c => simp at hg1
      · cases c with
        | zero => cases hg1; exact hts
        | succ c => simp at hg1
      · cases c with
        | zero => cases c' with
          | zero => exact absurd rfl hne
          | succ c' => simp at hg2
        | succ c => simp at hg1
  · -- what the new root owns is none's any more
    have hNo : ∀ k, Fp t k → ∀ z gz, G z = some gz → z ≠ x → ¬ RFp gz k := fun k hk z gz hgz hne hk' => by
      rcases htf k hk with hk | hk
      · exact h.inv.sep x g z gz hg hgz (Ne.symm hne) k (.inr (hfp0 k hk)) hk'
      · have := rfp_lt h.inv ⟨z, gz, hgz, hk'⟩; omega
    have hNx : ∀ k, Fp t k → ¬ RFp { g with cells := gPut g.cells p j (.lf .undef g0.val) } k := fun k hk hk' => by
      rcases htf k hk with hk | hk
      · exact (hfp k hk').2 hk
      · have := rfp_lt h.inv ⟨x, g, hg, (hfp k hk').1⟩; omega
    by_cases ez : z = N
    · subst ez
      rw [Gset_self] at hg1; cases hg1
      rw [Gset_ne (Ne.symm hne)] at hg2
      by_cases ez' : z' = x
      · subst ez'; rw [Gset_self] at hg2; cases hg2; exact hNx b (hNfp b hb) hb'
      · rw [Gset_ne ez'] at hg2; exact hNo b (hNfp b hb) z' g2 hg2 ez' hb'
    · have ezx : z = x := hz.resolve_right ez
      subst ezx
      rw [Gset_ne ez, Gset_self] at hg1; cases hg1
      by_cases ez' : z' = N
      · subst ez'; rw [Gset_self] at hg2; cases hg2; exact hNx b (hNfp b hb') hb
      · rw [Gset_ne ez', Gset_ne (Ne.symm hne)] at hg2
        exact h.inv.sep z g z' g2 hg hg2 hne b (hfp b hb).1 hb'
end
end Go.Ab
namespace Go.Ab
open Go Go.RowKit
def AV.freeze : AV → AV
  | .own n es => .sl n (es.map fun r => r.map freeze)
  | .omap es => .fmap es
  | .iter _ _ => .undef
  | a => a
  decreasing_by
  have h1 := List.sizeOf_lt_of_mem ‹r ∈ es›
  have h2 := List.sizeOf_lt_of_mem ‹_ ∈ r›
  simp
  omega
theorem freeze_plain {a : AV} (h : a.tree = false) : a.freeze = a := by
  cases a <;> first | (cases h; done) | simp only [AV.freeze]
theorem FR.not_tree {w : World} {A : Nat → Prop} {a : AV} {v : Value} (h : FR w A a v) : a.tree = false := by cases h <;> rfl
theorem Mem.freeze {w : World} {A A' : Nat → Prop} {g : GT} (h : Mem w A g) (hA : ∀ b, b < w.heap.size → A' b → A b) (hf : ∀ b, Fp g b → ¬ A' b) : FR w A' g.er.freeze g.val := by
  induction h with
  | lf a v h h1 =>
    simp only [GT.er, GT.val]
    rw [freeze_plain h.not_tree]
    exact h.keep (fun _ _ _ => rfl) hA
  | onil n => simp only [GT.er, GT.val, AV.freeze, List.map_nil]; exact .slnil n
  | own n b cap vs T rows h1 h2 h3 h4 h5 h6 h7 h8 ih =>
    simp only [GT.er, GT.val, AV.freeze, List.map_map]
    have hl : (rows.map ((fun r => r.map AV.freeze) ∘ fun r => r.map GT.er)).length = rows.length := by simp
    rw [← hl]
    have hget : ∀ (i : Nat) (e : List AV), (rows.map ((fun r => r.map AV.freeze) ∘ fun r => r.map GT.er))[i]? = some e → ∃ r, rows[i]? = some r ∧ e = (r.map GT.er).map AV.freeze := by
      intro i e h
      simp only [List.getElem?_map, Option.map_eq_some_iff, Function.comp] at h
      obtain ⟨r, hr, rfl⟩ := h
      exact ⟨r, hr, rfl⟩
    refine .sl n _ b 0 cap (by simpa using h3) h4 (by simpa using h5) (fun i e he => ?_) (fun i e j a he ha => ?_) (fun i e j a he ha => ?_)
    · obtain ⟨r, hr, rfl⟩ := hget i e he
      simpa using h6 i r hr
    · obtain ⟨r, hr, rfl⟩ := hget i e he
      simp only [List.getElem?_map, Option.map_eq_some_iff] at ha
      obtain ⟨a0, ⟨g, hg, rfl⟩, rfl⟩ := ha
      exact ⟨hf b (.own0 n ⟨b, 0, none⟩ _ _ _), by rw [Nat.zero_add, h7 i r j g hr hg]; rfl⟩
    · obtain ⟨r, hr, rfl⟩ := hget i e he
      simp only [List.getElem?_map, Option.map_eq_some_iff] at ha
      obtain ⟨a0, ⟨g, hg, rfl⟩, rfl⟩ := ha
      have := ih i r j g hr hg fun k hk => hf k (.own _ _ _ i r j g k hr hg hk)
      unfold rdw
      rw [Nat.zero_add, h7 i r j g hr hg]
      exact this
  | map b ents clock es h1 h2 h3 h4 h5 _ =>
    simp only [GT.er, GT.val, AV.freeze]
    exact .fmap es b ents clock (hf b (.map b es)) h1 h2 h3 h4 (fun i p hp => (h5 i p hp).keep (fun _ _ _ => rfl) hA)
  | iter b s p h => simp only [GT.er, AV.freeze]; exact .undef _
mutual
def Sub (m : Nat → Nat) (n : Nat) : AV → AV → Prop
  | .undef, _ => True
  | .ref x p c, b => b = .ref (m x) p c ∧ x < n
  | .lv x p j, b => b = .lv (m x) p j ∧ x < n
  | .agg l, b => ∃ l', b = .agg l' ∧ SubL m n l l'
  | .tup l, b => ∃ l', b = .tup l' ∧ SubL m n l l'
  | .func f x y, b => ∃ x' y', b = .func f x' y' ∧ SubL m n x x' ∧ SubL m n y y'
  | .ifc t a, b => ∃ a', b = .ifc t a' ∧ Sub m n a a'
  | .bool c, b => b = .bool c
  | .int k i, b => b = .int k i
  | .str s, b => b = .str s
  | .nilsl, b => b = .nilsl
  | .sl k l, b => b = .sl k l
  | .tight k l, b => b = .tight k l
  | .own k l, b => b = .own k l
  | .nilp, b => b = .nilp
  | .fp l, b => b = .fp l
  | .nilmap, b => b = .nilmap
  | .fmap l, b => b = .fmap l
  | .omap l, b => b = .omap l
  | .iter s p, b => b = .iter s p
  | .nilfunc, b => b = .nilfunc
  | .nili, b => b = .nili
def SubL (m : Nat → Nat) (n : Nat) : List AV → List AV → Prop
  | [], [] => True
  | a :: r, b :: s => Sub m n a b ∧ SubL m n r s
  | _, _ => False
end

theorem SubL.len {m : Nat → Nat} {n : Nat} : ∀ {l l' : List AV}, SubL m n l l' → l'.length = l.length
  | [], [], _ => rfl
  | a :: r, b :: s, h => by simp only [SubL] at h; simp [h.2.len]
  | [], b :: s, h => by simp [SubL] at h
  | a :: r, [], h => by simp [SubL] at h
theorem SubL.at_ {m : Nat → Nat} {n : Nat} : ∀ {l l' : List AV}, SubL m n l l' → ∀ (i : Nat) (a : AV), l[i]? = some a → ∃ b, l'[i]? = some b ∧ Sub m n a b
  | [], [], _, i, a, h => by simp at h
  | a :: r, b :: s, h, i, c, hi => by
    simp only [SubL] at h
    cases i with
    | zero => simp at hi; subst hi; exact ⟨b, rfl, h.1⟩
    | succ i => simp at hi ⊢; exact h.2.at_ i c hi
  | [], b :: s, h, i, a, hi => by simp [SubL] at h
  | a :: r, [], h, i, c, hi => by simp [SubL] at h
theorem Sub.tree {m : Nat → Nat} {n : Nat} {a b : AV} (h : Sub m n a b) (ht : a.tree = true) : b = a := by
  cases a <;> first | (cases ht; done) | (simpa only [Sub] using h)
def AV.simple : AV → Bool
  | .undef | .ref _ _ _ | .lv _ _ _ | .agg _ | .tup _ | .func _ _ _ | .ifc _ _ => false
  | _ => true
theorem Sub.inv {m : Nat → Nat} {n : Nat} {a b : AV} (h : Sub m n a b) : a = .undef ∨ (b = a ∧ a.simple = true) ∨ (∃ x p c, a = .ref x p c ∧ b = .ref (m x) p c ∧ x < n) ∨ (∃ x p c, a = .lv x p c ∧ b = .lv (m x) p c ∧ x < n) ∨
    (∃ l l', a = .agg l ∧ b = .agg l' ∧ SubL m n l l') ∨ (∃ l l', a = .tup l ∧ b = .tup l' ∧ SubL m n l l') ∨ (∃ f x y x' y', a = .func f x y ∧ b = .func f x' y' ∧ SubL m n x x' ∧ SubL m n y y') ∨ (∃ t u u', a = .ifc t u ∧ b = .ifc t u' ∧ Sub m n u u') := by
  cases a with
  | undef => exact .inl rfl
  | ref x p c => simp only [Sub] at h; exact .inr (.inr (.inl ⟨_, _, _, rfl, h⟩))
  | lv x p c => simp only [Sub] at h; exact .inr (.inr (.inr (.inl ⟨_, _, _, rfl, h⟩)))
  | agg l => rw [Sub] at h; obtain ⟨l', e, s⟩ := h; exact .inr (.inr (.inr (.inr (.inl ⟨_, _, rfl, e, s⟩))))
  | tup l => rw [Sub] at h; obtain ⟨l', e, s⟩ := h; exact .inr (.inr (.inr (.inr (.inr (.inl ⟨_, _, rfl, e, s⟩)))))
  | func f x y => rw [Sub] at h; obtain ⟨x', y', e, s, s'⟩ := h; exact .inr (.inr (.inr (.inr (.inr (.inr (.inl ⟨_, _, _, _, _, rfl, e, s, s'⟩))))))
  | ifc t u => rw [Sub] at h; obtain ⟨u', e, s⟩ := h; exact .inr (.inr (.inr (.inr (.inr (.inr (.inr ⟨_, _, _, rfl, e, s⟩))))))
  | _ => rw [Sub] at h; exact .inr (.inl ⟨h, rfl⟩)
def Part (m : Nat → Nat) (G G' : Nat → Option GR) : Prop := ∀ x g, G' x = some g → ∃ g0, G (m x) = some g0 ∧ g0.base = g.base ∧ g0.cells.length = g.cells.length ∧ ∀ (c : Nat) (t : GT), g.cells[c]? = some t → g0.cells[c]? = some t ∨ (t.leaf = true ∧ ∃ t0, g0.cells[c]? = some t0 ∧ t0.val = t.val)
theorem Part.row {m : Nat → Nat} {G G' : Nat → Option GR} (h : Part m G G') {x : Nat} {g : GR} (hx : G' x = some g) : ∃ g0, G (m x) = some g0 ∧ (∀ p row, gRow g.cells p = some row → ∃ row0, gRow g0.cells p = some row0 ∧ ∀ (c : Nat) (t : GT), row[c]? = some t → t.leaf = false → row0[c]? = some t) ∧
    (∀ p s, gBase g.at_ g.cells p = some s → gBase g0.at_ g0.cells p = some s) := by
  obtain ⟨g0, h1, h2, h3, h4⟩ := h x g hx
  refine ⟨g0, h1, fun p row hr => ?_, fun p s hs => ?_⟩
  · cases p with
    | nil =>
      cases hr
      exact ⟨_, rfl, fun c t ht hl => (h4 c t ht).resolve_right fun hx => by rw [hl] at hx; cases hx.1⟩
    | cons q p =>
      obtain ⟨c, i⟩ := q
      simp only [gRow] at hr ⊢
      split at hr
      · rename_i n v rows hc
        rw [(h4 c _ hc).resolve_right fun hx => by cases hx.1]
        exact ⟨row, hr, fun _ _ h _ => h⟩
      · cases hr
  · cases p with
    | nil => simp only [gBase, GR.at_, h2] at hs ⊢; exact hs
    | cons q p =>
      obtain ⟨c, i⟩ := q
      simp only [gBase] at hs ⊢
      split at hs
      · rename_i n ad l cp rows hc
        rw [(h4 c _ hc).resolve_right fun hx => by cases hx.1]
        exact hs
      · cases hs
theorem RefOK.part {m : Nat → Nat} {G G' : Nat → Option GR} (h : Part m G G') {x : Nat} {p : List (Nat × Nat)} {c : Nat} {v : Value} (hr : RefOK G (m x) p c v) : RefOK G' x p c v := by
  intro r row t hx hp hc hl
  obtain ⟨g0, k1, k2, _⟩ := h.row hx
  obtain ⟨row0, k3, k4⟩ := k2 p row hp
  exact hr g0 row0 t k1 k3 (k4 c t hc hl) hl
theorem LvOK.part {m : Nat → Nat} {G G' : Nat → Option GR} (h : Part m G G') {x : Nat} {p : List (Nat × Nat)} {c : Nat} {ad : Addr} (hr : LvOK G (m x) p c ad) : LvOK G' x p c ad := by
  intro r b o hx hp
  obtain ⟨g0, k1, _, k2⟩ := h.row hx
  exact hr g0 b o k1 (k2 p _ hp)
theorem FR.sub {w : World} {A : Nat → Prop} {G : Nat → Option GR} {n : Nat} {m : Nat → Nat} {b : AV} {v : Value} (h : FR w A b v) : ∀ {a : AV}, Sub m n a b → Rel w A G n a v := by
  have key : ∀ {a b : AV} {v : Value}, FR w A b v → Sub m n a b → (∀ l, b ≠ .agg l) → (∀ l, b ≠ .tup l) → (∀ f x y, b ≠ .func f x y) → (∀ t u, b ≠ .ifc t u) → Rel w A G n a v := by
    intro a b v h hs h1 h2 h3 h4
    rcases hs.inv with rfl | ⟨rfl, _⟩ | ⟨x, p, c, rfl, rfl, _⟩ | ⟨x, p, c, rfl, rfl, _⟩ | ⟨l, l', rfl, rfl, _⟩ | ⟨l, l', rfl, rfl, _⟩ | ⟨_, _, _, _, _, rfl, rfl, _⟩ | ⟨_, _, _, rfl, rfl, _⟩
    · exact .fr _ _ (.undef _)
    · exact .fr _ _ h
    · cases h
    · cases h
    · exact absurd rfl (h1 l')
    · exact absurd rfl (h2 l')
    · exact absurd rfl (h3 _ _ _)
    · exact absurd rfl (h4 _ _)
  induction h with
  | func fn first caps us vs h1 h2 h3 h4 ih1 ih2 =>
    intro a hs
    rcases hs.inv with rfl | ⟨rfl, e⟩ | ⟨x, p, c, rfl, e, _⟩ | ⟨x, p, c, rfl, e, _⟩ | ⟨l, l', rfl, e, _⟩ | ⟨l, l', rfl, e, _⟩ | ⟨_, _, _, _, _, rfl, e, s1, s2⟩ | ⟨_, _, _, rfl, e, _⟩
    · exact .fr _ _ (.undef _)
    · cases e
    · cases e
    · cases e
    · cases e
    · cases e
    · cases e
      refine .func _ _ _ us vs (by rw [h1, s1.len]) (by rw [h2, s2.len]) (fun i a ha => ?_) (fun i a ha => ?_)
      · obtain ⟨b, hb, hs⟩ := s1.at_ i a ha
        exact ih1 i b hb hs
      · obtain ⟨b, hb, hs⟩ := s2.at_ i a ha
        exact ih2 i b hb hs
    · cases e
  | ifc t u v h ih =>
    intro a hs
    rcases hs.inv with rfl | ⟨rfl, e⟩ | ⟨x, p, c, rfl, e, _⟩ | ⟨x, p, c, rfl, e, _⟩ | ⟨l, l', rfl, e, _⟩ | ⟨l, l', rfl, e, _⟩ | ⟨_, _, _, _, _, rfl, e, s1, s2⟩ | ⟨_, _, _, rfl, e, s1⟩
    · exact .fr _ _ (.undef _)
    · cases e
    · cases e
    · cases e
    · cases e
    · cases e
    · cases e
    · cases e; exact .ifc _ _ _ (ih s1)
  | agg l vs h1 h2 ih =>
    intro a hs
    rcases hs.inv with rfl | ⟨rfl, e⟩ | ⟨x, p, c, rfl, e, _⟩ | ⟨x, p, c, rfl, e, _⟩ | ⟨l, l', rfl, e, s1⟩ | ⟨l, l', rfl, e, _⟩ | ⟨_, _, _, _, _, rfl, e, s1, s2⟩ | ⟨_, _, _, rfl, e, _⟩
    · exact .fr _ _ (.undef _)
    · cases e
    · cases e
    · cases e
    · cases e
      refine .agg _ vs (by rw [h1, s1.len]) fun i a ha => ?_
      obtain ⟨b, hb, hs⟩ := s1.at_ i a ha
      exact ih i b hb hs
    · cases e
    · cases e
    · cases e
  | tup l vs h1 h2 ih =>
    intro a hs
    rcases hs.inv with rfl | ⟨rfl, e⟩ | ⟨x, p, c, rfl, e, _⟩ | ⟨x, p, c, rfl, e, _⟩ | ⟨l, l', rfl, e, _⟩ | ⟨l, l', rfl, e, s1⟩ | ⟨_, _, _, _, _, rfl, e, s1, s2⟩ | ⟨_, _, _, rfl, e, _⟩
    · exact .fr _ _ (.undef _)
    · cases e
    · cases e
    · cases e
    · cases e
    · cases e
      refine .tup _ vs (by rw [h1, s1.len]) fun i a ha => ?_
      obtain ⟨b, hb, hs⟩ := s1.at_ i a ha
      exact ih i b hb hs
    · cases e
    · cases e
  | undef v => exact fun hs => key (.undef v) hs (by simp) (by simp) (by simp) (by simp)
  | bool v => exact fun hs => key (.bool v) hs (by simp) (by simp) (by simp) (by simp)
  | int k v => exact fun hs => key (.int k v) hs (by simp) (by simp) (by simp) (by simp)
  | str s h => exact fun hs => key (.str s h) hs (by simp) (by simp) (by simp) (by simp)
  | nilsl => exact fun hs => key .nilsl hs (by simp) (by simp) (by simp) (by simp)
  | slnil n => exact fun hs => key (.slnil n) hs (by simp) (by simp) (by simp) (by simp)
  | slmt n a cap h => exact fun hs => key (.slmt n a cap h) hs (by simp) (by simp) (by simp) (by simp)
  | sl n l b o cap h1 h2 h3 h4 h5 h6 => exact fun hs => key (.sl n l b o cap h1 h2 h3 h4 h5 h6) hs (by simp) (by simp) (by simp) (by simp)
  | tight n l ad h => exact fun hs => key (.tight n l ad h) hs (by simp) (by simp) (by simp) (by simp)
  | nilp => exact fun hs => key .nilp hs (by simp) (by simp) (by simp) (by simp)
  | fp l b o h1 h2 => exact fun hs => key (.fp l b o h1 h2) hs (by simp) (by simp) (by simp) (by simp)
  | nilmap => exact fun hs => key .nilmap hs (by simp) (by simp) (by simp) (by simp)
  | fmap es b ents clock h1 h2 h3 h4 h5 h6 => exact fun hs => key (.fmap es b ents clock h1 h2 h3 h4 h5 h6) hs (by simp) (by simp) (by simp) (by simp)
  | nilfunc => exact fun hs => key .nilfunc hs (by simp) (by simp) (by simp) (by simp)
  | nili => exact fun hs => key .nili hs (by simp) (by simp) (by simp) (by simp)
theorem Rel.sub {w : World} {A A' : Nat → Prop} {G G' : Nat → Option GR} {n n' : Nat} {m : Nat → Nat} (hA : ∀ b, b < w.heap.size → A' b → A b) (hG : Part m G G') {b : AV} {v : Value} (h : Rel w A G n b v) :
    ∀ {a : AV}, Sub m n' a b → Rel w A' G' n' a v := by
  induction h with
  | fr b v h => exact fun hs => (h.keep (A' := A') (fun _ _ _ => rfl) hA).sub hs
  | ref x p c v h1 h2 h3 =>
    intro a hs
    rcases hs.inv with rfl | ⟨rfl, e⟩ | ⟨x, p, c, rfl, e, hx⟩ | ⟨x, p, c, rfl, e, _⟩ | ⟨l, l', rfl, e, _⟩ | ⟨l, l', rfl, e, s1⟩ | ⟨_, _, _, _, _, rfl, e, s1, s2⟩ | ⟨_, _, _, rfl, e, _⟩ <;> (try cases e)
    · exact .fr _ _ (.undef _)
    · exact .ref _ _ _ _ hx h2 (h3.part hG)
  | lv x p c ad h1 h2 =>
    intro a hs
    rcases hs.inv with rfl | ⟨rfl, e⟩ | ⟨x, p, c, rfl, e, _⟩ | ⟨x, p, c, rfl, e, hx⟩ | ⟨l, l', rfl, e, _⟩ | ⟨l, l', rfl, e, s1⟩ | ⟨_, _, _, _, _, rfl, e, s1, s2⟩ | ⟨_, _, _, rfl, e, _⟩ <;> (try cases e)
    · exact .fr _ _ (.undef _)
    · exact .lv _ _ _ _ hx (h2.part hG)
  | func fn first caps us vs h1 h2 h3 h4 ih1 ih2 =>
    intro a hs
    rcases hs.inv with rfl | ⟨rfl, e⟩ | ⟨x, p, c, rfl, e, _⟩ | ⟨x, p, c, rfl, e, _⟩ | ⟨l, l', rfl, e, _⟩ | ⟨l, l', rfl, e, _⟩ | ⟨_, _, _, _, _, rfl, e, s1, s2⟩ | ⟨_, _, _, rfl, e, _⟩ <;> (try cases e)
    · exact .fr _ _ (.undef _)
    · refine .func _ _ _ us vs (by rw [h1, s1.len]) (by rw [h2, s2.len]) (fun i a ha => ?_) (fun i a ha => ?_)
      · obtain ⟨b, hb, hs⟩ := s1.at_ i a ha
        exact ih1 i b hb hs
      · obtain ⟨b, hb, hs⟩ := s2.at_ i a ha
        exact ih2 i b hb hs
  | ifc t u v h ih =>
    intro a hs
    rcases hs.inv with rfl | ⟨rfl, e⟩ | ⟨x, p, c, rfl, e, _⟩ | ⟨x, p, c, rfl, e, _⟩ | ⟨l, l', rfl, e, _⟩ | ⟨l, l', rfl, e, _⟩ | ⟨_, _, _, _, _, rfl, e, s1, s2⟩ | ⟨_, _, _, rfl, e, s1⟩ <;> (try cases e)
    · exact .fr _ _ (.undef _)
    · exact .ifc _ _ _ (ih s1)
  | agg l vs h1 h2 ih =>
    intro a hs
    rcases hs.inv with rfl | ⟨rfl, e⟩ | ⟨x, p, c, rfl, e, _⟩ | ⟨x, p, c, rfl, e, _⟩ | ⟨l, l', rfl, e, s1⟩ | ⟨l, l', rfl, e, _⟩ | ⟨_, _, _, _, _, rfl, e, s1, s2⟩ | ⟨_, _, _, rfl, e, _⟩ <;> (try cases e)
    · exact .fr _ _ (.undef _)
    · refine .agg _ vs (by rw [h1, s1.len]) fun i a ha => ?_
      obtain ⟨b, hb, hs⟩ := s1.at_ i a ha
      exact ih i b hb hs
  | tup l vs h1 h2 ih =>
    intro a hs
    rcases hs.inv with rfl | ⟨rfl, e⟩ | ⟨x, p, c, rfl, e, _⟩ | ⟨x, p, c, rfl, e, _⟩ | ⟨l, l', rfl, e, _⟩ | ⟨l, l', rfl, e, s1⟩ | ⟨_, _, _, _, _, rfl, e, s1, s2⟩ | ⟨_, _, _, rfl, e, _⟩ <;> (try cases e)
    · exact .fr _ _ (.undef _)
    · refine .tup _ vs (by rw [h1, s1.len]) fun i a ha => ?_
      obtain ⟨b, hb, hs⟩ := s1.at_ i a ha
      exact ih i b hb hs
def AllT (m : Nat → Nat) (n : Nat) (t : List (Nat × AV)) : List (Nat × AV) → Prop
  | [] => True
  | (i, v) :: r => Sub m n v (getT t i) ∧ AllT m n t r
def AllS (m : Nat → Nat) (n : Nat) (s : List (Nat × Root)) : List (Nat × Root) → Prop
  | [] => True
  | (x, u) :: r => (match getS s (m x) with | some v => u.box = v.box ∧ SubL m n u.cells v.cells | none => False) ∧ x < n ∧ AllS m n s r
def Names (m : Nat → Nat) : List (Nat × Root) → List Nat
  | [] => []
  | (x, _) :: r => m x :: Names m r
theorem AllT.get {m : Nat → Nat} {n : Nat} {t : List (Nat × AV)} : ∀ {l : List (Nat × AV)}, AllT m n t l → ∀ i, Sub m n (getT l i) (getT t i)
  | [], _, i => by simp [getT, Sub]
  | (j, v) :: r, h, i => by
    simp only [AllT] at h
    simp only [getT]
    split
    · rename_i e; subst e; exact h.1
    · exact h.2.get i
theorem AllS.get {m : Nat → Nat} {n : Nat} {s : List (Nat × Root)} : ∀ {l : List (Nat × Root)}, AllS m n s l → ∀ x u, getS l x = some u → ∃ v, getS s (m x) = some v ∧ u.box = v.box ∧ SubL m n u.cells v.cells ∧ x < n ∧ m x ∈ Names m l
  | [], _, x, u, hx => by simp [getS] at hx
  | (y, v) :: r, h, x, u, hx => by
    simp only [AllS] at h
    simp only [getS] at hx
    split at hx
    · rename_i e; subst e; cases hx
      obtain ⟨h1, h2, _⟩ := h
      split at h1
      · rename_i v' e; exact ⟨v', e, h1.1, h1.2, h2, by simp [Names]⟩
      · exact h1.elim
    · obtain ⟨v', k1, k2, k3, k4, k5⟩ := h.2.2.get x u hx
      exact ⟨v', k1, k2, k3, k4, by simp [Names, k5]⟩
theorem names_mem {m : Nat → Nat} : ∀ {l : List (Nat × Root)} {x : Nat}, (getS l x).isSome = true → m x ∈ Names m l
  | [], x, h => by simp [getS] at h
  | (y, v) :: r, x, h => by
    simp only [getS] at h
    split at h
    · rename_i e; subst e; simp [Names]
    · simp [Names, names_mem h]
theorem names_inj {m : Nat → Nat} : ∀ {l : List (Nat × Root)}, (Names m l).Nodup → ∀ x y, (getS l x).isSome = true → (getS l y).isSome = true → m x = m y → x = y
  | [], _, x, _, h, _, _ => by simp [getS] at h
  | (z, v) :: r, hn, x, y, hx, hy, e => by
    simp only [Names, List.nodup_cons] at hn
    simp only [getS] at hx hy
    split at hx <;> split at hy
    · rename_i e1 e2; exact e1.symm.trans e2
    · rename_i e1 e2; subst e1; exact absurd (e ▸ names_mem hy) hn.1
    · rename_i e1 e2; subst e2; exact absurd (e ▸ names_mem hx) hn.1
    · exact names_inj hn.2 x y hx hy e
def pick (a : AV) (g : GT) : GT := if a.tree then g else .lf .undef g.val
theorem pick_val (a : AV) (g : GT) : (pick a g).val = g.val := by unfold pick; split <;> rfl
def GR.sub (cs : List AV) (g : GR) : GR := { base := g.base, cells := List.zipWith pick cs g.cells }
def Gsub (m : Nat → Nat) (s : List (Nat × Root)) (G : Nat → Option GR) (x : Nat) : Option GR :=
  match getS s x with
  | some r => (G (m x)).map (GR.sub r.cells)
  | none => none
theorem Inv.weak {A0 A1 : Nat → Prop} {w : World} {n n' : Nat} {s s' : List (Nat × Root)} {G : Nat → Option GR} (h : Inv A0 w n s G) (m : Nat → Nat) (hn : (Names m s').Nodup)
    (hs : AllS m n' s s') (hA1 : ∀ b, A1 b → Own A0 G b) (hA2 : ∀ b, GFp (Gsub m s' G) b → ¬ A1 b) : Inv A1 w n' s' (Gsub m s' G) ∧ (∀ b, GFp (Gsub m s' G) b → GFp G b) ∧
      (∀ {b : AV} {v : Value}, Rel w (Own A0 G) G n b v → ∀ {a : AV}, Sub m n' a b → Rel w (Own A1 (Gsub m s' G)) (Gsub m s' G) n' a v) ∧ (∀ x g k, Gsub m s' G x = some g → RFp g k → ∃ g0, G (m x) = some g0 ∧ RFp g0 k) := by
  -- what a root of the weaker state is
  have key : ∀ x g, Gsub m s' G x = some g → ∃ r' r g0, getS s' x = some r' ∧ getS s (m x) = some r ∧ G (m x) = some g0 ∧ g = g0.sub r'.cells ∧ r'.box = r.box ∧ SubL m n' r'.cells r.cells ∧ x < n' := by
    intro x g hg
    unfold Gsub at hg
    split at hg
    · rename_i r' hr'
      simp only [Option.map_eq_some_iff] at hg
      obtain ⟨g0, hg0, rfl⟩ := hg
      obtain ⟨r, k1, k2, k3, k4, _⟩ := hs.get x r' hr'
      exact ⟨r', r, g0, hr', k1, hg0, rfl, k2, k3, k4⟩
    · cases hg
  have cell : ∀ {r' r : Root} {g0 : GR}, CellsOK w (Own A0 G) G n r.cells g0.cells → SubL m n' r'.cells r.cells → (g0.sub r'.cells).cells.length = g0.cells.length ∧ ∀ (c : Nat) (t : GT), (g0.sub r'.cells).cells[c]? = some t →
      ∃ av' av t0, r'.cells[c]? = some av' ∧ r.cells[c]? = some av ∧ g0.cells[c]? = some t0 ∧ Sub m n' av' av ∧ t = pick av' t0 ∧ t.val = t0.val := by
    intro r' r g0 hc hsub
    refine ⟨by simp [GR.sub, List.length_zipWith, ← hc.len, hsub.len], fun c t htc => ?_⟩
    simp only [GR.sub, List.getElem?_zipWith] at htc
    cases ha : r'.cells[c]? with
    | none => simp [ha] at htc
    | some av' =>
      cases hb : g0.cells[c]? with
      | none => simp [ha, hb] at htc
      | some t0 =>
        simp [ha, hb] at htc
        obtain ⟨av, k1, k2⟩ := hsub.at_ c av' ha
        exact ⟨av', av, t0, rfl, k1, rfl, k2, htc.symm, by rw [← htc]; exact pick_val _ _⟩
  have hpart : Part m G (Gsub m s' G) := by
    intro x g hg
    obtain ⟨r', r, g0, k1, k2, k3, rfl, k5, k6, _⟩ := key x g hg
    have hc := h.cells _ r g0 k2 k3
    obtain ⟨l1, l2⟩ := cell hc k6
    refine ⟨g0, k3, rfl, l1.symm, fun c t htc => ?_⟩
    obtain ⟨av', av, t0, e1, e2, e3, e4, e5, e6⟩ := l2 c t htc
    by_cases htr : av'.tree = true
    · left; rw [e3, e5]; simp [pick, htr]
    · right; rw [e5]; refine ⟨by simp [pick, htr, GT.leaf], t0, e3, by simp [pick, htr, GT.val]⟩
  have hfp : ∀ x g k, Gsub m s' G x = some g → RFp g k → ∃ g0, G (m x) = some g0 ∧ RFp g0 k := by
    intro x g k hg hk
    obtain ⟨r', r, g0, k1, k2, k3, rfl, k5, k6, _⟩ := key x g hg
    refine ⟨g0, k3, hk.imp id fun hk => ?_⟩
    obtain ⟨c, t, htc, hk⟩ := hk
    obtain ⟨av', av, t0, e1, e2, e3, e4, e5, e6⟩ := (cell (h.cells _ r g0 k2 k3) k6).2 c t htc
    rw [e5] at hk
    unfold pick at hk
    split at hk
    · exact ⟨c, t0, e3, hk⟩
    · cases hk
  have hown : ∀ k, GFp (Gsub m s' G) k → GFp G k := by
    rintro k ⟨x, g, hg, hk⟩
    obtain ⟨g0, h1, h2⟩ := hfp x g k hg hk
    exact ⟨_, g0, h1, h2⟩
  have hA : ∀ b, b < w.heap.size → Own A1 (Gsub m s' G) b → Own A0 G b := fun b _ hb => hb.elim (hA1 b) (fun hb => .inr (hown b hb))
  have hsome : ∀ x g, Gsub m s' G x = some g → (getS s' x).isSome = true := fun x g hg => by
    obtain ⟨r', r, g0, k1, _⟩ := key x g hg
    simp [k1]
  have hrel : ∀ {b : AV} {v : Value}, Rel w (Own A0 G) G n b v → ∀ {a : AV}, Sub m n' a b → Rel w (Own A1 (Gsub m s' G)) (Gsub m s' G) n' a v := fun {_ _} hr {_} hsb => Rel.sub hA hpart hr hsb
  refine ⟨⟨fun x => ?_, fun x r' g hr' hg => ?_, fun x r' g hr' hg => ?_, fun x g hg => ?_, fun x g b hg hb => ?_, fun x g x' g' hg hg' hne b hb hb' => ?_, fun x g hg => ?_, hA2⟩, hown, hrel, hfp⟩
  · cases hx : getS s' x with
    | none => simp [Gsub, hx]
    | some r' =>
      obtain ⟨r, k1, _⟩ := hs.get x r' hx
      have := h.dom (m x)
      rw [k1] at this
      simp [Gsub, hx, ← this]
  · obtain ⟨r1, r, g0, k1, k2, k3, rfl, k5, k6, _⟩ := key x g hg
    rw [hr'] at k1; cases k1
    rw [k5]; exact h.box _ r g0 k2 k3
  · obtain ⟨r1, r, g0, k1, k2, k3, rfl, k5, k6, _⟩ := key x g hg
    rw [hr'] at k1; cases k1
    have hc := h.cells _ r g0 k2 k3
    obtain ⟨l1, l2⟩ := cell hc k6
    refine ⟨by rw [l1, ← hc.len, k6.len], fun c av t hav htc => ?_⟩
    obtain ⟨av', av0, t0, e1, e2, e3, e4, e5, e6⟩ := l2 c t htc
    rw [hav] at e1; cases e1
    by_cases htr : av.tree = true
    · have := e4.tree htr; subst this
      have ht0 : t = t0 := by rw [e5]; simp [pick, htr]
      subst ht0
      rcases hc.cell c av0 t e2 e3 with ⟨q1, q2⟩ | ⟨q1, q2⟩
      · exact .inl ⟨q1, q2⟩
      · exfalso
        generalize t.val = vv at q2
        cases q2 with
        | fr _ _ hf => rw [hf.not_tree] at htr; cases htr
        | _ => cases htr
    · refine .inr ⟨by rw [e5]; simp [pick, htr, GT.leaf], ?_⟩
      rw [e6]
      rcases hc.cell c av0 t0 e2 e3 with ⟨q1, q2⟩ | ⟨q1, q2⟩
      · -- a tree is told no more
        have hu : av = .undef := by
          have htt := tree_of_leaf q1
          rw [← q2] at htt
          rcases e4.inv with rfl | ⟨rfl, _⟩ | ⟨x, p, c, rfl, e, hx⟩ | ⟨x, p, c, rfl, e, _⟩ | ⟨l, l', rfl, e, _⟩ | ⟨l, l', rfl, e, s1⟩ | ⟨_, _, _, _, _, rfl, e, s1, s2⟩ | ⟨_, _, _, rfl, e, _⟩
          · rfl
          · exact absurd htt htr
          all_goals (subst e; cases htt)
        subst hu
        exact .fr _ _ (.undef _)
      · exact hrel q2 e4
  · obtain ⟨r', r, g0, k1, k2, k3, rfl, k5, k6, _⟩ := key x g hg
    have hc := h.cells _ r g0 k2 k3
    have hm := h.row _ g0 k3
    obtain ⟨l1, l2⟩ := cell hc k6
    refine ⟨fun c t htc => ?_, ⟨fun c t htc => ?_, fun c t c' t' htc htc' hne k hk hk' => ?_⟩, fun b o e c t htc => ?_, fun b o e hk => ?_⟩
    · obtain ⟨av', av0, t0, e1, e2, e3, e4, e5, e6⟩ := l2 c t htc
      have hm0 := hm.mem c t0 e3
      rw [e5]; unfold pick; split
      · exact hm0.keep (fun _ _ _ => rfl) hA (fun _ _ => rfl)
      · exact .lf _ _ (.undef _) hm0.oneCell
    · obtain ⟨av', av0, t0, e1, e2, e3, e4, e5, e6⟩ := l2 c t htc
      rw [e5]; unfold pick; split
      · exact hm.sep.1 c t0 e3
      · exact .lf _ _
    · obtain ⟨av', av0, t0, e1, e2, e3, e4, e5, e6⟩ := l2 c t htc
      obtain ⟨av1', av1, t1, f1, f2, f3, f4, f5, f6⟩ := l2 c' t' htc'
      rw [e5] at hk; rw [f5] at hk'
      unfold pick at hk hk'
      split at hk
      · split at hk'
        · exact hm.sep.2 c t0 c' t1 e3 f3 hne k hk hk'
        · cases hk'
      · cases hk
    · obtain ⟨av', av0, t0, e1, e2, e3, e4, e5, e6⟩ := l2 c t htc
      rw [e6]; exact hm.at_ b o e c t0 e3
    · obtain ⟨c, t, htc, hk⟩ := hk
      obtain ⟨av', av0, t0, e1, e2, e3, e4, e5, e6⟩ := l2 c t htc
      rw [e5] at hk
      unfold pick at hk
      split at hk
      · exact hm.off b o e ⟨c, t0, e3, hk⟩
      · cases hk
  · obtain ⟨r', r, g0, k1, k2, k3, rfl, k5, k6, _⟩ := key x g hg
    obtain ⟨vs, T, hh, hl⟩ := h.base _ g0 b k3 hb
    exact ⟨vs, T, hh, by rw [hl]; exact (cell (h.cells _ r g0 k2 k3) k6).1.symm⟩
  · obtain ⟨g0, h1, h2⟩ := hfp x g b hg hb
    obtain ⟨g1, h3, h4⟩ := hfp x' g' b hg' hb'
    exact h.sep _ g0 _ g1 h1 h3 (fun e => hne (names_inj hn x x' (hsome x g hg) (hsome x' g' hg') e)) b h2 h4
  · obtain ⟨r', r, g0, k1, k2, k3, rfl, k5, k6, k7⟩ := key x g hg
    exact k7
theorem Holds.weak {A0 D0 : Nat → Prop} {w0 : World} {nt : Nat} {σ σ' : St} {a : Act} {w : World} {G : Nat → Option GR} (h : Holds A0 D0 w0 nt σ a w G) (m : Nat → Nat) (hn : (Names m σ'.s).Nodup)
    (ht : AllT m σ'.n σ.t σ'.t) (hs : AllS m σ'.n σ.s σ'.s) : Holds A0 D0 w0 nt σ' a w (Gsub m σ'.s G) := by
  have hw : ∀ x g k, Gsub m σ'.s G x = some g → RFp g k → GFp G k := fun x g k hg hk =>
    ((h.inv.weak (A1 := fun _ => False) m hn hs (fun b hb => hb.elim) (fun b _ hb => hb)).2.1) k ⟨x, g, hg, hk⟩
  obtain ⟨h1, h2, h3, _⟩ := h.inv.weak (A1 := A0) m hn hs (fun b hb => .inl hb) (fun b ⟨x, g, hg, hk⟩ => h.inv.a0 b (hw x g b hg hk))
  refine ⟨h1, h.size, h.defers, fun i hi => h3 (h.tmp i hi) (ht.get i), fun i hi => ?_, h.fr, fun b hb => h.own b (h2 b hb), h.a0lt⟩
  have := ht.get i
  rw [h.far i hi] at this
  rcases this.inv with e | ⟨e, e'⟩ | ⟨x, p, c, _, e, hx⟩ | ⟨x, p, c, _, e, _⟩ | ⟨l, l', _, e, _⟩ | ⟨l, l', _, e, s1⟩ | ⟨_, _, _, _, _, _, e, s1, s2⟩ | ⟨_, _, _, _, e, _⟩
  · exact e
  · exact e.symm
  all_goals cases e
end Go.Ab
namespace Go.Ab
open Go Go.RowKit
inductive TK where
  | int (k : IntKind) | bool | str | ptr (e : Nat) | slice (e : Nat) | array (n e : Nat) | map (k e : Nat) | struct (fs : List (Nat × Nat)) | func | iface (ms : List (String × Nat)) | other
structure TI where
  kind : TK
  size : Nat
  bytes : Nat
  zero : List AV
  eqs : Bool := false
def TK.agg : TK → Bool
  | .struct _ | .array _ _ => true
  | _ => false
abbrev TTab := Nat → Option TI
def ZeroOK (l : List AV) (vs : List Value) : Prop := l.length = vs.length ∧ ∀ (i : Nat) (a : AV) (v : Value), l[i]? = some a → vs[i]? = some v → (∀ w A, FR w A a v) ∧ v.oneCell' = true
def KindOK (P : Program) (t : Nat) : TK → Prop
  | .int k => P.underlying t = some (.int k)
  | .bool => P.underlying t = some .bool
  | .str => P.underlying t = some .string
  | .ptr e => P.underlying t = some (.pointer e)
  | .slice e => P.underlying t = some (.slice e)
  | .array n e => P.underlying t = some (.array n e)
  | .map k e => P.underlying t = some (.map k e)
  | .struct fs => ∃ f, P.underlying t = some (.struct f) ∧ f.toList.map (fun x => (x.type, x.offset)) = fs
  | .func => ∃ a b c, P.underlying t = some (.func a b c)
  | .iface ms => P.underlying t = some (.interface ms.toArray)
  | .other => ∃ d, P.underlying t = some d ∧ (∀ f, d ≠ .struct f) ∧ (∀ n e, d ≠ .array n e) ∧ ∀ ms, d ≠ .interface ms
def EqOK (P : Program) (t : Nat) : Prop := P.stoodInHeld t = false ∧ P.eqGuardType P.depth t = false ∧ P.underlying t = some (.struct (P.fieldsOf t)) ∧ ∀ f ∈ (P.fieldsOf t).toList, f.name ≠ "_"
structure TIok (P : Program) (t : Nat) (i : TI) : Prop where
  info : ∃ inf z, P.info? t = some inf ∧ inf.size = i.size ∧ inf.bytes = i.bytes ∧ inf.zero = some z ∧ ZeroOK i.zero z.cells.toList ∧ (i.kind.agg = true → ∃ cs, z = .agg cs) ∧ (i.kind.agg = false → z.oneCell' = true)
  kind : KindOK P t i.kind
  eqs : i.eqs = true → EqOK P t
def TTok (P : Program) (TT : TTab) : Prop := ∀ t i, TT t = some i → TIok P t i
section
variable {P : Program} {t : Nat} {i : TI}
theorem TIok.und (h : TIok P t i) : ∃ d, P.underlying t = some d ∧ (match d with | .struct _ => true | .array _ _ => true | _ => false) = i.kind.agg := by
  have hk := h.kind
  cases hi : i.kind <;> simp only [hi, KindOK] at hk
  case struct fs => obtain ⟨f, h1, _⟩ := hk; exact ⟨_, h1, rfl⟩
  case func => obtain ⟨a, b, c, h1⟩ := hk; exact ⟨_, h1, rfl⟩
  case other => obtain ⟨d, h1, h2, h3, _⟩ := hk; refine ⟨d, h1, ?_⟩; cases d <;> first | rfl | exact absurd rfl (h2 _) | exact absurd rfl (h3 _ _)
  all_goals exact ⟨_, hk, rfl⟩
theorem TIok.run_isAgg (h : TIok P t i) (w : World) : (isAgg t).run P w = .ok i.kind.agg w := by
  obtain ⟨d, h1, h2⟩ := h.und
  unfold isAgg
  simp only [Sem.run_bind, run_underlying h1, Result.andThen_ok]
  rw [← h2]
  cases d <;> rfl
theorem TIok.run_size (h : TIok P t i) (w : World) : (sizeOf t).run P w = .ok i.size w := by
  obtain ⟨inf, z, h1, h2, h3, h4, h5⟩ := h.info
  simp [Go.sizeOf, typeInfo, h1, h2]
theorem TIok.run_zero (h : TIok P t i) (w : World) : ∃ z, (zeroValue t).run P w = .ok z w ∧ ZeroOK i.zero z.cells.toList ∧ (i.kind.agg = true → ∃ cs, z = .agg cs) ∧ (i.kind.agg = false → z.oneCell' = true) := by
  obtain ⟨inf, z, h1, h2, h3, h4, h5⟩ := h.info
  exact ⟨z, by simp [zeroValue, typeInfo, h1, h4], h5⟩
end
def ofV : Value → AV
  | .bool b => .bool b
  | .int k i => .int k i
  | .string s => if s.size ≤ MX then .str s else .undef
  | .pointer none => .nilp
  | .slice none 0 0 => .nilsl
  | .map none => .nilmap
  | .nilFunc => .nilfunc
  | .nilIface => .nili
  | _ => .undef
theorem ofV_fr (w : World) (A : Nat → Prop) (v : Value) : FR w A (ofV v) v := by
  unfold ofV
  split
  · exact .bool _
  · exact .int _ _
  · split
    · rename_i h; exact .str _ h
    · exact .undef _
  · exact .nilp
  · exact .nilsl
  · exact .nilmap
  · exact .nilfunc
  · exact .nili
  · exact .undef _
def ev (σ : St) : Operand → AV
  | .tmp i => getT σ.t i
  | .const v => ofV v
  | .func f => .func (.func f) [] []
  | .global _ => .undef
section
variable {A0 D0 : Nat → Prop} {w0 : World} {nt : Nat} {σ : St} {a : Act} {w : World} {G : Nat → Option GR}
theorem Holds.ev (h : Holds A0 D0 w0 nt σ a w G) (x : Operand) : Rel w (Own A0 G) G σ.n (Ab.ev σ x) (a.eval x) := by
  cases x with
  | tmp i =>
    by_cases hi : i < nt
    · have := h.tmp i hi
      rw [Array.getD_eq_getD_getElem?] at this
      simpa [Ab.ev, Act.eval] using this
    · have := h.far i (Nat.le_of_not_lt hi)
      simp only [Ab.ev, this]
      exact .fr _ _ (.undef _)
  | const v => exact .fr _ _ (ofV_fr _ _ v)
  | func f => exact .fr _ _ (.func _ [] [] [] [] rfl rfl (by simp) (by simp))
  | global g => exact .fr _ _ (.undef _)
end
def Goes (A0 D0 : Nat → Prop) (w0 : World) (nt : Nat) (K : St → Prop) (a : Act) (w : World) : Prop := ∃ σ G, Holds A0 D0 w0 nt σ a w G ∧ K σ
theorem wp_value {P : Program} {o : Oper} {a : Act} {w w' : World} {v : Value} {K : Act → World → Prop} {Q : Exit → Act → World → Prop} (h : (execOp a.eval o).run P w = .ok (.value v) w') (hk : K (a.put o.dst v) w') : o.wp P a w K Q := by
  simp only [Oper.wp, h, Oper.upon]; exact hk
theorem wp_unit {P : Program} {o : Oper} {a : Act} {w w' : World} {K : Act → World → Prop} {Q : Exit → Act → World → Prop} (h : (execOp a.eval o).run P w = .ok .skip w') (hk : K (a.put o.dst undef) w') : o.wp P a w K Q := by
  simp only [Oper.wp, h, Oper.upon]; exact hk
section
variable {w : World} {A : Nat → Prop} {G : Nat → Option GR} {n : Nat} {v : Value}
theorem Rel.bool_inv {b : Bool} (h : Rel w A G n (.bool b) v) : v = .bool b := by cases h with | fr _ _ h => cases h; rfl
theorem Rel.int_inv {k : IntKind} {i : Int} (h : Rel w A G n (.int k i) v) : v = .int k i := by cases h with | fr _ _ h => cases h; rfl
theorem Rel.str_inv {s : ByteArray} (h : Rel w A G n (.str s) v) : v = .string s ∧ s.size ≤ MX := by cases h with | fr _ _ h => cases h; exact ⟨rfl, by assumption⟩
theorem Rel.nilsl_inv (h : Rel w A G n .nilsl v) : v = .slice none 0 0 := by cases h with | fr _ _ h => cases h; rfl
theorem Rel.nilp_inv (h : Rel w A G n .nilp v) : v = .pointer none := by cases h with | fr _ _ h => cases h; rfl
theorem Rel.nilmap_inv (h : Rel w A G n .nilmap v) : v = .map none := by cases h with | fr _ _ h => cases h; rfl
theorem Rel.nili_inv (h : Rel w A G n .nili v) : v = .nilIface := by cases h with | fr _ _ h => cases h; rfl
theorem Rel.fr_of {a : AV} (h : Rel w A G n a v) (ha : match a with | .sl _ _ => True | .fp _ => True | .fmap _ => True | _ => False) : FR w A a v := by
  cases h with
  | fr _ _ h => exact h
  | _ => exact ha.elim
theorem Rel.ref_inv {x : Nat} {p : List (Nat × Nat)} {c : Nat} (h : Rel w A G n (.ref x p c) v) : x < n ∧ v.oneCell' = true ∧ RefOK G x p c v := by
  cases h with
  | fr _ _ h => cases h
  | ref _ _ _ _ h1 h2 h3 => exact ⟨h1, h2, h3⟩
theorem Rel.lv_inv {x : Nat} {p : List (Nat × Nat)} {c : Nat} (h : Rel w A G n (.lv x p c) v) : ∃ ad, v = .pointer (some ad) ∧ x < n ∧ LvOK G x p c ad := by
  cases h with
  | fr _ _ h => cases h
  | lv _ _ _ ad h1 h2 => exact ⟨ad, rfl, h1, h2⟩
theorem Rel.agg_inv {l : List AV} (h : Rel w A G n (.agg l) v) : ∃ vs : List Value, v = .agg vs.toArray ∧ vs.length = l.length ∧ ∀ (i : Nat) (a : AV), l[i]? = some a → Rel w A G n a (vs.getD i undef) := by
  cases h with
  | fr _ _ h => cases h with | agg _ vs h1 h2 => exact ⟨vs, rfl, h1, fun i a ha => .fr _ _ (h2 i a ha)⟩
  | agg _ vs h1 h2 => exact ⟨vs, rfl, h1, h2⟩
theorem Rel.tup_inv {l : List AV} (h : Rel w A G n (.tup l) v) : ∃ vs : List Value, v = .tuple vs.toArray ∧ vs.length = l.length ∧ ∀ (i : Nat) (a : AV), l[i]? = some a → Rel w A G n a (vs.getD i undef) := by
  cases h with
  | fr _ _ h => cases h with | tup _ vs h1 h2 => exact ⟨vs, rfl, h1, fun i a ha => .fr _ _ (h2 i a ha)⟩
  | tup _ vs h1 h2 => exact ⟨vs, rfl, h1, h2⟩
theorem Rel.func_inv {fn : Fn} {x y : List AV} (h : Rel w A G n (.func fn x y) v) : ∃ us vs : List Value, v = .func fn us.toArray vs.toArray ∧ us.length = x.length ∧ vs.length = y.length ∧ (∀ (i : Nat) (a : AV), x[i]? = some a → Rel w A G n a (us.getD i undef)) ∧
    (∀ (i : Nat) (a : AV), y[i]? = some a → Rel w A G n a (vs.getD i undef)) := by
  cases h with
  | fr _ _ h => cases h with | func _ _ _ us vs h1 h2 h3 h4 => exact ⟨us, vs, rfl, h1, h2, fun i a ha => .fr _ _ (h3 i a ha), fun i a ha => .fr _ _ (h4 i a ha)⟩
  | func _ _ _ us vs h1 h2 h3 h4 => exact ⟨us, vs, rfl, h1, h2, h3, h4⟩
theorem Rel.ifc_inv {t : TypeId} {x : AV} (h : Rel w A G n (.ifc t x) v) : ∃ u, v = .iface t u ∧ Rel w A G n x u := by
  cases h with
  | fr _ _ h => cases h with | ifc _ _ u h => exact ⟨u, rfl, .fr _ _ h⟩
  | ifc _ _ u h => exact ⟨u, rfl, h⟩
end
mutual
def AV.pure : AV → Bool
  | .ref _ _ _ | .lv _ _ _ | .own _ _ | .omap _ | .iter _ _ => false
  | .func _ a b => pureL a && pureL b
  | .agg l => pureL l
  | .tup l => pureL l
  | .ifc _ a => a.pure
  | .undef | .bool _ | .int _ _ | .str _ | .nilsl | .sl _ _ | .tight _ _ | .nilp | .fp _ | .nilmap | .fmap _ | .nilfunc | .nili => true
def pureL : List AV → Bool
  | [] => true
  | a :: r => a.pure && pureL r
end
theorem pureL_at : ∀ {l : List AV}, pureL l = true → ∀ (i : Nat) (a : AV), l[i]? = some a → a.pure = true
  | [], _, i, a, h => by simp at h
  | b :: r, h, i, a, hi => by
    simp only [pureL, Bool.and_eq_true] at h
    cases i with
    | zero => cases hi; exact h.1
    | succ i => exact pureL_at h.2 i a (by simpa using hi)
theorem Rel.pure {w : World} {A : Nat → Prop} {G : Nat → Option GR} {n : Nat} {a : AV} {v : Value} (h : Rel w A G n a v) (hp : a.pure = true) : FR w A a v := by
  induction h with
  | fr a v h => exact h
  | ref => simp [AV.pure] at hp
  | lv => simp [AV.pure] at hp
  | func fn first caps us vs h1 h2 h3 h4 ih1 ih2 =>
    simp only [AV.pure, Bool.and_eq_true] at hp
    exact .func fn first caps us vs h1 h2 (fun i a ha => ih1 i a ha (pureL_at hp.1 i a ha)) (fun i a ha => ih2 i a ha (pureL_at hp.2 i a ha))
  | ifc t x u h ih => simp only [AV.pure] at hp; exact .ifc t x u (ih hp)
  | agg l vs h1 h2 ih =>
    simp only [AV.pure] at hp
    exact .agg l vs h1 fun i a ha => ih i a ha (pureL_at hp i a ha)
  | tup l vs h1 h2 ih =>
    simp only [AV.pure] at hp
    exact .tup l vs h1 fun i a ha => ih i a ha (pureL_at hp i a ha)
def AV.cell : AV → Bool
  | .undef | .agg _ | .tup _ | .own _ _ | .omap _ | .iter _ _ => false
  | _ => true
theorem Rel.cell {w : World} {A : Nat → Prop} {G : Nat → Option GR} {n : Nat} {a : AV} {v : Value} (h : Rel w A G n a v) (hc : a.cell = true) : v.oneCell' = true := by
  cases h with
  | fr a v h => cases h <;> first | rfl | cases hc
  | ref x p c v h1 h2 h3 => exact h2
  | lv => rfl
  | func => rfl
  | ifc => rfl
  | agg => cases hc
  | tup => cases hc
def AV.cells : AV → List AV
  | .agg l => l
  | a => [a]
theorem Rel.cells {w : World} {A : Nat → Prop} {G : Nat → Option GR} {n : Nat} {a : AV} {v : Value} (h : Rel w A G n a v) (hc : ∀ b ∈ a.cells, b.cell = true) : v.cells.toList.length = a.cells.length ∧ ∀ (i : Nat) (b : AV), a.cells[i]? = some b → Rel w A G n b (v.cells.toList.getD i undef) ∧ (v.cells.toList.getD i undef).oneCell' = true := by
  have one : (∀ l, a ≠ .agg l) → v.cells.toList.length = a.cells.length ∧ ∀ (i : Nat) (b : AV), a.cells[i]? = some b → Rel w A G n b (v.cells.toList.getD i undef) ∧ (v.cells.toList.getD i undef).oneCell' = true := by
    intro hne
    have ha : a.cells = [a] := by cases a <;> first | rfl | exact absurd rfl (hne _)
    have hca : a.cell = true := hc a (by rw [ha]; simp)
    have hv : v.cells.toList = [v] := by
      have := h.cell hca
      cases v <;> first | rfl | cases this
    rw [ha, hv]
    refine ⟨rfl, fun i b hb => ?_⟩
    cases i with
    | zero => cases hb; exact ⟨h, h.cell hca⟩
    | succ i => simp at hb
  cases a with
  | agg l =>
    obtain ⟨vs, rfl, h1, h2⟩ := h.agg_inv
    refine ⟨by simpa [Value.cells, AV.cells] using h1, fun i b hb => ?_⟩
    simp only [Value.cells, AV.cells] at hb ⊢
    exact ⟨h2 i b hb, (h2 i b hb).cell (hc b (List.mem_of_getElem? hb))⟩
  | _ => exact one (by simp)
end Go.Ab
namespace Go.Ab
open Go Go.RowKit
def Snd (P : Program) (o : Oper) (σ : St) (K : St → Prop) : Prop :=
  ∀ (A0 D0 : Nat → Prop) (w0 : World) (nt : Nat) (a : Act) (w : World) (G : Nat → Option GR) (Q : Exit → Act → World → Prop), (∀ d, o.dst = some d → d < nt) → Holds A0 D0 w0 nt σ a w G → o.wp P a w (Goes A0 D0 w0 nt K) Q
section
variable {P : Program} {TT : TTab} {o : Oper} {σ : St} {K : St → Prop}
theorem snd_val (av : AV) (hk : K (σ.put o.dst av)) (hrun : ∀ {A0 D0 : Nat → Prop} {w0 : World} {nt : Nat} {a : Act} {w : World} {G : Nat → Option GR}, Holds A0 D0 w0 nt σ a w G →
    ∃ v, (execOp a.eval o).run P w = .ok (.value v) w ∧ Rel w (Own A0 G) G σ.n av v) : Snd P o σ K := by
  intro A0 D0 w0 nt a w G Q hd h
  obtain ⟨v, h1, h2⟩ := hrun h
  exact wp_value h1 ⟨_, G, h.put h2 hd, hk⟩
theorem snd_move {x : Operand} (ho : o.op = .move x ∨ o.op = .assign x) (hk : K (σ.put o.dst (ev σ x))) : Snd P o σ K :=
  snd_val _ hk fun {_ _ _ _ a w _} h => ⟨a.eval x, by rcases ho with ho | ho <;> simp [execOp, ho], h.ev x⟩
theorem snd_pick {c x y : Operand} {b : Bool} (ho : o.op = .pick c x y) (hc : ev σ c = .bool b) (hk : K (σ.put o.dst (if b = true then ev σ x else ev σ y))) : Snd P o σ K :=
  snd_val _ hk fun {_ _ _ _ a w _} h => by
    have hb := h.ev c
    rw [hc] at hb
    refine ⟨if b = true then a.eval x else a.eval y, by simp [execOp, ho, hb.bool_inv, asBool], ?_⟩
    split
    · exact h.ev x
    · exact h.ev y
theorem snd_nilCheck {x : Operand} (ho : o.op = .nilCheck x) (hx : match ev σ x with | .lv _ _ _ => True | .fp _ => True | .func (.func _) _ _ => True | _ => False) (hk : K (σ.put o.dst (ev σ x))) : Snd P o σ K :=
  snd_val _ hk fun {_ _ _ _ a w _} h => by
    have hb := h.ev x
    refine ⟨a.eval x, ?_, hb⟩
    cases hx' : ev σ x <;> rw [hx'] at hb hx <;> try (exact hx.elim)
    · have hb := hb.fr_of trivial
      generalize he : a.eval x = u at hb
      cases hb
      simp [execOp, ho, he]
    · obtain ⟨ad, h1, _⟩ := hb.lv_inv
      simp [execOp, ho, h1]
    · rename_i fn f c
      obtain ⟨us, vs, h1, _⟩ := hb.func_inv
      cases fn <;> simp_all [execOp]
theorem snd_fieldAddr {s f T off : Nat} {x : Operand} {fs : List (Nat × Nat)} {i : TI} {j : TI} (ho : o.op = .fieldAddr s x f) (htt : TTok P TT) (hs : TT s = some i) (hi : i.kind = .struct fs) (hf : fs[f]? = some (T, off)) (hT : TT T = some j) (hsz : 0 < j.size)
    (hk : match ev σ x with | .lv y p q => K (σ.put o.dst (.lv y p (q + off))) | .fp l => K (σ.put o.dst (.fp (l.drop off))) | _ => False) : Snd P o σ K := by
  have hrun : ∀ (a : Act) (w : World) (ad : Addr), a.eval x = .pointer (some ad) → (execOp a.eval o).run P w = .ok (.value (.pointer (some (ad.add off)))) w := by
    intro a w ad hx
    have h1 := (htt s i hs).kind
    rw [hi] at h1
    obtain ⟨fa, h2, h3⟩ := h1
    have h4 : ∃ fl, fa[f]? = some fl ∧ fl.type = T ∧ fl.offset = off := by
      rw [← h3] at hf
      simp only [List.getElem?_map, Option.map_eq_some_iff] at hf
      obtain ⟨fl, hfl, e⟩ := hf
      refine ⟨fl, by simpa using hfl, by cases e; rfl, by cases e; rfl⟩
    obtain ⟨fl, h5, rfl, rfl⟩ := h4
    have h6 := (htt _ j hT).run_size w
    simp [execOp, ho, Instr.fieldAt, run_underlying h2, h5, Instr.sureAddr, hx, fieldPlace, h6, Nat.pos_iff_ne_zero.1 hsz]
  cases hx : ev σ x <;> rw [hx] at hk <;> try (exact hk.elim)
  · rename_i l
    refine snd_val _ hk fun {A0 D0 w0 nt a w G} h => ?_
    have hb := h.ev x
    rw [hx] at hb
    have hb := hb.fr_of trivial
    generalize he : a.eval x = u at hb
    cases hb with
    | fp _ b of h1 h2 =>
      refine ⟨_, hrun a w _ he, .fr _ _ ?_⟩
      rw [Addr.add_lit]
      refine .fp _ _ _ (fun q av hq => ?_) (fun q av hq => ?_)
      · rw [List.getElem?_drop] at hq
        have := h1 _ av hq
        rwa [← Nat.add_assoc] at this
      · rw [List.getElem?_drop] at hq
        have := h2 _ av hq
        rwa [← Nat.add_assoc] at this
  · rename_i y p q
    refine snd_val _ hk fun {A0 D0 w0 nt a w G} h => ?_
    have hb := h.ev x
    rw [hx] at hb
    obtain ⟨ad, h1, h2, h3⟩ := hb.lv_inv
    refine ⟨_, hrun a w ad h1, .lv _ _ _ _ h2 fun r b of hr hp => ?_⟩
    rw [h3 r b of hr hp, Addr.add_lit, Nat.add_assoc]
def ldc (x : Nat) (p : List (Nat × Nat)) : Nat → List AV → List AV
  | _, [] => []
  | c, a :: r => (match a with | .own _ _ => .ref x p c | .omap _ => .ref x p c | .iter _ _ => .ref x p c | a => a) :: ldc x p (c + 1) r
theorem ldc_len (x : Nat) (p : List (Nat × Nat)) : ∀ (c : Nat) (l : List AV), (ldc x p c l).length = l.length
  | _, [] => rfl
  | c, a :: r => by simp [ldc, ldc_len x p (c + 1) r]
theorem ldc_at (x : Nat) (p : List (Nat × Nat)) : ∀ (c : Nat) (l : List AV) (i : Nat) (a : AV), (ldc x p c l)[i]? = some a → ∃ b, l[i]? = some b ∧ a = if b.tree = true then .ref x p (c + i) else b
  | _, [], i, a, h => by simp [ldc] at h
  | c, b :: r, 0, a, h => by
    simp only [ldc, List.getElem?_cons_zero, Option.some.injEq] at h
    refine ⟨b, rfl, ?_⟩
    subst h
    cases b <;> simp [AV.tree]
  | c, b :: r, i + 1, a, h => by
    simp only [ldc, List.getElem?_cons_succ] at h
    obtain ⟨b', h1, h2⟩ := ldc_at x p (c + 1) r i a h
    exact ⟨b', by simpa using h1, by rw [h2, show c + 1 + i = c + (i + 1) by omega]⟩
def mkV (i : TI) (l : List AV) : AV := if i.kind.agg then .agg l else l.headD .undef
theorem run_loadVar {t : Nat} {i : TI} (ht : TIok P t i) {w : World} {ad : Addr} {vs : List Value} (hl : vs.length = i.size) (hv : ∀ (j : Nat) (v : Value), vs[j]? = some v → w.cell? (ad.add j) = some v) (h1 : i.kind.agg = false → i.size = 1) :
    (loadVar t ad).run P w = .ok (if i.kind.agg then .agg vs.toArray else vs.headD undef) w := by
  unfold loadVar
  simp only [Sem.run_bind, ht.run_isAgg, Result.andThen_ok]
  cases hk : i.kind.agg with
  | true =>
    have := run_loadCells_list (P := P) w ad vs hv
    rw [hl] at this
    simp [ht.run_size, this]
  | false =>
    have := h1 hk
    cases vs with
    | nil => simp at hl; omega
    | cons v r =>
      have := hv 0 v rfl
      rw [Addr.add_zero'] at this
      simp [run_load, this]
theorem Holds.read {A0 D0 : Nat → Prop} {w0 : World} {nt : Nat} {a : Act} {w : World} {G : Nat → Option GR} (h : Holds A0 D0 w0 nt σ a w G) {x : Nat} {r : Root} {p : List (Nat × Nat)} {row : List AV} (hs : getS σ.s x = some r) (hrow : rowOf r.cells p = some row) :
    ∃ g grow, G x = some g ∧ gRow g.cells p = some grow ∧ CellsOK w (Own A0 G) G σ.n row grow ∧ (∀ (c : Nat) (t : GT), grow[c]? = some t → t.val.oneCell' = true ∧ (t.leaf = false → Rel w (Own A0 G) G σ.n (.ref x p c) t.val)) ∧
      ∀ b o, gBase g.at_ g.cells p = some (b, o) → ∀ (c : Nat) (t : GT), grow[c]? = some t → w.cell? ⟨b, o + c, none⟩ = some t.val := by
  obtain ⟨g, hg, hb, hcs, hm⟩ := h.root hs
  obtain ⟨grow, k1, k2, k3, k4⟩ := row_at hcs hm hrow
  refine ⟨g, grow, hg, k1, k2, fun c t ht => ?_, fun b o e => k3.at_ b o e⟩
  have hoc := (k3.mem c t ht).oneCell
  refine ⟨hoc, fun hl => .ref _ _ _ _ (h.inv.lt x g hg) hoc fun r' row' t' hr' hp' hc' hl' => ?_⟩
  rw [hg] at hr'; cases hr'
  rw [k1] at hp'; cases hp'
  rw [ht] at hc'; cases hc'
  rfl
theorem snd_load {t : Nat} {i : TI} {x : Operand} (ho : o.op = .load t x) (htt : TTok P TT) (ht : TT t = some i) (h1 : i.kind.agg = false → i.size = 1)
    (hk : match ev σ x with
      | .lv y p q => match getS σ.s y with
        | some r => (p = [] → r.box = true) ∧ (match rowOf r.cells p with
          | some row => q + i.size ≤ row.length ∧ K (σ.put o.dst (mkV i (ldc y p q ((row.drop q).take i.size))))
          | none => False)
        | none => False
      | .fp l => i.size ≤ l.length ∧ K (σ.put o.dst (mkV i (l.take i.size)))
      | _ => False) : Snd P o σ K := by
  have hti := htt t i ht
  -- a list of cells as a value
  have mk : ∀ {A0 : Nat → Prop} {w : World} {G : Nat → Option GR} (l : List AV) (vs : List Value), l.length = i.size → vs.length = i.size → (∀ (j : Nat) (a : AV), l[j]? = some a → Rel w (Own A0 G) G σ.n a (vs.getD j undef)) →
      Rel w (Own A0 G) G σ.n (mkV i l) (if i.kind.agg then .agg vs.toArray else vs.headD undef) := by
    intro A0 w G l vs hl hv hr
    unfold mkV
    cases hk : i.kind.agg with
    | true => exact .agg _ _ (by rw [hl, hv]) hr
    | false =>
      have hs1 := h1 hk
      cases l with
      | nil => simp at hl; omega
      | cons a l => cases vs with
        | nil => simp at hv; omega
        | cons v vs => exact hr 0 a rfl
  cases hx : ev σ x <;> rw [hx] at hk <;> try (exact hk.elim)
  · rename_i l
    obtain ⟨hl, hk⟩ := hk
    refine snd_val _ hk fun {A0 D0 w0 nt a w G} h => ?_
    have hb := h.ev x
    rw [hx] at hb
    have hb := hb.fr_of trivial
    generalize he : a.eval x = u at hb
    cases hb with
    | fp _ b of h2 h3 =>
      let vs : List Value := (List.range i.size).map fun j => rdw w b (of + j)
      have hvs : ∀ (j : Nat) (v : Value), vs[j]? = some v → j < i.size ∧ v = rdw w b (of + j) := by
        intro j v hj
        simp only [vs, List.getElem?_map, Option.map_eq_some_iff] at hj
        obtain ⟨j', h4, h5⟩ := hj
        have hjl : j < i.size := by
          have := (List.getElem?_eq_some_iff.1 h4).1; simpa using this
        rw [List.getElem?_range hjl] at h4; cases h4
        exact ⟨hjl, h5.symm⟩
      have hrun := run_loadVar (P := P) hti (w := w) (ad := ⟨b, of, none⟩) (vs := vs) (by simp [vs]) (fun j v hj => by
        obtain ⟨hjl, rfl⟩ := hvs j v hj
        rw [Addr.add_lit]
        obtain ⟨_, hs⟩ := h2 j l[j] (List.getElem?_eq_getElem (by omega))
        unfold rdw
        obtain ⟨u, hu⟩ := Option.isSome_iff_exists.1 hs
        rw [hu]; rfl) h1
      refine ⟨_, by simp [execOp, ho, he, Instr.loadAt, Instr.sureAddr, hrun], mk _ vs (by simp; omega) (by simp [vs]) fun j av hj => ?_⟩
      rw [List.getElem?_take] at hj
      split at hj
      · rename_i hjl
        have : vs.getD j undef = rdw w b (of + j) := by
          have : vs[j]? = some (rdw w b (of + j)) := by simp only [vs, List.getElem?_map, List.getElem?_range hjl, Option.map_some]
          exact getD_of this
        rw [this]
        exact .fr _ _ (h3 j av hj)
      · cases hj
  · rename_i y p q
    simp only at hk
    split at hk
    · rename_i r hr
      obtain ⟨hbox, hk⟩ := hk
      split at hk
      · rename_i row hrow
        obtain ⟨hl, hk⟩ := hk
        refine snd_val _ hk fun {A0 D0 w0 nt a w G} h => ?_
        have hb := h.ev x
        rw [hx] at hb
        obtain ⟨ad, e1, e2, e3⟩ := hb.lv_inv
        obtain ⟨g, grow, k1, k2, k3, k4, k5⟩ := h.read hr hrow
        obtain ⟨b, of, _, _, k6, _⟩ := h.place hr k1 k2 hbox
        have had := e3 g b of k1 k6
        have hgl : grow.length = row.length := k3.len.symm
        let vs : List Value := ((grow.drop q).take i.size).map GT.val
        have hvs : ∀ (j : Nat), j < i.size → ∃ t, grow[q + j]? = some t ∧ vs[j]? = some t.val := by
          intro j hj
          have hlt : q + j < grow.length := by omega
          refine ⟨grow[q + j], List.getElem?_eq_getElem hlt, ?_⟩
          simp only [vs, List.getElem?_map, List.getElem?_take, if_pos hj, List.getElem?_drop, List.getElem?_eq_getElem hlt, Option.map_some]
        have hvl : vs.length = i.size := by simp [vs]; omega
        have hrun := run_loadVar (P := P) hti (w := w) (ad := ad) (vs := vs) hvl (fun j v hj => by
          have hjl : j < i.size := by have := (List.getElem?_eq_some_iff.1 hj).1; omega
          obtain ⟨t, ht1, ht2⟩ := hvs j hjl
          rw [ht2] at hj; cases hj
          rw [had, Addr.add_lit, Nat.add_assoc]
          exact k5 b of k6 _ t ht1) h1
        refine ⟨_, by simp [execOp, ho, e1, Instr.loadAt, Instr.sureAddr, hrun], mk _ vs (by rw [ldc_len]; simp; omega) hvl fun j av hj => ?_⟩
        obtain ⟨b', hb', rfl⟩ := ldc_at y p q _ j av hj
        rw [List.getElem?_take] at hb'
        split at hb'
        · rename_i hjl
          rw [List.getElem?_drop] at hb'
          obtain ⟨t, ht1, ht2⟩ := hvs j hjl
          rw [getD_of ht2]
          rcases k3.cell _ b' t hb' ht1 with ⟨q1, q2⟩ | ⟨q1, q2⟩
          · rw [if_pos (by rw [q2]; exact tree_of_leaf q1)]
            exact (k4 _ t ht1).2 q1
          · have : b'.tree = false := by
              generalize t.val = vv at q2
              cases q2 with
              | fr _ _ hf => exact hf.not_tree
              | _ => rfl
            rw [this]; exact q2
        · cases hb'
      · exact hk.elim
    · exact hk.elim
end
end Go.Ab
namespace Go.Ab
open Go Go.RowKit
section
variable {P : Program} {TT : TTab} {o : Oper} {σ : St} {K : St → Prop}
def ownAt (σ : St) (x : Nat) (p : List (Nat × Nat)) (c : Nat) : Option (Nat × List (List AV)) :=
  match getS σ.s x with
  | some r => match rowOf r.cells p with
    | some row => match row[c]? with
      | some (.own n es) => some (n, es)
      | _ => none
    | none => none
  | none => none
def cellAtB (σ : St) (x : Nat) (p : List (Nat × Nat)) (c : Nat) : AV :=
  match getS σ.s x with
  | some r => match rowOf r.cells p with
    | some row => row.getD c .undef
    | none => .undef
  | none => .undef
theorem Holds.tree {A0 D0 : Nat → Prop} {w0 : World} {nt : Nat} {a : Act} {w : World} {G : Nat → Option GR} (h : Holds A0 D0 w0 nt σ a w G) {x : Nat} {p : List (Nat × Nat)} {c : Nat} {av : AV} (hc : cellAtB σ x p c = av) (ht : av.tree = true) :
    ∃ r row g grow t, getS σ.s x = some r ∧ rowOf r.cells p = some row ∧ row[c]? = some av ∧ G x = some g ∧ gRow g.cells p = some grow ∧ grow[c]? = some t ∧ t.leaf = false ∧ t.er = av ∧ Mem w (Own A0 G) t ∧ Sep t ∧
      (∀ v, RefOK G x p c v → v = t.val) ∧ (∀ k, Fp t k → FpRow g.cells k) := by
  subst hc
  unfold cellAtB at ht ⊢
  split at ht
  · rename_i r hr
    split at ht
    · rename_i row hrow
      have hcl : c < row.length := by
        rcases Nat.lt_or_ge c row.length with h | h
        · exact h
        · simp [List.getElem?_eq_none h, AV.tree] at ht
      obtain ⟨g, hg, hb, hcs, hm⟩ := h.root hr
      obtain ⟨grow, k1, k2, k3, k4⟩ := row_at hcs hm hrow
      obtain ⟨t, htc⟩ := cellAt k2 hcl
      have hrc : row[c]? = some row[c] := List.getElem?_eq_getElem hcl
      have hget : row.getD c .undef = row[c] := by simp [hrc]
      rw [hget] at ht ⊢
      rcases k2.cell c _ t hrc htc with ⟨q1, q2⟩ | ⟨q1, q2⟩
      · refine ⟨r, row, g, grow, t, hr, hrow, hrc, hg, k1, htc, q1, q2.symm, k3.mem c t htc, k3.sep.1 c t htc, fun v hv => hv g grow t hg k1 htc q1, fun k hk => ?_⟩
        obtain ⟨_, m2, _⟩ := hm.row p k1
        exact m2 k ⟨c, t, htc, hk⟩
      · exfalso
        generalize t.val = vv at q2
        generalize row[c] = aa at q2 ht
        cases q2 with
        | fr _ _ hf => rw [hf.not_tree] at ht; cases ht
        | _ => cases ht
    · cases ht
  · cases ht
theorem er_map {g : GT} {es : List (Int × AV)} (h : g.er = .omap es) (hl : g.leaf = false) : ∃ b, g = .map b es := by
  cases g with
  | lf a v => cases hl
  | own m v rows => simp [GT.er] at h
  | map b es => simp only [GT.er] at h; cases h; exact ⟨b, rfl⟩
  | iter b s p => simp [GT.er] at h
theorem er_iter {g : GT} {s : ByteArray} {p : Nat} (h : g.er = .iter s p) (hl : g.leaf = false) : ∃ b, g = .iter b s p := by
  cases g with
  | lf a v => cases hl
  | own m v rows => simp [GT.er] at h
  | map b es => simp [GT.er] at h
  | iter b s p => simp only [GT.er] at h; cases h; exact ⟨b, rfl⟩
theorem asIntOf_int (k : IntKind) (i : Int) (w : World) : (asIntOf (.int k i)).run P w = .ok (k, i) w := rfl
theorem snd_indexAddr {t e : Nat} {i j : TI} {x ix : Operand} (ho : o.op = .indexAddr t x ix) (htt : TTok P TT) (ht : TT t = some i) (hi : i.kind = .slice e) (he : TT e = some j) (hsz : 0 < j.size)
    (hk : match ev σ x, ev σ ix with
      | .sl n l, .int _ q => n = j.size ∧ 0 ≤ q ∧ (match l[q.toNat]? with
        | some el => K (σ.put o.dst (.fp el))
        | none => False)
      | .ref y p c, .int _ q => (match cellAtB σ y p c with
        | .own n es => n = j.size ∧ 0 ≤ q ∧ q.toNat < es.length ∧ K (σ.put o.dst (.lv y (p ++ [(c, q.toNat)]) 0))
        | _ => False)
      | _, _ => False) : Snd P o σ K := by
  have hti := (htt t i ht).kind
  rw [hi] at hti
  have hti : P.underlying t = some (.slice e) := hti
  have hrun : ∀ (a : Act) (w : World) (ad : Addr) (len cap : Nat) (k : IntKind) (q : Int), a.eval x = .slice (some ad) len cap → a.eval ix = .int k q → 0 ≤ q → q.toNat < len →
      (execOp a.eval o).run P w = .ok (.value (.pointer (some (ad.add (q.toNat * j.size))))) w := by
    intro a w ad len cap k q h1 h2 h3 h4
    have h5 : q < (len : Int) := by omega
    simp [execOp, ho, Instr.indexAt, h1, h2, asIntOf_int, run_underlying hti, h3, h5, (htt e j he).run_size w]
  cases hx : ev σ x <;> rw [hx] at hk <;> try (exact hk.elim)
  · rename_i n l
    cases hy : ev σ ix <;> rw [hy] at hk <;> try (exact hk.elim)
    rename_i k q
    obtain ⟨rfl, hq, hk⟩ := hk
    split at hk
    · rename_i el hel
      refine snd_val _ hk fun {A0 D0 w0 nt a w G} h => ?_
      have hb := h.ev x
      rw [hx] at hb
      have hb := hb.fr_of trivial
      have hc := h.ev ix
      rw [hy] at hc
      generalize hu : a.eval x = u at hb
      have hlt := (List.getElem?_eq_some_iff.1 hel).1
      cases hb with
      | slnil => simp at hlt
      | slmt => simp at hlt
      | sl _ _ b of cap h1 h2 h3 h4 h5 h6 =>
        refine ⟨_, hrun a w _ _ _ k q hu hc.int_inv hq hlt, .fr _ _ ?_⟩
        rw [Addr.add_lit]
        refine .fp _ _ _ (fun c av hav => ?_) (fun c av hav => ?_)
        · have := h5 _ el c av hel hav
          rwa [← Nat.add_assoc] at this
        · have := h6 _ el c av hel hav
          rwa [← Nat.add_assoc] at this
    · exact hk.elim
  · rename_i y p c
    cases hy : ev σ ix <;> rw [hy] at hk <;> try (exact hk.elim)
    rename_i k q
    simp only at hk
    split at hk
    · rename_i n es hc
      obtain ⟨rfl, hq, hlt, hk⟩ := hk
      refine snd_val _ hk fun {A0 D0 w0 nt a w G} h => ?_
      have hb := h.ev x
      rw [hx] at hb
      have hcq := h.ev ix
      rw [hy] at hcq
      obtain ⟨b1, b2, b3⟩ := hb.ref_inv
      obtain ⟨r, row, g, grow, t', k1, k2, k3, k4, k5, k6, k7, k8, k9, k10, k11, k12⟩ := h.tree hc rfl
      obtain ⟨v, rows, rfl, rfl⟩ := er_own k8 k7
      have hv := k11 _ b3
      simp only [GT.val] at hv
      rcases k9.own_inv with ⟨rfl, e2⟩ | ⟨b, cap, vs, T, e1, e2, e3, e4, e5, e6, e7, e8, e9⟩
      · subst e2; simp at hlt
      · refine ⟨_, hrun a w ⟨b, 0, none⟩ rows.length cap k q (by rw [hv, e1]) hcq.int_inv hq (by simpa using hlt), .lv _ _ _ _ b1 fun r' b' o' hr' hp' => ?_⟩
        rw [Addr.add_lit]
        rw [k4] at hr'; cases hr'
        -- the base of the element's row
        have hbase : ∀ (p : List (Nat × Nat)) {base : Option (Nat × Nat)} {cells grow : List GT}, RowMem w (Own A0 G) base cells → gRow cells p = some grow → grow[c]? = some (GT.own j.size v rows) → gBase base cells (p ++ [(c, q.toNat)]) = some (b, q.toNat * j.size) := by
          intro p
          induction p with
          | nil =>
            intro base cells grow hm hg hgc
            cases hg
            obtain ⟨rr, hrr⟩ : ∃ rr, rows[q.toNat]? = some rr := ⟨_, List.getElem?_eq_getElem (by simpa using hlt)⟩
            simp only [List.nil_append, gBase, hgc, e1, hrr]
          | cons s p ih =>
            obtain ⟨c0, i0⟩ := s
            intro base cells grow hm hg hgc
            simp only [gRow] at hg
            split at hg
            · rename_i n0 v0 rows0 hc0
              split at hg
              · rename_i r0 hr0
                obtain ⟨b0, cap0, rfl, hin, _⟩ := hm.inner hc0 hr0
                simp only [List.cons_append, gBase, hc0, hr0]
                exact ih hin hg hgc
              · cases hg
            · cases hg
        have := hbase p (h.inv.row y g k4) k5 k6
        rw [this] at hp'
        cases hp'
        simp
    · exact hk.elim
end
end Go.Ab
namespace Go.Ab
open Go Go.RowKit
def eqB (op : BinOp) (b : Bool) : Option AV :=
  match op with
  | .eql => some (.bool b)
  | .neq => some (.bool !b)
  | _ => none
def abinI (op : BinOp) (k : IntKind) (a b : Int) : Option AV :=
  match op with
  | .add => some (.int k (k.wrap (a + b)))
  | .sub => some (.int k (k.wrap (a - b)))
  | .mul => some (.int k (k.wrap (a * b)))
  | .and => some (.int k (bits .and k a b))
  | .or => some (.int k (bits .or k a b))
  | .xor => some (.int k (bits .xor k a b))
  | .andNot => some (.int k (bits .andNot k a b))
  | .eql => some (.bool (decide (a = b)))
  | .neq => some (.bool (!decide (a = b)))
  | .lss => some (.bool (decide (a < b)))
  | .leq => some (.bool (decide (a ≤ b)))
  | .gtr => some (.bool (decide (b < a)))
  | .geq => some (.bool (decide (b ≤ a)))
  | _ => none
def ashift (op : BinOp) (k : IntKind) (a b : Int) : Option AV :=
  match op with
  | .shl => if 0 ≤ b then some (.int k (k.wrap (a * 2 ^ (min b.toNat k.bits)))) else none
  | .shr => if 0 ≤ b then some (.int k (a.fdiv (2 ^ (min b.toNat k.bits)))) else none
  | _ => none
def abinS (op : BinOp) (a b : ByteArray) : Option AV :=
  match op with
  | .add => if a.size + b.size ≤ MX then some (.str (a ++ b)) else none
  | .eql => some (.bool (decide (a = b)))
  | .neq => some (.bool (!decide (a = b)))
  | .lss => some (.bool (Op.bytesLess a.toList b.toList))
  | _ => none
def isShift : BinOp → Bool
  | .shl | .shr => true
  | _ => false
def abin (op : BinOp) : AV → AV → Option AV
  | .int k a, .int k' b => if isShift op = true then ashift op k a b else if k = k' then abinI op k a b else none
  | .bool a, .bool b => eqB op (decide (a = b))
  | .str a, .str b => abinS op a b
  | .nilp, .nilp => eqB op true
  | .lv _ _ _, .nilp => eqB op false
  | .fp _, .nilp => eqB op false
  | .nilp, .lv _ _ _ => eqB op false
  | .nilp, .fp _ => eqB op false
  | .nilsl, .nilsl => eqB op true
  | _, _ => none
theorem decide_str_beq (a b : ByteArray) : (a.toList == b.toList) = decide (a = b) := by
  rw [ByteArray.toList_eq, ByteArray.toList_eq]
  obtain ⟨⟨x⟩⟩ := a
  obtain ⟨⟨y⟩⟩ := b
  by_cases h : x = y
  · subst h; simp
  · simp [h]
theorem abinI_run {P : Program} {op : BinOp} {k : IntKind} {a b : Int} {r : AV} (t : TypeId) (w : World) (h : abinI op k a b = some r) (hs : isShift op = false) : ∃ v, (binOp op t (.int k a) (.int k b)).run P w = .ok v w ∧ ∀ w A, FR w A r v := by
  cases op <;> simp only [abinI, Option.some.injEq, reduceCtorEq] at h <;> first
    | (cases hs; done)
    | (subst h; exact ⟨_, by simp only [binOp_add, binOp_sub, binOp_mul, binOp_and, binOp_or, binOp_xor, binOp_andNot, intBits_and, intBits_or, intBits_xor, intBits_andNot, Op.intArith, Sem.run_pure]; first | done | rfl, fun _ _ => .int _ _⟩)
    | (subst h; exact ⟨_, by simp only [binOp_eql, binOp_neq, binOp_lss, binOp_leq, binOp_gtr, binOp_geq, Sem.run_pure]; first | done | rfl, fun _ _ => .bool _⟩)
theorem ashift_run {P : Program} {op : BinOp} {k k' : IntKind} {a b : Int} {r : AV} (t : TypeId) (w : World) (h : ashift op k a b = some r) : ∃ v, (binOp op t (.int k a) (.int k' b)).run P w = .ok v w ∧ ∀ w A, FR w A r v := by
  cases op <;> simp only [ashift, reduceCtorEq] at h <;> (split at h <;> cases h) <;> rename_i hj <;> have hj' : ¬ b < 0 := by omega
  all_goals exact ⟨_, by simp only [binOp, Op.shift, hj', if_false, Sem.run_pure]; first | done | rfl, fun _ _ => .int _ _⟩
theorem abinS_run {P : Program} {op : BinOp} {a b : ByteArray} {r : AV} (t : TypeId) (w : World) (h : abinS op a b = some r) : ∃ v, (binOp op t (.string a) (.string b)).run P w = .ok v w ∧ ∀ w A, FR w A r v := by
  cases op <;> simp only [abinS, Option.some.injEq, reduceCtorEq] at h
  case add =>
    split at h
    · rename_i hl
      cases h
      have : ¬ ((a.size + b.size : Nat) : Int) > IntKind.i64.max := by simp [MX] at hl ⊢; omega
      refine ⟨_, by simp only [binOp, Op.stringOp]; rw [if_neg this]; first | done | rfl, fun _ _ => .str _ (by simpa using hl)⟩
    · cases h
  all_goals (subst h; first
    | exact ⟨_, by simp only [binOp, Op.stringOp, decide_str_beq, Sem.run_pure]; first | done | rfl, fun _ _ => .bool _⟩)
theorem eqB_inv {op : BinOp} {b : Bool} {av : AV} (h : eqB op b = some av) : (op = .eql ∧ av = .bool b) ∨ (op = .neq ∧ av = .bool !b) := by
  cases op <;> simp [eqB] at h <;> simp [h]
section
variable {P : Program} {TT : TTab} {o : Oper} {σ : St} {K : St → Prop}
def eqKind (P : Program) (t : Nat) : AV → AV → Prop
  | .nilp, _ => ∃ e, P.underlying t = some (.pointer e)
  | .lv _ _ _, _ => ∃ e, P.underlying t = some (.pointer e)
  | .fp _, _ => ∃ e, P.underlying t = some (.pointer e)
  | .nilsl, _ => ∃ e, P.underlying t = some (.slice e)
  | .bool _, _ => P.underlying t = some .bool
  | _, _ => True
theorem run_binOp {op : BinOp} {t : Nat} {x y : Operand} {u v : Value} {w : World} {A : Nat → Prop} {G : Nat → Option GR} {n : Nat} {p q r : AV} (hx : Rel w A G n p u) (hy : Rel w A G n q v) (h : abin op p q = some r) (hpt : eqKind P t p q) :
    ∃ z, (do eqGuard op t x y u v; binOp op t u v : Sem Value).run P w = .ok z w ∧ ∀ w A, FR w A r z := by
  have ptr : ∀ (b c : Option Addr) (e : Nat), P.underlying t = some (.pointer e) → (b = none ∨ c = none) → ∀ r, eqB op (decide (b.isNone = c.isNone)) = some r → ∃ z, (do eqGuard op t x y (.pointer b) (.pointer c); binOp op t (.pointer b) (.pointer c) : Sem Value).run P w = .ok z w ∧ ∀ w A, FR w A r z := by
    intro b c e ht hbc r h
    have hrun : (Op.equal t (.pointer b) (.pointer c)).run P w = .ok (decide (b.isNone = c.isNone)) w := by
      have key : ∀ d, (Op.equalIn (d + 1) t (.pointer b) (.pointer c)).run P w = .ok (decide (b.isNone = c.isNone)) w := by
        intro d
        cases b with
        | none => cases c <;> simp [Op.equalIn, run_underlying ht]
        | some b => cases c with
          | none => simp [Op.equalIn, run_underlying ht]
          | some c => simp at hbc
      exact key 9999
    rcases eqB_inv h with ⟨rfl, rfl⟩ | ⟨rfl, rfl⟩
    · exact ⟨_, by rw [Sem.run_bind, eqGuard_at_pointer]; simp [binOp, hrun]; first | done | rfl, fun _ _ => .bool _⟩
    · exact ⟨_, by rw [Sem.run_bind, eqGuard_at_pointer]; simp [binOp, hrun]; first | done | rfl, fun _ _ => .bool _⟩
  have fpptr : ∀ {l : List AV} {u : Value}, Rel w A G n (.fp l) u → ∃ ad, u = .pointer (some ad) := by
    intro l u h
    have := h.fr_of trivial
    cases this; exact ⟨_, rfl⟩
  cases p <;> try (simp [abin] at h; done)
  case int k i =>
    cases q <;> try (simp [abin] at h; done)
    rename_i k' j
    have e1 := hx.int_inv; have e2 := hy.int_inv
    subst e1; subst e2
    simp only [abin] at h
    simp only [Sem.run_bind, eqGuard_at_int, Sem.run_pure, Result.andThen_ok]
    split at h
    · exact ashift_run t w h
    · rename_i hs
      split at h
      · rename_i hk; subst hk; exact abinI_run t w h (by simpa using hs)
      · cases h
  case bool b =>
    cases q <;> try (simp [abin] at h; done)
    rename_i c
    have e1 := hx.bool_inv; have e2 := hy.bool_inv
    subst e1; subst e2
    simp only [abin] at h
    have hrun : (Op.equal t (.bool b) (.bool c)).run P w = .ok (b == c) w := by
      exact run_equalIn_bool w 9999 t b c hpt
    have hbc : decide (b = c) = (b == c) := by cases b <;> cases c <;> rfl
    rw [hbc] at h
    simp only [Sem.run_bind, eqGuard_at_bool, Sem.run_pure, Result.andThen_ok]
    rcases eqB_inv h with ⟨rfl, rfl⟩ | ⟨rfl, rfl⟩
    · exact ⟨_, by simp [binOp, hrun]; first | done | rfl, fun _ _ => .bool _⟩
    · exact ⟨_, by simp [binOp, hrun]; first | done | rfl, fun _ _ => .bool _⟩
  case str s =>
    cases q <;> try (simp [abin] at h; done)
    have e1 := hx.str_inv.1; have e2 := hy.str_inv.1
    subst e1; subst e2
    simp only [abin] at h
    simp only [Sem.run_bind, eqGuard_at_string, Sem.run_pure, Result.andThen_ok]
    exact abinS_run t w h
  case nilsl =>
    cases q <;> try (simp [abin] at h; done)
    have e1 := hx.nilsl_inv; have e2 := hy.nilsl_inv
    subst e1; subst e2
    obtain ⟨e, ht⟩ := hpt
    simp only [abin] at h
    have hrun : (Op.equal t (.slice none 0 0) (.slice none 0 0)).run P w = .ok true w := by
      have key : ∀ d, (Op.equalIn (d + 1) t (.slice none 0 0) (.slice none 0 0)).run P w = .ok true w := by intro d; simp [Op.equalIn, run_underlying ht]
      exact key 9999
    simp only [Sem.run_bind, eqGuard_at_slice, Sem.run_pure, Result.andThen_ok]
    rcases eqB_inv h with ⟨rfl, rfl⟩ | ⟨rfl, rfl⟩
    · exact ⟨_, by simp [binOp, hrun]; first | done | rfl, fun _ _ => .bool _⟩
    · exact ⟨_, by simp [binOp, hrun]; first | done | rfl, fun _ _ => .bool _⟩
  case nilp =>
    have e1 := hx.nilp_inv; subst e1
    obtain ⟨e, ht⟩ := hpt
    cases q <;> try (simp [abin] at h; done)
    · have e2 := hy.nilp_inv; subst e2
      exact ptr none none e ht (.inl rfl) r (by simpa [abin] using h)
    · obtain ⟨ad, rfl⟩ := fpptr hy
      exact ptr none (some ad) e ht (.inl rfl) r (by simpa [abin] using h)
    · obtain ⟨ad, rfl, _⟩ := hy.lv_inv
      exact ptr none (some ad) e ht (.inl rfl) r (by simpa [abin] using h)
  case fp l =>
    obtain ⟨ad, rfl⟩ := fpptr hx
    obtain ⟨e, ht⟩ := hpt
    cases q <;> try (simp [abin] at h; done)
    have e2 := hy.nilp_inv; subst e2
    exact ptr (some ad) none e ht (.inr rfl) r (by simpa [abin] using h)
  case lv y' p' c' =>
    obtain ⟨ad, rfl, _⟩ := hx.lv_inv
    obtain ⟨e, ht⟩ := hpt
    cases q <;> try (simp [abin] at h; done)
    have e2 := hy.nilp_inv; subst e2
    exact ptr (some ad) none e ht (.inr rfl) r (by simpa [abin] using h)
theorem snd_binOp {op : BinOp} {t u : Nat} {x y : Operand} {r : AV} (ho : o.op = .binOp op t x y u) (h : abin op (ev σ x) (ev σ y) = some r) (hpt : eqKind P t (ev σ x) (ev σ y)) (hk : K (σ.put o.dst r)) : Snd P o σ K :=
  snd_val _ hk fun {_ _ _ _ a w _} hh => by
    obtain ⟨z, h1, h2⟩ := run_binOp (P := P) (t := t) (x := x) (y := y) (hh.ev x) (hh.ev y) h hpt
    refine ⟨z, ?_, .fr _ _ (h2 _ _)⟩
    simp only [execOp, ho]
    rw [Sem.run_bind, h1]
    rfl
def aun (op : UnOp) : AV → Option AV
  | .bool b => match op with | .not => some (.bool !b) | _ => none
  | .int k i => match op with | .neg => some (.int k (k.wrap (0 - i))) | .xor => some (.int k (bits .xor k (if k.signed = true then -1 else k.max) i)) | _ => none
  | _ => none
theorem snd_unOp {op : UnOp} {t : Nat} {x : Operand} {r : AV} (ho : o.op = .unOp op t x) (h : aun op (ev σ x) = some r) (hk : K (σ.put o.dst r)) : Snd P o σ K :=
  snd_val _ hk fun {_ _ _ _ a w _} hh => by
    have hx := hh.ev x
    cases hx' : ev σ x <;> rw [hx'] at hx h <;> try (simp [aun] at h; done)
    · have e := hx.bool_inv
      cases op <;> simp [aun] at h
      subst h
      exact ⟨_, by simp [execOp, ho, e, Op.unary]; first | done | rfl, .fr _ _ (.bool _)⟩
    · have e := hx.int_inv
      cases op <;> simp [aun] at h <;> subst h
      · exact ⟨_, by simp [execOp, ho, e, Op.unary, Op.intArith]; first | done | rfl, .fr _ _ (.int _ _)⟩
      · exact ⟨_, by simp [execOp, ho, e, Op.unary, intBits_xor]; first | done | rfl, .fr _ _ (.int _ _)⟩
end
end Go.Ab
namespace Go.Ab
open Go Go.RowKit
section
variable {P : Program} {TT : TTab} {o : Oper} {σ : St} {K : St → Prop}
theorem snd_makeInterface {t : Nat} {i : TI} {x : Operand} (ho : o.op = .makeInterface t x) (htt : TTok P TT) (ht : TT t = some i) (hi : (match i.kind with | .iface _ => false | _ => true) = true) (hk : K (σ.put o.dst (.ifc t (ev σ x)))) : Snd P o σ K :=
  snd_val _ hk fun {_ _ _ _ a w _} h => by
    refine ⟨.iface t (a.eval x), ?_, .ifc _ _ _ (h.ev x)⟩
    have hk := (htt t i ht).kind
    have hd : ∃ d, P.underlying t = some d ∧ ∀ ms, d ≠ .interface ms := by
      cases hi' : i.kind <;> simp only [hi', KindOK] at hk hi
      case struct fs => obtain ⟨f, h1, _⟩ := hk; exact ⟨_, h1, by simp⟩
      case func => obtain ⟨_, _, _, h1⟩ := hk; exact ⟨_, h1, by simp⟩
      case other => obtain ⟨d, h1, _, _, h2⟩ := hk; exact ⟨d, h1, h2⟩
      case iface => cases hi
      all_goals exact ⟨_, hk, by simp⟩
    obtain ⟨d, hd, hne⟩ := hd
    simp only [execOp, ho, Instr.makeInterface, Sem.run_bind, run_underlying hd, Result.andThen_ok]
    cases d <;> first | exact absurd rfl (hne _) | rfl
theorem relL {A0 D0 : Nat → Prop} {w0 : World} {nt : Nat} {a : Act} {w : World} {G : Nat → Option GR} (h : Holds A0 D0 w0 nt σ a w G) (xs : List Operand) : (xs.map a.eval).length = (xs.map (ev σ)).length ∧
    ∀ (i : Nat) (v : AV), (xs.map (ev σ))[i]? = some v → Rel w (Own A0 G) G σ.n v ((xs.map a.eval).getD i undef) := by
  refine ⟨by simp, fun i v hv => ?_⟩
  simp only [List.getElem?_map, Option.map_eq_some_iff] at hv
  obtain ⟨x, hx, rfl⟩ := hv
  rw [getD_of (a := a.eval x) (by simp [hx])]
  exact h.ev x
theorem snd_makeFunc {fn : Fn} {first caps : Array Operand} (ho : o.op = .makeFunc fn first caps) (hk : K (σ.put o.dst (.func fn (first.toList.map (ev σ)) (caps.toList.map (ev σ))))) : Snd P o σ K :=
  snd_val _ hk fun {_ _ _ _ a w _} h => by
    obtain ⟨l1, r1⟩ := relL h first.toList
    obtain ⟨l2, r2⟩ := relL h caps.toList
    refine ⟨.func fn (first.map a.eval) (caps.map a.eval), by simp [execOp, ho, Instr.makeFunc], ?_⟩
    have e1 : first.map a.eval = (first.toList.map a.eval).toArray := by apply Array.ext'; simp
    have e2 : caps.map a.eval = (caps.toList.map a.eval).toArray := by apply Array.ext'; simp
    rw [e1, e2]
    exact .func _ _ _ _ _ l1 l2 r1 r2
theorem snd_extract {x : Operand} {k : Nat} (ho : o.op = .extract x k) (hk : match ev σ x with | .tup l => k < l.length ∧ K (σ.put o.dst (l.getD k .undef)) | _ => False) : Snd P o σ K := by
  cases hx : ev σ x <;> rw [hx] at hk <;> try (exact hk.elim)
  rename_i l
  obtain ⟨hl, hk⟩ := hk
  refine snd_val _ hk fun {_ _ _ _ a w _} h => ?_
  have hb := h.ev x
  rw [hx] at hb
  obtain ⟨vs, h1, h2, h3⟩ := hb.tup_inv
  have hl' : k < vs.length := by omega
  refine ⟨vs.getD k undef, ?_, ?_⟩
  · simp [execOp, ho, Instr.extract, h1, List.getElem?_eq_getElem hl']
  · have : l[k]? = some l[k] := List.getElem?_eq_getElem hl
    have e : l.getD k .undef = l[k] := getD_of this
    rw [e]; exact h3 k _ this
theorem zero_rel {w : World} {A : Nat → Prop} {G : Nat → Option GR} {n : Nat} {i : TI} {z : Value} (h : ZeroOK i.zero z.cells.toList) (ha : i.kind.agg = true → ∃ cs, z = .agg cs) (hb : i.kind.agg = false → z.oneCell' = true) : Rel w A G n (mkV i i.zero) z := by
  unfold mkV
  cases hk : i.kind.agg with
  | true =>
    obtain ⟨cs, rfl⟩ := ha hk
    have e : cs = cs.toList.toArray := by simp
    rw [e]
    refine .agg _ _ (by simpa [Value.cells] using h.1.symm) fun q av hq => ?_
    have hl : q < cs.toList.length := by have := (List.getElem?_eq_some_iff.1 hq).1; have := h.1; simp only [Value.cells] at this; omega
    obtain ⟨h1, _⟩ := h.2 q av cs.toList[q] hq (List.getElem?_eq_getElem hl)
    rw [getD_of (List.getElem?_eq_getElem hl)]
    exact .fr _ _ (h1 _ _)
  | false =>
    have hz := hb hk
    have hc : z.cells.toList = [z] := by cases z <;> first | rfl | cases hz
    rw [hc] at h
    obtain ⟨h1, h2⟩ := h
    match hl : i.zero, h1 with
    | [a], _ =>
      obtain ⟨h3, _⟩ := h2 0 a z (by rw [hl]; rfl) rfl
      exact .fr _ _ (h3 _ _)
theorem snd_typeAssert {x : Operand} {s t : Nat} {ok : Bool} {i : TI} (ho : o.op = .typeAssert x s t ok) (htt : TTok P TT) (ht : TT t = some i) (hi : (match i.kind with | .iface _ => false | _ => true) = true)
    (hk : match ev σ x with
      | .ifc u v => if u = t then K (σ.put o.dst (if ok = true then .tup [v, .bool true] else v)) else ok = true ∧ K (σ.put o.dst (.tup [mkV i i.zero, .bool false]))
      | .nili => ok = true ∧ K (σ.put o.dst (.tup [mkV i i.zero, .bool false]))
      | _ => False) : Snd P o σ K := by
  have hti := htt t i ht
  have hd : ∃ d, P.underlying t = some d ∧ ∀ ms, d ≠ .interface ms := by
    have hk := hti.kind
    cases hi' : i.kind <;> simp only [hi', KindOK] at hk hi
    case struct fs => obtain ⟨f, h1, _⟩ := hk; exact ⟨_, h1, by simp⟩
    case func => obtain ⟨_, _, _, h1⟩ := hk; exact ⟨_, h1, by simp⟩
    case other => obtain ⟨d, h1, _, _, h2⟩ := hk; exact ⟨d, h1, h2⟩
    case iface => cases hi
    all_goals exact ⟨_, hk, by simp⟩
  obtain ⟨d, hd, hne⟩ := hd
  cases hx : ev σ x <;> rw [hx] at hk <;> try (exact hk.elim)
  · rename_i u v
    simp only at hk
    split at hk
    · rename_i hut; subst hut
      refine snd_val _ hk fun {_ _ _ _ a w _} h => ?_
      have hb := h.ev x
      rw [hx] at hb
      obtain ⟨z, e1, e2⟩ := hb.ifc_inv
      cases ok with
      | true =>
        refine ⟨.tuple #[z, .bool true], ?_, ?_⟩
        · simp only [execOp, ho, Instr.typeAssert, Sem.run_bind, run_underlying hd, Result.andThen_ok, e1]
          cases d <;> first | exact absurd rfl (hne _) | simp
        · refine .tup [v, .bool true] [z, .bool true] rfl fun i av hav => ?_
          match i, hav with
          | 0, hav => cases hav; exact e2
          | 1, hav => cases hav; exact .fr _ _ (.bool _)
      | false =>
        refine ⟨z, ?_, e2⟩
        simp only [execOp, ho, Instr.typeAssert, Sem.run_bind, run_underlying hd, Result.andThen_ok, e1]
        cases d <;> first | exact absurd rfl (hne _) | simp
    · rename_i hut
      obtain ⟨rfl, hk⟩ := hk
      refine snd_val _ hk fun {_ _ _ _ a w _} h => ?_
      have hb := h.ev x
      rw [hx] at hb
      obtain ⟨z, e1, e2⟩ := hb.ifc_inv
      obtain ⟨z0, z1, z2, z3, z4⟩ := hti.run_zero w
      refine ⟨.tuple #[z0, .bool false], ?_, ?_⟩
      · simp only [execOp, ho, Instr.typeAssert, Sem.run_bind, run_underlying hd, Result.andThen_ok, e1]
        cases d <;> first | exact absurd rfl (hne _) | simp [hut, z1]
      · refine .tup [mkV i i.zero, .bool false] [z0, .bool false] rfl fun q av hav => ?_
        match q, hav with
        | 0, hav => cases hav; exact zero_rel z2 z3 z4
        | 1, hav => cases hav; exact .fr _ _ (.bool _)
  · obtain ⟨rfl, hk⟩ := hk
    refine snd_val _ hk fun {_ _ _ _ a w _} h => ?_
    have hb := h.ev x
    rw [hx] at hb
    have e1 := hb.nili_inv
    obtain ⟨z0, z1, z2, z3, z4⟩ := hti.run_zero w
    refine ⟨.tuple #[z0, .bool false], ?_, ?_⟩
    · simp only [execOp, ho, Instr.typeAssert, Sem.run_bind, run_underlying hd, Result.andThen_ok, e1]
      cases d <;> first | exact absurd rfl (hne _) | simp [z1]
    · refine .tup [mkV i i.zero, .bool false] [z0, .bool false] rfl fun q av hav => ?_
      match q, hav with
      | 0, hav => cases hav; exact zero_rel z2 z3 z4
      | 1, hav => cases hav; exact .fr _ _ (.bool _)
theorem snd_field {t f T off : Nat} {x : Operand} {fs : List (Nat × Nat)} {i j : TI} (ho : o.op = .field t x f) (htt : TTok P TT) (ht : TT t = some i) (hi : i.kind = .struct fs) (hf : fs[f]? = some (T, off)) (hT : TT T = some j) (h1 : j.kind.agg = false → j.size = 1)
    (hk : match ev σ x with | .agg l => off + j.size ≤ l.length ∧ K (σ.put o.dst (mkV j ((l.drop off).take j.size))) | _ => False) : Snd P o σ K := by
  cases hx : ev σ x <;> rw [hx] at hk <;> try (exact hk.elim)
  rename_i l
  obtain ⟨hl, hk⟩ := hk
  refine snd_val _ hk fun {_ _ _ _ a w _} h => ?_
  have hb := h.ev x
  rw [hx] at hb
  obtain ⟨vs, e1, e2, e3⟩ := hb.agg_inv
  have hkd := (htt t i ht).kind
  rw [hi] at hkd
  obtain ⟨fa, h2, h3⟩ := hkd
  have h4 : ∃ fl, fa[f]? = some fl ∧ fl.type = T ∧ fl.offset = off := by
    rw [← h3] at hf
    simp only [List.getElem?_map, Option.map_eq_some_iff] at hf
    obtain ⟨fl, hfl, e⟩ := hf
    refine ⟨fl, by simpa using hfl, by cases e; rfl, by cases e; rfl⟩
  obtain ⟨fl, h5, rfl, rfl⟩ := h4
  have hj := htt _ j hT
  unfold mkV
  cases hag : j.kind.agg with
  | true =>
    refine ⟨.agg ((vs.drop fl.offset).take j.size).toArray, ?_, ?_⟩
    · simp [execOp, ho, Instr.field, run_underlying h2, h5, e1, asAgg, part, hj.run_isAgg, hj.run_size, hag, List.extract_toArray, List.extract_eq_take_drop]
    · refine .agg _ _ (by simp; omega) fun q av hq => ?_
      rw [List.getElem?_take] at hq
      split at hq
      · rename_i hql
        rw [List.getElem?_drop] at hq
        have : ((vs.drop fl.offset).take j.size).getD q undef = vs.getD (fl.offset + q) undef := by
          simp [List.getD, hql]
        rw [this]; exact e3 _ av hq
      · cases hq
  | false =>
    have hs1 := h1 hag
    have hlt : fl.offset < vs.length := by omega
    refine ⟨vs.getD fl.offset undef, ?_, ?_⟩
    · simp [execOp, ho, Instr.field, run_underlying h2, h5, e1, asAgg, part, hj.run_isAgg, hag, List.getElem?_eq_getElem hlt]
    · have hl' : fl.offset < l.length := by omega
      have e : ((l.drop fl.offset).take j.size).headD .undef = l[fl.offset] := by
        rw [hs1]
        have : (l.drop fl.offset).take 1 = [l[fl.offset]] := by
          rw [List.drop_eq_getElem_cons hl']; rfl
        rw [this]; rfl
      simp only [Bool.false_eq_true, if_false]
      rw [e]; exact e3 _ _ (List.getElem?_eq_getElem hl')
end
end Go.Ab
namespace Go.Ab
open Go Go.RowKit
def eqF (TT : TTab) (f : Nat → AV → AV → Option Bool) : List (Nat × Nat) → List AV → List AV → Option Bool
  | [], _, _ => some true
  | (T, off) :: fs, l, l' => match TT T with
    | some j => if (j.kind.agg || j.size == 1) = true ∧ off + j.size ≤ l.length ∧ off + j.size ≤ l'.length then (match f T (mkV j ((l.drop off).take j.size)) (mkV j ((l'.drop off).take j.size)) with
      | some p => match eqF TT f fs l l' with
        | some q => some (p && q)
        | none => none
      | none => none) else none
    | none => none
def eqT (TT : TTab) : Nat → Nat → AV → AV → Option Bool
  | 0, _, _, _ => none
  | n + 1, t, a, b => match TT t with
    | some i => match i.kind with
      | .int _ => match a, b with
        | .int k x, .int k' y => if k = k' then some (decide (x = y)) else none
        | _, _ => none
      | .str => match a, b with
        | .str x, .str y => some (decide (x = y))
        | _, _ => none
      | .bool => match a, b with
        | .bool x, .bool y => some (decide (x = y))
        | _, _ => none
      | .struct fs => if i.eqs = true then (match a, b with
        | .agg l, .agg l' => eqF TT (eqT TT n) fs l l'
        | _, _ => none) else none
      | _ => none
    | none => none
section
variable {P : Program} {TT : TTab}
theorem part_run (htt : TTok P TT) {T off : Nat} {j : TI} (hT : TT T = some j) (hok : (j.kind.agg || j.size == 1) = true) {l : List AV} {vs : List Value} {w : World} {A : Nat → Prop} {G : Nat → Option GR} {n : Nat} (hl : off + j.size ≤ l.length) (e2 : vs.length = l.length)
    (e3 : ∀ (i : Nat) (a : AV), l[i]? = some a → Rel w A G n a (vs.getD i undef)) : ∃ u, (part T vs.toArray off).run P w = .ok u w ∧ Rel w A G n (mkV j ((l.drop off).take j.size)) u := by
  have hj := htt _ j hT
  unfold mkV
  cases hag : j.kind.agg with
  | true =>
    refine ⟨.agg ((vs.drop off).take j.size).toArray, ?_, ?_⟩
    · simp [part, hj.run_isAgg, hj.run_size, hag, List.extract_toArray, List.extract_eq_take_drop]
    · refine .agg _ _ (by simp; omega) fun q av hq => ?_
      rw [List.getElem?_take] at hq
      split at hq
      · rename_i hql
        rw [List.getElem?_drop] at hq
        have : ((vs.drop off).take j.size).getD q undef = vs.getD (off + q) undef := by
          simp [List.getD, hql]
        rw [this]; exact e3 _ av hq
      · cases hq
  | false =>
    have hs1 : j.size = 1 := by simp [hag] at hok; exact hok
    have hlt : off < vs.length := by omega
    refine ⟨vs.getD off undef, ?_, ?_⟩
    · simp [part, hj.run_isAgg, hag, List.getElem?_eq_getElem hlt]
    · have hl' : off < l.length := by omega
      have e : ((l.drop off).take j.size).headD .undef = l[off] := by
        rw [hs1]
        have : (l.drop off).take 1 = [l[off]] := by
          rw [List.drop_eq_getElem_cons hl']; rfl
        rw [this]; rfl
      simp only [Bool.false_eq_true, if_false]
      rw [e]; exact e3 _ _ (List.getElem?_eq_getElem hl')
theorem eqF_run (htt : TTok P TT) {w : World} {A : Nat → Prop} {G : Nat → Option GR} {n : Nat} {d : Nat} {f : Nat → AV → AV → Option Bool} (hf : ∀ t a b r u v, f t a b = some r → Rel w A G n a u → Rel w A G n b v → (Op.equalIn d t u v).run P w = .ok r w) :
    ∀ {fl : List Field} {l l' : List AV} {vs vs' : List Value} {r : Bool}, (∀ x ∈ fl, x.name ≠ "_") → eqF TT f (fl.map fun x => (x.type, x.offset)) l l' = some r → vs.length = l.length → vs'.length = l'.length →
      (∀ (i : Nat) (a : AV), l[i]? = some a → Rel w A G n a (vs.getD i undef)) → (∀ (i : Nat) (a : AV), l'[i]? = some a → Rel w A G n a (vs'.getD i undef)) → (Op.eqFields d vs.toArray vs'.toArray fl).run P w = .ok r w
  | [], l, l', vs, vs', r, _, h, _, _, _, _ => by cases h; simp [Op.eqFields]
  | x :: fl, l, l', vs, vs', r, hn, h, h1, h2, h3, h4 => by
    simp only [List.map_cons, eqF] at h
    split at h
    · rename_i j hj
      split at h
      · rename_i hc
        split at h
        · rename_i p hp
          split at h
          · rename_i q hq
            cases h
            obtain ⟨u, k1, k2⟩ := part_run htt hj hc.1 hc.2.1 h1 h3
            obtain ⟨v, k3, k4⟩ := part_run htt hj hc.1 hc.2.2 h2 h4
            have hr := hf _ _ _ _ _ _ hp k2 k4
            have ih := eqF_run htt hf (fun y hy => hn y (by simp [hy])) hq h1 h2 h3 h4
            have hne := hn x (by simp)
            simp only [Op.eqFields]
            rw [if_pos hne]
            simp only [Sem.run_bind, k1, Result.andThen_ok, k3, hr]
            cases p
            · simp
            · simpa using ih
          · cases h
        · cases h
      · cases h
    · cases h
theorem eqT_run (htt : TTok P TT) {w : World} {A : Nat → Prop} {G : Nat → Option GR} {n : Nat} : ∀ (k d : Nat) (t : Nat) (a b : AV) (r : Bool) (u v : Value), k ≤ d → eqT TT k t a b = some r → Rel w A G n a u → Rel w A G n b v → (Op.equalIn d t u v).run P w = .ok r w
  | 0, d, t, a, b, r, u, v, _, h, _, _ => by simp [eqT] at h
  | k + 1, 0, t, a, b, r, u, v, hd, h, _, _ => by omega
  | k + 1, d + 1, t, a, b, r, u, v, hd, h, ha, hb => by
    simp only [eqT] at h
    split at h
    · rename_i i hi
      have hk := (htt t i hi).kind
      split at h
      · rename_i k' hki
        rw [hki] at hk
        split at h
        · rename_i k1 x k2 y
          split at h
          · rename_i e; subst e; cases h
            rw [ha.int_inv, hb.int_inv]
            rw [run_equalIn_int w d t k1 k' x y hk]
            first | rfl | simp
          · cases h
        · cases h
      · rename_i hki
        rw [hki] at hk
        split at h
        · rename_i x y
          cases h
          rw [(ha.str_inv).1, (hb.str_inv).1, run_equalIn_string w d t x y hk, decide_str_beq]
        · cases h
      · rename_i hki
        rw [hki] at hk
        split at h
        · rename_i x y
          cases h
          rw [ha.bool_inv, hb.bool_inv, run_equalIn_bool' w d t x y hk]
          cases x <;> cases y <;> rfl
        · cases h
      · rename_i fs hki
        split at h
        · rename_i hq
          obtain ⟨q1, q2, q3, q4⟩ := (htt t i hi).eqs hq
          rw [hki] at hk
          obtain ⟨fa, g1, g2⟩ := hk
          have g1 : P.underlying t = some (.struct fa) := g1
          rw [q3] at g1
          have hfa : P.fieldsOf t = fa := by cases g1; rfl
          split at h
          · rename_i l l'
            obtain ⟨vs, rfl, e1, e2⟩ := ha.agg_inv
            obtain ⟨vs', rfl, e3, e4⟩ := hb.agg_inv
            rw [run_equalIn_struct w d t _ _ q3 q1]
            rw [← g2, ← hfa] at h
            exact eqF_run htt (fun t a b r u v h hu hv => eqT_run htt k d t a b r u v (by omega) h hu hv) q4 h e1 e3 e2 e4
          · cases h
        · cases h
      · cases h
    · cases h
theorem snd_eqS {o : Oper} {σ : St} {K : St → Prop} {op : BinOp} {t : Nat} {x y : Operand} {u : TypeId} {l l' : List AV} {r : Bool} {z : AV} {i : TI} {fs : List (Nat × Nat)} (ho : o.op = .binOp op t x y u) (htt : TTok P TT) (hi : TT t = some i) (hk : i.kind = .struct fs) (hx : ev σ x = .agg l) (hy : ev σ y = .agg l') (h : eqT TT 4 t (.agg l) (.agg l') = some r) (hz : eqB op r = some z)
    (hK : K (σ.put o.dst z)) : Snd P o σ K := by
  refine snd_val z hK fun {A0 D0 w0 nt a w G} hh => ?_
  have ha := hh.ev x
  have hb := hh.ev y
  rw [hx] at ha
  rw [hy] at hb
  have hrun := eqT_run htt 4 10000 t _ _ r _ _ (by omega) h ha hb
  obtain ⟨vs, e1, _, _⟩ := ha.agg_inv
  obtain ⟨vs', e2, _, _⟩ := hb.agg_inv
  rw [e1, e2] at hrun
  have heqs : i.eqs = true := by
    unfold eqT at h
    rw [hi] at h
    simp only [hk] at h
    split at h
    · assumption
    · cases h
  obtain ⟨q1, q2, _, _⟩ := (htt t i hi).eqs heqs
  have hg := run_eqGuard_agg (P := P) w op t x y vs.toArray vs'.toArray q2
  rcases eqB_inv hz with ⟨rfl, rfl⟩ | ⟨rfl, rfl⟩
  · refine ⟨.bool r, ?_, .fr _ _ (.bool _)⟩
    simp only [execOp, ho, e1, e2, Sem.run_bind, hg, Result.andThen_ok]
    rw [run_eql_struct, hrun]
    rfl
  · refine ⟨.bool (!r), ?_, .fr _ _ (.bool _)⟩
    simp only [execOp, ho, e1, e2, Sem.run_bind, hg, Result.andThen_ok]
    rw [run_neq_struct, hrun]
    rfl
end
end Go.Ab
