/-
  The program's types as plain data, and how arguments are read. No condition.
-/
import Derived.WalkKit
import Derived.Below
import Derived.Scope
import Derived.Orders
import Derived.ProofKit
import Derived.SizedLaws
import Derived.Test.YtgmegmfbedgabaaProg
import Derived.Still
import Derived.Test.YtgmegmfbedgabaaFa
import Derived.Test.YtgmegmfbedgabaaFb
import Derived.Test.YtgmegmfbedgabaaFc
import Derived.Test.YtgmegmfbedgabaaFd
import Derived.Test.YtgmegmfbedgabaaFe
import Derived.Test.YtgmegmfbedgabaaDa
set_option linter.unusedVariables false
set_option linter.unusedSimpArgs false
namespace Go.Ab
open Go Go.RowKit
abbrev NoOwn : Nat → Prop := fun _ => False
def RowFR (w : World) (cs : List Value) (l : List AV) : Prop := cs.length = l.length ∧ ∀ (i : Nat) (a : AV), l[i]? = some a → FR w NoOwn a (cs.getD i undef)
def Small {H : Type} (P : Program) (t : TypeId) (d : DataW H) : Prop := ∀ n ∈ d.weights P t, n ≤ reachBytes
def Dec (P : Program) (t : TypeId) {α : Type} (e : α → List AV) (wf : α → Prop) : Prop :=
  ∀ {H : Type} (enc : TypeId × Value → H) (w : World) (spare : Nat → Bool) (held : Bool) (fuel : Nat) (cs : List Value) (x : DataW H × List MemPlace), DataW.trod enc P w 0 spare held fuel t cs = some x → Small P t x.1 →
    ∃ a : α, wf a ∧ RowFR w cs (e a)
theorem RowFR.append {w : World} {cs cs' : List Value} {l l' : List AV} (h : RowFR w cs l) (h' : RowFR w cs' l') : RowFR w (cs ++ cs') (l ++ l') := by
  refine ⟨by simp [h.1, h'.1], fun i a ha => ?_⟩
  by_cases hi : i < l.length
  · rw [List.getElem?_append_left hi] at ha
    have := h.2 i a ha
    rwa [List.getD_eq_getElem?_getD, List.getElem?_append_left (by rw [h.1]; exact hi), ← List.getD_eq_getElem?_getD]
  · rw [List.getElem?_append_right (by omega)] at ha
    have := h'.2 _ a ha
    rw [List.getD_eq_getElem?_getD, List.getElem?_append_right (by rw [h.1]; omega), ← List.getD_eq_getElem?_getD, h.1]
    exact this
theorem RowFR.one {w : World} {v : Value} {a : AV} (h : FR w NoOwn a v) : RowFR w [v] [a] := ⟨rfl, fun i b hb => by
  cases i with
  | zero => simp at hb; subst hb; exact h
  | succ i => simp at hb⟩
theorem reach_MX {n : Nat} (h : n ≤ reachBytes) : n ≤ MX := Nat.le_trans h (by decide)
section
variable {P : Program} {t : TypeId}
def i64 (n : Int) : Prop := -9223372036854775808 ≤ n ∧ n < 9223372036854775808
theorem Dec.int (ht : P.underlying t = some (.int .i64)) : Dec P t eI i64 := by
  intro H enc w spare held fuel cs x h _
  obtain ⟨n, rfl, rfl, hw⟩ := DataW.trod_int ht h
  refine ⟨n, ?_, RowFR.one (.int _ _)⟩
  simp only [Lit.wf, Bool.and_eq_true, decide_eq_true_eq] at hw
  have h1 : IntKind.i64.min = -9223372036854775808 := by decide
  have h2 : IntKind.i64.max = 9223372036854775807 := by decide
  rw [h1, h2] at hw
  exact ⟨hw.1, by omega⟩
theorem Dec.str (ht : P.underlying t = some .string) : Dec P t (fun s : ByteArray => [.str s]) (fun _ => True) := by
  intro H enc w spare held fuel cs x h hs
  obtain ⟨s, rfl, rfl, _⟩ := DataW.trod_string ht h
  refine ⟨s, trivial, RowFR.one (.str _ ?_)⟩
  have := hs s.data.toList.length (by simp [DataW.weights])
  exact reach_MX (by simpa using this)
theorem Dec.sliceB {e : TypeId} {α : Type} {f : α → List AV} {wf : α → Prop} {n : Nat} (ht : P.underlying t = some (.slice e)) (hn : P.cellsOf e = n) (hp : 1 ≤ n) (hb : 1 ≤ P.bytesOf e) (hf : ∀ a, (f a).length = n) (hd : Dec P e f wf) :
    Dec P t (fun xs : List α => [.sl n (xs.map f)]) (fun xs => (∀ x ∈ xs, wf x) ∧ xs.length * P.bytesOf e ≤ MX) := by
  intro H enc w spare held fuel cs x h hs
  rcases DataW.trod_slice ht h with ⟨rfl, rfl⟩ | ⟨a, len, cap, elems, rest, m, _, rfl, rfl, _, hl, hm, hlen, hel, _, _⟩
  · exact ⟨[], ⟨(fun x hx => by cases hx), by simp⟩, RowFR.one (.slnil n)⟩
  have hmem : ∀ y ∈ elems, Small P e y.1 := by
    intro y hy k hk
    refine hs k ?_
    simp only [DataW.weights, ht, List.mem_cons, List.mem_append]
    refine .inr (.inl ?_)
    have : ∀ (l : List (DataW H × List MemPlace)), y ∈ l → k ∈ DataW.weightsAll P e (l.map (·.1)) := by
      intro l
      induction l with
      | nil => intro h; cases h
      | cons z l ih =>
        intro h
        simp only [List.map_cons, DataW.weightsAll, List.mem_append]
        rcases List.mem_cons.1 h with rfl | h
        · exact .inl hk
        · exact .inr (ih h)
    exact this elems hy
  have hMX : len ≤ MX := by
    have := hs ((elems.length + rest.length) * P.bytesOf e) (by simp [DataW.weights, ht])
    refine reach_MX (Nat.le_trans ?_ this)
    exact Nat.le_trans (show len ≤ elems.length + rest.length by omega) (Nat.le_mul_of_pos_right _ hb)
  have hMXb : len * P.bytesOf e ≤ MX := by
    have := hs ((elems.length + rest.length) * P.bytesOf e) (by simp [DataW.weights, ht])
    exact reach_MX (Nat.le_trans (Nat.mul_le_mul_right _ (show len ≤ elems.length + rest.length by omega)) this)
  have each : ∀ i, i < len → ∃ (cs : List Value) (b : α), w.cells? 0 (a.add (i * n)) n = some cs ∧ wf b ∧ RowFR w cs (f b) := by
    intro i hi
    have h1 := hel i hi
    have h2 : i < elems.length := by omega
    rw [List.getElem?_eq_getElem h2, hn] at h1
    simp only [Option.bind_eq_some_iff] at h1
    obtain ⟨cs, h3, h4⟩ := h1
    obtain ⟨b, h5, h6⟩ := hd enc w spare held m cs elems[i] h4 (hmem _ (List.getElem_mem _))
    exact ⟨cs, b, h3, h5, h6⟩
  have list : ∀ k, k ≤ len → ∃ xs : List α, xs.length = k ∧ (∀ x ∈ xs, wf x) ∧ ∀ i b, xs[i]? = some b → ∃ cs, w.cells? 0 (a.add (i * n)) n = some cs ∧ RowFR w cs (f b) := by
    intro k
    induction k with
    | zero => exact fun _ => ⟨[], rfl, fun x hx => (by cases hx), fun i b hb => (by simp at hb)⟩
    | succ k ih =>
      intro hk
      obtain ⟨xs, h1, h2, h3⟩ := ih (by omega)
      obtain ⟨cs, b, h4, h5, h6⟩ := each k (by omega)
      refine ⟨xs ++ [b], by simp [h1], fun x hx => ?_, fun i c hc => ?_⟩
      · rcases List.mem_append.1 hx with hx | hx
        · exact h2 x hx
        · simp at hx; subst hx; exact h5
      · by_cases hi : i < xs.length
        · rw [List.getElem?_append_left hi] at hc; exact h3 i c hc
        · rw [List.getElem?_append_right (by omega)] at hc
          cases e0 : i - xs.length with
          | zero =>
            rw [e0] at hc; simp at hc; subst hc
            have : i = k := by omega
            subst this; exact ⟨cs, h4, h6⟩
          | succ j => rw [e0] at hc; simp at hc
  obtain ⟨xs, h1, h2, h3⟩ := list len (Nat.le_refl _)
  refine ⟨xs, ⟨h2, by rw [h1]; exact hMXb⟩, RowFR.one ?_⟩
  clear hMXb
  cases len with
  | zero =>
    have : xs = [] := List.length_eq_zero_iff.1 h1
    subst this
    exact .slmt n a cap hm
  | succ len =>
    have cell : ∀ i b j v, xs[i]? = some b → (f b)[j]? = some v → a.spot = none ∧ ∃ u, w.cell? ⟨a.block, a.off + (i * n + j), none⟩ = some u ∧ FR w NoOwn v u := by
      intro i b j v hb hv
      obtain ⟨cs, h4, h5⟩ := h3 i b hb
      have hj : j < n := by rw [← hf b]; exact (List.getElem?_eq_some_iff.1 hv).1
      have at_ : ∀ i b, xs[i]? = some b → ∀ j, j < n → ∃ cs, w.cells? 0 (a.add (i * n)) n = some cs ∧ RowFR w cs (f b) ∧ ∃ u, cs[j]? = some u ∧ w.cell? ((a.add (i * n)).add j) = some u := by
        intro i b hb j hj
        obtain ⟨cs, h4, h5⟩ := h3 i b hb
        have h6 := h4
        unfold World.cells? at h6
        rw [if_pos (Nat.zero_le _)] at h6
        have h7 := mapM_some_get h6 j j (by simp [hj])
        have hcl : cs.length = n := by rw [h5.1, hf]
        have h8 : j < cs.length := by omega
        rw [List.getElem?_eq_getElem h8] at h7
        exact ⟨cs, h4, h5, cs[j], List.getElem?_eq_getElem h8, h7⟩
      have hsp : a.spot = none := by
        obtain ⟨b0, hb0⟩ : ∃ b0, xs[0]? = some b0 := ⟨xs[0], List.getElem?_eq_getElem (by omega)⟩
        obtain ⟨_, _, _, u, _, hu⟩ := at_ 0 b0 hb0 0 (by omega)
        simp only [Nat.zero_mul, Addr.add] at hu
        unfold World.cell? at hu
        split at hu
        · simp only [if_true] at hu
          split at hu
          · cases hu
          · rename_i hh; simpa using hh
        · cases hu
      refine ⟨hsp, ?_⟩
      obtain ⟨cs', h4', h5', u, h6, h7⟩ := at_ i b hb j hj
      have e1 : (a.add (i * n)).add j = ⟨a.block, a.off + (i * n + j), none⟩ := by
        unfold Addr.add
        by_cases hi0 : i * n = 0
        · rw [if_pos hi0, hi0]
          by_cases hj0 : j = 0
          · rw [if_pos hj0, hj0]; cases a; simp_all
          · rw [if_neg hj0]; simp
        · rw [if_neg hi0]
          by_cases hj0 : j = 0
          · rw [if_pos hj0, hj0]; simp
          · rw [if_neg hj0]; simp; omega
      rw [e1] at h7
      refine ⟨u, h7, ?_⟩
      have := h5'.2 j v hv
      rw [List.getD_eq_getElem?_getD, h6] at this
      exact this
    have hsp : a.spot = none := by
      obtain ⟨b0, hb0⟩ : ∃ b0, xs[0]? = some b0 := ⟨xs[0], List.getElem?_eq_getElem (by omega)⟩
      obtain ⟨v0, hv0⟩ : ∃ v0, (f b0)[0]? = some v0 := ⟨(f b0)[0]'(by rw [hf]; omega), List.getElem?_eq_getElem _⟩
      exact (cell 0 b0 0 v0 hb0 hv0).1
    obtain ⟨ab, ao, asp⟩ := a
    simp only at hsp; subst hsp
    have hml : (xs.map f).length = len + 1 := by simp [h1]
    rw [← hml]
    refine .sl n (xs.map f) ab ao cap (by omega) hm (by omega) (fun i r hr => ?_) (fun i r j v hr hv => ?_) (fun i r j v hr hv => ?_)
    all_goals
      simp only [List.getElem?_map, Option.map_eq_some_iff] at hr
      obtain ⟨b, hb, rfl⟩ := hr
    · exact hf b
    · obtain ⟨_, u, hu, _⟩ := cell i b j v hb hv
      exact ⟨id, by rw [hu]; rfl⟩
    · obtain ⟨_, u, hu, hfr⟩ := cell i b j v hb hv
      unfold rdw; rw [hu]; exact hfr
theorem Dec.slice {e : TypeId} {α : Type} {f : α → List AV} {wf : α → Prop} {n : Nat} (ht : P.underlying t = some (.slice e)) (hn : P.cellsOf e = n) (hp : 1 ≤ n) (hb : 1 ≤ P.bytesOf e) (hf : ∀ a, (f a).length = n) (hd : Dec P e f wf) :
    Dec P t (fun xs : List α => [.sl n (xs.map f)]) (fun xs => ∀ x ∈ xs, wf x) := fun enc w spare held fuel cs x h hs =>
  let ⟨a, h1, h2⟩ := Dec.sliceB ht hn hp hb hf hd enc w spare held fuel cs x h hs
  ⟨a, h1.1, h2⟩
theorem Dec.sliceN {e : TypeId} {α : Type} {f : α → List AV} {wf : α → Prop} {n k : Nat} (ht : P.underlying t = some (.slice e)) (hn : P.cellsOf e = n) (hp : 1 ≤ n) (hb : P.bytesOf e = k) (hk : 1 ≤ k) (hf : ∀ a, (f a).length = n) (hd : Dec P e f wf) :
    Dec P t (fun xs : List α => [.sl n (xs.map f)]) (fun xs => (∀ x ∈ xs, wf x) ∧ xs.length * k ≤ MX) := by
  subst hb
  exact Dec.sliceB ht hn hp hk hf hd
theorem Dec.struct {fs : Array Go.Field} (ht : P.underlying t = some (.struct fs)) {H : Type} {enc : TypeId × Value → H} {w : World} {spare : Nat → Bool} {held : Bool} {fuel : Nat} {cs : List Value} {x : DataW H × List MemPlace}
    (h : DataW.trod enc P w 0 spare held fuel t cs = some x) (hs : Small P t x.1) {α : Type} {e : α → List AV} {wf : α → Prop} {i : Nat} {f : Go.Field} (hi : fs[i]? = some f) (hd : Dec P f.type e wf) :
    ∃ a : α, wf a ∧ RowFR w ((cs.drop f.offset).take (P.cellsOf f.type)) (e a) := by
  obtain ⟨xs, n, rfl, rfl, hl, hlen, hall⟩ := DataW.trod_struct ht h
  have h1 := hall i f hi
  have h2 : i < xs.length := by rw [hlen]; exact (Array.getElem?_eq_some_iff.1 hi).1
  rw [List.getElem?_eq_getElem h2] at h1
  refine hd enc w spare held n _ _ h1 fun k hk => hs k ?_
  simp only [DataW.weights, ht]
  refine DataW.weights_mem_each (j := i) (t := f.type) (d := xs[i].1) ?_ ?_ k hk
  · rw [List.getElem?_map, Array.getElem?_toList, hi]; rfl
  · rw [List.getElem?_map, List.getElem?_eq_getElem h2]; rfl
theorem Dec.struct1 {fs : Array Go.Field} (ht : P.underlying t = some (.struct fs)) {f0 : Go.Field} (h0 : fs[0]? = some f0) (o0 : f0.offset = 0) (c : P.cellsOf t = P.cellsOf f0.type)
    {α δ : Type} {e0 : α → List AV} {w0 : α → Prop} (d0 : Dec P f0.type e0 w0) {e : δ → List AV} {wf : δ → Prop} (g : α → δ) (hg : ∀ a, w0 a → wf (g a)) (he : ∀ a, e (g a) = e0 a) : Dec P t e wf := by
  intro H enc w spare held fuel cs x h hs
  obtain ⟨_, _, _, _, hl, _, _⟩ := DataW.trod_struct ht h
  obtain ⟨a, wa, ra⟩ := Dec.struct ht h hs h0 d0
  refine ⟨g a, hg a wa, ?_⟩
  rw [he]
  have e1 : (cs.drop f0.offset).take (P.cellsOf f0.type) = cs := by rw [o0, List.drop_zero, ← c, ← hl, List.take_length]
  rw [e1] at ra; exact ra
theorem Dec.struct2 {fs : Array Go.Field} (ht : P.underlying t = some (.struct fs)) {f0 f1 : Go.Field} (h0 : fs[0]? = some f0) (h1 : fs[1]? = some f1) {n0 n1 : Nat} (c0 : P.cellsOf f0.type = n0) (c1 : P.cellsOf f1.type = n1) (o0 : f0.offset = 0) (o1 : f1.offset = n0) (c : P.cellsOf t = n0 + n1)
    {α β δ : Type} {e0 : α → List AV} {w0 : α → Prop} (d0 : Dec P f0.type e0 w0) {e1 : β → List AV} {w1 : β → Prop} (d1 : Dec P f1.type e1 w1) {e : δ → List AV} {wf : δ → Prop} (g : α → β → δ) (hg : ∀ a b, w0 a → w1 b → wf (g a b)) (he : ∀ a b, e (g a b) = e0 a ++ e1 b) : Dec P t e wf := by
  intro H enc w spare held fuel cs x h hs
  obtain ⟨_, _, _, _, hl, _, _⟩ := DataW.trod_struct ht h
  obtain ⟨a, wa, ra⟩ := Dec.struct ht h hs h0 d0
  obtain ⟨b, wb, rb⟩ := Dec.struct ht h hs h1 d1
  refine ⟨g a b, hg a b wa wb, ?_⟩
  rw [he]
  have := ra.append rb
  rw [o0, o1, c0, c1, List.drop_zero, List.take_of_length_le (l := cs.drop n0) (by rw [List.length_drop]; omega), List.take_append_drop] at this
  exact this
theorem Dec.struct3 {fs : Array Go.Field} (ht : P.underlying t = some (.struct fs)) {f0 f1 f2 : Go.Field} (h0 : fs[0]? = some f0) (h1 : fs[1]? = some f1) (h2 : fs[2]? = some f2) {n0 n1 n2 : Nat} (c0 : P.cellsOf f0.type = n0) (c1 : P.cellsOf f1.type = n1) (c2 : P.cellsOf f2.type = n2) (o0 : f0.offset = 0) (o1 : f1.offset = n0) (o2 : f2.offset = n0 + n1) (c : P.cellsOf t = n0 + n1 + n2)
    {α β γ δ : Type} {e0 : α → List AV} {w0 : α → Prop} (d0 : Dec P f0.type e0 w0) {e1 : β → List AV} {w1 : β → Prop} (d1 : Dec P f1.type e1 w1) {e2 : γ → List AV} {w2 : γ → Prop} (d2 : Dec P f2.type e2 w2) {e : δ → List AV} {wf : δ → Prop} (g : α → β → γ → δ) (hg : ∀ a b c, w0 a → w1 b → w2 c → wf (g a b c)) (he : ∀ a b c, e (g a b c) = e0 a ++ (e1 b ++ e2 c)) : Dec P t e wf := by
  intro H enc w spare held fuel cs x h hs
  obtain ⟨_, _, _, _, hl, _, _⟩ := DataW.trod_struct ht h
  obtain ⟨a, wa, ra⟩ := Dec.struct ht h hs h0 d0
  obtain ⟨b, wb, rb⟩ := Dec.struct ht h hs h1 d1
  obtain ⟨c', wc, rc⟩ := Dec.struct ht h hs h2 d2
  refine ⟨g a b c', hg a b c' wa wb wc, ?_⟩
  rw [he]
  have := ra.append (rb.append rc)
  have e3 : (cs.drop n0).take n1 ++ (cs.drop (n0 + n1)).take n2 = cs.drop n0 := by
    rw [List.take_of_length_le (l := cs.drop (n0 + n1)) (by rw [List.length_drop]; omega), ← List.drop_drop, List.take_append_drop]
  rw [o0, o1, o2, c0, c1, c2, List.drop_zero, e3, List.take_append_drop] at this
  exact this
theorem FR.of_cell {w : World} {v : Value} {a : AV} (h : RowFR w [v] [a]) : FR w NoOwn a v := by simpa using h.2 0 a rfl
theorem FR.of_agg {w : World} {cs : Array Value} {l : List AV} (h : RowFR w cs.toList l) : FR w NoOwn (.agg l) (.agg cs) := by
  have := FR.agg (w := w) (A := NoOwn) l cs.toList h.1 h.2
  simpa using this
end
theorem below_of_fr {w w' : World} (h : Fr (fun _ => False) w w') : Below w.heap.size w w' := ⟨h.os, h.tape, h.output, h.size, fun k hk => h.block k hk id⟩
section
variable {P : Program}
theorem trodAll_stays {H : Type} {enc : TypeId × Value → H} (hl : laidOutB P = true) {W W' : World} (hb : Below W.heap.size W W') : ∀ {ts : List TypeId} {vs : List Value} {ds : List (DataW H)} {ps : List MemPlace},
    (∀ t ∈ ts, P.readableRec t = true ∧ t < P.types.size) → DataW.TrodAll enc P W 0 (fun _ => true) true ts vs ds ps → (∀ x ∈ ps, x.block < W.heap.size) → DataW.TrodAll enc P W' 0 (fun b => decide (b < W.heap.size)) true ts vs ds ps
  | [], vs, ds, ps, _, h, _ => by
    obtain ⟨rfl, rfl, rfl⟩ := Go.ChangeShapes.trodAll_nil h
    exact rfl
  | t :: ts, vs, ds, ps, hr, h, hlt => by
    obtain ⟨v, vs', d, ds', p, q, rfl, rfl, rfl, h0, h1⟩ := Go.ChangeShapes.trodAll_cons h
    obtain ⟨k1, k2⟩ := hr t List.mem_cons_self
    exact ⟨p, q, Below.trod hl k1 k2 h0 hb (fun x hx => hlt x (List.mem_append_left _ hx)), trodAll_stays hl hb (fun u hu => hr u (List.mem_cons_of_mem _ hu)) h1 (fun x hx => hlt x (List.mem_append_right _ hx)), rfl⟩
def ArgOK (P : Program) (t : TypeId) {α : Type} (e : α → AV) (wf : α → Prop) : Prop :=
  ∀ {H : Type} (enc : TypeId × Value → H) (W : World) (base : Nat) (v : Value) (d : DataW H) (p : List MemPlace), DataW.Trod enc P W 0 (fun _ => true) true t v d p → Value.okWide P W .any base t v → Small P t d → ∃ a, wf a ∧ FR W NoOwn (e a) v
theorem ArgOK.struct {t : TypeId} {fs : Array Go.Field} (ht : P.underlying t = some (.struct fs)) {α : Type} {e : α → List AV} {wf : α → Prop} (hd : Dec P t e wf) : ArgOK P t (fun a => .agg (e a)) wf := by
  intro H enc W base v d p h hv hs
  obtain ⟨fuel, h⟩ := h
  obtain ⟨a, h1, h2⟩ := hd enc W _ _ fuel _ _ h hs
  simp only [Value.okWide, ht] at hv
  obtain ⟨cs, rfl, _⟩ := hv
  exact ⟨a, h1, FR.of_agg (by simpa [Value.cells] using h2)⟩
theorem ArgOK.cell {t : TypeId} {α : Type} {e : α → AV} {wf : α → Prop} (hd : Dec P t (fun a => [e a]) wf) (hv : ∀ (W : World) (base : Nat) (v : Value), Value.okWide P W .any base t v → v.cells = #[v]) : ArgOK P t e wf := by
  intro H enc W base v d p h hw hs
  obtain ⟨fuel, h⟩ := h
  obtain ⟨a, h1, h2⟩ := hd enc W _ _ fuel _ _ h hs
  rw [hv W base v hw] at h2
  exact ⟨a, h1, FR.of_cell h2⟩
theorem cells_int {t : TypeId} {k : IntKind} (ht : P.underlying t = some (.int k)) (W : World) (base : Nat) (v : Value) (h : Value.okWide P W .any base t v) : v.cells = #[v] := by
  simp only [Value.okWide, ht, Cell.okWide] at h
  cases v <;> simp_all [Cell.ok, Value.cells]
def ArgsOK (P : Program) (ts : List TypeId) (K : List AV → Prop) : Prop :=
  ∀ {H : Type} (enc : TypeId × Value → H) (W : World) (base : Nat) (vs : List Value) (ds : List (DataW H)) (p : List MemPlace), DataW.TrodAll enc P W 0 (fun _ => true) true ts vs ds p →
    (∀ (j : Nat) t v, ts[j]? = some t → vs[j]? = some v → Value.okWide P W .any base t v) → (∀ n ∈ DataW.weightsEach P ts ds, n ≤ reachBytes) →
    ∃ l, K l ∧ vs.length = l.length ∧ ∀ (i : Nat) (a : AV), l[i]? = some a → FR W NoOwn a (vs.getD i undef)
theorem ArgsOK.nil : ArgsOK P [] (· = []) := by
  intro H enc W base vs ds p h _ _
  obtain ⟨rfl, rfl, rfl⟩ := Go.ChangeShapes.trodAll_nil h
  exact ⟨[], rfl, rfl, fun i a ha => by simp at ha⟩
theorem ArgsOK.cons {t : TypeId} {ts : List TypeId} {α : Type} {e : α → AV} {wf : α → Prop} {K : List AV → Prop} (h0 : ArgOK P t e wf) (hK : ArgsOK P ts K) : ArgsOK P (t :: ts) (fun l => ∃ a l', wf a ∧ K l' ∧ l = e a :: l') := by
  intro H enc W base vs ds p h hv hs
  obtain ⟨v, vs', d, ds', p0, q, rfl, rfl, rfl, k0, k1⟩ := Go.ChangeShapes.trodAll_cons h
  obtain ⟨a, w1, w2⟩ := h0 enc W base v d p0 k0 (hv 0 t v rfl rfl) (fun n hn => hs n (by simp only [DataW.weightsEach, List.mem_append]; exact .inl hn))
  obtain ⟨l, w3, w4, w5⟩ := hK enc W base vs' ds' q k1 (fun j t' v' ht hv' => hv (j + 1) t' v' (by simpa using ht) (by simpa using hv')) (fun n hn => hs n (by simp only [DataW.weightsEach, List.mem_append]; exact .inr hn))
  refine ⟨e a :: l, ⟨a, l, w1, w3, rfl⟩, by simp [w4], fun i b hb => ?_⟩
  cases i with
  | zero => simp at hb; subst hb; simpa using w2
  | succ i => simpa using w5 i b (by simpa using hb)
theorem law_row {C : Checked} {os : Os} {f : FuncId} {fn : Func} {s : ChangeSpec} {tb : TypeId} {K : List AV → Prop} {H : Type} {enc : TypeId × Value → H} (own : ownKnob C.prog.godebug = none) (started : os.Started) (noInit : C.prog.inits.idxOf? f = none) (hfn : C.prog.funcs[f]? = some fn)
    (witness : ∃ (w : World) (tape : Tape) (i : Input), w.os = os ∧ (w.forCall tape i).Shaped C.prog ∧ i.vars = [] ∧ Input.okWide C.prog (w.forCall tape i) .any w.heap.size f i ∧
      s.pre6 enc C.prog fn [] false (w.forCall tape i).memory i.args ∧ Assume.holds {} C.prog (lone (Frame.enter C.prog f i.args .normal) [] (w.forCall tape i)))
    (hl : laidOutB C.prog = true) (hrd : ∀ t ∈ fn.params.toList, C.prog.readableRec t = true ∧ t < C.prog.types.size) (hres : fn.resultTypes = #[tb]) (htb : C.prog.underlying tb = some .bool) (hvars : s.vars = [])
    (hspec : ∀ ds : List (DataW H), ds.length = fn.params.size → s.fn H ds = { results := [.lit (.bool true)], args := ds }) (hdec : ArgsOK C.prog fn.params.toList K) (hlaw : ∀ l, K l → PCall C.prog false f l (· = .bool true)) :
    ReturnsInHanded {} C os f .any (s.pre6 enc C.prog fn [] false) (s.post enc C.prog fn false true false false) := by
  refine returnsInHanded_of_change_sized own started noInit hfn witness ?_
  intro W base args ds gs before hval hW _ hsz _
  have hW' := hW
  obtain ⟨p, q, hA, hV, rfl, hfz, hnd⟩ := hW
  rw [hvars] at hV
  obtain ⟨rfl, rfl⟩ := Go.ChangeShapes.trodVars_none hV
  have hlen : ∀ {ts : List TypeId} {vs : List Value} {ds : List (DataW H)} {ps : List MemPlace}, DataW.TrodAll enc C.prog W 0 (fun _ => true) true ts vs ds ps → ds.length = ts.length := by
    intro ts
    induction ts with
    | nil => intro vs ds ps h; obtain ⟨_, rfl, _⟩ := Go.ChangeShapes.trodAll_nil h; rfl
    | cons t ts ih => intro vs ds ps h; obtain ⟨v, vs', d, ds', p0, q, rfl, rfl, rfl, _, k1⟩ := Go.ChangeShapes.trodAll_cons h; simp [ih k1]
  have hdl : ds.length = fn.params.size := by rw [hlen hA]; simp
  have hvt : s.plain.varTypes C.prog = [] := by simp [DataSpec.varTypes, ChangeSpec.plain, hvars]
  rw [hvt, List.append_nil, List.append_nil] at hsz
  obtain ⟨l, k1, k2, k3⟩ := hdec enc W base args.toList ds p hA (fun j t v ht hv => hval j t v (by simpa using ht) (by simpa using hv)) (fun n hn => by simpa using List.all_eq_true.1 hsz n hn)
  have hcall := (hlaw l k1).2 W NoOwn args.toList (fun b hb => hb.elim) k2 k3
  rw [Array.toArray_toList] at hcall
  refine hcall.mono fun e W' he => ?_
  cases e with
  | panicked _ => exact he.elim
  | outgrown => cases he
  | returned v =>
    obtain ⟨r, rfl, h1, h2⟩ := he
    cases h1
    have hb := below_of_fr h2
    refine ⟨_, rfl, ds, [], p ++ [], [], p, [], hW', ?_, ?_, ?_, hb.frame _, fun h => by cases h⟩
    · rw [List.append_nil, hspec ds hdl, hres]
      exact Go.ChangeShapes.trodAll_mk1 (shut_bool htb true)
    · rw [List.append_nil, hspec ds hdl]
      exact trodAll_stays hl hb hrd hA (fun x hx => by simpa using hW'.lt x (by simpa using hx))
    · rw [List.append_nil, hspec ds hdl, hvars]
      exact rfl
end
end Go.Ab
namespace Go.Ab
open Go Go.RowKit Go.Proofs
set_option maxRecDepth 100000
theorem cel_3 : Try.prog.cellsOf 3 = 1 := by kernel_rfl
theorem cel_9 : Try.prog.cellsOf 9 = 1 := by kernel_rfl
theorem cel_51 : Try.prog.cellsOf 51 = 1 := by kernel_rfl
theorem cel_25 : Try.prog.cellsOf 25 = 1 := by kernel_rfl
theorem cel_56 : Try.prog.cellsOf 56 = 1 := by kernel_rfl
theorem cel_22 : Try.prog.cellsOf 22 = 1 := by kernel_rfl
theorem cel_26 : Try.prog.cellsOf 26 = 1 := by kernel_rfl
theorem cel_48 : Try.prog.cellsOf 48 = 3 := by kernel_rfl
theorem cel_53 : Try.prog.cellsOf 53 = 3 := by kernel_rfl
theorem cel_55 : Try.prog.cellsOf 55 = 3 := by kernel_rfl
theorem cel_58 : Try.prog.cellsOf 58 = 2 := by kernel_rfl
theorem cel_24 : Try.prog.cellsOf 24 = 1 := by kernel_rfl
theorem cel_28 : Try.prog.cellsOf 28 = 3 := by kernel_rfl
theorem byt_3 : Try.prog.bytesOf 3 = 8 := by kernel_rfl
theorem byt_48 : Try.prog.bytesOf 48 = 32 := by kernel_rfl
theorem byt_53 : Try.prog.bytesOf 53 = 40 := by kernel_rfl
theorem byt_55 : Try.prog.bytesOf 55 = 40 := by kernel_rfl
theorem byt_58 : Try.prog.bytesOf 58 = 40 := by kernel_rfl
def wfVal (v : GVal) : Prop := i64 v.N ∧ i64 v.R
def wfObj (o : GObj) : Prop := i64 o.Id ∧ i64 o.T ∧ (∀ v ∈ o.F, wfVal v) ∧ o.F.length * 32 ≤ MX
def wfField (f : GField) : Prop := i64 f.Kind
def wfType (t : GType) : Prop := (∀ f ∈ t.F, wfField f) ∧ t.F.length * 40 ≤ MX
def wfS (s : List GType) : Prop := (∀ t ∈ s, wfType t) ∧ s.length * 40 ≤ MX
def wfG (g : Graph) : Prop := wfS g.S ∧ ((∀ o ∈ g.O, wfObj o) ∧ g.O.length * 40 ≤ MX) ∧ (∀ r ∈ g.Roots, i64 r) ∧ g.Roots.length * 8 ≤ MX
theorem wfG.sz {g : Graph} (h : wfG g) : GSz g := ⟨h.1.2, fun x hx => (h.1.1 x hx).2, h.2.1.2, fun x hx => (h.2.1.1 x hx).2.2.2, h.2.2.2⟩
theorem dec_int : Dec Try.prog 3 eI i64 := Dec.int Try.underlying3
theorem dec_str : Dec Try.prog 9 (fun s : ByteArray => [.str s]) (fun _ => True) := Dec.str Try.underlying9
theorem dec_Val : Dec Try.prog 48 eVal wfVal :=
  Dec.struct3 Try.underlying48 rfl rfl rfl cel_3 cel_9 cel_3 rfl rfl rfl cel_48 dec_int dec_str dec_int (fun a b c => (⟨a, b, c⟩ : GVal)) (fun _ _ _ h _ h' => ⟨h, h'⟩) (fun _ _ _ => rfl)
theorem dec_Vals : Dec Try.prog 51 (fun xs : List GVal => [.sl 3 (xs.map eVal)]) (fun xs => (∀ x ∈ xs, wfVal x) ∧ xs.length * 32 ≤ MX) :=
  Dec.sliceN Try.underlying51 cel_48 (by decide) byt_48 (by decide) (fun _ => rfl) dec_Val
theorem dec_Obj : Dec Try.prog 53 eObj wfObj :=
  Dec.struct3 Try.underlying53 rfl rfl rfl cel_3 cel_3 cel_51 rfl rfl rfl cel_53 dec_int dec_int dec_Vals (fun a b c => (⟨a, b, c⟩ : GObj)) (fun _ _ _ h h' h'' => ⟨h, h', h''.1, h''.2⟩) (fun _ _ _ => rfl)
theorem dec_Objs : Dec Try.prog 25 (fun xs : List GObj => [.sl 3 (xs.map eObj)]) (fun xs => (∀ x ∈ xs, wfObj x) ∧ xs.length * 40 ≤ MX) :=
  Dec.sliceN Try.underlying25 cel_53 (by decide) byt_53 (by decide) (fun _ => rfl) dec_Obj
theorem dec_Field : Dec Try.prog 55 eField wfField :=
  Dec.struct3 Try.underlying55 rfl rfl rfl cel_9 cel_3 cel_9 rfl rfl rfl cel_55 dec_str dec_int dec_str (fun a b c => (⟨a, b, c⟩ : GField)) (fun _ _ _ _ h _ => h) (fun _ _ _ => rfl)
theorem dec_Fields : Dec Try.prog 56 (fun xs : List GField => [.sl 3 (xs.map eField)]) (fun xs => (∀ x ∈ xs, wfField x) ∧ xs.length * 40 ≤ MX) :=
  Dec.sliceN Try.underlying56 cel_55 (by decide) byt_55 (by decide) (fun _ => rfl) dec_Field
theorem dec_Type : Dec Try.prog 58 eType wfType :=
  Dec.struct2 Try.underlying58 rfl rfl cel_9 cel_56 rfl rfl cel_58 dec_str dec_Fields (fun a b => (⟨a, b⟩ : GType)) (fun _ _ _ h => h) (fun _ _ => rfl)
theorem dec_Types : Dec Try.prog 22 (fun xs : List GType => [.sl 2 (xs.map eType)]) (fun xs => (∀ x ∈ xs, wfType x) ∧ xs.length * 40 ≤ MX) :=
  Dec.sliceN Try.underlying22 cel_58 (by decide) byt_58 (by decide) (fun _ => rfl) dec_Type
theorem dec_Schema : Dec Try.prog 24 eSchema wfS :=
  Dec.struct1 Try.underlying24 rfl rfl (by rw [cel_24]; exact cel_22.symm) dec_Types (fun a => a) (fun _ h => h) (fun _ => rfl)
theorem dec_Ints : Dec Try.prog 26 (fun xs : List Int => [.sl 1 (xs.map eI)]) (fun xs => (∀ x ∈ xs, i64 x) ∧ xs.length * 8 ≤ MX) :=
  Dec.sliceN Try.underlying26 cel_3 (by decide) byt_3 (by decide) (fun _ => rfl) dec_int
theorem dec_Graph : Dec Try.prog 28 eGraph wfG :=
  Dec.struct3 Try.underlying28 rfl rfl rfl cel_24 cel_25 cel_26 rfl rfl rfl cel_28 dec_Schema dec_Objs dec_Ints (fun a b c => (⟨a, b, c⟩ : Graph)) (fun _ _ _ h h' h'' => ⟨h, h', h''⟩) (fun _ _ _ => rfl)
theorem arg_Graph : ArgOK Try.prog 28 (fun g => .agg (eGraph g)) wfG := ArgOK.struct Try.underlying28 dec_Graph
theorem arg_int : ArgOK Try.prog 3 (fun n : Int => .int .i64 n) i64 := ArgOK.cell (e := fun n : Int => .int .i64 n) dec_int (cells_int Try.underlying3)
theorem cells_str {t : TypeId} (ht : Try.prog.underlying t = some .string) (W : World) (base : Nat) (v : Value) (h : Value.okWide Try.prog W .any base t v) : v.cells = #[v] := by
  simp only [Value.okWide, ht, Cell.okWide] at h
  cases v <;> simp_all [Cell.ok, Value.cells]
theorem arg_str : ArgOK Try.prog 9 (fun s : ByteArray => .str s) (fun _ => True) := ArgOK.cell (e := fun s : ByteArray => .str s) dec_str (cells_str Try.underlying9)
theorem own0 : ownKnob Try.prog.godebug = none := by kernel_rfl
theorem laid0 : laidOutB Try.prog = true := by kernel_rfl
end Go.Ab
