/-
  What a machine's memory holds of plain values, and that each operation, block, loop and call of the model turns such a state as told. No condition but those of each theorem.
-/
import Derived.WalkKit
import Derived.Below
import Derived.Scope
import Derived.Orders
import Derived.Still
import Derived.Test.YtgnkdehaknhieaaFa
import Derived.Test.YtgnkdehaknhieaaFb
import Derived.Test.YtgnkdehaknhieaaFc
import Derived.Test.YtgnkdehaknhieaaFd
import Derived.Test.YtgnkdehaknhieaaFe
set_option linter.unusedVariables false
set_option linter.unusedSimpArgs false
namespace Go.Ab
open Go Go.RowKit
section
variable {A0 D0 : Nat → Prop} {w0 : World} {nt : Nat} {σ : St} {a : Act} {w : World} {G : Nat → Option GR}
theorem Holds.refill (h : Holds A0 D0 w0 nt σ a w G) {y n q : Nat} {es : List (List AV)} (hy : getS σ.s y = some ⟨false, [.own n es]⟩) (hq : q < es.length) :
    ∃ (b cap : Nat) (vs : Array Value) (T : TypeId), es.length ≤ cap ∧ cap ≤ maxLen ∧ (∀ v, RefOK G y [] 0 v → v = .slice (some ⟨b, 0, none⟩) es.length cap) ∧ w.heap[b]? = some (.cells vs T (0, 0)) ∧ vs.size = cap * n ∧ (∀ (i : Nat) (r : List AV), es[i]? = some r → r.length = n) ∧
      (∀ (i : Nat) (r : List AV) (j : Nat) (av : AV), es[i]? = some r → r[j]? = some av → av.tree = false → ∃ u, w.cell? ⟨b, i * n + j, none⟩ = some u ∧ FR w (Own A0 G) av u ∧ u.oneCell' = true) ∧
      ∀ (ns : List (List AV)) (us : List Value), ns.length = es.length - q → (∀ (i : Nat) (r : List AV), ns[i]? = some r → r.length = n) → us.length = (es.length - q) * n →
      (∀ (i : Nat) (r : List AV) (j : Nat) (av : AV), ns[i]? = some r → r[j]? = some av → ∃ u, us[i * n + j]? = some u ∧ FR w (Own A0 G) av u ∧ u.oneCell' = true) →
      ∃ rows' : List (List GT), Holds A0 D0 w0 nt { σ with s := updS σ.s y ⟨false, [.own n (es.take q ++ ns)]⟩ } a (setCells b (q * n) w 0 us) (Gset G y (some ⟨none, [.own n (.slice (some ⟨b, 0, none⟩) rows'.length cap) rows']⟩)) ∧ rows'.length = es.length := by
  have hc : cellAtB σ y [] 0 = .own n es := by simp [cellAtB, hy, rowOf]
  obtain ⟨r, row, g, grow, t, g1, g2, g3, hg, g5, g6, hl, her, hmem, hsep, href, hfpr⟩ := h.tree hc rfl
  rw [hy] at g1; cases g1
  cases g2; cases g5
  obtain ⟨v, rows, rfl, rfl⟩ := er_own her hl
  obtain ⟨g_, hg_, hb, hcs, hm⟩ := h.root hy
  rw [hg] at hg_; cases hg_
  rw [List.length_map] at hq
  have hcells : g.cells = [.own n v rows] := by
    have := hcs.len
    cases hgc : g.cells with
    | nil => rw [hgc] at this; simp at this
    | cons x l =>
      rw [hgc] at this g6
      cases l with
      | nil => simpa using g6
      | cons => simp at this
  obtain ⟨gb, gc⟩ := g
  simp only at hcells hb
  subst hcells
  have hgb : gb = none := by cases gb <;> simp at hb ⊢
  subst hgb
  rcases hmem.own_inv with ⟨_, rfl⟩ | ⟨b, cap, vs, T, rfl, e2, e3, e4, e5, e6, e7, e8, e9⟩
  · simp at hq
  have hcell0 : ∀ (i : Nat) (r : List AV) (j : Nat) (av : AV), (rows.map fun r => r.map GT.er)[i]? = some r → r[j]? = some av → av.tree = false → ∃ u, w.cell? ⟨b, i * n + j, none⟩ = some u ∧ FR w (Own A0 G) av u ∧ u.oneCell' = true := by
    intro i r j av hr hj ht
    simp only [List.getElem?_map, Option.map_eq_some_iff] at hr
    obtain ⟨r0, hr0, rfl⟩ := hr
    simp only [List.getElem?_map, Option.map_eq_some_iff] at hj
    obtain ⟨g0, hg0, rfl⟩ := hj
    have hlf : g0.leaf = true := by
      cases hq : g0.leaf with
      | true => rfl
      | false => have := tree_of_leaf hq; rw [ht] at this; cases this
    have hm0 := e9 i r0 j g0 hr0 hg0
    cases hm0 with
    | lf av v hfr hoc => exact ⟨v, e8 i r0 j _ hr0 hg0, by simpa only [GT.er] using hfr, hoc⟩
    | _ => cases hlf
  refine ⟨b, cap, vs, T, by rw [List.length_map]; exact e4, e5, fun v hv => by rw [List.length_map]; exact href v hv, e2, e3, fun i r hr => ?_, hcell0, fun ns us hnl hnr hus hnu => ?_⟩
  · simp only [List.getElem?_map, Option.map_eq_some_iff] at hr
    obtain ⟨r0, hr0, rfl⟩ := hr
    simpa using e7 i r0 hr0
  rw [List.length_map] at hus hnl ⊢
  have hroom : q * n + 0 + us.length ≤ vs.size := by
    have : q * n + (rows.length - q) * n = rows.length * n := by rw [← Nat.add_mul]; congr 1; omega
    have := Nat.mul_le_mul_right n e4
    omega
  obtain ⟨vs', k1, k2, k3, k4, k5, k6⟩ := setCells_facts us 0 w vs e2 hroom
  generalize hw' : setCells b (q * n) w 0 us = w' at k1 k5 k6
  let zrs : List (List GT) := ns.zipIdx.map fun p => p.1.zipIdx.map fun s => GT.lf s.1 ((us[p.2 * n + s.2]?).getD undef)
  have hzl : zrs.length = ns.length := by simp [zrs]
  have hz1 : ∀ (i : Nat) (r : List GT), zrs[i]? = some r → ∃ row, ns[i]? = some row ∧ r = row.zipIdx.map fun s => GT.lf s.1 ((us[i * n + s.2]?).getD undef) := by
    intro i r h
    simp only [zrs, List.getElem?_map, List.getElem?_zipIdx, Option.map_eq_some_iff] at h
    obtain ⟨p, ⟨row, h1, rfl⟩, rfl⟩ := h
    exact ⟨row, h1, by simp⟩
  have hzr : ∀ (i : Nat) (r : List GT) (j : Nat) (g : GT), zrs[i]? = some r → r[j]? = some g → ∃ av u, g = .lf av u ∧ us[i * n + j]? = some u ∧ FR w (Own A0 G) av u ∧ u.oneCell' = true := by
    intro i r j g h1 h2
    obtain ⟨row, k1, rfl⟩ := hz1 i r h1
    simp only [List.getElem?_map, List.getElem?_zipIdx, Option.map_eq_some_iff] at h2
    obtain ⟨s, ⟨av, k2, rfl⟩, rfl⟩ := h2
    obtain ⟨u, k3, k4, k5⟩ := hnu i row j av k1 k2
    exact ⟨av, u, by simp only [Nat.zero_add, k3, Option.getD_some], k3, k4, k5⟩
  have hzrl : ∀ (i : Nat) (r : List GT), zrs[i]? = some r → r.length = n := by
    intro i r h1
    obtain ⟨row, k1, rfl⟩ := hz1 i r h1
    simpa using hnr i row k1
  have hzer : zrs.map (fun r => r.map GT.er) = ns := by
    apply List.ext_getElem?
    intro i
    simp only [zrs, List.map_map, List.getElem?_map, List.getElem?_zipIdx]
    cases hri : ns[i]? with
    | none => rfl
    | some row =>
      simp only [Option.map_some, Function.comp, List.map_map, Option.some.injEq]
      have : (GT.er ∘ fun s : AV × Nat => GT.lf s.1 ((us[(0 + i) * n + s.2]?).getD undef)) = Prod.fst := by funext s; simp [GT.er]
      rw [this]; simp
  let rows' := rows.take q ++ zrs
  have hrl : rows'.length = rows.length := by simp [rows', hzl]; omega
  have hro : ∀ {i : Nat} {r : List GT}, rows'[i]? = some r → (i < q ∧ rows[i]? = some r) ∨ (q ≤ i ∧ i < rows.length ∧ zrs[i - q]? = some r) := fun {i r} hi => by
    have hl := (List.getElem?_eq_some_iff.1 hi).1
    rcases Nat.lt_or_ge i q with h1 | h1
    · rw [List.getElem?_append_left (by simp; omega), List.getElem?_take, if_pos h1] at hi
      exact .inl ⟨h1, hi⟩
    · rw [List.getElem?_append_right (by simp; omega)] at hi
      rw [show (rows.take q).length = q by simp; omega] at hi
      exact .inr ⟨h1, by omega, hi⟩
  let t' : GT := .own n (.slice (some ⟨b, 0, none⟩) rows'.length cap) rows'
  have hfp : ∀ k, Fp t' k → Fp (.own n (.slice (some ⟨b, 0, none⟩) rows.length cap) rows) k := by
    intro k hk
    change Fp (GT.own n (.slice (some ⟨b, 0, none⟩) rows'.length cap) rows') k at hk
    cases hk with
    | own0 => exact .own0 _ _ _ _ _
    | own _ _ _ i r j g k hr hj hg =>
      rcases hro hr with ⟨_, h1⟩ | ⟨_, _, hz⟩
      · exact .own _ _ _ i r j g k h1 hj hg
      · obtain ⟨av, u, rfl, _⟩ := hzr _ r j g hz hj; cases hg
  have hsep' : Sep t' := by
    cases hsep with
    | own _ _ _ s1 s2 s3 =>
      refine .own _ _ _ (fun i r j g hr hj => ?_) (fun i r j g hr hj ad l c e => ?_) (fun i r j g i' r' j' g' hr hj hr' hj' hne k hk hk' => ?_)
      · rcases hro hr with ⟨_, h1⟩ | ⟨_, _, hz⟩
        · exact s1 i r j g h1 hj
        · obtain ⟨av, u, rfl, _⟩ := hzr _ r j g hz hj; exact .lf _ _
      · rcases hro hr with ⟨_, h1⟩ | ⟨_, _, hz⟩
        · cases e; exact s2 i r j g h1 hj ⟨b, 0, none⟩ rows.length cap rfl
        · obtain ⟨av, u, rfl, _⟩ := hzr _ r j g hz hj; exact fun hx => by cases hx
      · rcases hro hr with ⟨_, h1⟩ | ⟨_, _, hz⟩
        · rcases hro hr' with ⟨_, h1'⟩ | ⟨_, _, hz'⟩
          · exact s3 i r j g i' r' j' g' h1 hj h1' hj' hne k hk hk'
          · obtain ⟨av, u, rfl, _⟩ := hzr _ r' j' g' hz' hj'; cases hk'
        · obtain ⟨av, u, rfl, _⟩ := hzr _ r j g hz hj; cases hk
  have hgx : ∀ (G' : Nat → Option GR), True := fun _ => trivial
  have hnb : ∀ (i : Nat) (r : List GT) (j : Nat) (g : GT), rows[i]? = some r → r[j]? = some g → ¬ Fp g b := by
    intro i r j g hr hj
    cases hsep with
    | own _ _ _ s1 s2 s3 => exact s2 i r j g hr hj ⟨b, 0, none⟩ _ _ rfl
  have hcell' : ∀ k, w'.cell? ⟨b, k, none⟩ = vs'[k]? := fun k => by simp [World.cell?, k1]
  have hcell : ∀ k, w.cell? ⟨b, k, none⟩ = vs[k]? := fun k => by simp [World.cell?, e2]
  have hlt : ∀ {i j : Nat}, i < q → j < n → i * n + j < q * n := fun {i j} hi hj => by
    have : (i + 1) * n ≤ q * n := Nat.mul_le_mul_right n hi
    rw [Nat.add_mul] at this; omega
  have hbo : Own A0 G b := .inr ⟨y, _, hg, .inr ⟨0, _, rfl, .own0 _ _ _ _ _⟩⟩
  have hmem' : ∀ A : Nat → Prop, (∀ k, k < w.heap.size → A k → Own A0 G k) → Mem w' A t' := by
    intro A hA
    refine .own n b cap vs' T rows' k1 (by rw [k2, e3]) (by rw [hrl]; exact e4) e5 (by rw [hrl]; exact e6) (fun i r hr => ?_) (fun i r j g hr hj => ?_) (fun i r j g hr hj => ?_)
    · rcases hro hr with ⟨_, h1⟩ | ⟨_, _, hz⟩
      · exact e7 i r h1
      · exact hzrl _ r hz
    · rcases hro hr with ⟨hi, h1⟩ | ⟨hi, hi2, hz⟩
      · have hjn : j < n := by have := (List.getElem?_eq_some_iff.1 hj).1; rw [e7 i r h1] at this; exact this
        rw [hcell', k3 _ (by have := hlt hi hjn; omega), ← hcell]
        exact e8 i r j g h1 hj
      · obtain ⟨av, u, rfl, h2, _⟩ := hzr _ r j g hz hj
        rw [hcell']
        have h3 := k4 _ u h2
        have : q * n + 0 + ((i - q) * n + j) = i * n + j := by
          have : q * n + (i - q) * n = i * n := by rw [← Nat.add_mul]; congr 1; omega
          omega
        rw [this] at h3
        exact h3
    · rcases hro hr with ⟨hi, h1⟩ | ⟨hi, hi2, hz⟩
      · refine (e9 i r j g h1 hj).keep (fun k hk hno => k5 k fun e => ?_) hA (fun k hk => k5 k fun e => ?_)
        · subst e; exact hno hbo
        · subst e; exact hnb i r j g h1 hj hk
      · obtain ⟨av, u, rfl, _, h3, h4⟩ := hzr _ r j g hz hj
        exact .lf _ _ (h3.keep (fun k hk hno => k5 k fun e => hno (e ▸ hbo)) hA) h4
  have hcb : ∀ k, k < w.heap.size → ¬ RFp (⟨none, [.own n (.slice (some ⟨b, 0, none⟩) rows.length cap) rows]⟩ : GR) k → w'.heap[k]? = w.heap[k]? := fun k _ hk => k5 k fun e => hk (by subst e; exact .inr ⟨0, _, rfl, .own0 _ _ _ _ _⟩)
  have hrfp : ∀ k, RFp (⟨none, [t']⟩ : GR) k → RFp (⟨none, [.own n (.slice (some ⟨b, 0, none⟩) rows.length cap) rows]⟩ : GR) k := by
    rintro k (hk | ⟨c, x, hx, hk⟩)
    · cases hk
    · cases c with
      | zero => cases hx; exact .inr ⟨0, _, rfl, hfp k hk⟩
      | succ c => simp at hx
  have her' : t'.er = .own n ((rows.map fun r => r.map GT.er).take q ++ ns) := by
    simp only [t', GT.er, rows', List.map_append, List.map_take]
    rw [← hzer]
  have hown' : ∀ k, k < w.heap.size → Own A0 (Gset G y (some ⟨none, [t']⟩)) k → Own A0 G k := by
    rintro k _ (hk | ⟨z, gz, hz', hk⟩)
    · exact .inl hk
    · by_cases e : z = y
      · subst e; rw [Gset_self] at hz'; cases hz'; exact .inr ⟨z, _, hg, hrfp k hk⟩
      · rw [Gset_ne e] at hz'; exact .inr ⟨z, gz, hz', hk⟩
  have hrowg : ∀ (p : List (Nat × Nat)) (row : List GT) (c : Nat) (gt : GT), gRow [t'] p = some row → row[c]? = some gt → gt.leaf = false → ∃ row0 gt0, gRow [GT.own n (.slice (some ⟨b, 0, none⟩) rows.length cap) rows] p = some row0 ∧ row0[c]? = some gt0 ∧ gt0.leaf = false ∧ gt0.val = gt.val := by
    intro p row c gt hrow hcg hlf
    cases p with
    | nil =>
      cases hrow
      cases c with
      | zero => cases hcg; exact ⟨_, _, rfl, rfl, rfl, by simp only [t', GT.val, hrl]⟩
      | succ c => simp at hcg
    | cons s p =>
      obtain ⟨c0, i⟩ := s
      cases c0 with
      | succ c0 => simp [gRow] at hrow
      | zero =>
        simp only [gRow, List.getElem?_cons_zero, t'] at hrow ⊢
        split at hrow
        · rename_i r hr
          rcases hro hr with ⟨hi, h1⟩ | ⟨hi, hi2, hz⟩
          · rw [h1]; exact ⟨row, gt, hrow, hcg, hlf, rfl⟩
          · cases p with
            | nil =>
              cases hrow
              obtain ⟨av, u, rfl, _⟩ := hzr _ _ c gt hz hcg; cases hlf
            | cons s p =>
              obtain ⟨c1, i1⟩ := s
              simp only [gRow] at hrow
              split at hrow
              · rename_i h5
                obtain ⟨av, u, h6, _⟩ := hzr _ _ c1 _ hz h5; cases h6
              · cases hrow
        · cases hrow
  have hrowb : ∀ (p : List (Nat × Nat)) (s : Nat × Nat), gBase none [t'] p = some s → gBase none [GT.own n (.slice (some ⟨b, 0, none⟩) rows.length cap) rows] p = some s := by
    intro p s hs
    cases p with
    | nil => cases hs
    | cons s0 p =>
      obtain ⟨c0, i⟩ := s0
      cases c0 with
      | succ c0 => simp [gBase] at hs
      | zero =>
        simp only [gBase, List.getElem?_cons_zero, t'] at hs ⊢
        split at hs
        · rename_i r hr
          rcases hro hr with ⟨hi, h1⟩ | ⟨hi, hi2, hz⟩
          · rw [h1]; exact hs
          · rw [List.getElem?_eq_getElem hi2]
            cases p with
            | nil => exact hs
            | cons s1 p =>
              obtain ⟨c1, i1⟩ := s1
              simp only [gBase] at hs
              split at hs
              · rename_i h5
                obtain ⟨av, u, h6, _⟩ := hzr _ _ c1 _ hz h5; cases h6
              · cases hs
        · cases hs
  refine ⟨rows', ?_, hrl⟩
  refine h.turn (r' := ⟨false, [.own n ((rows.map fun r => r.map GT.er).take q ++ ns)]⟩) (g' := ⟨none, [t']⟩) hy hg rfl rfl rfl hcb ⟨k6.1, k6.2.1, k6.2.2.1, Nat.le_of_eq k6.2.2.2⟩ (fun k _ _ e _ => by cases e) hrfp
    ⟨fun c x hx => ?_, ⟨fun c x hx => ?_, fun c x c' x' hx hx' hne => ?_⟩, (fun _ _ e => by cases e), (fun _ _ e => by cases e)⟩ (fun z p c v hr => ?_) (fun z p c v hr => ?_) (fun _ _ => ⟨rfl, fun c av x hav hx => ?_⟩)
  · cases c with
    | zero => cases hx; exact hmem' _ hown'
    | succ c => simp at hx
  · cases c with
    | zero => cases hx; exact hsep'
    | succ c => simp at hx
  · cases c with
    | zero => cases c' with
      | zero => exact absurd rfl hne
      | succ c' => simp at hx'
    | succ c => simp at hx
  · by_cases e : z = y
    · subst e
      intro r1 row1 gt h1 h2 h3 h4
      rw [Gset_self] at h1; cases h1
      obtain ⟨row0, gt0, h5, h6, h7, h8⟩ := hrowg p row1 c gt h2 h3 h4
      rw [← h8]
      exact hr _ row0 gt0 hg h5 h6 h7
    · exact hr.new e
  · by_cases e : z = y
    · subst e
      intro r1 b1 o1 h1 h2
      rw [Gset_self] at h1; cases h1
      exact hr _ b1 o1 hg (hrowb p _ h2)
    · exact hr.new e
  · cases c with
    | zero => cases hav; cases hx; exact .inl ⟨rfl, her'.symm⟩
    | succ c => simp at hx
end
theorem setCells_eq (b o : Nat) : ∀ (us : List Value) (i : Nat) (w : World), setCells b o w i us = w.setCells b (o + i) us
  | [], i, w => rfl
  | u :: us, i, w => (setCells_eq b o us (i + 1) (w.setCell ⟨b, o + i, none⟩ u)).trans (by rw [show o + (i + 1) = o + i + 1 by omega]; rfl)
theorem setCells_app (b : Nat) : ∀ (us us' : List Value) (o : Nat) (w : World), w.setCells b o (us ++ us') = (w.setCells b o us).setCells b (o + us.length) us'
  | [], us', o, w => rfl
  | u :: us, us', o, w => (setCells_app b us us' (o + 1) (w.setCell ⟨b, o, none⟩ u)).trans (by rw [show o + 1 + us.length = o + (u :: us).length by simp; omega]; rfl)
theorem GCall.delete {P : Program} {up : Bool} {f : FuncId} {m i : Nat} {rows : List (List AV)} {zl : List AV} {z : List Value} (hf : Callable P f) (hm : 0 < m) (hi : i < rows.length) (hpl : ∀ r ∈ rows, ∀ a ∈ r, a.tree = false) (hz : ZeroOK zl z) (hzl : zl.length = m)
    (hc : ∀ (b cap : Nat) (w : World) (vs : Array Value) (T : TypeId) (news : List Value), w.heap[b]? = some (.cells vs T (0, 0)) → vs.size = cap * m → rows.length ≤ cap → cap ≤ maxLen → news.length = (rows.length - (i + 1)) * m → (∀ (j : Nat) (u : Value), news[j]? = some u → w.cell? ⟨b, (i + 1) * m + j, none⟩ = some u) → (∀ u ∈ news, u.oneCell' = true) →
      Calls P f #[.slice (some ⟨b, 0, none⟩) rows.length cap, .int .i64 (i : Int), .int .i64 ((i : Int) + 1)] w (fun e w' => e = .returned (.slice (some ⟨b, 0, none⟩) (rows.length - 1) cap) ∧ w' = setCells b (i * m) w.drew 0 (news ++ z))) :
    GCall P up f [.ref 0 [] 0, .int .i64 (i : Int), .int .i64 ((i : Int) + 1)] 1 [(0, ⟨false, [.own m rows]⟩)] (fun r σ' => r = .ref 1 [] 0 ∧ σ'.n = 2 ∧ σ'.s = [(1, ⟨false, [.own m (rows.eraseIdx i)]⟩)]) := by
  refine ⟨hf, fun w A G vs hA hinv hvl hrel => ?_⟩
  have hH : Holds A (GFp G) w 0 { n := 1, t := [], s := [(0, ⟨false, [.own m rows]⟩)] } ⟨#[], []⟩ w G := ⟨hinv, rfl, rfl, fun i hi => by omega, fun i _ => rfl, ⟨rfl, rfl, rfl, Nat.le_refl _, fun _ _ _ => rfl⟩, fun b hb => .inl hb, hA⟩
  have hd := hH.drew
  obtain ⟨b, cap, vs0, T, r1, r2, r3, r4, r5, r6, r7, r8⟩ := hd.refill (y := 0) (n := m) (q := i) (es := rows) rfl hi
  obtain ⟨v0, v1, v2, rfl⟩ : ∃ v0 v1 v2, vs = [v0, v1, v2] := by
    match vs, hvl with
    | [a, b, c], _ => exact ⟨a, b, c, rfl⟩
  have h0 := r3 v0 (hrel 0 _ rfl).ref_inv.2.2
  have h1 : v1 = .int .i64 (i : Int) := (hrel 1 _ rfl).int_inv
  have h2 : v2 = .int .i64 ((i : Int) + 1) := (hrel 2 _ rfl).int_inv
  subst h0 h1 h2
  have hcellD : ∀ ad, w.drew.cell? ad = w.cell? ad := fun _ => rfl
  let news : List Value := (List.range ((rows.length - (i + 1)) * m)).map fun k => rdw w b ((i + 1) * m + k)
  have hnl : news.length = (rows.length - (i + 1)) * m := by simp [news]
  have hat : ∀ (ii : Nat) (r : List AV) (j : Nat) (av : AV), rows[i + 1 + ii]? = some r → r[j]? = some av → ∃ u, news[ii * m + j]? = some u ∧ w.cell? ⟨b, (i + 1) * m + (ii * m + j), none⟩ = some u ∧ FR w.drew (Own A G) av u ∧ u.oneCell' = true := by
    intro ii r j av hr hj
    have hl1 := (List.getElem?_eq_some_iff.1 hr).1
    have hl2 := (List.getElem?_eq_some_iff.1 hj).1
    rw [r6 _ r hr] at hl2
    obtain ⟨u, k1, k2, k3⟩ := r7 (i + 1 + ii) r j av hr hj (hpl r (List.mem_of_getElem? hr) av (List.mem_of_getElem? hj))
    have e : (i + 1 + ii) * m + j = (i + 1) * m + (ii * m + j) := by rw [Nat.add_mul (i + 1) ii]; omega
    rw [e] at k1
    have hlt : ii * m + j < (rows.length - (i + 1)) * m := by
      have : (ii + 1) * m ≤ (rows.length - (i + 1)) * m := Nat.mul_le_mul_right m (by omega)
      rw [Nat.add_mul] at this; omega
    refine ⟨u, ?_, k1, k2, k3⟩
    simp only [news, List.getElem?_map, List.getElem?_range hlt, Option.map_some, rdw]
    rw [show w.cell? ⟨b, (i + 1) * m + (ii * m + j), none⟩ = some u from k1]
    rfl
  have hall : ∀ (k : Nat) (u : Value), news[k]? = some u → w.cell? ⟨b, (i + 1) * m + k, none⟩ = some u ∧ u.oneCell' = true := by
    intro k u hu
    have hk : k < (rows.length - (i + 1)) * m := by have := (List.getElem?_eq_some_iff.1 hu).1; rw [hnl] at this; exact this
    obtain ⟨d1, d2, d3⟩ := divmod hm hk
    have hr : rows[i + 1 + k / m]? = some (rows[i + 1 + k / m]'(by omega)) := List.getElem?_eq_getElem _
    have hj := List.getElem?_eq_getElem (l := rows[i + 1 + k / m]'(by omega)) (i := k % m) (by rw [r6 _ _ hr]; exact d2)
    obtain ⟨u', k1, k2, _, k4⟩ := hat (k / m) _ (k % m) _ hr hj
    rw [d3] at k1 k2
    rw [k1] at hu; cases hu
    exact ⟨k2, k4⟩
  have hzlen : z.length = m := by rw [← hz.1, hzl]
  have hcalls := hc b cap w vs0 T news r4 r5 r1 r2 hnl (fun j u hu => (hall j u hu).1) (fun u hu => by
    obtain ⟨k, hk⟩ := List.getElem?_of_mem hu
    exact (hall k u hk).2)
  obtain ⟨rows', hH', hl'⟩ := r8 (rows.drop (i + 1) ++ [zl]) (news ++ z) (by simp; omega) (fun ii r hr => by
      rw [List.getElem?_append] at hr
      split at hr
      · rw [List.getElem?_drop] at hr; exact r6 _ r hr
      · rename_i hge
        cases hk : ii - (rows.drop (i + 1)).length with
        | zero => rw [hk] at hr; cases hr; exact hzl
        | succ k => rw [hk] at hr; simp at hr) (by
      rw [List.length_append, hnl, hzlen]
      have : (rows.length - (i + 1)) * m + m = (rows.length - (i + 1) + 1) * m := by rw [Nat.add_mul, Nat.one_mul]
      rw [this]; congr 1; omega) (fun ii r j av hr hj => by
      rw [List.getElem?_append] at hr
      split at hr
      · rw [List.getElem?_drop] at hr
        obtain ⟨u, k1, k2, k3, k4⟩ := hat ii r j av hr hj
        have hlt := (List.getElem?_eq_some_iff.1 k1).1
        exact ⟨u, by rw [List.getElem?_append_left hlt]; exact k1, k3, k4⟩
      · rename_i hge
        cases hk : ii - (rows.drop (i + 1)).length with
        | zero =>
          rw [hk] at hr; cases hr
          have hii : ii = rows.length - (i + 1) := by
            have hl := (List.getElem?_eq_some_iff.1 hj).1
            simp at hge hk; omega
          have hjl : j < z.length := by have := (List.getElem?_eq_some_iff.1 hj).1; rw [hzlen]; rw [hzl] at this; exact this
          obtain ⟨q1, q2⟩ := hz.2 j av z[j] hj (List.getElem?_eq_getElem hjl)
          refine ⟨z[j], ?_, q1 _ _, q2⟩
          rw [List.getElem?_append_right (by rw [hnl, hii]; omega), hnl, hii, Nat.add_sub_cancel_left]
          exact List.getElem?_eq_getElem hjl
        | succ k => rw [hk] at hr; simp at hr)
  generalize hw1 : setCells b (i * m) w.drew 0 (news ++ z) = w1 at hH' hcalls
  refine hcalls.mono fun e w' he => ?_
  obtain ⟨rfl, rfl⟩ := he
  -- what is cut
  let v0 : Value := .slice (some ⟨b, 0, none⟩) rows'.length cap
  obtain ⟨r, row, g, grow, t', g1, g2, g3, g4, g5, g6, g7, g8, g9, g10, g11, g12⟩ := hH'.tree (x := 0) (p := []) (c := 0) (av := .own m (rows.take i ++ (rows.drop (i + 1) ++ [zl]))) (by simp [cellAtB, getS, updS, rowOf]) rfl
  rw [Gset_self] at g4; cases g4
  cases g5; cases g6
  have hsub : ∀ {k : Nat} {r : List GT}, (rows'.take (rows.length - 1))[k]? = some r → rows'[k]? = some r := fun {k r} hr => by
    rw [List.getElem?_take] at hr
    split at hr
    · exact hr
    · cases hr
  have hlen : (rows'.take (rows.length - 1)).length = rows.length - 1 := by simp; omega
  let v : Value := .slice (some ⟨b, 0, none⟩) (rows'.take (rows.length - 1)).length cap
  have hfp : ∀ k, Fp (.own m v (rows'.take (rows.length - 1))) k → Fp (.own m v0 rows') k := by
    intro k hk
    change Fp (GT.own m (.slice (some ⟨b, 0, none⟩) (rows'.take (rows.length - 1)).length cap) (rows'.take (rows.length - 1))) k at hk
    cases hk with
    | own0 _ ad l c => exact .own0 _ _ _ _ _
    | own _ _ _ i r jj g k hr hj hg => exact .own _ _ _ i r jj g k (hsub hr) hj hg
  have hmem : ∀ A', (∀ k, k < w'.heap.size → A' k → Own A (Gset G 0 (some ⟨none, [.own m v0 rows']⟩)) k) → Mem w' A' (.own m v (rows'.take (rows.length - 1))) := by
    intro A' hA'
    rcases g9.own_inv with ⟨h, _⟩ | ⟨b', cap', vs', T', e1, e2, e3, e4, e5, e6, e7, e8, e9⟩
    · cases h
    · cases e1
      exact .own _ b cap vs' T' _ e2 e3 (by rw [hlen]; omega) e5 (by rw [hlen]; omega) (fun i r hr => e7 i r (hsub hr)) (fun i r jj g hr hj => e8 i r jj g (hsub hr) hj) (fun i r jj g hr hj => (e9 i r jj g (hsub hr) hj).keep (fun _ _ _ => rfl) hA' (fun _ _ => rfl))
  have hsep : Sep (.own m v (rows'.take (rows.length - 1))) := by
    cases g10 with
    | own _ _ _ s1 s2 s3 =>
      exact .own _ _ _ (fun i r jj g hr hj => s1 i r jj g (hsub hr) hj) (fun i r jj g hr hj ad l c e => by change Value.slice (some ⟨b, 0, none⟩) _ cap = _ at e; cases e; exact s2 i r jj g (hsub hr) hj ⟨b, 0, none⟩ rows'.length cap rfl) (fun i r jj g i' r' j' g' hr hj hr' hj' => s3 i r jj g i' r' j' g' (hsub hr) hj (hsub hr') hj')
  have hy : getS (updS [((0 : Nat), (⟨false, [.own m rows]⟩ : Root))] 0 ⟨false, [.own m (rows.take i ++ (rows.drop (i + 1) ++ [zl]))]⟩) 0 = some ⟨false, [.own m (rows.take i ++ (rows.drop (i + 1) ++ [zl]))]⟩ := by simp [getS, updS]
  have hH2 := (hH'.consume (N := 1) (t := .own m v (rows'.take (rows.length - 1))) (w' := w') (Nat.le_refl _) hy (p := []) (j := 0) (row := [.own m (rows.take i ++ (rows.drop (i + 1) ++ [zl]))]) rfl (Gset_self _ _ _) rfl rfl (fun _ _ _ => rfl) ⟨rfl, rfl, rfl, Nat.le_refl _⟩ rfl hsep (fun k hk => .inl (hfp k hk)) hmem).drop 0
  have her : (GT.own m v (rows'.take (rows.length - 1))).er = .own m (rows.eraseIdx i) := by
    have h3 : rows'.map (fun r => r.map GT.er) = rows.take i ++ (rows.drop (i + 1) ++ [zl]) := by
      simp only [GT.er, AV.own.injEq, true_and] at g8
      exact g8
    simp only [GT.er, List.map_take]
    rw [h3, ← List.append_assoc, List.take_left' (by simp; omega), List.eraseIdx_eq_take_drop_succ]
  rw [her] at hH2
  have hH3 := hH2.ext (σ' := { n := 2, t := [], s := [(1, ⟨false, [.own m (rows.eraseIdx i)]⟩)] }) rfl (fun _ => rfl) (fun z => by
    rcases z with _ | _ | z <;> first | rfl | simp [getS, delS, updS])
  have hval : (Value.slice (some ⟨b, 0, none⟩) (rows.length - 1) cap) = (GT.own m v (rows'.take (rows.length - 1))).val := by simp only [GT.val, v, hlen]
  refine ⟨{ n := 2, t := [], s := [(1, ⟨false, [.own m (rows.eraseIdx i)]⟩)] }, _, .ref 1 [] 0, ⟨rfl, rfl, rfl⟩, hH3.inv, .ref _ _ _ _ (by simp) rfl (fun r1 row1 g1 hr1 hp1 hc1 hl1 => ?_), hH3.fr, hH3.own, fun x g g' hx _ hg' => ?_, fun x hx => by cases hx⟩
  · rw [Gset_ne (by decide), Gset_self] at hr1; cases hr1
    cases hp1; cases hc1
    exact hval
  · have : x = 0 := by omega
    subst this
    rw [Gset_self] at hg'; cases hg'
theorem Sh.outP {σ τ : St} (i x : Nat) (p : List (Nat × Nat)) (c : Nat) {n : Nat} {rows : List (List AV)} (hi : getT σ.t i = .ref x p c) (hc : cellAtB σ x p c = .own n rows)
    (he : { n := σ.n + 1, t := (i, .ref σ.n [] 0) :: σ.t, s := (σ.n, ⟨false, [.own n rows]⟩) :: (match getS σ.s x with
      | some r => updS σ.s x { r with cells := putAt r.cells p c .undef }
      | none => σ.s) } = τ) : Sh σ τ := by
  intro A0 D0 w0 nt a w G h
  subst he
  obtain ⟨r, row, g, grow, t, k1, k2, k3, k4, k5, k6, k7, k8, k9, k10, k11, k12⟩ := h.tree hc rfl
  obtain ⟨v, q1, q2⟩ := h.slot (t := i) (by rw [hi]; simp)
  rw [hi] at q2
  obtain ⟨_, e2, e3⟩ := q2.ref_inv
  have hv := k11 v e3
  have h2 := h.consume (N := σ.n) (t := t) (w' := w) (Nat.le_refl _) k1 k2 k4 k5 k6 (fun _ _ _ => rfl) ⟨rfl, rfl, rfl, Nat.le_refl _⟩ k7 k10 (fun k hk => .inl hk) (fun A hA => k9.keep (fun _ _ _ => rfl) hA (fun _ _ => rfl))
  rw [k8] at h2
  simp only [k1]
  refine ⟨_, h2.inv, h2.size, h2.defers, fun j hj => ?_, fun j hj => ?_, h2.fr, h2.own, h2.a0lt⟩
  · simp only [getT]
    split
    · rename_i e; subst e
      rw [Array.getD_eq_getD_getElem?, q1]
      refine .ref _ _ _ _ (by simp) (by rw [hv]; exact k9.oneCell) fun r1 row1 g1 hr1 hp1 hc1 hl1 => ?_
      rw [Gset_self] at hr1; cases hr1
      cases hp1; cases hc1
      exact hv
    · exact h2.tmp j hj
  · simp only [getT]
    have : i ≠ j := fun e => by subst e; have := h.far i hj; rw [hi] at this; cases this
    rw [if_neg this]
    exact h2.far j hj
theorem GCall.told0 {P : Program} {up : Bool} {f : FuncId} {args : List AV} {Post Post' : AV → St → Prop} (h : GCall P up f args 0 [] Post) (hp : ∀ r σ', Post r σ' → ∃ τ, Sh { n := σ'.n, t := [(0, r)], s := σ'.s } τ ∧ Post' (getT τ.t 0) τ) : GCall P up f args 0 [] Post' := by
  refine ⟨h.1, fun w A G vs hA hinv hvl hrel => (h.2 w A G vs hA hinv hvl hrel).mono fun e w' he => ?_⟩
  cases e with
  | returned v =>
    obtain ⟨σ', G', r, k1, k2, k3, k4, k5, k6, k7⟩ := he
    obtain ⟨τ, q1, q2⟩ := hp r σ' k1
    have hH : Holds A (GFp G) w 1 { n := σ'.n, t := [(0, r)], s := σ'.s } ⟨#[v], []⟩ w' G' := by
      refine ⟨k2, rfl, rfl, fun i hi => ?_, fun i hi => ?_, k4, k5, hA⟩
      · have : i = 0 := by omega
        subst this
        exact k3
      · have : ¬ (0 = i) := by omega
        simp [getT, this]
    obtain ⟨G2, h2⟩ := q1 A (GFp G) w 1 _ w' G' hH
    refine ⟨τ, G2, getT τ.t 0, q2, h2.inv, h2.tmp 0 (by decide), h2.fr, h2.own, fun x g g' hx => absurd hx (Nat.not_lt_zero x), fun x hx => by cases hx⟩
  | panicked c => exact he
  | outgrown => exact he
theorem GCall.mono {P : Program} {up : Bool} {f : FuncId} {args : List AV} {n : Nat} {s : List (Nat × Root)} {Post Post' : AV → St → Prop} (h : GCall P up f args n s Post) (hp : ∀ r σ', Post r σ' → Post' r σ') : GCall P up f args n s Post' := by
  refine ⟨h.1, fun w A G vs hA hinv hvl hrel => (h.2 w A G vs hA hinv hvl hrel).mono fun e w' he => ?_⟩
  cases e with
  | returned v =>
    obtain ⟨σ', G', r, k1, k⟩ := he
    exact ⟨σ', G', r, hp r σ' k1, k⟩
  | panicked c => exact he
  | outgrown => exact he
section
variable {P : Program} {TT : TTab} {up : Bool} {all : Array Oper} {σ0 : St} {K : List (Nat × AV) → Option Root → Prop}
theorem Seg.callNA {os : List Oper} {t : List (Nat × AV)} {d : Option Tmp} {ty : TypeId} {pos : String} {af : Array Edge} {gd : Option (Nat × Bool)} {x : Operand} {xs : Array Operand} {ts : Array TypeId} {f : FuncId} {first caps args : List AV} {m : Nat} {rows : List (List AV)}
    (hp : GCall P up f args 0 [] (fun r σ' => r = .agg [.ref 0 [] 0] ∧ σ'.n = 1 ∧ σ'.s = [(0, ⟨false, [.own m rows]⟩)])) (hw : wantd all { σ0 with t := t } ⟨d, .call ⟨.value x, xs, ts⟩, ty, pos, af, gd⟩ = some true) (hx : ev { σ0 with t := t } x = .func (.func f) first caps)
    (ha : SubL (mName [] 0) 0 args (callL { σ0 with t := t } first xs.toList caps))
    (hk : Seg P up all σ0 os (putT t d (.agg [.ref σ0.n [] 0])) (some ⟨false, [.own m rows]⟩) K) : Seg P up all σ0 (⟨d, .call ⟨.value x, xs, ts⟩, ty, pos, af, gd⟩ :: os) t none K := by
  refine ⟨t, .agg [.ref σ0.n [] 0], some ⟨false, [.own m rows]⟩, fun _ => rfl, ⟨fun h => (by cases h), ?_⟩, .inr rfl, hk⟩
  intro σ' hl he hn
  have hn := hn rfl
  refine .inl ⟨by rw [wantd_congr (τ := { σ0 with t := t }) hl]; exact hw, ?_⟩
  have hev : ∀ y ∈ (Op.call ⟨.value x, xs, ts⟩).operands, ev σ' y = ev { σ0 with t := t } y := fun y hy => looks_ops (τ := { σ0 with t := t }) hl hy
  have hc : callL σ' first xs.toList caps = callL { σ0 with t := t } first xs.toList caps := callL_ev fun y hy => hev y (by simp [Op.operands, Call.operands]; right; simpa using hy)
  have hx' : ev σ' x = .func (.func f) first caps := by rw [hev x (by simp [Op.operands, Call.operands])]; exact hx
  refine snd_gcall [] rfl hx' hp List.nodup_nil (by simp [AllS]) (by simp [Names]) (fun y hy => by cases hy) (fun x hx => by cases hx) (by rw [hc]; exact ha) fun r σ'' hr => ?_
  obtain ⟨n'', t'', s''⟩ := σ''
  obtain ⟨rfl, h2, h3⟩ := hr
  simp only at h2 h3
  subst h2 h3
  rw [aft_nil]
  simp [newR, ren, mName, hn]
end
end Go.Ab
namespace Go.Ab
open Go Go.RowKit
section
variable {P : Program} {TT : TTab} {up : Bool} {np nt : Nat} {σ : St} {Q : Exit → St → Prop} {all : Array Oper} {os : List Oper} {K : St → Prop}
theorem CWops.rn (htt : TTok P TT) (n : Nat) {os' : List Oper} {σ' : St} {ob : Prop} (hk : CWops P up nt all os' σ' K)
    (h : runS TT all n os σ True = ⟨os', σ', ob⟩ := by simp only [go_sem, simprocAttr]; exact rfl)
    (hob : ob := by simp [go_sem]) : CWops P up nt all os σ K := CWops.run htt n h hob hk
theorem CW.rg {id : Nat} {ops : Array Oper} (h : CWops P up nt ops ops.toList σ (Q .normal)) (hd : okDst nt ops.toList = true := by kernel_rfl) (hk : keepDst np ops.toList = true := by kernel_rfl) : CW P up np nt (.region id ops false) σ Q := CW.region hd hk h
end
end Go.Ab
namespace Go.Ab
open Go Go.RowKit
def renE (l : List Nat) (e : Edge) : Edge := { e with on := l.idxOf e.on }
def renO (l : List Nat) (o : Oper) : Oper := { o with after := o.after.map (renE l) }
theorem renO_mk (l : List Nat) (d : Option Tmp) (op : Op) (ty : TypeId) (pos : String) (af : Array Edge) (gd : Option (Nat × Bool)) : renO l ⟨d, op, ty, pos, af, gd⟩ = ⟨d, op, ty, pos, af.map (renE l), gd⟩ := rfl
def nthO : List Oper → Nat → Oper
  | [], _ => default
  | o :: _, 0 => o
  | _ :: os, n + 1 => nthO os n
theorem nthO_zero (o : Oper) (os : List Oper) : nthO (o :: os) 0 = o := rfl
theorem nthO_succ (o : Oper) (os : List Oper) (n : Nat) : nthO (o :: os) (n + 1) = nthO os n := rfl
theorem nthO_get : ∀ {os : List Oper} {i : Nat} {o : Oper}, os[i]? = some o → nthO os i = o
  | [], i, o, h => by simp at h
  | _ :: _, 0, o, h => by simp at h; exact h
  | _ :: os, i + 1, o, h => nthO_get (os := os) (by simpa using h)
def permL (l : List Nat) (os : List Oper) : List Oper := l.map fun i => renO l (nthO os i)
theorem permL_mk (l : List Nat) (os : List Oper) : permL l os = l.map fun i => renO l (nthO os i) := rfl
def permOK (l : List Nat) (ops : Array Oper) : Bool :=
  (Nat.beq l.length ops.size && (decide l.Nodup && l.all fun i => Nat.blt i ops.size)) && ((List.range ops.size).all (fun i => memB i l) && ops.toList.all fun o => o.guard.isNone && (bnd o).all fun j => Nat.blt j ops.size)
section
variable {P : Program} {ops : Array Oper} {Q : Exit → Act → World → Prop}
theorem renO_bnd {l : List Nat} {o : Oper} {j : Nat} : j ∈ bnd (renO l o) ↔ ∃ i ∈ bnd o, l.idxOf i = j := by
  rw [mem_bnd]
  constructor
  · rintro ⟨e, he, hb, rfl⟩
    simp only [renO, Array.mem_map] at he
    obtain ⟨e0, h0, rfl⟩ := he
    exact ⟨e0.on, mem_bnd.2 ⟨e0, h0, hb, rfl⟩, rfl⟩
  · rintro ⟨i, hi, rfl⟩
    obtain ⟨e0, h0, hb, rfl⟩ := mem_bnd.1 hi
    exact ⟨renE l e0, by simp only [renO, Array.mem_map]; exact ⟨e0, h0, rfl⟩, hb, rfl⟩
theorem renO_wp {l : List Nat} {o : Oper} {a : Act} {w : World} {K : Act → World → Prop} : (renO l o).wp P a w K Q = o.wp P a w K Q := by cases o; rfl
theorem renO_asks {l : List Nat} {o : Oper} {a : Act} {w : World} : (renO l o).asks P a w = o.asks P a w := by cases o; rfl
theorem wpAny_perm {l : List Nat} {os' : List Oper} (he : permL l ops.toList = os') (hp : permOK l ops = true) : ∀ (fuel : Nat) (listed listed' : Array Bool) (a : Act) (w : World), listed.size = ops.size → listed'.size = ops.size →
    (∀ i, i < ops.size → listed'.getD (l.idxOf i) false = listed.getD i false) → wpAny P .any os'.toArray Q fuel listed' a w → wpAny P .any ops Q fuel listed a w := by
  simp only [permOK, Bool.and_eq_true, decide_eq_true_eq] at hp
  obtain ⟨⟨hlen, hnd, hlt⟩, hall, hgd⟩ := hp
  have hlen : l.length = ops.size := Nat.eq_of_beq_eq_true hlen
  have hlt : ∀ i ∈ l, i < ops.size := fun i hi => Nat.blt_eq.mp (List.all_eq_true.1 hlt i hi)
  have hin : ∀ i, i < ops.size → i ∈ l := fun i hi => memB_iff.1 (List.all_eq_true.1 hall i (List.mem_range.2 hi))
  have hidx : ∀ i, i < ops.size → l.idxOf i < ops.size := fun i hi => by rw [← hlen]; exact List.idxOf_lt_length_iff.2 (hin i hi)
  have hgd : ∀ o ∈ ops, o.guard = none ∧ ∀ j ∈ bnd o, j < ops.size := fun o ho => by
    have := List.all_eq_true.1 hgd o (Array.mem_toList_iff.2 ho)
    simp only [Bool.and_eq_true, Option.isNone_iff_eq_none] at this
    exact ⟨this.1, fun j hj => Nat.blt_eq.mp (List.all_eq_true.1 this.2 j hj)⟩
  have hsz : os'.toArray.size = ops.size := by subst he; simp [permL, hlen]
  have hget : ∀ (i : Nat) (o : Oper), ops[i]? = some o → os'.toArray[l.idxOf i]? = some (renO l o) := fun i o ho => by
    have hi := (Array.getElem?_eq_some_iff.1 ho).1
    subst he
    have h2 : l[l.idxOf i]? = some i := by
      have h3 : l.idxOf i < l.length := List.idxOf_lt_length_iff.2 (hin i hi)
      rw [List.getElem?_eq_getElem h3, List.getElem_idxOf h3]
    simp only [permL, List.getElem?_toArray, List.getElem?_map, h2, Option.map_some]
    rw [nthO_get (by rw [Array.getElem?_toList]; exact ho)]
  have hback : ∀ (j : Nat) (o' : Oper), os'.toArray[j]? = some o' → ∃ i o, j = l.idxOf i ∧ i < ops.size ∧ ops[i]? = some o ∧ o' = renO l o := fun j o' ho => by
    have hj : j < ops.size := by rw [← hsz]; exact (Array.getElem?_eq_some_iff.1 ho).1
    have hjl : j < l.length := by omega
    have hil := hlt l[j] (List.getElem_mem hjl)
    have e : l.idxOf l[j] = j := List.Nodup.idxOf_getElem hnd j hjl
    have h2 := hget l[j] ops[l[j]] (Array.getElem?_eq_getElem hil)
    rw [e, ho] at h2
    exact ⟨l[j], ops[l[j]], e.symm, hil, Array.getElem?_eq_getElem hil, Option.some.inj h2⟩
  intro fuel
  have hr : ∀ {listed listed' : Array Bool}, listed.size = ops.size → listed'.size = ops.size → (∀ i, i < ops.size → listed'.getD (l.idxOf i) false = listed.getD i false) → ∀ i, i < ops.size → (i ∈ Region.ready .any ops listed ↔ l.idxOf i ∈ Region.ready .any os'.toArray listed') := by
    intro listed listed' h1 h2 h3 i hi
    have ht : listed'.getD (l.idxOf i) true = listed.getD i true := by
      rw [getD_tf (by rw [h2]; exact hidx i hi), getD_tf (by rw [h1]; exact hi), h3 i hi]
    rw [ready_spec, ready_spec, ht]
    constructor
    · rintro ⟨g1, o, g2, g3⟩
      refine ⟨g1, renO l o, hget i o g2, fun j hj => ?_⟩
      obtain ⟨i0, hi0, rfl⟩ := renO_bnd.1 hj
      have := (hgd o (Array.mem_of_getElem? g2)).2 i0 hi0
      rw [h3 i0 this]; exact g3 i0 hi0
    · rintro ⟨g1, o', g2, g3⟩
      obtain ⟨i1, o, e1, hi1, e2, rfl⟩ := hback _ o' g2
      have : i = i1 := by
        have a1 := List.getElem_idxOf (List.idxOf_lt_length_iff.2 (hin i hi))
        have a2 := List.getElem_idxOf (List.idxOf_lt_length_iff.2 (hin i1 hi1))
        simp only [e1] at a1
        rw [a1] at a2; exact a2
      subst this
      refine ⟨g1, o, e2, fun j hj => ?_⟩
      have hjs := (hgd o (Array.mem_of_getElem? e2)).2 j hj
      rw [← h3 j hjs]
      exact g3 _ (renO_bnd.2 ⟨j, hj, rfl⟩)
  have hnil : ∀ {listed listed' : Array Bool}, listed.size = ops.size → listed'.size = ops.size → (∀ i, i < ops.size → listed'.getD (l.idxOf i) false = listed.getD i false) → (Region.ready .any ops listed = [] ↔ Region.ready .any os'.toArray listed' = []) := by
    intro listed listed' h1 h2 h3
    constructor
    · intro h
      refine List.eq_nil_iff_forall_not_mem.2 fun j hj => ?_
      obtain ⟨_, o', g2, _⟩ := ready_spec.1 hj
      obtain ⟨i, o, rfl, hi, _, _⟩ := hback j o' g2
      have := (hr h1 h2 h3 i hi).2 hj
      rw [h] at this; cases this
    · intro h
      refine List.eq_nil_iff_forall_not_mem.2 fun i hi => ?_
      obtain ⟨_, o, g2, _⟩ := ready_spec.1 hi
      have := (hr h1 h2 h3 i (Array.getElem?_eq_some_iff.1 g2).1).1 hi
      rw [h] at this; cases this
  induction fuel with
  | zero =>
    intro listed listed' a w h1 h2 h3 h
    exact ⟨(hnil h1 h2 h3).2 h.1, h.2⟩
  | succ fuel ih =>
    intro listed listed' a w h1 h2 h3 h
    refine ⟨fun h0 => h.1 ((hnil h1 h2 h3).1 h0), fun i hi => ?_⟩
    obtain ⟨_, o, g2, _⟩ := ready_spec.1 hi
    have hil := (Array.getElem?_eq_some_iff.1 g2).1
    have hstep := h.2 (l.idxOf i) ((hr h1 h2 h3 i hil).1 hi)
    have hg := (hgd o (Array.mem_of_getElem? g2)).1
    have hK : ∀ a w, wpAny P .any os'.toArray Q fuel (listed'.setIfInBounds (l.idxOf i) true) a w → wpAny P .any ops Q fuel (listed.setIfInBounds i true) a w := fun a w hh => by
      refine ih _ _ a w (by simpa using h1) (by simpa using h2) (fun x hx => ?_) hh
      by_cases hxi : i = x
      · subst hxi
        rw [Array.getD_eq_getD_getElem?, Array.getElem?_setIfInBounds_self_of_lt (by rw [h2]; exact hidx i hil), Array.getD_eq_getD_getElem?, Array.getElem?_setIfInBounds_self_of_lt (by rw [h1]; exact hil)]
      · have hne : l.idxOf i ≠ l.idxOf x := fun e => by
          have a1 := List.getElem_idxOf (List.idxOf_lt_length_iff.2 (hin i hil))
          have a2 := List.getElem_idxOf (List.idxOf_lt_length_iff.2 (hin x hx))
          simp only [e] at a1
          rw [a1] at a2; exact hxi a2
        rw [getD_set_ne false hne, getD_set_ne false hxi, h3 x hx]
    unfold wpOp at hstep ⊢
    rw [g2]
    rw [hget i o g2] at hstep
    simp only [Region.wanted, renO, hg, if_true] at hstep ⊢
    have hstep' : (renO l o).wp P a w (wpAny P .any os'.toArray Q fuel (listed'.setIfInBounds (l.idxOf i) true)) Q ∨ ((renO l o).asks P a w ∧ LetsOut Q) := hstep
    rw [renO_wp, renO_asks] at hstep'
    exact hstep'.imp (Oper.wp_mono hK) id
end
section
variable {P : Program} {TT : TTab} {up : Bool} {np nt : Nat} {σ : St} {Q : Exit → St → Prop}
theorem CW.drawnP (hm : P.follows .mixedOrders = true) (l : List Nat) (k m : Nat) (Fl : List Nat) {os' : List Oper} {D : List Nat} {fl : List Oper} {id : Nat} {ops : Array Oper} (he : permL l ops.toList = os') (hp : permOK l ops = true) (hkm : k ≤ m) (hms : m ≤ os'.toArray.size) (hchk : segChkF k m Fl os'.toArray = true) (hD : dstsF os'.toArray Fl = D) (hfl : opsF os'.toArray Fl = fl) (hd : okDst nt os' = true) (hkd : keepDst np ops.toList = true)
    (h : Seg P up os'.toArray σ (os'.take k) σ.t none fun t r => Mid P up os'.toArray D fl ((os'.drop k).take (m - k)) (endSt σ t r) fun σ => CWops P up nt os'.toArray (os'.drop m) σ (Q .normal)) : CW P up np nt (.region id ops true) σ Q := by
  subst hD hfl
  intro A0 D0 w0 a w G R hu hh hr
  let Q1 : Exit → Act → World → Prop := fun e a' w' => match e with
    | .normal => ∃ σ' G', Holds A0 D0 w0 nt σ' a' w' G' ∧ Q .normal σ'
    | e => R e a' w'
  have hu1 : up = true → LetsOut Q1 := fun hu' => let ⟨a, w, h⟩ := hu hu'; ⟨a, w, h⟩
  have hsz : os'.toArray.size = ops.size := by
    have := hp
    simp only [permOK, Bool.and_eq_true] at this
    have h1 := Nat.eq_of_beq_eq_true this.1.1
    subst he; simp [permL, h1]
  suffices hs : wpAny P .any os'.toArray Q1 os'.toArray.size (Array.replicate os'.toArray.size false) a { w with drawn := w.drawn + 1 } by
    have hs1 : wpAny P .any ops Q1 ops.size (Array.replicate ops.size false) a { w with drawn := w.drawn + 1 } := by
      rw [hsz] at hs
      have hz : ∀ j, (Array.replicate ops.size false).getD j false = false := fun j => by
        rw [Array.getD_eq_getD_getElem?, Array.getElem?_replicate]; split <;> rfl
      exact wpAny_perm he hp ops.size _ (Array.replicate ops.size false) _ _ (by simp) (by simp) (fun i hi => by rw [hz, hz]) hs
    refine wp_mono (wp_region_any hm (wpAny_keep (a0 := a) hkd _ _ _ _ (Kept.refl np a) hs1)) fun e a' w' he => ?_
    cases e with
    | normal => obtain ⟨⟨σ', G', g1, g2⟩, g3⟩ := he; exact hr _ a' w' σ' G' g1 (g3 rfl) g2
    | _ => exact he.1
  have h' : Seg P up os'.toArray σ (os'.toArray.toList.take k) σ.t none fun t r => Mid P up os'.toArray (dstsF os'.toArray Fl) (opsF os'.toArray Fl) ((os'.toArray.toList.drop k).take (m - k)) (endSt σ t r) fun σ => CWops P up nt os'.toArray (os'.toArray.toList.drop m) σ (Q .normal) := h
  obtain ⟨te, re, val, tt, hk', hv⟩ := seg_vals h'
  have hno : ∀ i, (Array.replicate os'.toArray.size false).getD i false = true → False := fun i hi => by
    rw [Array.getD_eq_getD_getElem?, Array.getElem?_replicate] at hi
    split at hi <;> simp at hi
  refine any_segF (σ := σ) (σ' := σ) hkm hms hchk hd hu1 (fun y hy => ?_) hv (hk'.mono fun σ hσ a w G hh' => hσ (okDst_drop m hd) A0 D0 w0 a w G Q1 hu1 hh' fun a w σ' G' h1 h2 => ⟨σ', G', h1, h2⟩) os'.toArray.size _ a _ G (by simp) ?_ (fun i hi => (hno i hi).elim)
    (fun i o _ hi => (hno i hi).elim) ⟨fun i o x _ hi => (hno i hi).elim, fun x _ => rfl, fun i o r _ hi => (hno i hi).elim, fun _ => ⟨rfl, fun _ => rfl⟩⟩ hh.drew
  · have := hh.inv.dom y
    rw [hy] at this
    obtain ⟨g, hg⟩ := Option.isSome_iff_exists.1 this.symm
    exact hh.inv.lt y g hg
  · unfold unl
    have : ((List.range os'.toArray.size).filter fun i => !(Array.replicate os'.toArray.size false).getD i true) = List.range os'.toArray.size := by
      rw [List.filter_eq_self]
      intro i hi
      have hi := List.mem_range.1 hi
      rw [Array.getD_eq_getD_getElem?, Array.getElem?_replicate, if_pos hi]
      rfl
    rw [this, List.length_range]
end
section
variable {P : Program} {TT : TTab} {up : Bool} {all : Array Oper} {D : List Nat} {fl : List Oper} {K : St → Prop}
theorem stepF_all (htt : TTok P TT) {D' : List Nat} {o : Oper} {n n2 : Nat} {t t2 : List (Nat × AV)} {s s2 : List (Nat × Root)} (hg : o.guard = none) (hDD : ∀ x ∈ D', x ∈ D) (hD : ∀ x ∈ D, x ∈ D' ∨ x ∈ o.looksAt all) (h1 : ∀ x ∈ D, getT t2 x = getT t x)
    (he : ∀ u : Nat → AV, ∃ e, eop TT ⟨n, ovr D' u t, s⟩ o.dst o.op = some e ∧ e.ob ∧ (fin o.dst e).n = n2 ∧ (∀ x, getT (fin o.dst e).t x = if x ∈ D' then u x else getT t2 x) ∧ (fin o.dst e).s = s2) : StepF P up all D o ⟨n, t, s⟩ ⟨n2, t2, s2⟩ := by
  refine ⟨h1, fun τ hl hlk => ⟨by unfold wantd; rw [hg], ?_⟩⟩
  intro A0 D0 w0 nt a w G Q hd hu hh
  left
  have hτ : ∀ x, x ∉ D' → getT τ.t x = getT t x := fun x hx => by
    by_cases hxD : x ∈ D
    · exact hlk x ((hD x hxD).resolve_left hx)
    · exact hl.2.2 x hxD
  obtain ⟨e, e1, e2, e3, e4, e5⟩ := he (getT τ.t)
  refine Oper.wp_mono (fun a w ⟨σ', G', k1, k2⟩ => ⟨σ', G', k1, ?_⟩) (eop_sound htt e1 e2 A0 D0 w0 nt a w G Q hd (hh.ext (σ' := ⟨n, ovr D' (getT τ.t) t, s⟩) hl.1.symm (fun x => ?_) (fun y => (hl.2.1 y).symm)))
  · show getT (ovr D' (getT τ.t) t) x = _
    rw [ovr_get]
    split
    · rfl
    · rename_i hx; exact (hτ x hx).symm
  · subst k2
    refine ⟨⟨e3, fun y => by rw [e5], fun x hx => ?_⟩, fun x hx => ?_⟩
    · rw [e4, if_neg (fun h => hx (hDD x h))]
    · rw [e4]
      split
      · rfl
      · rename_i hx'
        rw [h1 x hx, hτ x hx']
theorem Mid.eop (htt : TTok P TT) (D' : List Nat) {ty : TypeId} {pos : String} {af : Array Edge} {op : Op} {os : List Oper} {n n2 q : Nat} {t : List (Nat × AV)} {s s2 : List (Nat × Root)} {v : AV} {ob : Prop} (hf : Flo P up all fl ⟨n, t, s⟩) (hq : q ∉ D) (hob : ob)
    (hD : (D.all fun x => memB x D' || memB x ((⟨some q, op, ty, pos, af, none⟩ : Oper).looksAt all)) = true) (hD2 : (D'.all fun x => memB x D) = true)
    (he : ∀ u : Nat → AV, Go.Ab.eop TT ⟨n, ovr D' u t, s⟩ (some q) op = some ⟨⟨n2, ovr D' u t, s2⟩, v, ob⟩) (hk : Mid P up all D fl os ⟨n2, (q, v) :: t, s2⟩ K) : Mid P up all D fl (⟨some q, op, ty, pos, af, none⟩ :: os) ⟨n, t, s⟩ K := by
  have hDD : ∀ x ∈ D', x ∈ D := fun x hx => memB_iff.1 (List.all_eq_true.1 hD2 x hx)
  refine ⟨hf, _, stepF_all htt rfl hDD (fun x hx => ?_) (fun x hx => ?_) (fun u => ⟨_, he u, hob, rfl, fun x => ?_, rfl⟩), hk⟩
  · have := List.all_eq_true.1 hD x hx
    simp only [Bool.or_eq_true] at this
    exact this.imp memB_iff.1 memB_iff.1
  · simp only [getT]
    rw [if_neg (fun (e : q = x) => hq (e ▸ hx))]
  · simp only [fin, St.put, getT, ovr_get]
    by_cases hx : q = x
    · subst hx
      have : ¬ q ∈ D' := fun h => hq (hDD q h)
      simp [this]
    · simp [hx]
end
theorem FR.slTo {w : World} {A : Nat → Prop} {n q : Nat} {l : List (List AV)} {ad : Option Addr} {len cap : Nat} (h : FR w A (.sl n l) (.slice ad len cap)) (hq : q ≤ l.length) :
    len = l.length ∧ l.length ≤ cap ∧ FR w A (.sl n (l.take q)) (.slice (if cap = 0 then ad else ad.map (·.add (0 * n))) q cap) := by
  cases h with
  | slnil n =>
    simp at hq; subst hq
    exact ⟨rfl, Nat.le_refl _, .slnil n⟩
  | slmt n a cap hc =>
    simp at hq; subst hq
    refine ⟨rfl, Nat.zero_le _, ?_⟩
    simp only [List.take_nil, Nat.zero_mul, Option.map_some]
    split
    · exact .slmt n a _ (by omega)
    · exact .slmt n _ _ (by omega)
  | sl n l b o cap h1 h2 h3 h4 h5 h6 =>
    refine ⟨rfl, h1, ?_⟩
    have ea : (if cap = 0 then some (⟨b, o, none⟩ : Addr) else (some (⟨b, o, none⟩ : Addr)).map (·.add (0 * n))) = some ⟨b, o, none⟩ := by
      simp only [Option.map_some, Addr.add_lit, Nat.zero_mul, Nat.add_zero, ite_self]
    rw [ea]
    have hlen : (l.take q).length = q := by rw [List.length_take]; omega
    by_cases hq0 : q = 0
    · subst hq0; exact .slmt n _ _ (by omega)
    · conv => arg 4; rw [← hlen]
      refine .sl n (l.take q) b o cap (by omega) (by omega) (by omega) (fun i e hi => ?_) (fun i e j a hi hj => ?_) (fun i e j a hi hj => ?_)
      all_goals
        rw [List.getElem?_take] at hi
        split at hi
        case isFalse => cases hi
      · exact h4 _ e hi
      · exact h5 _ e j a hi hj
      · exact h6 _ e j a hi hj
section
variable {P : Program} {TT : TTab} {up : Bool} {o : Oper} {σ : St} {K : St → Prop}
theorem snd_slTo {t e : Nat} {x hi' : Operand} {i j : TI} {k : IntKind} {q : Nat} {l : List (List AV)} (ho : o.op = .slice t x none (some hi') none) (htt : TTok P TT) (ht : TT t = some i) (hi : i.kind = .slice e) (he : TT e = some j) (hx : ev σ x = .sl j.size l) (hl : ev σ hi' = .int k (q : Int)) (hq : q ≤ l.length)
    (hk : K (σ.put o.dst (.sl j.size (l.take q)))) : Snd P o σ K := by
  refine snd_val _ hk fun {A0 D0 w0 nt a w G} h => ?_
  have hxv := h.ev x
  rw [hx] at hxv
  have hfr := hxv.pure rfl
  have hlv := h.ev hi'
  rw [hl] at hlv
  have hlv := hlv.int_inv
  obtain ⟨ad, len, cap, hv⟩ : ∃ ad len cap, a.eval x = .slice ad len cap := by
    generalize a.eval x = v at hfr
    cases hfr with
    | slnil => exact ⟨_, _, _, rfl⟩
    | slmt => exact ⟨_, _, _, rfl⟩
    | sl => exact ⟨_, _, _, rfl⟩
  rw [hv] at hfr
  obtain ⟨h1, h2, h3⟩ := hfr.slTo hq
  refine ⟨_, ?_, .fr _ _ h3⟩
  have hr := run_sliceTo htt ht hi he (ad := ad) (len := len) (cap := cap) (q := q) (k := k) (by omega) (by omega) w
  simp only [execOp, ho, hv, Option.map_some, hlv, Option.map_none]
  rw [Sem.run_bind, hr]
  rfl
theorem CWops.slTo {nt : Nat} {all : Array Oper} {os : List Oper} {d : Option Tmp} {ty : TypeId} {ps : String} {af : Array Edge} {gd : Option (Nat × Bool)} {t e : Nat} {x hi' : Operand} {i j : TI} {k : IntKind} {q : Nat} {l : List (List AV)} (htt : TTok P TT)
    (hw : wantd all σ ⟨d, .slice t x none (some hi') none, ty, ps, af, gd⟩ = some true) (ht : TT t = some i) (hi : i.kind = .slice e) (he : TT e = some j) (hx : ev σ x = .sl j.size l) (hl : ev σ hi' = .int k (q : Int)) (hq : q ≤ l.length)
    (hk : CWops P up nt all os (σ.put d (.sl j.size (l.take q))) K) : CWops P up nt all (⟨d, .slice t x none (some hi') none, ty, ps, af, gd⟩ :: os) σ K :=
  CWops.step hw (Snd.up (snd_slTo rfl htt ht hi he hx hl hq hk))
end
section
variable {P : Program} {TT : TTab} {up : Bool} {all : Array Oper} {σ0 : St} {K : List (Nat × AV) → Option Root → Prop}
theorem newR_none (σ : St) (d : Option Tmp) (v : AV) : newR σ d v none = σ.put d v := rfl
theorem stab_slFrom {d : Option Tmp} {ty : TypeId} {ps : String} {af : Array Edge} {t e : Nat} {x lo : Operand} {i j : TI} {k : IntKind} {q : Nat} {l : List (List AV)} {ts : List (Nat × AV)} (htt : TTok P TT) (ht : TT t = some i) (hi : i.kind = .slice e) (he : TT e = some j)
    (hx : ev { σ0 with t := ts } x = .sl j.size l) (hl : ev { σ0 with t := ts } lo = .int k (q : Int)) (hq : q ≤ l.length) : Stab P up all ⟨d, .slice t x (some lo) none none, ty, ps, af, none⟩ ts σ0 (.sl j.size (l.drop q)) none := by
  refine ⟨fun _ => rfl, fun σ' hlk _ _ => .inl ⟨rfl, Snd.up ?_⟩⟩
  have hev : ∀ y ∈ (Op.slice t x (some lo) none none).operands, ev σ' y = ev { σ0 with t := ts } y := fun y hy => looks_ops (o := ⟨d, .slice t x (some lo) none none, ty, ps, af, none⟩) (τ := { σ0 with t := ts }) hlk hy
  exact snd_slFrom rfl htt ht hi he (by rw [hev x (by simp [Op.operands])]; exact hx) (by rw [hev lo (by simp [Op.operands])]; exact hl) hq (newR_none ..).symm
theorem stab_slTo {d : Option Tmp} {ty : TypeId} {ps : String} {af : Array Edge} {t e : Nat} {x hi' : Operand} {i j : TI} {k : IntKind} {q : Nat} {l : List (List AV)} {ts : List (Nat × AV)} (htt : TTok P TT) (ht : TT t = some i) (hi : i.kind = .slice e) (he : TT e = some j)
    (hx : ev { σ0 with t := ts } x = .sl j.size l) (hl : ev { σ0 with t := ts } hi' = .int k (q : Int)) (hq : q ≤ l.length) : Stab P up all ⟨d, .slice t x none (some hi') none, ty, ps, af, none⟩ ts σ0 (.sl j.size (l.take q)) none := by
  refine ⟨fun _ => rfl, fun σ' hlk _ _ => .inl ⟨rfl, Snd.up ?_⟩⟩
  have hev : ∀ y ∈ (Op.slice t x none (some hi') none).operands, ev σ' y = ev { σ0 with t := ts } y := fun y hy => looks_ops (o := ⟨d, .slice t x none (some hi') none, ty, ps, af, none⟩) (τ := { σ0 with t := ts }) hlk hy
  exact snd_slTo rfl htt ht hi he (by rw [hev x (by simp [Op.operands])]; exact hx) (by rw [hev hi' (by simp [Op.operands])]; exact hl) hq (newR_none ..).symm
theorem Seg.slFrom {os : List Oper} {ts : List (Nat × AV)} {r : Option Root} {d : Option Tmp} {ty : TypeId} {ps : String} {af : Array Edge} {t e : Nat} {x lo : Operand} {i j : TI} {k : IntKind} {q : Nat} {l : List (List AV)} (htt : TTok P TT) (ht : TT t = some i) (hi : i.kind = .slice e) (he : TT e = some j)
    (hx : ev { σ0 with t := ts } x = .sl j.size l) (hl : ev { σ0 with t := ts } lo = .int k (q : Int)) (hq : q ≤ l.length) (hk : Seg P up all σ0 os (putT ts d (.sl j.size (l.drop q))) r K) : Seg P up all σ0 (⟨d, .slice t x (some lo) none none, ty, ps, af, none⟩ :: os) ts r K :=
  ⟨ts, _, none, fun _ => rfl, stab_slFrom htt ht hi he hx hl hq, .inl rfl, hk⟩
theorem Seg.slTo {os : List Oper} {ts : List (Nat × AV)} {r : Option Root} {d : Option Tmp} {ty : TypeId} {ps : String} {af : Array Edge} {t e : Nat} {x hi' : Operand} {i j : TI} {k : IntKind} {q : Nat} {l : List (List AV)} (htt : TTok P TT) (ht : TT t = some i) (hi : i.kind = .slice e) (he : TT e = some j)
    (hx : ev { σ0 with t := ts } x = .sl j.size l) (hl : ev { σ0 with t := ts } hi' = .int k (q : Int)) (hq : q ≤ l.length) (hk : Seg P up all σ0 os (putT ts d (.sl j.size (l.take q))) r K) : Seg P up all σ0 (⟨d, .slice t x none (some hi') none, ty, ps, af, none⟩ :: os) ts r K :=
  ⟨ts, _, none, fun _ => rfl, stab_slTo htt ht hi he hx hl hq, .inl rfl, hk⟩
end
section
variable {P : Program} {TT : TTab} {up : Bool} {all : Array Oper} {σ : St} {fl : List Oper}
theorem Flo.st {o : Oper} {d : Nat} (hd : o.dst = some d) (h0 : Stab P up all o σ.t σ (getT σ.t d) none) (h : Flo P up all fl σ) : Flo P up all (o :: fl) σ := by
  intro o' ho' d' hd'
  rcases List.mem_cons.1 ho' with rfl | ho'
  · rw [hd] at hd'; cases hd'
    exact h0
  · exact h o' ho' d' hd'
end
end Go.Ab
