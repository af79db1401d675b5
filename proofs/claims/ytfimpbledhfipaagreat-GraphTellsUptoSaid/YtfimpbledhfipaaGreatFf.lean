/-
  What a machine's memory holds of plain values, and that each operation, block, loop and call of the model turns such a state as told. No condition but those of each theorem.
-/
import Derived.WalkKit
import Derived.Below
import Derived.Scope
import Derived.Orders
import Derived.Still
import Derived.Test.YtfimpbledhfipaaGreatFa
import Derived.Test.YtfimpbledhfipaaGreatFb
import Derived.Test.YtfimpbledhfipaaGreatFc
import Derived.Test.YtfimpbledhfipaaGreatFd
import Derived.Test.YtfimpbledhfipaaGreatFe
set_option linter.unusedVariables false
set_option linter.unusedSimpArgs false
namespace Go.Ab
open Go Go.RowKit
structure SndV (P : Program) (o : Oper) (σ : St) (av : AV) : Prop where
  run : ∀ {A0 D0 : Nat → Prop} {w0 : World} {nt : Nat} {a : Act} {w : World} {G : Nat → Option GR}, Holds A0 D0 w0 nt σ a w G →
    ∃ v, (execOp a.eval o).run P w = .ok (.value v) w ∧ Rel w (Own A0 G) G σ.n av v
section
variable {P : Program} {TT : TTab} {o : Oper} {σ : St} {av : AV}
theorem sndV_val (av' : AV) (hk : av' = av) (hrun : ∀ {A0 D0 : Nat → Prop} {w0 : World} {nt : Nat} {a : Act} {w : World} {G : Nat → Option GR}, Holds A0 D0 w0 nt σ a w G →
    ∃ v, (execOp a.eval o).run P w = .ok (.value v) w ∧ Rel w (Own A0 G) G σ.n av' v) : SndV P o σ av := ⟨fun h => by subst hk; exact hrun h⟩
theorem valV_move {x : Operand} (ho : o.op = .move x ∨ o.op = .assign x) (hk : ((ev σ x)) = av) : SndV P o σ av :=
  sndV_val _ hk fun {_ _ _ _ a w _} h => ⟨a.eval x, by rcases ho with ho | ho <;> simp [execOp, ho], h.ev x⟩
theorem valV_nilCheck {x : Operand} (ho : o.op = .nilCheck x) (hx : match ev σ x with | .lv _ _ _ => True | .fp _ => True | .func (.func _) _ _ => True | _ => False) (hk : ((ev σ x)) = av) : SndV P o σ av :=
  sndV_val _ hk fun {_ _ _ _ a w _} h => by
    have hb := h.ev x
    refine ⟨a.eval x, ?_, hb⟩
    cases hx' : ev σ x <;> rw [hx'] at hb hx <;> try (exact hx.elim)
    · have hb := hb.fr_of trivial
      generalize he : a.eval x = u at hb
      cases hb
      simp [execOp, ho, he]
    · obtain ⟨ad, h1, _⟩ := hb.lv_inv
      simp [execOp, ho, h1]
    · rename_i fn f c
      obtain ⟨us, vs, h1, _⟩ := hb.func_inv
      cases fn <;> simp_all [execOp]
theorem valV_fieldAddr {s f T off : Nat} {x : Operand} {fs : List (Nat × Nat)} {i : TI} {j : TI} (ho : o.op = .fieldAddr s x f) (htt : TTok P TT) (hs : TT s = some i) (hi : i.kind = .struct fs) (hf : fs[f]? = some (T, off)) (hT : TT T = some j) (hsz : 0 < j.size)
    (hk : match ev σ x with | .lv y p q => ((.lv y p (q + off))) = av | .fp l => ((.fp (l.drop off))) = av | _ => False) : SndV P o σ av := by
  have hrun : ∀ (a : Act) (w : World) (ad : Addr), a.eval x = .pointer (some ad) → (execOp a.eval o).run P w = .ok (.value (.pointer (some (ad.add off)))) w := by
    intro a w ad hx
    have h1 := (htt s i hs).kind
    rw [hi] at h1
    obtain ⟨fa, h2, h3⟩ := h1
    have h4 : ∃ fl, fa[f]? = some fl ∧ fl.type = T ∧ fl.offset = off := by
      rw [← h3] at hf
      simp only [List.getElem?_map, Option.map_eq_some_iff] at hf
      obtain ⟨fl, hfl, e⟩ := hf
      refine ⟨fl, by simpa using hfl, by cases e; rfl, by cases e; rfl⟩
    obtain ⟨fl, h5, rfl, rfl⟩ := h4
    have h6 := (htt _ j hT).run_size w
    simp [execOp, ho, Instr.fieldAt, run_underlying h2, h5, Instr.sureAddr, hx, fieldPlace, h6, Nat.pos_iff_ne_zero.1 hsz]
  cases hx : ev σ x <;> rw [hx] at hk <;> try (exact hk.elim)
  · rename_i l
    refine sndV_val _ hk fun {A0 D0 w0 nt a w G} h => ?_
    have hb := h.ev x
    rw [hx] at hb
    have hb := hb.fr_of trivial
    generalize he : a.eval x = u at hb
    cases hb with
    | fp _ b of h1 h2 =>
      refine ⟨_, hrun a w _ he, .fr _ _ ?_⟩
      rw [Addr.add_lit]
      refine .fp _ _ _ (fun q av hq => ?_) (fun q av hq => ?_)
      · rw [List.getElem?_drop] at hq
        have := h1 _ av hq
        rwa [← Nat.add_assoc] at this
      · rw [List.getElem?_drop] at hq
        have := h2 _ av hq
        rwa [← Nat.add_assoc] at this
  · rename_i y p q
    refine sndV_val _ hk fun {A0 D0 w0 nt a w G} h => ?_
    have hb := h.ev x
    rw [hx] at hb
    obtain ⟨ad, h1, h2, h3⟩ := hb.lv_inv
    refine ⟨_, hrun a w ad h1, .lv _ _ _ _ h2 fun r b of hr hp => ?_⟩
    rw [h3 r b of hr hp, Addr.add_lit, Nat.add_assoc]
theorem valV_load {t : Nat} {i : TI} {x : Operand} (ho : o.op = .load t x) (htt : TTok P TT) (ht : TT t = some i) (h1 : i.kind.agg = false → i.size = 1)
    (hk : match ev σ x with
      | .lv y p q => match getS σ.s y with
        | some r => (p = [] → r.box = true) ∧ (match rowOf r.cells p with
          | some row => q + i.size ≤ row.length ∧ ((mkV i (ldc y p q ((row.drop q).take i.size)))) = av
          | none => False)
        | none => False
      | .fp l => i.size ≤ l.length ∧ ((mkV i (l.take i.size))) = av
      | _ => False) : SndV P o σ av := by
  have hti := htt t i ht
  -- a list of cells as a value
  have mk : ∀ {A0 : Nat → Prop} {w : World} {G : Nat → Option GR} (l : List AV) (vs : List Value), l.length = i.size → vs.length = i.size → (∀ (j : Nat) (a : AV), l[j]? = some a → Rel w (Own A0 G) G σ.n a (vs.getD j undef)) →
      Rel w (Own A0 G) G σ.n (mkV i l) (if i.kind.agg then .agg vs.toArray else vs.headD undef) := by
    intro A0 w G l vs hl hv hr
    unfold mkV
    cases hk : i.kind.agg with
    | true => exact .agg _ _ (by rw [hl, hv]) hr
    | false =>
      have hs1 := h1 hk
      cases l with
      | nil => simp at hl; omega
      | cons a l => cases vs with
        | nil => simp at hv; omega
        | cons v vs => exact hr 0 a rfl
  cases hx : ev σ x <;> rw [hx] at hk <;> try (exact hk.elim)
  · rename_i l
    obtain ⟨hl, hk⟩ := hk
    refine sndV_val _ hk fun {A0 D0 w0 nt a w G} h => ?_
    have hb := h.ev x
    rw [hx] at hb
    have hb := hb.fr_of trivial
    generalize he : a.eval x = u at hb
    cases hb with
    | fp _ b of h2 h3 =>
      let vs : List Value := (List.range i.size).map fun j => rdw w b (of + j)
      have hvs : ∀ (j : Nat) (v : Value), vs[j]? = some v → j < i.size ∧ v = rdw w b (of + j) := by
        intro j v hj
        simp only [vs, List.getElem?_map, Option.map_eq_some_iff] at hj
        obtain ⟨j', h4, h5⟩ := hj
        have hjl : j < i.size := by
          have := (List.getElem?_eq_some_iff.1 h4).1; simpa using this
        rw [List.getElem?_range hjl] at h4; cases h4
        exact ⟨hjl, h5.symm⟩
      have hrun := run_loadVar (P := P) hti (w := w) (ad := ⟨b, of, none⟩) (vs := vs) (by simp [vs]) (fun j v hj => by
        obtain ⟨hjl, rfl⟩ := hvs j v hj
        rw [Addr.add_lit]
        obtain ⟨_, hs⟩ := h2 j l[j] (List.getElem?_eq_getElem (by omega))
        unfold rdw
        obtain ⟨u, hu⟩ := Option.isSome_iff_exists.1 hs
        rw [hu]; rfl) h1
      refine ⟨_, by simp [execOp, ho, he, Instr.loadAt, Instr.sureAddr, hrun], mk _ vs (by simp; omega) (by simp [vs]) fun j av hj => ?_⟩
      rw [List.getElem?_take] at hj
      split at hj
      · rename_i hjl
        have : vs.getD j undef = rdw w b (of + j) := by
          have : vs[j]? = some (rdw w b (of + j)) := by simp only [vs, List.getElem?_map, List.getElem?_range hjl, Option.map_some]
          exact getD_of this
        rw [this]
        exact .fr _ _ (h3 j av hj)
      · cases hj
  · rename_i y p q
    simp only at hk
    split at hk
    · rename_i r hr
      obtain ⟨hbox, hk⟩ := hk
      split at hk
      · rename_i row hrow
        obtain ⟨hl, hk⟩ := hk
        refine sndV_val _ hk fun {A0 D0 w0 nt a w G} h => ?_
        have hb := h.ev x
        rw [hx] at hb
        obtain ⟨ad, e1, e2, e3⟩ := hb.lv_inv
        obtain ⟨g, grow, k1, k2, k3, k4, k5⟩ := h.read hr hrow
        obtain ⟨b, of, _, _, k6, _⟩ := h.place hr k1 k2 hbox
        have had := e3 g b of k1 k6
        have hgl : grow.length = row.length := k3.len.symm
        let vs : List Value := ((grow.drop q).take i.size).map GT.val
        have hvs : ∀ (j : Nat), j < i.size → ∃ t, grow[q + j]? = some t ∧ vs[j]? = some t.val := by
          intro j hj
          have hlt : q + j < grow.length := by omega
          refine ⟨grow[q + j], List.getElem?_eq_getElem hlt, ?_⟩
          simp only [vs, List.getElem?_map, List.getElem?_take, if_pos hj, List.getElem?_drop, List.getElem?_eq_getElem hlt, Option.map_some]
        have hvl : vs.length = i.size := by simp [vs]; omega
        have hrun := run_loadVar (P := P) hti (w := w) (ad := ad) (vs := vs) hvl (fun j v hj => by
          have hjl : j < i.size := by have := (List.getElem?_eq_some_iff.1 hj).1; omega
          obtain ⟨t, ht1, ht2⟩ := hvs j hjl
          rw [ht2] at hj; cases hj
          rw [had, Addr.add_lit, Nat.add_assoc]
          exact k5 b of k6 _ t ht1) h1
        refine ⟨_, by simp [execOp, ho, e1, Instr.loadAt, Instr.sureAddr, hrun], mk _ vs (by rw [ldc_len]; simp; omega) hvl fun j av hj => ?_⟩
        obtain ⟨b', hb', rfl⟩ := ldc_at y p q _ j av hj
        rw [List.getElem?_take] at hb'
        split at hb'
        · rename_i hjl
          rw [List.getElem?_drop] at hb'
          obtain ⟨t, ht1, ht2⟩ := hvs j hjl
          rw [getD_of ht2]
          rcases k3.cell _ b' t hb' ht1 with ⟨q1, q2⟩ | ⟨q1, q2⟩
          · rw [if_pos (by rw [q2]; exact tree_of_leaf q1)]
            exact (k4 _ t ht1).2 q1
          · have : b'.tree = false := by
              generalize t.val = vv at q2
              cases q2 with
              | fr _ _ hf => exact hf.not_tree
              | _ => rfl
            rw [this]; exact q2
        · cases hb'
      · exact hk.elim
    · exact hk.elim
theorem valV_indexAddr {t e : Nat} {i j : TI} {x ix : Operand} (ho : o.op = .indexAddr t x ix) (htt : TTok P TT) (ht : TT t = some i) (hi : i.kind = .slice e) (he : TT e = some j) (hsz : 0 < j.size)
    (hk : match ev σ x, ev σ ix with
      | .sl n l, .int _ q => n = j.size ∧ 0 ≤ q ∧ (match l[q.toNat]? with
        | some el => ((.fp el)) = av
        | none => False)
      | .ref y p c, .int _ q => (match cellAtB σ y p c with
        | .own n es => n = j.size ∧ 0 ≤ q ∧ q.toNat < es.length ∧ ((.lv y (p ++ [(c, q.toNat)]) 0)) = av
        | _ => False)
      | _, _ => False) : SndV P o σ av := by
  have hti := (htt t i ht).kind
  rw [hi] at hti
  have hti : P.underlying t = some (.slice e) := hti
  have hrun : ∀ (a : Act) (w : World) (ad : Addr) (len cap : Nat) (k : IntKind) (q : Int), a.eval x = .slice (some ad) len cap → a.eval ix = .int k q → 0 ≤ q → q.toNat < len →
      (execOp a.eval o).run P w = .ok (.value (.pointer (some (ad.add (q.toNat * j.size))))) w := by
    intro a w ad len cap k q h1 h2 h3 h4
    have h5 : q < (len : Int) := by omega
    simp [execOp, ho, Instr.indexAt, h1, h2, asIntOf_int, run_underlying hti, h3, h5, (htt e j he).run_size w]
  cases hx : ev σ x <;> rw [hx] at hk <;> try (exact hk.elim)
  · rename_i n l
    cases hy : ev σ ix <;> rw [hy] at hk <;> try (exact hk.elim)
    rename_i k q
    obtain ⟨rfl, hq, hk⟩ := hk
    split at hk
    · rename_i el hel
      refine sndV_val _ hk fun {A0 D0 w0 nt a w G} h => ?_
      have hb := h.ev x
      rw [hx] at hb
      have hb := hb.fr_of trivial
      have hc := h.ev ix
      rw [hy] at hc
      generalize hu : a.eval x = u at hb
      have hlt := (List.getElem?_eq_some_iff.1 hel).1
      cases hb with
      | slnil => simp at hlt
      | slmt => simp at hlt
      | sl _ _ b of cap h1 h2 h3 h4 h5 h6 =>
        refine ⟨_, hrun a w _ _ _ k q hu hc.int_inv hq hlt, .fr _ _ ?_⟩
        rw [Addr.add_lit]
        refine .fp _ _ _ (fun c av hav => ?_) (fun c av hav => ?_)
        · have := h5 _ el c av hel hav
          rwa [← Nat.add_assoc] at this
        · have := h6 _ el c av hel hav
          rwa [← Nat.add_assoc] at this
    · exact hk.elim
  · rename_i y p c
    cases hy : ev σ ix <;> rw [hy] at hk <;> try (exact hk.elim)
    rename_i k q
    simp only at hk
    split at hk
    · rename_i n es hc
      obtain ⟨rfl, hq, hlt, hk⟩ := hk
      refine sndV_val _ hk fun {A0 D0 w0 nt a w G} h => ?_
      have hb := h.ev x
      rw [hx] at hb
      have hcq := h.ev ix
      rw [hy] at hcq
      obtain ⟨b1, b2, b3⟩ := hb.ref_inv
      obtain ⟨r, row, g, grow, t', k1, k2, k3, k4, k5, k6, k7, k8, k9, k10, k11, k12⟩ := h.tree hc rfl
      obtain ⟨v, rows, rfl, rfl⟩ := er_own k8 k7
      have hv := k11 _ b3
      simp only [GT.val] at hv
      rcases k9.own_inv with ⟨rfl, e2⟩ | ⟨b, cap, vs, T, e1, e2, e3, e4, e5, e6, e7, e8, e9⟩
      · subst e2; simp at hlt
      · refine ⟨_, hrun a w ⟨b, 0, none⟩ rows.length cap k q (by rw [hv, e1]) hcq.int_inv hq (by simpa using hlt), .lv _ _ _ _ b1 fun r' b' o' hr' hp' => ?_⟩
        rw [Addr.add_lit]
        rw [k4] at hr'; cases hr'
        -- the base of the element's row
        have hbase : ∀ (p : List (Nat × Nat)) {base : Option (Nat × Nat)} {cells grow : List GT}, RowMem w (Own A0 G) base cells → gRow cells p = some grow → grow[c]? = some (GT.own j.size v rows) → gBase base cells (p ++ [(c, q.toNat)]) = some (b, q.toNat * j.size) := by
          intro p
          induction p with
          | nil =>
            intro base cells grow hm hg hgc
            cases hg
            obtain ⟨rr, hrr⟩ : ∃ rr, rows[q.toNat]? = some rr := ⟨_, List.getElem?_eq_getElem (by simpa using hlt)⟩
            simp only [List.nil_append, gBase, hgc, e1, hrr]
          | cons s p ih =>
            obtain ⟨c0, i0⟩ := s
            intro base cells grow hm hg hgc
            simp only [gRow] at hg
            split at hg
            · rename_i n0 v0 rows0 hc0
              split at hg
              · rename_i r0 hr0
                obtain ⟨b0, cap0, rfl, hin, _⟩ := hm.inner hc0 hr0
                simp only [List.cons_append, gBase, hc0, hr0]
                exact ih hin hg hgc
              · cases hg
            · cases hg
        have := hbase p (h.inv.row y g k4) k5 k6
        rw [this] at hp'
        cases hp'
        simp
    · exact hk.elim
def stillB : Op → Bool
  | .move _ | .assign _ | .nilCheck .. | .load .. | .fieldAddr .. | .indexAddr .. => true
  | _ => false
theorem rop_val (htt : TTok P TT) {v : AV} {r : Option Root} (hs : stillB o.op = true) (h : rop TT σ o.op = some (v, r)) : SndV P o σ v := by
  cases ho : o.op <;> rw [ho] at h hs <;> simp only [rop] at h <;> simp only [stillB, Bool.false_eq_true] at hs
  case move x => cases h; exact valV_move (.inl ho) rfl
  case assign x => cases h; exact valV_move (.inr ho) rfl
  case fieldAddr s x f =>
    unfold rFieldAddr at h
    split at h
    · rename_i i hi
      split at h
      · rename_i fs hk
        split at h
        · rename_i T off hf
          split at h
          · rename_i j hj
            split at h
            · rename_i hs
              refine valV_fieldAddr ho htt hi hk hf hj hs ?_
              split at h
              · rename_i y p q hx; cases h; rw [hx]; try rfl
              · rename_i l hx; cases h; rw [hx]; try rfl
              · cases h
            · cases h
          · cases h
        · cases h
      · cases h
    · cases h
  case indexAddr t x ix =>
    unfold rIndexAddr at h
    split at h
    · rename_i i hi
      split at h
      · rename_i e hk
        split at h
        · rename_i j hj
          split at h
          · rename_i hs
            refine valV_indexAddr ho htt hi hk hj hs ?_
            split at h
            · rename_i n l hx
              split at h
              · rename_i k q hy
                split at h
                · rename_i hc
                  split at h
                  · rename_i el hel; cases h; rw [hx, hy]; simp only [hel]; exact ⟨hc.1, hc.2, by trivial⟩
                  · cases h
                · cases h
              · cases h
            · rename_i y p c hx
              split at h
              · rename_i k q hy
                split at h
                · rename_i n es hcc
                  split at h
                  · rename_i hc; cases h; rw [hx, hy]; simp only [hcc]; exact ⟨hc.1, hc.2.1, hc.2.2, by trivial⟩
                  · cases h
                · cases h
              · cases h
            · cases h
          · cases h
        · cases h
      · cases h
    · cases h
  case load t x =>
    unfold rLoad at h
    split at h
    · rename_i i hi
      split at h
      · rename_i hok
        refine valV_load ho htt hi (tiOK_spec hok) ?_
        split at h
        · rename_i y p q hx
          split at h
          · rename_i r' hr
            split at h
            · rename_i hb
              split at h
              · rename_i row hrow
                split at h
                · rename_i hl
                  cases h
                  rw [hx]; simp only [hr, hrow]
                  exact ⟨fun hp => hb.resolve_left (fun h => h hp), hl, by trivial⟩
                · cases h
              · cases h
            · cases h
          · cases h
        · rename_i l hx
          split at h
          · rename_i hl; cases h; rw [hx]; exact ⟨hl, by trivial⟩
          · cases h
        · cases h
      · cases h
    · cases h
  case nilCheck x =>
    split at h
    · rename_i y p q hx; cases h; exact valV_nilCheck ho (by rw [hx]; trivial) (by rw [hx]; try rfl)
    · rename_i l hx; cases h; exact valV_nilCheck ho (by rw [hx]; trivial) (by rw [hx]; try rfl)
    · rename_i g a b hx; cases h; exact valV_nilCheck ho (by rw [hx]; trivial) (by rw [hx]; try rfl)
    · cases h
end
section
variable {P : Program} {TT : TTab} {all : Array Oper} {σ τ : St}
def StillS (P : Program) (all : Array Oper) (os : List Oper) (σ τ : St) : Prop :=
  ∀ (A0 D0 : Nat → Prop) (w0 : World) (nt : Nat) (a : Act) (w : World) (G : Nat → Option GR) (Q : Act → Prop), okDst nt os = true → Holds A0 D0 w0 nt σ a w G →
    (∀ a', Holds A0 D0 w0 nt τ a' w G → Q a') → wpStill P all w Q os a
theorem StillS.nil : StillS P all [] σ σ := fun _ _ _ _ _ _ _ _ _ h hq => hq _ h
theorem StillS.step {o : Oper} {os : List Oper} {av : AV} (hw : wantd all σ o = some true) (hv : SndV P o σ av) (h : StillS P all os (σ.put o.dst av) τ) : StillS P all (o :: os) σ τ := by
  intro A0 D0 w0 nt a w G Q hd hh hq
  obtain ⟨hd1, hd2⟩ := okDst_cons hd
  obtain ⟨v, h1, h2⟩ := hv.run hh
  show (if Region.wanted o (yielded all a.tmps) then o.still P a w (wpStill P all w Q os) else wpStill P all w Q os (a.put o.dst undef))
  rw [if_pos (wantd_spec hh hw)]
  unfold Oper.still
  rw [h1, Oper.stillUpon_value]
  exact h A0 D0 w0 nt _ w G Q hd2 (hh.put h2 hd1) hq
def runV (TT : TTab) (all : Array Oper) : List Oper → St → Option St
  | [], σ => some σ
  | o :: os, σ => if stillB o.op = true then (match wantd all σ o with
    | some true => match rop TT σ o.op with
      | some (v, _) => runV TT all os (σ.put o.dst v)
      | none => none
    | _ => none) else none
theorem StillS.run (htt : TTok P TT) : ∀ {os : List Oper} {σ : St}, runV TT all os σ = some τ → StillS P all os σ τ
  | [], σ, h => by cases h; exact StillS.nil
  | o :: os, σ, h => by
    simp only [runV] at h
    split at h
    · rename_i hs
      split at h
      · rename_i hw
        split at h
        · rename_i v r hv
          exact StillS.step hw (rop_val htt hs hv) (StillS.run htt h)
        · cases h
      · cases h
    · cases h
theorem wpList_of_still {w : World} {Q : Act → Prop} {Q' : Exit → Act → World → Prop} (hQ : ∀ a, Q a → Q' .normal a w) : ∀ {os : List Oper} {a : Act}, wpStill P all w Q os a → wpList P all Q' os a w
  | [], a, h => hQ a h
  | o :: os, a, h => by
    rw [wpList_cons]
    change (if Region.wanted o (yielded all a.tmps) then o.still P a w (wpStill P all w Q os) else wpStill P all w Q os (a.put o.dst undef)) at h
    split
    · rename_i hw
      rw [if_pos hw] at h
      exact .inl (Oper.wp_of_still (fun a' h' => wpList_of_still hQ h') h)
    · rename_i hw
      rw [if_neg hw] at h
      exact wpList_of_still hQ h
def RCall (P : Program) (f : FuncId) (args : List AV) (n : Nat) (s : List (Nat × Root)) (r : AV) : Prop :=
  Callable P f ∧ ∀ (w : World) (A : Nat → Prop) (G : Nat → Option GR) (vs : List Value), (∀ b, A b → b < w.heap.size) → Inv A w n s G → vs.length = args.length → (∀ (i : Nat) (a : AV), args[i]? = some a → Rel w (Own A G) G n a (vs.getD i undef)) →
    Calls P f vs.toArray w (fun e w' => ∃ v, e = .returned v ∧ w' = w.drew ∧ Rel w (Own A G) G n r v)
theorem RCall.intro (htt : TTok P TT) (hm : P.follows .mixedOrders = true) {f : FuncId} {fn : Func} {i0 i1 : Nat} {ops0 ops1 : Array Oper} {args : List AV} {n : Nat} {s : List (Nat × Root)} {σ1 τ : St} {r : AV} (hf : P.funcs[f]? = some fn) (hn : (fn.name == "runtime.NumGoroutine") = false)
    (hb : fn.body = some (.seq (.region i0 ops0 false) (.seq (.region i1 ops1 true) .ret))) (hl : args.length ≤ fn.ntmps) (hB : Region.lexB .any ops1 = true) (hd0 : okDst fn.ntmps ops0.toList = true) (hd1 : okDst fn.ntmps ops1.toList = true)
    (h0 : StillS P ops0 ops0.toList { n := n, t := tmps0 0 args, s := s } σ1) (h1 : StillS P ops1 ops1.toList σ1 τ) (ht : τ.n = n) (hr : ∃ l, resL TT τ fn.results.toList = some l ∧ one l = r) : RCall P f args n s r := by
  refine ⟨⟨fn, hf, hn, by rw [hb]; rfl⟩, fun w A G vs hA hinv hvl hrel => ?_⟩
  refine calls_of_wp hf hb ?_
  have hsz : (vs.toArray ++ Array.replicate (fn.ntmps - vs.toArray.size) undef).size = fn.ntmps := by simp; omega
  have hval : ∀ i, i < args.length → (vs.toArray ++ Array.replicate (fn.ntmps - vs.toArray.size) undef).getD i undef = vs.getD i undef := fun i hi => by
    rw [Array.getD_eq_getD_getElem?, List.getD_eq_getElem?_getD, Array.getElem?_append_left (by simp; omega), List.getElem?_toArray]
  have hH : Holds A (GFp G) w fn.ntmps { n := n, t := tmps0 0 args, s := s } { tmps := vs.toArray ++ Array.replicate (fn.ntmps - vs.toArray.size) undef, defers := [] } w G := by
    refine ⟨hinv, hsz, rfl, fun i hi => ?_, fun i hi => ?_, ⟨rfl, rfl, rfl, Nat.le_refl _, fun _ _ _ => rfl⟩, fun b hb => .inl hb, hA⟩
    · rw [tmps0_get, if_pos (Nat.zero_le i), Nat.sub_zero]
      by_cases hlt : i < args.length
      · have h1 : args[i]? = some args[i] := List.getElem?_eq_getElem hlt
        rw [getD_of h1]
        show Rel w (Own A G) G n args[i] ((vs.toArray ++ Array.replicate (fn.ntmps - vs.toArray.size) undef).getD i undef)
        rw [hval i hlt]
        exact hrel i _ h1
      · have : args.getD i .undef = .undef := by simp [List.getElem?_eq_none (Nat.le_of_not_lt hlt)]
        rw [this]
        exact .fr _ _ (.undef _)
    · rw [tmps0_get, if_pos (Nat.zero_le i), Nat.sub_zero]
      simp [List.getElem?_eq_none (show args.length ≤ i by omega)]
  refine wp_seq (wp_region ?_)
  rw [List.range_eq_range', show ops0.size = ops0.toList.length by simp, wpOps_eq_wpList ops0.toList 0 (fun j => by simp)]
  refine wpList_of_still (Q := fun a' => Holds A (GFp G) w fn.ntmps σ1 a' w G) (fun a1 hh1 => ?_) (h0 A (GFp G) w fn.ntmps _ w G _ hd0 hH fun a' h' => h')
  refine wp_seq (wp_region_still hm hB ?_)
  refine h1 A (GFp G) w fn.ntmps a1 w.drew G _ hd1 hh1.drew fun a2 hh2 => ?_
  refine wp_ret ?_
  obtain ⟨l, hl, rfl⟩ := hr
  obtain ⟨v, k1, k2⟩ := hh2.results htt hl
  refine ⟨hh2.defers, v, k1, v, rfl, rfl, ?_⟩
  rw [ht] at k2
  exact Rel.keep (w := w.drew) (w' := w) (Nat.le_refl _) (fun _ _ _ => rfl) (fun _ _ h => h) (fun _ _ _ _ _ h => h) (fun _ _ _ _ _ h => h) k2
end
end Go.Ab
namespace Go.Ab
open Go Go.RowKit
section
variable {A0 D0 : Nat → Prop} {w0 : World} {nt : Nat} {σ : St} {a : Act} {w : World} {G : Nat → Option GR}
end
theorem GCall.mono {P : Program} {up : Bool} {f : FuncId} {args : List AV} {n : Nat} {s : List (Nat × Root)} {Post Post' : AV → St → Prop} (h : GCall P up f args n s Post) (hp : ∀ r σ', Post r σ' → Post' r σ') : GCall P up f args n s Post' := by
  refine ⟨h.1, fun w A G vs hA hinv hvl hrel => (h.2 w A G vs hA hinv hvl hrel).mono fun e w' he => ?_⟩
  cases e with
  | returned v =>
    obtain ⟨σ', G', r, k1, k⟩ := he
    exact ⟨σ', G', r, hp r σ' k1, k⟩
  | panicked c => exact he
  | outgrown => exact he
section
variable {P : Program} {TT : TTab} {up : Bool} {all : Array Oper} {σ0 : St} {K : List (Nat × AV) → Option Root → Prop}
end
end Go.Ab
namespace Go.Ab
open Go Go.RowKit
def nthO : List Oper → Nat → Oper
  | [], _ => default
  | o :: _, 0 => o
  | _ :: os, n + 1 => nthO os n
theorem nthO_zero (o : Oper) (os : List Oper) : nthO (o :: os) 0 = o := rfl
theorem nthO_succ (o : Oper) (os : List Oper) (n : Nat) : nthO (o :: os) (n + 1) = nthO os n := rfl
theorem nthO_get : ∀ {os : List Oper} {i : Nat} {o : Oper}, os[i]? = some o → nthO os i = o
  | [], i, o, h => by simp at h
  | _ :: _, 0, o, h => by simp at h; exact h
  | _ :: os, i + 1, o, h => nthO_get (os := os) (by simpa using h)
section
variable {P : Program} {ops : Array Oper} {Q : Exit → Act → World → Prop}
end
section
variable {P : Program} {TT : TTab} {up : Bool} {np nt : Nat} {σ : St} {Q : Exit → St → Prop}
end
section
variable {P : Program} {TT : TTab} {up : Bool} {all : Array Oper} {D : List Nat} {fl : List Oper} {K : St → Prop}
theorem stepF_all (htt : TTok P TT) {D' : List Nat} {o : Oper} {n n2 : Nat} {t t2 : List (Nat × AV)} {s s2 : List (Nat × Root)} (hg : o.guard = none) (hDD : ∀ x ∈ D', x ∈ D) (hD : ∀ x ∈ D, x ∈ D' ∨ x ∈ o.looksAt all) (h1 : ∀ x ∈ D, getT t2 x = getT t x)
    (he : ∀ u : Nat → AV, ∃ e, eop TT ⟨n, ovr D' u t, s⟩ o.dst o.op = some e ∧ e.ob ∧ (fin o.dst e).n = n2 ∧ (∀ x, getT (fin o.dst e).t x = if x ∈ D' then u x else getT t2 x) ∧ (fin o.dst e).s = s2) : StepF P up all D o ⟨n, t, s⟩ ⟨n2, t2, s2⟩ := by
  refine ⟨h1, fun τ hl hlk => ⟨by unfold wantd; rw [hg], ?_⟩⟩
  intro A0 D0 w0 nt a w G Q hd hu hh
  left
  have hτ : ∀ x, x ∉ D' → getT τ.t x = getT t x := fun x hx => by
    by_cases hxD : x ∈ D
    · exact hlk x ((hD x hxD).resolve_left hx)
    · exact hl.2.2 x hxD
  obtain ⟨e, e1, e2, e3, e4, e5⟩ := he (getT τ.t)
  refine Oper.wp_mono (fun a w ⟨σ', G', k1, k2⟩ => ⟨σ', G', k1, ?_⟩) (eop_sound htt e1 e2 A0 D0 w0 nt a w G Q hd (hh.ext (σ' := ⟨n, ovr D' (getT τ.t) t, s⟩) hl.1.symm (fun x => ?_) (fun y => (hl.2.1 y).symm)))
  · show getT (ovr D' (getT τ.t) t) x = _
    rw [ovr_get]
    split
    · rfl
    · rename_i hx; exact (hτ x hx).symm
  · subst k2
    refine ⟨⟨e3, fun y => by rw [e5], fun x hx => ?_⟩, fun x hx => ?_⟩
    · rw [e4, if_neg (fun h => hx (hDD x h))]
    · rw [e4]
      split
      · rfl
      · rename_i hx'
        rw [h1 x hx, hτ x hx']
theorem Mid.eop (htt : TTok P TT) (D' : List Nat) {ty : TypeId} {pos : String} {af : Array Edge} {op : Op} {os : List Oper} {n n2 q : Nat} {t : List (Nat × AV)} {s s2 : List (Nat × Root)} {v : AV} {ob : Prop} (hf : Flo P up all fl ⟨n, t, s⟩) (hq : q ∉ D) (hob : ob)
    (hD : (D.all fun x => memB x D' || memB x ((⟨some q, op, ty, pos, af, none⟩ : Oper).looksAt all)) = true) (hD2 : (D'.all fun x => memB x D) = true)
    (he : ∀ u : Nat → AV, Go.Ab.eop TT ⟨n, ovr D' u t, s⟩ (some q) op = some ⟨⟨n2, ovr D' u t, s2⟩, v, ob⟩) (hk : Mid P up all D fl os ⟨n2, (q, v) :: t, s2⟩ K) : Mid P up all D fl (⟨some q, op, ty, pos, af, none⟩ :: os) ⟨n, t, s⟩ K := by
  have hDD : ∀ x ∈ D', x ∈ D := fun x hx => memB_iff.1 (List.all_eq_true.1 hD2 x hx)
  refine ⟨hf, _, stepF_all htt rfl hDD (fun x hx => ?_) (fun x hx => ?_) (fun u => ⟨_, he u, hob, rfl, fun x => ?_, rfl⟩), hk⟩
  · have := List.all_eq_true.1 hD x hx
    simp only [Bool.or_eq_true] at this
    exact this.imp memB_iff.1 memB_iff.1
  · simp only [getT]
    rw [if_neg (fun (e : q = x) => hq (e ▸ hx))]
  · simp only [fin, St.put, getT, ovr_get]
    by_cases hx : q = x
    · subst hx
      have : ¬ q ∈ D' := fun h => hq (hDD q h)
      simp [this]
    · simp [hx]
end
section
variable {P : Program} {TT : TTab} {up : Bool} {o : Oper} {σ : St} {K : St → Prop}
end
section
variable {P : Program} {TT : TTab} {up : Bool} {all : Array Oper} {σ0 : St} {K : List (Nat × AV) → Option Root → Prop}
end
section
variable {P : Program} {TT : TTab} {up : Bool} {all : Array Oper} {σ : St} {fl : List Oper}
theorem Flo.st {o : Oper} {d : Nat} (hd : o.dst = some d) (h0 : Stab P up all o σ.t σ (getT σ.t d) none) (h : Flo P up all fl σ) : Flo P up all (o :: fl) σ := by
  intro o' ho' d' hd'
  rcases List.mem_cons.1 ho' with rfl | ho'
  · rw [hd] at hd'; cases hd'
    exact h0
  · exact h o' ho' d' hd'
end
end Go.Ab
namespace Go.Ab
open Go Go.RowKit
def allOrd (os : List Oper) : Nat → List Nat → List (List Nat)
  | 0, _ => [[]]
  | n + 1, L => (List.range os.length).flatMap fun i => if (!memB i L && (bnd (nthO os i)).all fun j => memB j L) = true then (allOrd os n (i :: L)).map (i :: ·) else []
section
variable {P : Program} {ops : Array Oper} {Q : Exit → Act → World → Prop}
theorem lin_mem (hdown : edgesDown 0 ops.toList = true) : ∀ (fuel t : Nat) (listed : Array Bool) (L : List Nat), listed.size = ops.size → unl ops.size listed = fuel → Closed ops listed → (∀ i, i < ops.size → (listed.getD i false = true ↔ i ∈ L)) →
    Region.linearise.go .any ops fuel t listed [] ∈ allOrd ops.toList fuel L
  | 0, t, listed, L, _, _, _, _ => by simp [Region.linearise.go, allOrd]
  | fuel + 1, t, listed, L, hs, hu, hc, hL => by
    simp only [Region.linearise.go]
    change (match (Region.ready .any ops listed)[t % (Region.ready .any ops listed).length]? with
      | some i => Region.linearise.go .any ops fuel (t / (Region.ready .any ops listed).length) (listed.setIfInBounds i true) [i]
      | none => [].reverse) ∈ allOrd ops.toList (fuel + 1) L
    have hne : ∃ i, i ∈ Region.ready .any ops listed := by
      have h1 : ∃ i, i < ops.size ∧ ¬ listed.getD i false = true := Classical.byContradiction fun h => by
        have : unl ops.size listed = 0 := by
          unfold unl
          rw [List.length_eq_zero_iff, List.filter_eq_nil_iff]
          intro i hi
          have hi := List.mem_range.1 hi
          rw [getD_tf (by rw [hs]; exact hi)]
          have : listed.getD i false = true := Classical.byContradiction fun h2 => h ⟨i, hi, h2⟩
          simp [this]
        omega
      obtain ⟨i0, h01, h02, h03⟩ := least_not (n := ops.size) (p := fun i => listed.getD i false = true) h1
      refine ⟨i0, ready_spec.2 ⟨by rw [getD_tf (by rw [hs]; exact h01)]; simpa using h02, ops[i0], Array.getElem?_eq_getElem h01, fun j hj => h03 j ?_⟩⟩
      have := edgesDown_spec hdown i0 ops[i0] (by rw [Array.getElem?_toList]; exact Array.getElem?_eq_getElem h01) j hj
      omega
    cases hi : (Region.ready .any ops listed)[t % (Region.ready .any ops listed).length]? with
    | none =>
      exfalso
      obtain ⟨i, h⟩ := hne
      have hlt : t % (Region.ready .any ops listed).length < (Region.ready .any ops listed).length := Nat.mod_lt _ (by cases hr : Region.ready .any ops listed with | nil => rw [hr] at h; cases h | cons => simp)
      rw [List.getElem?_eq_getElem hlt] at hi; cases hi
    | some i =>
      simp only
      rw [linearise_go_acc, List.reverse_singleton, List.singleton_append]
      have hrd := List.mem_of_getElem? hi
      obtain ⟨h1, o, h2, h3⟩ := ready_spec.1 hrd
      have hil := (Array.getElem?_eq_some_iff.1 h2).1
      have hun : ¬ listed.getD i false = true := by rw [← getD_tf (by rw [hs]; exact hil), h1]; simp
      have ih := lin_mem hdown fuel (t / (Region.ready .any ops listed).length) (listed.setIfInBounds i true) (i :: L) (by simpa using hs) (by have := unl_set hil hs h1; omega) (closed_set hc hrd) fun x hx => by
        by_cases hxi : i = x
        · subst hxi
          rw [Array.getD_eq_getD_getElem?, Array.getElem?_setIfInBounds_self_of_lt (by rw [hs]; exact hil)]
          simp
        · rw [getD_set_ne false hxi, hL x hx]
          simp [Ne.symm hxi]
      simp only [allOrd, List.mem_flatMap, List.mem_range]
      refine ⟨i, by simpa using hil, ?_⟩
      rw [if_pos]
      · exact List.mem_map_of_mem ih
      · have e : nthO ops.toList i = o := nthO_get (by rw [Array.getElem?_toList]; exact h2)
        rw [e, Bool.and_eq_true]
        constructor
        · cases hm : memB i L with
          | false => rfl
          | true => exact absurd ((hL i hil).2 (memB_iff.1 hm)) hun
        · rw [List.all_eq_true]
          intro j hj
          have hjl := edgesDown_spec hdown i o (by rw [Array.getElem?_toList]; exact h2) j hj
          exact memB_iff.2 ((hL j (by omega)).1 (h3 j hj))
theorem wpOps_list : ∀ {is : List Nat}, (∀ i ∈ is, i < ops.size) → ∀ {a : Act} {w : World}, wpList P ops Q (is.map (nthO ops.toList)) a w → wpOps P ops Q is a w
  | [], _, a, w, h => h
  | i :: is, hi, a, w, h => by
    have hil := hi i List.mem_cons_self
    have ho : ops[i]? = some (nthO ops.toList i) := by
      rw [Array.getElem?_eq_getElem hil]
      rw [nthO_get (o := ops[i]) (by rw [Array.getElem?_toList]; exact Array.getElem?_eq_getElem hil)]
    rw [List.map_cons, wpList_cons] at h
    simp only [wpOps, ho]
    split
    · rename_i hw; rw [if_pos hw] at h
      exact h.imp (Oper.wp_mono fun a w => wpOps_list fun x hx => hi x (List.mem_cons_of_mem _ hx)) id
    · rename_i hw; rw [if_neg hw] at h
      exact wpOps_list (fun x hx => hi x (List.mem_cons_of_mem _ hx)) h
theorem allOrd_lt {os : List Oper} : ∀ {n : Nat} {L is : List Nat}, is ∈ allOrd os n L → ∀ i ∈ is, i < os.length
  | 0, L, is, h, i, hi => by simp [allOrd] at h; subst h; cases hi
  | n + 1, L, is, h, i, hi => by
    simp only [allOrd, List.mem_flatMap, List.mem_range] at h
    obtain ⟨x, hx, h⟩ := h
    split at h
    · obtain ⟨js, hj, rfl⟩ := List.mem_map.1 h
      rcases List.mem_cons.1 hi with rfl | hi
      · exact hx
      · exact allOrd_lt hj i hi
    · cases h
end
section
variable {P : Program} {up : Bool} {np nt : Nat} {σ : St} {Q : Exit → St → Prop}
theorem keepDst_of {np : Nat} : ∀ {os : List Oper}, (∀ o ∈ os, ∀ d, o.dst = some d → np ≤ d) → keepDst np os = true
  | [], _ => rfl
  | o :: os, h => by
    have h1 := h o List.mem_cons_self
    have h2 := keepDst_of (np := np) (os := os) fun x hx => h x (List.mem_cons_of_mem _ hx)
    unfold keepDst
    cases hd : o.dst with
    | none => simp [h2]
    | some d => simp [h2, h1 d hd]
theorem okDst_of {nt : Nat} : ∀ {os : List Oper}, (∀ o ∈ os, ∀ d, o.dst = some d → d < nt) → okDst nt os = true
  | [], _ => rfl
  | o :: os, h => by
    have h1 := h o List.mem_cons_self
    have h2 := okDst_of (nt := nt) (os := os) fun x hx => h x (List.mem_cons_of_mem _ hx)
    unfold okDst
    cases hd : o.dst with
    | none => simp [h2]
    | some d => simp [h2, h1 d hd]
theorem CW.orders (hm : P.follows .mixedOrders = true) {id : Nat} {ops : Array Oper} (hdown : edgesDown 0 ops.toList = true) (hd : okDst nt ops.toList = true) (hk : keepDst np ops.toList = true)
    {l : List (List Nat)} (hl : allOrd ops.toList ops.size [] = l) (h : ∀ is ∈ l, CWops P up nt ops (is.map (nthO ops.toList)) σ (Q .normal)) : CW P up np nt (.region id ops true) σ Q := by
  subst hl
  intro A0 D0 w0 a w G R hu hh hr
  let Q1 : Exit → Act → World → Prop := fun e a' w' => match e with
    | .normal => ∃ σ' G', Holds A0 D0 w0 nt σ' a' w' G' ∧ Q .normal σ'
    | e => R e a' w'
  suffices hs : (Code.region id ops true).wp P (KeepQ np a Q1) a w by
    refine wp_mono hs fun e a' w' he => ?_
    cases e with
    | normal => obtain ⟨⟨σ', G', g1, g2⟩, g3⟩ := he; exact hr _ a' w' σ' G' g1 (g3 rfl) g2
    | _ => exact he.1
  refine wp_region_draw fun t => ?_
  simp only [Region.schedule, hm, Bool.true_or, if_true]
  have hmem : Region.linearise .any ops t ∈ allOrd ops.toList ops.size [] := by
    refine lin_mem hdown ops.size t _ [] (by simp) ?_ (fun i o _ hi => ?_) (fun i hi => ?_)
    · unfold unl
      have : ((List.range ops.size).filter fun i => !(Array.replicate ops.size false).getD i true) = List.range ops.size := by
        rw [List.filter_eq_self]
        intro i hi
        have hi := List.mem_range.1 hi
        rw [Array.getD_eq_getD_getElem?, Array.getElem?_replicate, if_pos hi]
        rfl
      rw [this, List.length_range]
    · exfalso
      rw [Array.getD_eq_getD_getElem?, Array.getElem?_replicate] at hi
      split at hi <;> simp at hi
    · rw [Array.getD_eq_getD_getElem?, Array.getElem?_replicate]
      split <;> simp
  have hlt : ∀ i ∈ Region.linearise .any ops t, i < ops.size := fun i hi => by simpa using allOrd_lt hmem i hi
  refine wpOps_list hlt ?_
  have hall : ∀ o ∈ (Region.linearise .any ops t).map (nthO ops.toList), o ∈ ops.toList := fun o ho => by
    obtain ⟨i, hi, rfl⟩ := List.mem_map.1 ho
    have hil := hlt i hi
    rw [nthO_get (o := ops[i]) (by rw [Array.getElem?_toList]; exact Array.getElem?_eq_getElem hil)]
    exact Array.getElem_mem_toList hil
  have hd' : okDst nt ((Region.linearise .any ops t).map (nthO ops.toList)) = true := okDst_of fun o ho d hdd => by
    obtain ⟨i, hi⟩ := List.getElem?_of_mem (hall o ho)
    exact dst_lt hd i o (by rw [← Array.getElem?_toList]; exact hi) d hdd
  have hk' : keepDst np ((Region.linearise .any ops t).map (nthO ops.toList)) = true := keepDst_of fun o ho d hdd => keepDst_mem hk o (hall o ho) d hdd
  exact wpList_keep (a0 := a) hk' (Kept.refl np a) (h _ hmem hd' A0 D0 w0 a _ G Q1 (fun hu' => let ⟨a, w, h⟩ := hu hu'; ⟨a, w, h⟩) hh.drew fun a' w' σ' G' h1 h2 => ⟨σ', G', h1, h2⟩)
end
end Go.Ab
namespace Go.Ab
open Go Go.RowKit
section
variable {P : Program} {TT : TTab} {up : Bool} {o : Oper} {σ : St} {K : St → Prop}
theorem snd_makeSlice {t e : Nat} {x y : Operand} {i j : TI} {n : Nat} (ho : o.op = .makeSlice t x y) (htt : TTok P TT) (ht : TT t = some i) (hi : i.kind = .slice e) (he : TT e = some j) (hsz : 0 < j.size) (hzl : j.zero.length = j.size)
    (hx : ev σ x = .int .i64 (n : Int)) (hy : ev σ y = .int .i64 (n : Int)) (hnM : n ≤ MX) (hb : j.bytes * n ≤ MX)
    (hk : K (St.put { n := σ.n + 1, t := σ.t, s := (σ.n, ⟨false, [.own j.size (List.replicate n j.zero)]⟩) :: σ.s } o.dst (.ref σ.n [] 0))) : Snd P o σ K := by
  intro A0 D0 w0 nt a w G Q hd h
  have hkd := (htt t i ht).kind
  rw [hi] at hkd
  have hkd : P.underlying t = some (.slice e) := hkd
  obtain ⟨inf, zz, i1, i2, i3, i4, i5, _, _⟩ := (htt e j he).info
  obtain ⟨z, z1, z2, z3, z4⟩ := (htt e j he).run_zero w
  have hz0 := zeros_ok (w := w) (A := Own A0 G) z2 n
  rw [hzl] at hz0
  have hC' : ((Array.range (n * j.size)).map fun i => z.cells[i % z.cells.size]!).size = n * j.size := by simp
  obtain ⟨gs, g1, g2, g3, g4, g5⟩ := rows_tree (w := w) (T := e) (cap := n) (C' := (Array.range (n * j.size)).map fun i => z.cells[i % z.cells.size]!) (by simpa using hz0) (by rw [hC']) (fun q _ => rfl) (by simp) (by unfold maxLen; unfold MX at hnM; omega) (by simp; exact hnM)
  obtain ⟨G', k1, k2⟩ := h.newDet (.own j.size (.slice (some ⟨w.heap.size, 0, none⟩) (List.replicate n j.zero).length n) gs) (w' := w.alloc (.cells ((Array.range (n * j.size)).map fun i => z.cells[i % z.cells.size]!) e)) (fun b hb => Below.heap_alloc w _ b hb) ⟨rfl, rfl, rfl, by simp⟩ rfl g3 (fun k hk => by rw [g4 k hk]; omega) g5
  simp only [GT.er, g1] at k1
  refine wp_value (v := .slice (some ⟨w.heap.size, 0, none⟩) n n) (w' := w.alloc (.cells ((Array.range (n * j.size)).map fun i => z.cells[i % z.cells.size]!) e)) ?_ ⟨_, G', k1.put (by simpa [GT.val] using k2) hd, hk⟩
  have hxv := h.ev x
  rw [hx] at hxv
  have hxv := hxv.int_inv
  have hyv := h.ev y
  rw [hy] at hyv
  have hyv := hyv.int_inv
  have hM : (MX : Int) = 140737488355328 := rfl
  have hw : IntKind.i64.wrap (n : Int) = (n : Int) := by
    simp only [IntKind.wrap, IntKind.bits, IntKind.signed]
    simp
    omega
  have hb2 : inf.bytes * n ≤ 140737488355328 := by rw [i3]; exact hb
  have hb3 : ¬ ((inf.bytes : Int) * (n : Int) > 2 ^ 48) := by
    have h9 : (inf.bytes : Int) * (n : Int) = ((inf.bytes * n : Nat) : Int) := (Int.natCast_mul _ _).symm
    rw [h9]
    generalize inf.bytes * n = m at hb2
    omega
  have hroom : ¬ (n * inf.bytes > roomBytes) := by
    rw [Nat.mul_comm]; unfold roomBytes; omega
  have hti : ∀ w, (typeInfo e).run P w = .ok inf w := fun w => run_typeInfo w i1
  have c1 : ¬ ((n : Int) < 0) := by omega
  have c2 : ¬ ((n : Int) > (n : Int)) := by omega
  by_cases hnz : n * j.size = 0
  · have hmap : ∀ (f g : Nat → Value), (Array.range (n * j.size)).map f = (Array.range (n * j.size)).map g := fun f g => by rw [hnz]; simp
    rw [hmap _ (fun x => (#[] : Array Value)[x % (#[] : Array Value).size]!)]
    simp only [execOp, ho, hxv, hyv, Instr.makeSlice, Sem.run_bind, run_underlying hkd, Result.andThen_ok, asInt, asIntOf_int, Sem.run_pure, hti, hw, c1, c2, hb3, decide_false, decide_true, Bool.or_false, Bool.false_or, Bool.false_eq_true, if_false, Int.toNat_natCast, askRoom, hroom, (htt e j he).run_size, newRow, run_newObj]
    rw [if_pos hnz]
    simp only [Sem.run_pure, Result.andThen_ok, newRow, Sem.run_bind, run_newObj]
    rfl
  · simp only [execOp, ho, hxv, hyv, Instr.makeSlice, Sem.run_bind, run_underlying hkd, Result.andThen_ok, asInt, asIntOf_int, Sem.run_pure, hti, hw, c1, c2, hb3, decide_false, decide_true, Bool.or_false, Bool.false_or, Bool.false_eq_true, if_false, Int.toNat_natCast, askRoom, hroom, (htt e j he).run_size, newRow, run_newObj, hnz, z1]
    rfl
theorem CWops.makeSlice {nt : Nat} {all : Array Oper} {os : List Oper} {d : Option Tmp} {ty : TypeId} {ps : String} {af : Array Edge} {gd : Option (Nat × Bool)} {t e : Nat} {x y : Operand} {i j : TI} {n : Nat} (htt : TTok P TT)
    (hw : wantd all σ ⟨d, .makeSlice t x y, ty, ps, af, gd⟩ = some true) (ht : TT t = some i) (hi : i.kind = .slice e) (he : TT e = some j) (hsz : 0 < j.size) (hzl : j.zero.length = j.size)
    (hx : ev σ x = .int .i64 (n : Int)) (hy : ev σ y = .int .i64 (n : Int)) (hnM : n ≤ MX) (hb : j.bytes * n ≤ MX)
    (hk : CWops P up nt all os (St.put { n := σ.n + 1, t := σ.t, s := (σ.n, ⟨false, [.own j.size (List.replicate n j.zero)]⟩) :: σ.s } d (.ref σ.n [] 0)) K) : CWops P up nt all (⟨d, .makeSlice t x y, ty, ps, af, gd⟩ :: os) σ K :=
  CWops.step hw (Snd.up (snd_makeSlice rfl htt ht hi he hsz hzl hx hy hnM hb hk))
end
end Go.Ab
namespace Go.Ab
open Go Go.RowKit
theorem allOrd_congr {os : List Oper} : ∀ (n : Nat) {L L' : List Nat}, (∀ x, x ∈ L ↔ x ∈ L') → allOrd os n L = allOrd os n L'
  | 0, _, _, _ => rfl
  | n + 1, L, L', h => by
    have hm : ∀ x, memB x L = memB x L' := fun x => by
      rw [Bool.eq_iff_iff, memB_iff, memB_iff]; exact h x
    have ih : ∀ i, allOrd os n (i :: L) = allOrd os n (i :: L') := fun i => allOrd_congr n (fun x => by simp [h x])
    simp only [allOrd, hm, ih]
theorem allOrd_split {os : List Oper} : ∀ (n : Nat) {m : Nat} {L is : List Nat}, is ∈ allOrd os (n + m) L → ∃ p q, is = p ++ q ∧ p ∈ allOrd os n L ∧ q ∈ allOrd os m (p.reverse ++ L)
  | 0, m, L, is, h => ⟨[], is, rfl, by simp [allOrd], by simpa using h⟩
  | n + 1, m, L, is, h => by
    rw [show n + 1 + m = (n + m) + 1 by omega] at h
    simp only [allOrd, List.mem_flatMap, List.mem_range] at h
    obtain ⟨i, hi, h⟩ := h
    split at h
    · rename_i hc
      obtain ⟨js, hj, rfl⟩ := List.mem_map.1 h
      obtain ⟨p, q, rfl, hp, hq⟩ := allOrd_split n hj
      refine ⟨i :: p, q, rfl, ?_, by simpa using hq⟩
      simp only [allOrd, List.mem_flatMap, List.mem_range]
      refine ⟨i, hi, ?_⟩
      rw [if_pos hc]; exact List.mem_map_of_mem hp
    · cases h
def eqL : List Nat → List Nat → Bool
  | [], [] => true
  | a :: l, b :: m => Nat.beq a b && eqL l m
  | _, _ => false
theorem eqL_spec : ∀ {l m : List Nat}, eqL l m = true → l = m
  | [], [], _ => rfl
  | [], _ :: _, h => by simp [eqL] at h
  | _ :: _, [], h => by simp [eqL] at h
  | a :: l, b :: m, h => by
    simp only [eqL, Bool.and_eq_true] at h
    rw [Nat.eq_of_beq_eq_true h.1, eqL_spec h.2]
def eqLL : List (List Nat) → List (List Nat) → Bool
  | [], [] => true
  | a :: l, b :: m => eqL a b && eqLL l m
  | _, _ => false
theorem eqLL_spec : ∀ {l m : List (List Nat)}, eqLL l m = true → l = m
  | [], [], _ => rfl
  | [], _ :: _, h => by simp [eqLL] at h
  | _ :: _, [], h => by simp [eqLL] at h
  | a :: l, b :: m, h => by
    simp only [eqLL, Bool.and_eq_true] at h
    rw [eqL_spec h.1, eqLL_spec h.2]
def waveOK (os : List Oper) : List (List (List Nat)) → List Nat → Nat → Bool
  | [], _, n => Nat.beq n 0
  | B :: Bs, L, n => match B with
    | [] => false
    | b :: _ => (Nat.ble b.length n && eqLL (allOrd os b.length L) B) && (B.all (fun p => p.all (fun x => memB x b) && b.all (fun x => memB x p)) && waveOK os Bs (b ++ L) (n - b.length))
section
variable {P : Program} {up : Bool} {np nt : Nat} {σ σ1 : St} {all : Array Oper} {K : St → Prop}
def Wave (P : Program) (up : Bool) (nt : Nat) (all : Array Oper) (os : List Oper) (K : St → Prop) : List (List (List Nat)) → St → Prop
  | [], σ => K σ
  | B :: Bs, σ => ∃ σ1, (∀ is ∈ B, CWops P up nt all (is.map (nthO os)) σ fun σ' => Sh σ' σ1) ∧ Wave P up nt all os K Bs σ1
theorem Wave.done {os : List Oper} (h : K σ) : Wave P up nt all os K [] σ := h
theorem Wave.cons {os : List Oper} {B : List (List Nat)} {Bs : List (List (List Nat))} (σ1 : St) (h : ∀ is ∈ B, CWops P up nt all (is.map (nthO os)) σ fun σ' => Sh σ' σ1) (h2 : Wave P up nt all os K Bs σ1) : Wave P up nt all os K (B :: Bs) σ := ⟨σ1, h, h2⟩
theorem wp_nq {o : Oper} {a : Act} {w : World} {K : Act → World → Prop} {Q Q' : Exit → Act → World → Prop} (hq : ∀ e a w, e ≠ .normal → Q e a w → Q' e a w) (h : o.wp P a w K Q) : o.wp P a w K Q' := by
  unfold Oper.wp at *
  generalize (execOp a.eval o).run P w = r at *
  cases r with
  | ok n w' =>
    cases n <;> simp only [Oper.upon] at h ⊢ <;> first
      | exact h
      | (refine Calls.mono h fun e w'' he => ?_
         cases e with
         | returned v => exact he
         | panicked c => exact hq _ _ _ (by simp) he
         | outgrown => exact let ⟨a, w, h⟩ := he; ⟨a, w, hq _ _ _ (by simp) h⟩)
  | halt x w' =>
    cases x <;> simp only [Oper.upon] at h ⊢ <;> first | exact h | exact hq _ _ _ (by simp) h
theorem wpList_app {Q : Exit → Act → World → Prop} {os2 : List Oper} : ∀ {os : List Oper} {a : Act} {w : World}, wpList P all (fun e a w => match e with | .normal => wpList P all Q os2 a w | e => Q e a w) os a w → wpList P all Q (os ++ os2) a w
  | [], _, _, h => h
  | o :: os, a, w, h => by
    rw [wpList_cons] at h
    rw [List.cons_append, wpList_cons]
    split
    · rename_i hw; rw [if_pos hw] at h
      rcases h with h | ⟨h1, h2⟩
      · refine .inl (wp_nq (fun e a w he hh => ?_) (Oper.wp_mono (fun a w hh => wpList_app hh) h))
        cases e <;> first | exact absurd rfl he | exact hh
      · exact .inr ⟨h1, let ⟨a, w, h⟩ := h2; ⟨a, w, h⟩⟩
    · rename_i hw; rw [if_neg hw] at h
      exact wpList_app h
theorem okDst_app {os2 : List Oper} : ∀ {os : List Oper}, okDst nt (os ++ os2) = true → okDst nt os = true ∧ okDst nt os2 = true
  | [], h => ⟨rfl, h⟩
  | o :: os, h => by
    rw [List.cons_append] at h
    have h' := h
    simp only [okDst, Bool.and_eq_true] at h' ⊢
    have := okDst_app h'.2
    exact ⟨⟨h'.1, this.1⟩, this.2⟩
theorem CWops.app {os1 os2 : List Oper} (h1 : CWops P up nt all os1 σ fun σ' => Sh σ' σ1) (h2 : CWops P up nt all os2 σ1 K) : CWops P up nt all (os1 ++ os2) σ K := by
  intro hd A0 D0 w0 a w G Q hu hh hq
  have hd2 := okDst_app hd
  refine wpList_app (h1 hd2.1 A0 D0 w0 a w G _ (fun hu' => let ⟨a, w, h⟩ := hu hu'; ⟨a, w, h⟩) hh fun a w σ' G' g1 g2 => ?_)
  obtain ⟨G2, g3⟩ := g2 A0 D0 w0 nt a w G' g1
  exact h2 hd2.2 A0 D0 w0 a w G2 Q hu g3 hq
theorem wave_ops {os : List Oper} : ∀ {W : List (List (List Nat))} {L : List Nat} {n : Nat} {σ : St} {is : List Nat}, waveOK os W L n = true → is ∈ allOrd os n L → Wave P up nt all os K W σ → CWops P up nt all (is.map (nthO os)) σ K
  | [], L, n, σ, is, h, hi, hw => by
    simp only [waveOK] at h
    have := Nat.eq_of_beq_eq_true h
    subst this
    simp [allOrd] at hi
    subst hi
    exact CWops.done hw
  | [] :: Bs, L, n, σ, is, h, hi, hw => by simp [waveOK] at h
  | (b :: B) :: Bs, L, n, σ, is, h, hi, hw => by
    simp only [waveOK, Bool.and_eq_true] at h
    obtain ⟨⟨h1, h2⟩, h3, h4⟩ := h
    have h1 := Nat.le_of_ble_eq_true h1
    have h2 := eqLL_spec h2
    obtain ⟨σ1, k1, k2⟩ := hw
    rw [show n = b.length + (n - b.length) by omega] at hi
    obtain ⟨p, q, rfl, hp, hq⟩ := allOrd_split _ hi
    rw [h2] at hp
    have h5 := List.all_eq_true.1 h3 p hp
    simp only [Bool.and_eq_true, List.all_eq_true] at h5
    rw [allOrd_congr (L' := b ++ L) _ (fun x => by
      simp only [List.mem_append, List.mem_reverse]
      constructor
      · rintro (h | h)
        · exact .inl (memB_iff.1 (h5.1 x h))
        · exact .inr h
      · rintro (h | h)
        · exact .inl (memB_iff.1 (h5.2 x h))
        · exact .inr h)] at hq
    rw [List.map_append]
    exact CWops.app (k1 p hp) (wave_ops h4 hq k2)
end
section
variable {P : Program} {up : Bool} {np nt : Nat} {σ : St} {Q : Exit → St → Prop}
theorem CW.waves (hm : P.follows .mixedOrders = true) {id : Nat} {ops : Array Oper} (hdown : edgesDown 0 ops.toList = true) (hd : okDst nt ops.toList = true) (hk : keepDst np ops.toList = true)
    (W : List (List (List Nat))) (hW : waveOK ops.toList W [] ops.size = true) (h : Wave P up nt ops ops.toList (Q .normal) W σ) : CW P up np nt (.region id ops true) σ Q :=
  CW.orders hm hdown hd hk rfl fun _ his => wave_ops hW his h
end
end Go.Ab
