/-
  What a machine's memory holds of plain values, and that each operation, block, loop and call of the model turns such a state as told. No condition but those of each theorem.
-/
import Derived.WalkKit
import Derived.Below
import Derived.Scope
import Derived.Orders
import Derived.Test.YtgmegmfbedgabaaFa
import Derived.Test.YtgmegmfbedgabaaFb
import Derived.Test.YtgmegmfbedgabaaFc
set_option linter.unusedVariables false
set_option linter.unusedSimpArgs false
namespace Go.Ab
open Go Go.RowKit
structure Ev where
  σ : St
  v : AV
  ob : Prop
def eLen (TT : TTab) (σ : St) (t : Nat) (x : AV) : Option Ev :=
  match TT t with
  | some i => match i.kind with
    | .slice _ => match x with
      | .nilsl => some ⟨σ, .int .i64 0, True⟩
      | .sl _ l => some ⟨σ, .int .i64 l.length, True⟩
      | .ref y p c => match cellAtB σ y p c with
        | .own _ es => some ⟨σ, .int .i64 es.length, True⟩
        | _ => none
      | _ => none
    | .str => match x with
      | .str s => some ⟨σ, .int .i64 s.size, True⟩
      | _ => none
    | .map _ _ => match mapOf σ x with
      | some es => some ⟨σ, .int .i64 es.length, True⟩
      | none => none
    | _ => none
  | none => none
def eApp (TT : TTab) (σ : St) (t : Nat) (s x : AV) : Option Ev :=
  match TT t with
  | some i => match i.kind with
    | .slice e => match TT e with
      | some j => if 0 < j.size ∧ j.zero.length = j.size then (match srcRows σ j.size x with
        | some rows => match s with
          | .nilsl => some ⟨{ n := σ.n + 1, t := σ.t, s := (σ.n, ⟨false, [.own j.size rows]⟩) :: σ.s }, .ref σ.n [] 0,
              (if isRef x = true then ∀ r ∈ rows, ∀ a ∈ r, a.tree = false else ∀ r ∈ rows, ∀ a ∈ r, a.cell = true) ∧ rows.length * j.bytes ≤ MX ∧ rows.length ≤ MX⟩
          | .ref y p c => match getS σ.s y with
            | some r => match rowOf r.cells p with
              | some row => match row[c]? with
                | some (.own n es) => if n = j.size then some ⟨{ n := σ.n + 1, t := σ.t, s := (σ.n, ⟨false, [.own j.size (es ++ rows)]⟩) :: (if r.box = false ∧ p = [] then delS σ.s y else updS σ.s y { r with cells := putAt r.cells p c .undef }) }, .ref σ.n [] 0,
                    (if isRef x = true then ∀ r ∈ rows, ∀ a ∈ r, a.tree = false else ∀ r ∈ rows, ∀ a ∈ r, a.cell = true) ∧ (es.length + rows.length) * j.bytes ≤ MX ∧ es.length + rows.length ≤ MX⟩ else none
                | _ => none
              | none => none
            | none => none
          | _ => none
        | none => none) else none
      | none => none
    | _ => none
  | none => none
def eSto (TT : TTab) (σ : St) (t : Nat) (x v : AV) : Option Ev :=
  match TT t with
  | some i => match x with
    | .lv y p q => match getS σ.s y with
      | some r => if p ≠ [] ∨ r.box = true then (match rowOf r.cells p with
        | some row => if v.cells.length = i.size ∧ q + i.size ≤ row.length ∧ allCell v.cells = true then (match stCells y p id σ q v.cells with
          | some σ' => some ⟨σ', .undef, True⟩
          | none => none) else none
        | none => none) else none
      | none => none
    | _ => none
  | none => none
def eUpd (TT : TTab) (σ : St) (t : Nat) (m k v : AV) : Option Ev :=
  match TT t with
  | some i => match i.kind with
    | .map kt _ => match TT kt with
      | some ik => match ik.kind with
        | .int .i64 => match m with
          | .ref y p c => match k with
            | .int .i64 q => if v.pure = true then (match getS σ.s y with
              | some r => match rowOf r.cells p with
                | some row => match row[c]? with
                  | some (.omap es) => some ⟨{ σ with s := updS σ.s y { r with cells := putAt r.cells p c (.omap (mapput es q v)) } }, .undef, es.length < MX⟩
                  | _ => none
                | none => none
              | none => none) else none
            | _ => none
          | _ => none
        | _ => none
      | none => none
    | _ => none
  | none => none
def eBox (σ : St) (x : AV) : Option Ev :=
  if allCell x.cells = true then (match stCells σ.n [] id { n := σ.n + 1, t := σ.t, s := (σ.n, ⟨true, x.cells.map fun _ => .undef⟩) :: σ.s } 0 x.cells with
    | some σ' => some ⟨σ', .lv σ.n [] 0, True⟩
    | none => none) else none
def addR (σ : St) : AV × Option Root → Ev
  | (v, none) => ⟨σ, v, True⟩
  | (v, some r) => ⟨{ n := σ.n + 1, t := σ.t, s := (σ.n, r) :: σ.s }, v, True⟩
def eCall (TT : TTab) (σ : St) (f : Callee) (args : List Operand) (ts : List Nat) : Option Ev :=
  match f with
  | .builtin .len => match args with
    | [x] => match ts with
      | [t] => eLen TT σ t (ev σ x)
      | _ => none
    | _ => none
  | .builtin .append => match args with
    | [s, x] => match ts with
      | [t, u] => if t = u then eApp TT σ t (ev σ s) (ev σ x) else none
      | _ => none
    | _ => none
  | _ => none
def eop (TT : TTab) (σ : St) (d : Option Tmp) (o : Op) : Option Ev :=
  match o with
  | .store t x v => if d.isNone = true then eSto TT σ t (ev σ x) (ev σ v) else none
  | .mapUpdate t m k v => if d.isNone = true then eUpd TT σ t (ev σ m) (ev σ k) (ev σ v) else none
  | .insert t m k v => if d.isNone = true then eUpd TT σ t (ev σ m) (ev σ k) (ev σ v) else none
  | .box _ x => eBox σ (ev σ x)
  | .call c => eCall TT σ c.callee c.args.toList c.argTypes.toList
  | o => (rop TT σ o).map (addR σ)
def fin (d : Option Tmp) (e : Ev) : St := e.σ.put d e.v
def SndU (P : Program) (up : Bool) (o : Oper) (σ : St) (K : St → Prop) : Prop :=
  ∀ (A0 D0 : Nat → Prop) (w0 : World) (nt : Nat) (a : Act) (w : World) (G : Nat → Option GR) (Q : Exit → Act → World → Prop), (∀ d, o.dst = some d → d < nt) → (up = true → LetsOut Q) → Holds A0 D0 w0 nt σ a w G →
    o.wp P a w (Goes A0 D0 w0 nt K) Q ∨ (o.asks P a w ∧ LetsOut Q)
theorem Snd.up {P : Program} {up : Bool} {o : Oper} {σ : St} {K : St → Prop} (h : Snd P o σ K) : SndU P up o σ K :=
  fun A0 D0 w0 nt a w G Q hd _ hh => .inl (h A0 D0 w0 nt a w G Q hd hh)
theorem eop_sound {P : Program} {TT : TTab} (htt : TTok P TT) {o : Oper} {σ : St} {e : Ev} (h : eop TT σ o.dst o.op = some e) (hob : e.ob) : Snd P o σ (fun σ' => σ' = fin o.dst e) := by
  have viaR : (rop TT σ o.op).map (addR σ) = some e → Snd P o σ (fun σ' => σ' = fin o.dst e) := by
    intro h
    cases hr : rop TT σ o.op with
    | none => rw [hr] at h; cases h
    | some q =>
      obtain ⟨v, r⟩ := q
      rw [hr] at h
      have hs := rop_sound htt hr
      cases r with
      | none => cases h; exact hs
      | some r => cases h; exact hs
  cases ho : o.op <;> rw [ho] at h viaR <;> simp only [eop] at h <;> try exact viaR h
  case store t x v =>
    split at h
    · rename_i hd
      have hd : o.dst = none := by simpa using hd
      unfold eSto at h
      split at h
      · rename_i i hi
        split at h
        · rename_i y p q hx
          split at h
          · rename_i r hr
            split at h
            · rename_i hb
              split at h
              · rename_i row hrow
                split at h
                · rename_i hc
                  split at h
                  · rename_i σ' hst
                    cases h
                    refine snd_store ho hd htt hi ?_
                    rw [hx]; simp only [hr, hrow, hst]
                    exact ⟨fun hp => hb.resolve_left (fun h => h hp), hc.1, hc.2.1, hc.2.2, by rw [hd]; rfl⟩
                  · cases h
                · cases h
              · cases h
            · cases h
          · cases h
        · cases h
      · cases h
    · cases h
  case box t x =>
    unfold eBox at h
    split at h
    · rename_i hc
      split at h
      · rename_i σ' hst
        cases h
        refine snd_box ho ⟨hc, ?_⟩
        simp only [hst]; rfl
      · cases h
    · cases h
  case call c =>
    obtain ⟨f, args, ts⟩ := c
    simp only at h
    unfold eCall at h
    split at h
    · split at h
      · rename_i x hx
        split at h
        · rename_i t ht
          have hx : args = #[x] := by rw [← Array.toList_inj]; exact hx
          have ht : ts = #[t] := by rw [← Array.toList_inj]; exact ht
          subst hx ht
          unfold eLen at h
          split at h
          · rename_i i hi
            refine snd_len ho htt hi ?_
            split at h
            · rename_i u hk
              rw [hk]; simp only
              split at h
              · rename_i hx; cases h; rw [hx]; rfl
              · rename_i hx; cases h; rw [hx]; exact fun _ => rfl
              · rename_i y p c hx
                split at h
                · rename_i hc; cases h; rw [hx]; simp only [hc]; exact fun _ => rfl
                · cases h
              · cases h
            · rename_i hk
              rw [hk]; simp only
              split at h
              · rename_i hx; cases h; rw [hx]; exact fun _ => rfl
              · cases h
            · rename_i hk
              rw [hk]; simp only
              split at h
              · rename_i hx; cases h; rw [hx]; exact fun _ => rfl
              · cases h
            · cases h
          · cases h
        · cases h
      · cases h
    · split at h
      · rename_i s x hx
        split at h
        · rename_i t u ht
          have hx : args = #[s, x] := by rw [← Array.toList_inj]; exact hx
          have ht : ts = #[t, u] := by rw [← Array.toList_inj]; exact ht
          subst hx ht
          split at h
          · rename_i e; subst e
            unfold eApp at h
            split at h
            · rename_i i hi
              split at h
              · rename_i e hk
                split at h
                · rename_i j hj
                  split at h
                  · rename_i hc
                    refine snd_append ho htt hi hk hj hc.1 hc.2 ?_
                    split at h
                    · rename_i rows hrows
                      rw [hrows]; simp only
                      split at h
                      · rename_i hs; cases h; exact ⟨hob.1, by rw [hs]; exact ⟨hob.2.1, hob.2.2, rfl⟩⟩
                      · rename_i y p c hs
                        split at h
                        · rename_i r hr
                          split at h
                          · rename_i row hrow
                            split at h
                            · rename_i n es hcell
                              split at h
                              · rename_i hn
                                cases h
                                refine ⟨hob.1, ?_⟩
                                rw [hs]; simp only [hr, hrow, hcell]
                                exact ⟨hn, fun _ => ⟨hob.2.1, hob.2.2⟩, rfl⟩
                              · cases h
                            · cases h
                          · cases h
                        · cases h
                      · cases h
                    · cases h
                  · cases h
                · cases h
              · cases h
            · cases h
          · cases h
        · cases h
      · cases h
    · cases h
  all_goals
    rename_i t m ix x
    split at h
    · rename_i hd
      have hd : o.dst = none := by simpa using hd
      unfold eUpd at h
      split at h
      · rename_i i hi
        split at h
        · rename_i kt vt hk
          split at h
          · rename_i ik hik
            split at h
            · rename_i hki
              refine snd_mapUpdate (by first | exact .inl ho | exact .inr ho) hd htt hi hk hik hki ?_
              split at h
              · rename_i y p c hm
                split at h
                · rename_i q hx
                  split at h
                  · rename_i hp
                    split at h
                    · rename_i r hr
                      split at h
                      · rename_i row hrow
                        split at h
                        · rename_i es hcell
                          cases h
                          rw [hm, hx]; simp only [hr, hrow, hcell]
                          exact ⟨hp, hob, by rw [hd]; rfl⟩
                        · cases h
                      · cases h
                    · cases h
                  · cases h
                · cases h
              · cases h
            · cases h
          · cases h
        · cases h
      · cases h
    · cases h
end Go.Ab
namespace Go.Ab
open Go Go.RowKit
def gdst (all : Array Oper) (j : Nat) : Option Tmp := (all.toList[j]?).bind (·.dst)
def wantd (all : Array Oper) (σ : St) (o : Oper) : Option Bool :=
  match o.guard with
  | none => some true
  | some (j, want) => match gdst all j with
    | some t => match getT σ.t t with
      | .bool b => some (b == want)
      | .tup [] => some false
      | _ => none
    | none => some false
def runStep (TT : TTab) (all : Array Oper) (σ : St) (o : Oper) : Option Ev :=
  match wantd all σ o with
  | some true => eop TT σ o.dst o.op
  | some false => some ⟨σ, .tup [], True⟩
  | none => none
structure Stop where
  os : List Oper
  σ : St
  ob : Prop
def runS (TT : TTab) (all : Array Oper) : Nat → List Oper → St → Prop → Stop
  | 0, os, σ, ob => ⟨os, σ, ob⟩
  | _ + 1, [], σ, ob => ⟨[], σ, ob⟩
  | n + 1, o :: os, σ, ob => match runStep TT all σ o with
    | some e => runS TT all n os (fin o.dst e) (ob ∧ e.ob)
    | none => ⟨o :: os, σ, ob⟩
def okDst (nt : Nat) : List Oper → Bool
  | [] => true
  | o :: os => (match o.dst with | some d => Nat.blt d nt | none => true) && okDst nt os
def CWops (P : Program) (up : Bool) (nt : Nat) (all : Array Oper) (os : List Oper) (σ : St) (K : St → Prop) : Prop :=
  okDst nt os = true → ∀ (A0 D0 : Nat → Prop) (w0 : World) (a : Act) (w : World) (G : Nat → Option GR) (Q : Exit → Act → World → Prop), (up = true → LetsOut Q) → Holds A0 D0 w0 nt σ a w G →
    (∀ a w σ' G', Holds A0 D0 w0 nt σ' a w G' → K σ' → Q .normal a w) → wpList P all Q os a w
def kp (np i : Nat) : Bool := Nat.blt i (np % 65536) || (Nat.beq (i + 1) (np / 65536 % 65536) || Nat.beq (i + 1) (np / 4294967296))
def Kept (np : Nat) (a a' : Act) : Prop := ∀ i, kp np i = true → a'.tmps[i]? = a.tmps[i]?
theorem kp_lt {np i : Nat} (h : np < 65536) (hi : i < np) : kp np i = true := by
  unfold kp
  rw [Nat.mod_eq_of_lt h]
  simp [Nat.blt_eq.mpr hi]
theorem Kept.refl (np : Nat) (a : Act) : Kept np a a := fun _ _ => rfl
theorem Kept.trans {np : Nat} {a b c : Act} (h : Kept np a b) (h' : Kept np b c) : Kept np a c := fun i hi => (h' i hi).trans (h i hi)
def keepDst (np : Nat) : List Oper → Bool
  | [] => true
  | o :: os => (match o.dst with | some d => !kp np d | none => true) && keepDst np os
def CW (P : Program) (up : Bool) (np nt : Nat) (c : Code) (σ : St) (Q : Exit → St → Prop) : Prop :=
  ∀ (A0 D0 : Nat → Prop) (w0 : World) (a : Act) (w : World) (G : Nat → Option GR) (R : Exit → Act → World → Prop), (up = true → LetsOut R) → Holds A0 D0 w0 nt σ a w G →
    (∀ e a' w σ' G', Holds A0 D0 w0 nt σ' a' w G' → Kept np a a' → Q e σ' → R e a' w) → c.wp P R a w
section
variable {P : Program} {TT : TTab} {up : Bool} {nt : Nat} {all : Array Oper} {os : List Oper} {o : Oper} {σ : St} {K : St → Prop}
theorem CWops.done (h : K σ) : CWops P up nt all [] σ K := fun _ A0 D0 w0 a w G Q _ hh hq => hq a w σ G hh h
theorem okDst_cons {o : Oper} {os : List Oper} (h : okDst nt (o :: os) = true) : (∀ d, o.dst = some d → d < nt) ∧ okDst nt os = true := by
  simp only [okDst, Bool.and_eq_true] at h
  refine ⟨fun d hd => ?_, h.2⟩
  have h1 := h.1
  rw [hd] at h1
  exact Nat.blt_eq.mp h1
theorem tup_nil {w : World} {A : Nat → Prop} {G : Nat → Option GR} {n : Nat} {v : Value} (h : Rel w A G n (.tup []) v) : v = .tuple #[] := by
  cases h with
  | fr _ _ h => cases h with
    | tup _ vs h1 _ => have : vs = [] := List.eq_nil_of_length_eq_zero (by simpa using h1); subst this; rfl
  | tup _ vs h1 _ => have : vs = [] := List.eq_nil_of_length_eq_zero (by simpa using h1); subst this; rfl
theorem bool_of {w : World} {A : Nat → Prop} {G : Nat → Option GR} {n : Nat} {b : Bool} {v : Value} (h : Rel w A G n (.bool b) v) : v = .bool b := by
  cases h with
  | fr _ _ h => cases h; rfl
theorem Holds.slot {A0 D0 : Nat → Prop} {w0 : World} {a : Act} {w : World} {G : Nat → Option GR} (h : Holds A0 D0 w0 nt σ a w G) {t : Nat} (ht : getT σ.t t ≠ .undef) : ∃ v, a.tmps[t]? = some v ∧ Rel w (Own A0 G) G σ.n (getT σ.t t) v := by
  by_cases hlt : t < nt
  · have hs : t < a.tmps.size := by rw [h.size]; exact hlt
    refine ⟨a.tmps[t], by simp [hs], ?_⟩
    have := h.tmp t hlt
    rw [Array.getD_eq_getD_getElem?, Array.getElem?_eq_getElem hs] at this
    exact this
  · exact absurd (h.far t (by omega)) ht
theorem wantd_spec {A0 D0 : Nat → Prop} {w0 : World} {a : Act} {w : World} {G : Nat → Option GR} (h : Holds A0 D0 w0 nt σ a w G) {b : Bool} (hw : wantd all σ o = some b) : Region.wanted o (yielded all a.tmps) = b := by
  unfold wantd at hw
  unfold Region.wanted
  split at hw
  · rename_i hg; rw [hg]; cases hw; rfl
  · rename_i j want hg
    rw [hg]
    simp only
    have hgd : (all[j]?).bind (·.dst) = gdst all j := by unfold gdst; rw [Array.getElem?_toList]
    unfold yielded
    rw [hgd]
    split at hw
    · rename_i t ht
      rw [ht]
      simp only [Option.bind_some]
      split at hw
      · rename_i b' hb
        obtain ⟨v, h1, h2⟩ := h.slot (t := t) (by rw [hb]; simp)
        rw [hb] at h2
        rw [h1, bool_of h2]
        cases hw
        simp only
        cases b' <;> cases want <;> rfl
      · rename_i hb
        obtain ⟨v, h1, h2⟩ := h.slot (t := t) (by rw [hb]; simp)
        rw [hb] at h2
        rw [h1, tup_nil h2]
        cases hw
        rfl
      · cases hw
    · rename_i ht
      rw [ht]
      cases hw
      rfl
theorem wpList_cons {a : Act} {w : World} {Q : Exit → Act → World → Prop} : wpList P all Q (o :: os) a w = (if Region.wanted o (yielded all a.tmps) then o.wp P a w (wpList P all Q os) Q ∨ (o.asks P a w ∧ LetsOut Q) else wpList P all Q os (a.put o.dst undef) w) := rfl
theorem CWops.step (hw : wantd all σ o = some true) (h : SndU P up o σ (fun σ' => CWops P up nt all os σ' K)) : CWops P up nt all (o :: os) σ K := by
  intro hd A0 D0 w0 a w G Q hu hh hq
  obtain ⟨hd1, hd2⟩ := okDst_cons hd
  rw [wpList_cons, wantd_spec hh hw, if_pos rfl]
  rcases h A0 D0 w0 nt a w G Q hd1 hu hh with h1 | h1
  · exact .inl (Oper.wp_mono (fun a w ⟨σ', G', h1, h2⟩ => h2 hd2 A0 D0 w0 a w G' Q hu h1 hq) h1)
  · exact .inr h1
theorem CWops.skip (hw : wantd all σ o = some false) (h : CWops P up nt all os (σ.put o.dst (.tup [])) K) : CWops P up nt all (o :: os) σ K := by
  intro hd A0 D0 w0 a w G Q hu hh hq
  obtain ⟨hd1, hd2⟩ := okDst_cons hd
  rw [wpList_cons, wantd_spec hh hw, if_neg (by simp)]
  exact h hd2 A0 D0 w0 _ w G Q hu (hh.put (.fr _ _ (.tup [] [] rfl (fun i a h => by simp at h))) hd1) hq
theorem CWops.runs (htt : TTok P TT) : ∀ (n : Nat) {os : List Oper} {σ : St} {ob : Prop} {r : Stop}, runS TT all n os σ ob = r → (r.ob → ob) ∧ (r.ob → CWops P up nt all r.os r.σ K → CWops P up nt all os σ K)
  | 0, os, σ, ob, r, h => by subst h; exact ⟨id, fun _ h => h⟩
  | n + 1, [], σ, ob, r, h => by subst h; exact ⟨id, fun _ h => h⟩
  | n + 1, o :: os, σ, ob, r, h => by
    simp only [runS] at h
    split at h
    · rename_i e he
      obtain ⟨h1, h2⟩ := CWops.runs htt n h
      refine ⟨fun hr => (h1 hr).1, fun hr hk => ?_⟩
      have hob := (h1 hr).2
      have hk := h2 hr hk
      unfold runStep at he
      split at he
      · rename_i hw
        refine CWops.step hw (Snd.up ?_)
        have hs := eop_sound htt he hob
        intro A0 D0 w0 nt a w G Q hd hh
        exact Oper.wp_mono (fun a w ⟨σ', G', g1, g2⟩ => ⟨σ', G', g1, by subst g2; exact hk⟩) (hs A0 D0 w0 nt a w G Q hd hh)
      · rename_i hw
        cases he
        exact CWops.skip hw hk
      · cases he
    · subst h; exact ⟨id, fun _ h => h⟩
theorem CWops.run (htt : TTok P TT) (n : Nat) {os' : List Oper} {σ' : St} {ob : Prop} (h : runS TT all n os σ True = ⟨os', σ', ob⟩) (hob : ob) (hk : CWops P up nt all os' σ' K) : CWops P up nt all os σ K :=
  (CWops.runs htt n h).2 hob hk
theorem CWops.guard (t : Tmp) {b : Bool} (hg : getT σ.t t = .bool b) (h1 : b = true → CWops P up nt all os (σ.put (some t) (.bool true)) K) (h2 : b = false → CWops P up nt all os (σ.put (some t) (.bool false)) K) : CWops P up nt all os σ K := by
  intro hd A0 D0 w0 a w G Q hu hh hq
  obtain ⟨v, k1, k2⟩ := hh.slot (t := t) (by rw [hg]; simp)
  have key : CWops P up nt all os (σ.put (some t) (.bool b)) K := by
    cases b
    · exact h2 rfl
    · exact h1 rfl
  refine key hd A0 D0 w0 a w G Q hu ⟨hh.inv, hh.size, hh.defers, fun i hi => ?_, fun i hi => ?_, hh.fr, hh.own, hh.a0lt⟩ hq
  · simp only [St.put, getT]
    split
    · rename_i e; subst e; rw [← hg]; exact hh.tmp t hi
    · exact hh.tmp i hi
  · simp only [St.put, getT]
    have : t ≠ i := fun e => by subst e; have := hh.far t hi; rw [hg] at this; cases this
    rw [if_neg this]
    exact hh.far i hi
end
section
variable {P : Program} {np : Nat} {ops : Array Oper} {Q : Exit → Act → World → Prop}
theorem Kept.put {o : Oper} {a a' : Act} {v : Value} (hd : ∀ d, o.dst = some d → kp np d = false) (h : a' = a.put o.dst v) : Kept np a a' := by
  subst h
  intro i hi
  cases ho : o.dst with
  | none => rfl
  | some d =>
    have := hd d ho
    simp only [Act.put]
    rw [Array.getElem?_setIfInBounds_ne (fun e => by subst e; rw [hi] at this; cases this)]
def KeepQ (np : Nat) (a0 : Act) (Q : Exit → Act → World → Prop) : Exit → Act → World → Prop := fun e a w => Q e a w ∧ (e = .normal → Kept np a0 a)
theorem letsOut_keep {a0 : Act} (h : LetsOut Q) : LetsOut (KeepQ np a0 Q) := by
  obtain ⟨a, w, h⟩ := h; exact ⟨a, w, h, fun h => by cases h⟩
theorem Oper.wp_keep {o : Oper} {a a0 : Act} {w : World} {K : Act → World → Prop} (hd : ∀ d, o.dst = some d → kp np d = false) (h : o.wp P a w K Q) : o.wp P a w (fun a' w' => K a' w' ∧ Kept np a a') (KeepQ np a0 Q) := by
  unfold Oper.wp at *
  generalize (execOp a.eval o).run P w = r at *
  cases r with
  | ok n w' =>
    cases n <;> simp only [Oper.upon] at h ⊢
    case value v => exact ⟨h, Kept.put hd rfl⟩
    case skip => exact ⟨h, Kept.put hd rfl⟩
    case defer d => exact ⟨h, (Kept.put (a := { a with defers := d :: a.defers }) hd rfl)⟩
    case enter f args =>
      refine Calls.mono h fun e w'' he => ?_
      cases e with
      | returned v => exact ⟨he, Kept.put hd rfl⟩
      | panicked c => exact ⟨he, fun h => by cases h⟩
      | outgrown => exact letsOut_keep he
    case row row args => exact Rows.mono h fun v w'' he => ⟨he, Kept.put hd rfl⟩
  | halt x w' =>
    cases x <;> simp only [Oper.upon] at h ⊢
    case panic v => exact ⟨h, fun h => by cases h⟩
theorem keepDst_cons {o : Oper} {os : List Oper} (h : keepDst np (o :: os) = true) : (∀ d, o.dst = some d → kp np d = false) ∧ keepDst np os = true := by
  simp only [keepDst, Bool.and_eq_true] at h
  refine ⟨fun d hd => ?_, h.2⟩
  have h1 := h.1
  rw [hd] at h1
  simpa using h1
theorem wpList_keep {a0 : Act} : ∀ {os : List Oper} {a : Act} {w : World}, keepDst np os = true → Kept np a0 a → wpList P ops Q os a w → wpList P ops (KeepQ np a0 Q) os a w
  | [], a, w, _, hk, h => ⟨h, fun _ => hk⟩
  | o :: os, a, w, hd, hk, h => by
    obtain ⟨hd1, hd2⟩ := keepDst_cons hd
    rw [wpList_cons] at h ⊢
    split
    · rename_i hw
      rw [if_pos hw] at h
      rcases h with h | h
      · exact .inl (Oper.wp_mono (fun a' w' ⟨h1, h2⟩ => wpList_keep hd2 (hk.trans h2) h1) (Oper.wp_keep hd1 h))
      · exact .inr ⟨h.1, letsOut_keep h.2⟩
    · rename_i hw
      rw [if_neg hw] at h
      exact wpList_keep hd2 (hk.trans (Kept.put hd1 rfl)) h
end
section
variable {P : Program} {TT : TTab} {up : Bool} {np nt : Nat} {σ : St} {Q : Exit → St → Prop}
def thenS (P : Program) (up : Bool) (np nt : Nat) (c : Code) (Q : Exit → St → Prop) : Exit → St → Prop
  | .normal, σ => CW P up np nt c σ Q
  | e, σ => Q e σ
def inBlk (id : Nat) (Q : Exit → St → Prop) : Exit → St → Prop
  | .exit id', σ => match Nat.beq id' id with
    | true => Q .normal σ
    | false => Q (.exit id') σ
  | e, σ => Q e σ
def noGoto (Q : Exit → St → Prop) : Exit → St → Prop
  | .goto _, _ => False
  | e, σ => Q e σ
theorem CW.mono {c : Code} {Q' : Exit → St → Prop} (h : CW P up np nt c σ Q) (hq : ∀ e σ, Q e σ → Q' e σ) : CW P up np nt c σ Q' :=
  fun A0 D0 w0 a w G R hu hh hr => h A0 D0 w0 a w G R hu hh fun e a' w σ' G' h1 hk h2 => hr e a' w σ' G' h1 hk (hq e σ' h2)
theorem CW.skip (h : Q .normal σ) : CW P up np nt .skip σ Q := fun _ _ _ a _ _ _ _ hh hr => wp_skip (hr _ _ _ _ _ hh (Kept.refl np a) h)
theorem CW.label {l : Nat} (h : Q .normal σ) : CW P up np nt (.label l) σ Q := fun _ _ _ a _ _ _ _ hh hr => wp_label (hr _ _ _ _ _ hh (Kept.refl np a) h)
theorem CW.exit {id : Nat} (h : Q (.exit id) σ) : CW P up np nt (.exit id) σ Q := fun _ _ _ a _ _ _ _ hh hr => wp_exit (hr _ _ _ _ _ hh (Kept.refl np a) h)
theorem CW.goto {l : Nat} (h : Q (.goto l) σ) : CW P up np nt (.goto l) σ Q := fun _ _ _ a _ _ _ _ hh hr => wp_goto (hr _ _ _ _ _ hh (Kept.refl np a) h)
theorem CW.ret (h : Q .ret σ) : CW P up np nt .ret σ Q := fun _ _ _ a _ _ _ _ hh hr => wp_ret (hr _ _ _ _ _ hh (Kept.refl np a) h)
theorem letsOut_then {R : Exit → Act → World → Prop} {next : Act → World → Prop} (h : up = true → LetsOut R) : up = true → LetsOut (Exit.then next R) := fun hu => let ⟨a, w, h⟩ := h hu; ⟨a, w, h⟩
theorem letsOut_block {R : Exit → Act → World → Prop} {id : Nat} (h : up = true → LetsOut R) : up = true → LetsOut (Exit.inBlock id R) := fun hu => let ⟨a, w, h⟩ := h hu; ⟨a, w, h⟩
theorem CW.seq {x y : Code} (h : CW P up np nt x σ (thenS P up np nt y Q)) : CW P up np nt (.seq x y) σ Q := by
  intro A0 D0 w0 a w G R hu hh hr
  refine wp_seq (h A0 D0 w0 a w G _ (letsOut_then hu) hh fun e a' w σ' G' h1 hk h2 => ?_)
  cases e with
  | normal => exact h2 A0 D0 w0 a' w G' R hu h1 fun e a'' w σ' G' h1 hk' h2 => hr e a'' w σ' G' h1 (hk.trans hk') h2
  | _ => exact hr _ a' w σ' G' h1 hk h2
theorem CW.block {id : Nat} {c : Code} (h : CW P up np nt c σ (inBlk id Q)) : CW P up np nt (.block id c) σ Q := by
  intro A0 D0 w0 a w G R hu hh hr
  refine wp_block (h A0 D0 w0 a w G _ (letsOut_block hu) hh fun e a' w σ' G' h1 hk h2 => ?_)
  cases e with
  | exit id' =>
    simp only [inBlk] at h2
    simp only [Exit.inBlock]
    by_cases e : id' = id
    · rw [if_pos e]
      have hb : Nat.beq id' id = true := by subst e; simp
      rw [hb] at h2
      exact hr _ a' w σ' G' h1 hk h2
    · rw [if_neg e]
      have hb : Nat.beq id' id = false := by
        cases hb : Nat.beq id' id with
        | false => rfl
        | true => exact absurd (Nat.eq_of_beq_eq_true hb) e
      rw [hb] at h2
      exact hr _ a' w σ' G' h1 hk h2
  | _ => exact hr _ a' w σ' G' h1 hk h2
theorem CW.scope {c : Code} (h : CW P up np nt c σ (noGoto Q)) : CW P up np nt (.scope c) σ Q := by
  intro A0 D0 w0 a w G R hu hh hr
  refine wp_scope_straight (h A0 D0 w0 a w G _ (fun hu' => let ⟨a, w, h⟩ := hu hu'; ⟨a, w, h⟩) hh fun e a' w σ' G' h1 hk h2 => ?_)
  cases e with
  | goto l => exact h2.elim
  | _ => exact hr _ a' w σ' G' h1 hk h2
theorem CW.cond {c : Operand} {x y : Code} {b : Bool} (hc : ev σ c = .bool b) (h1 : b = true → CW P up np nt x σ Q) (h2 : b = false → CW P up np nt y σ Q) : CW P up np nt (.cond c x y) σ Q := by
  intro A0 D0 w0 a w G R hu hh hr
  have he := hh.ev c
  rw [hc] at he
  exact wp_cond_split (bool_of he) (fun hb => h1 hb A0 D0 w0 a w G R hu hh hr) (fun hb => h2 hb A0 D0 w0 a w G R hu hh hr)
theorem CW.region {id : Nat} {ops : Array Oper} (hd : okDst nt ops.toList = true) (hk : keepDst np ops.toList = true) (h : CWops P up nt ops ops.toList σ (Q .normal)) : CW P up np nt (.region id ops false) σ Q := by
  intro A0 D0 w0 a w G R hu hh hr
  let Q1 : Exit → Act → World → Prop := fun e a' w' => match e with
    | .normal => ∃ σ' G', Holds A0 D0 w0 nt σ' a' w' G' ∧ Q .normal σ'
    | e => R e a' w'
  have h1 := wpList_keep (a0 := a) hk (Kept.refl np a) (h hd A0 D0 w0 a w G Q1 (fun hu' => let ⟨a, w, h⟩ := hu hu'; ⟨a, w, h⟩) hh fun a' w σ' G' h1 h2 => ⟨σ', G', h1, h2⟩)
  refine wp_mono (wp_region_list h1) fun e a' w' he => ?_
  cases e with
  | normal => obtain ⟨⟨σ', G', g1, g2⟩, g3⟩ := he; exact hr _ a' w' σ' G' g1 (g3 rfl) g2
  | _ => exact he.1
def Wk (m : Nat → Nat) (σ τ : St) : Prop := (Names m τ.s).Nodup ∧ AllT m τ.n σ.t τ.t ∧ AllS m τ.n σ.s τ.s
def Sh (σ τ : St) : Prop := ∀ (A0 D0 : Nat → Prop) (w0 : World) (nt : Nat) (a : Act) (w : World) (G : Nat → Option GR), Holds A0 D0 w0 nt σ a w G → ∃ G', Holds A0 D0 w0 nt τ a w G'
theorem Sh.wk (m : Nat → Nat) {σ τ : St} (h : Wk m σ τ) : Sh σ τ := fun _ _ _ _ _ _ _ hh => ⟨_, hh.weak m h.1 h.2.1 h.2.2⟩
theorem Sh.trans {σ τ ρ : St} (h : Sh σ τ) (h' : Sh τ ρ) : Sh σ ρ := fun A0 D0 w0 nt a w G hh => let ⟨G', h1⟩ := h A0 D0 w0 nt a w G hh; h' A0 D0 w0 nt a w G' h1
theorem CW.sh {τ : St} {c : Code} (h : Sh σ τ) (hk : CW P up np nt c τ Q) : CW P up np nt c σ Q := fun A0 D0 w0 a w G R hu hh hr => let ⟨G', h1⟩ := h A0 D0 w0 nt a w G hh; hk A0 D0 w0 a w G' R hu h1 hr
theorem CWops.sh {all : Array Oper} {os : List Oper} {τ : St} {K : St → Prop} (h : Sh σ τ) (hk : CWops P up nt all os τ K) : CWops P up nt all os σ K := fun hd A0 D0 w0 a w G R hu hh hr => let ⟨G', h1⟩ := h A0 D0 w0 nt a w G hh; hk hd A0 D0 w0 a w G' R hu h1 hr
theorem CW.cut {c d : Code} (τ : St) (h : CW P up np nt c σ (fun e σ' => e = .normal ∧ Sh σ' τ)) (hk : CW P up np nt d τ Q) : CW P up np nt (.seq c d) σ Q := by
  refine CW.seq (CW.mono h fun e σ' ⟨he, hw⟩ => ?_)
  subst he
  exact CW.sh hw hk
def loopS {S : Type} (st : S → St) (I : S → Prop) (μ : S → Nat) (x : S) (Q : Exit → St → Prop) : Exit → St → Prop
  | .normal, σ => ∃ (y : S), Sh σ (st y) ∧ I y ∧ μ y < μ x
  | e, σ => Q e σ
theorem least {p : Nat → Prop} (h : ∃ n, p n) : ∃ n, p n ∧ ∀ k, p k → n ≤ k := by
  obtain ⟨n, hn⟩ := h
  induction n using Nat.strongRecOn with
  | _ n ih =>
    by_cases hk : ∃ k, k < n ∧ p k
    · obtain ⟨k, h1, h2⟩ := hk; exact ih k h1 h2
    · exact ⟨n, hn, fun k hp => Nat.le_of_not_lt fun hlt => hk ⟨k, hlt, hp⟩⟩
theorem leastOf : ∃ f : (Nat → Prop) → Nat, ∀ p, (∃ n, p n) → p (f p) ∧ ∀ k, p k → f p ≤ k := by
  refine Classical.axiomOfChoice (α := Nat → Prop) (β := fun _ => Nat) (r := fun p n => (∃ n, p n) → p n ∧ ∀ k, p k → n ≤ k) fun p => ?_
  by_cases h : ∃ n, p n
  · obtain ⟨n, h1, h2⟩ := least h; exact ⟨n, fun _ => ⟨h1, h2⟩⟩
  · exact ⟨0, fun h' => absurd h' h⟩
theorem CW.loop {S : Type} {c : Code} (st : S → St) (I : S → Prop) (μ : S → Nat) (x0 : S) (hw : Sh σ (st x0)) (h0 : I x0)
    (hb : ∀ x, I x → CW P up np nt c (st x) (loopS st I μ x Q)) : CW P up np nt (.loop c) σ Q := by
  intro A0 D0 w0 a0 w G R hu hh hr
  obtain ⟨least, least_spec⟩ := leastOf
  obtain ⟨G0, hh0⟩ := hw A0 D0 w0 nt a0 w G hh
  let p : Act → World → Nat → Prop := fun a w n => ∃ x G, I x ∧ μ x = n ∧ Holds A0 D0 w0 nt (st x) a w G ∧ Kept np a0 a
  refine wp_loop (fun a w => ∃ n, p a w n) (fun a w => least (p a w)) ⟨_, x0, G0, h0, rfl, hh0, Kept.refl np a0⟩ fun a w hI => ?_
  obtain ⟨⟨x, G, hx, hn, hh', hkept⟩, hmin⟩ := least_spec _ hI
  refine hb x hx A0 D0 w0 a w G _ (letsOut_then hu) hh' fun e a' w' σ' G' h1 hk h2 => ?_
  cases e with
  | normal =>
    obtain ⟨y, k1, k2, k3⟩ := h2
    obtain ⟨G2, hh2⟩ := k1 A0 D0 w0 nt a' w' G' h1
    have hp : p a' w' (μ y) := ⟨y, G2, k2, rfl, hh2, hkept.trans hk⟩
    refine ⟨⟨_, hp⟩, Nat.lt_of_le_of_lt ((least_spec _ ⟨_, hp⟩).2 _ hp) ?_⟩
    rw [← hn]; exact k3
  | _ => exact hr _ a' w' σ' G' h1 (hkept.trans hk) h2
end
end Go.Ab
namespace Go.Ab
open Go Go.RowKit
def view : Nat → St → AV → AV
  | 0, _, _ => .undef
  | n + 1, σ, a => match a with
    | .ref x p c => if (cellAtB σ x p c).tree = true then (cellAtB σ x p c).freeze else .undef
    | .lv x p j => match getS σ.s x with
      | some r => if p ≠ [] ∨ r.box = true then (match rowOf r.cells p with
        | some row => .fp ((row.drop j).map fun a => if a.tree = true then a.freeze else view n σ a)
        | none => .undef) else .undef
      | none => .undef
    | .agg l => .agg (l.map (view n σ))
    | .tup l => .tup (l.map (view n σ))
    | .func f x y => .func f (x.map (view n σ)) (y.map (view n σ))
    | .ifc t a => .ifc t (view n σ a)
    | a => a
section
variable {A0 D0 : Nat → Prop} {w0 : World} {nt : Nat} {σ : St} {a : Act} {w : World} {G : Nat → Option GR}
theorem Holds.view (h : Holds A0 D0 w0 nt σ a w G) : ∀ (n : Nat) (av : AV) (v : Value), Rel w (Own A0 G) G σ.n av v → FR w A0 (view n σ av) v
  | 0, _, v, _ => .undef v
  | n + 1, av, v, hr => by
    have ih := Holds.view h n
    have list : ∀ (l : List AV) (vs : List Value), vs.length = l.length → (∀ (i : Nat) (a : AV), l[i]? = some a → Rel w (Own A0 G) G σ.n a (vs.getD i undef)) →
        vs.length = (l.map (Ab.view n σ)).length ∧ ∀ (i : Nat) (a : AV), (l.map (Ab.view n σ))[i]? = some a → FR w A0 a (vs.getD i undef) := by
      intro l vs h1 h2
      refine ⟨by simpa using h1, fun i a ha => ?_⟩
      simp only [List.getElem?_map, Option.map_eq_some_iff] at ha
      obtain ⟨a', ha', rfl⟩ := ha
      exact ih a' _ (h2 i a' ha')
    have leaf : ∀ {b : AV}, FR w (Own A0 G) b v → FR w A0 b v := fun hb => hb.keep (fun _ _ _ => rfl) (fun b _ hb => .inl hb)
    cases av with
    | ref x p c =>
      simp only [Ab.view]
      split
      · rename_i ht
        obtain ⟨r, row, g, grow, t, k1, k2, k3, k4, k5, k6, k7, k8, k9, k10, k11, k12⟩ := h.tree rfl ht
        obtain ⟨_, _, e3⟩ := hr.ref_inv
        have hv := k11 v e3
        rw [← k8, hv]
        exact k9.freeze (fun b _ hb => .inl hb) (fun b hb => h.inv.a0 b ⟨x, g, k4, .inr (k12 b hb)⟩)
      · exact .undef v
    | lv x p j =>
      simp only [Ab.view]
      split
      · rename_i r hs
        split
        · rename_i hb
          split
          · rename_i row hrow
            have hbox : p = [] → r.box = true := fun hp => hb.resolve_left (fun h => h hp)
            obtain ⟨ad, e1, e2, e3⟩ := hr.lv_inv
            obtain ⟨g, grow, k1, k2, k3, k4, k5⟩ := h.read hs hrow
            obtain ⟨g', hg', _, hcs, hm⟩ := h.root hs
            rw [k1] at hg'; cases hg'
            obtain ⟨grow', l1, l2, l3, l4⟩ := row_at hcs hm hrow
            rw [k2] at l1; cases l1
            obtain ⟨b, of, _, _, k6, k7, _⟩ := h.place hs k1 k2 hbox
            have had := e3 g b of k1 k6
            have hnA : ¬ A0 b := h.inv.a0 b ⟨x, g, k1, k7⟩
            rw [e1, had]
            have key : ∀ (i : Nat) (av : AV), ((row.drop j).map fun a => if a.tree = true then a.freeze else Ab.view n σ a)[i]? = some av → ∃ (c : AV) (t : GT), row[j + i]? = some c ∧ grow[j + i]? = some t ∧ av = (if c.tree = true then c.freeze else Ab.view n σ c) := by
              intro i av hi
              simp only [List.getElem?_map, Option.map_eq_some_iff, List.getElem?_drop] at hi
              obtain ⟨c, hc, rfl⟩ := hi
              have hlt : j + i < row.length := (List.getElem?_eq_some_iff.1 hc).1
              exact ⟨c, grow[j + i]'(by rw [← k3.len]; exact hlt), hc, List.getElem?_eq_getElem _, rfl⟩
            refine .fp _ b (of + j) (fun i av hi => ?_) (fun i av hi => ?_)
            · obtain ⟨c, t, h1, h2, h3⟩ := key i av hi
              have := k5 b of k6 _ t h2
              exact ⟨hnA, by rw [Nat.add_assoc, this]; rfl⟩
            · obtain ⟨c, t, h1, h2, h3⟩ := key i av hi
              have hcell := k5 b of k6 _ t h2
              have hrd : rdw w b (of + j + i) = t.val := by unfold rdw; rw [Nat.add_assoc, hcell]; rfl
              rw [hrd, h3]
              rcases k3.cell _ c t h1 h2 with ⟨q1, q2⟩ | ⟨q1, q2⟩
              · rw [if_pos (by rw [q2]; exact tree_of_leaf q1), q2]
                obtain ⟨_, m2, _⟩ := hm.row p k2
                exact (l3.mem _ t h2).freeze (fun b _ hb => .inl hb) (fun k hk => h.inv.a0 k ⟨x, g, k1, .inr (m2 k ⟨_, t, h2, hk⟩)⟩)
              · have : c.tree = false := by
                  generalize t.val = vv at q2
                  cases q2 with
                  | fr _ _ hf => exact hf.not_tree
                  | _ => rfl
                rw [if_neg (by rw [this]; simp)]
                exact ih c _ q2
          · exact .undef v
        · exact .undef v
      · exact .undef v
    | agg l =>
      obtain ⟨vs, rfl, h1, h2⟩ := hr.agg_inv
      obtain ⟨g1, g2⟩ := list l vs h1 h2
      exact .agg _ vs g1 g2
    | tup l =>
      obtain ⟨vs, rfl, h1, h2⟩ := hr.tup_inv
      obtain ⟨g1, g2⟩ := list l vs h1 h2
      exact .tup _ vs g1 g2
    | func f x y =>
      obtain ⟨us, vs, rfl, h1, h2, h3, h4⟩ := hr.func_inv
      obtain ⟨g1, g2⟩ := list x us h1 h3
      obtain ⟨g3, g4⟩ := list y vs h2 h4
      exact .func f _ _ us vs g1 g3 g2 g4
    | ifc t x =>
      obtain ⟨u, rfl, h1⟩ := hr.ifc_inv
      exact .ifc t _ u (ih x u h1)
    | undef => exact .undef v
    | _ => cases hr with
      | fr _ _ hf => first | exact leaf hf | cases hf
end
end Go.Ab
namespace Go.Ab
open Go Go.RowKit
def resL (TT : TTab) (σ : St) : List ResultVar → Option (List AV)
  | [] => some []
  | .tmp t :: r => (resL TT σ r).map (getT σ.t t :: ·)
  | .cell a t :: r => match getT σ.t a with
    | .lv y p q => match rLoad TT σ t (.lv y p q) with
      | some (v, _) => (resL TT σ r).map (v :: ·)
      | none => none
    | _ => none
def resF (tmps : Array Value) : ResultVar → Sem Value
  | .tmp t => pure (tmps.getD t undef)
  | .cell x t => do Go.loadVar t (← asAddr (tmps.getD x undef))
def one : List AV → AV
  | [a] => a
  | l => .tup l
section
variable {P : Program} {TT : TTab} {A0 D0 : Nat → Prop} {w0 : World} {nt : Nat} {σ : St} {a : Act} {w : World} {G : Nat → Option GR}
theorem Holds.loadVar (h : Holds A0 D0 w0 nt σ a w G) (htt : TTok P TT) {t : Nat} {y q : Nat} {p : List (Nat × Nat)} {v : Value} {av : AV} {r0 : Option Root} (hb : Rel w (Own A0 G) G σ.n (.lv y p q) v) (hl : rLoad TT σ t (.lv y p q) = some (av, r0)) :
    ∃ ad u, v = .pointer (some ad) ∧ (Go.loadVar t ad).run P w = .ok u w ∧ Rel w (Own A0 G) G σ.n av u := by
  unfold rLoad at hl
  split at hl
  · rename_i i ht
    split at hl
    · rename_i hok
      have h1 : i.kind.agg = false → i.size = 1 := tiOK_spec hok
      have hti := htt t i ht
      simp only at hl
      split at hl
      · rename_i r hr
        split at hl
        · rename_i hbx
          split at hl
          · rename_i row hrow
            split at hl
            · rename_i hl'
              cases hl
              have hbox : p = [] → r.box = true := fun hp => hbx.resolve_left (fun h => h hp)
              obtain ⟨ad, e1, e2, e3⟩ := hb.lv_inv
              obtain ⟨g, grow, k1, k2, k3, k4, k5⟩ := h.read hr hrow
              obtain ⟨b, of, _, _, k6, _⟩ := h.place hr k1 k2 hbox
              have had := e3 g b of k1 k6
              have hgl : grow.length = row.length := k3.len.symm
              let vs : List Value := ((grow.drop q).take i.size).map GT.val
              have hvs : ∀ (j : Nat), j < i.size → ∃ t, grow[q + j]? = some t ∧ vs[j]? = some t.val := by
                intro j hj
                have hlt : q + j < grow.length := by omega
                refine ⟨grow[q + j], List.getElem?_eq_getElem hlt, ?_⟩
                simp only [vs, List.getElem?_map, List.getElem?_take, if_pos hj, List.getElem?_drop, List.getElem?_eq_getElem hlt, Option.map_some]
              have hvl : vs.length = i.size := by simp [vs]; omega
              have hrun := run_loadVar (P := P) hti (w := w) (ad := ad) (vs := vs) hvl (fun j v hj => by
                have hjl : j < i.size := by have := (List.getElem?_eq_some_iff.1 hj).1; omega
                obtain ⟨t, ht1, ht2⟩ := hvs j hjl
                rw [ht2] at hj; cases hj
                rw [had, Addr.add_lit, Nat.add_assoc]
                exact k5 b of k6 _ t ht1) h1
              refine ⟨ad, _, e1, hrun, ?_⟩
              have hlen : (ldc y p q ((row.drop q).take i.size)).length = i.size := by rw [ldc_len]; simp; omega
              have hrel : ∀ (j : Nat) (a : AV), (ldc y p q ((row.drop q).take i.size))[j]? = some a → Rel w (Own A0 G) G σ.n a (vs.getD j undef) := by
                intro j av hj
                obtain ⟨b', hb', rfl⟩ := ldc_at y p q _ j av hj
                rw [List.getElem?_take] at hb'
                split at hb'
                · rename_i hjl
                  rw [List.getElem?_drop] at hb'
                  obtain ⟨t, ht1, ht2⟩ := hvs j hjl
                  rw [getD_of ht2]
                  rcases k3.cell _ b' t hb' ht1 with ⟨q1, q2⟩ | ⟨q1, q2⟩
                  · rw [if_pos (by rw [q2]; exact tree_of_leaf q1)]
                    exact (k4 _ t ht1).2 q1
                  · have : b'.tree = false := by
                      generalize t.val = vv at q2
                      cases q2 with
                      | fr _ _ hf => exact hf.not_tree
                      | _ => rfl
                    rw [this]; exact q2
                · cases hb'
              unfold mkV
              cases hk : i.kind.agg with
              | true => exact .agg _ _ (by rw [hlen, hvl]) hrel
              | false =>
                have hs1 := h1 hk
                generalize ldc y p q ((row.drop q).take i.size) = l at hlen hrel
                generalize vs = us at hvl hrel
                cases l with
                | nil => simp at hlen; omega
                | cons a l => cases us with
                  | nil => simp at hvl; omega
                  | cons v us => exact hrel 0 a rfl
            · cases hl
          · cases hl
        · cases hl
      · cases hl
    · cases hl
  · cases hl
theorem Holds.slotD (h : Holds A0 D0 w0 nt σ a w G) (t : Nat) : Rel w (Own A0 G) G σ.n (getT σ.t t) (a.tmps.getD t undef) := by
  by_cases hlt : t < nt
  · exact h.tmp t hlt
  · rw [h.far t (by omega)]; exact .fr _ _ (.undef _)
theorem Holds.resList (h : Holds A0 D0 w0 nt σ a w G) (htt : TTok P TT) : ∀ (rs : List ResultVar) (l : List AV), resL TT σ rs = some l →
    ∃ vs : List Value, (rs.mapM (resF a.tmps)).run P w = .ok vs w ∧ vs.length = l.length ∧ ∀ (i : Nat) (av : AV), l[i]? = some av → Rel w (Own A0 G) G σ.n av (vs.getD i undef)
  | [], l, hl => by cases hl; exact ⟨[], by simp, rfl, fun i av h => by simp at h⟩
  | .tmp t :: r, l, hl => by
    simp only [resL, Option.map_eq_some_iff] at hl
    obtain ⟨l', h1, rfl⟩ := hl
    obtain ⟨vs, k1, k2, k3⟩ := Holds.resList h htt r l' h1
    refine ⟨a.tmps.getD t undef :: vs, ?_, by simp [k2], fun i av hi => ?_⟩
    · rw [List.mapM_cons]
      simp only [Sem.run_bind, resF, Sem.run_pure, Result.andThen_ok, k1]
    · cases i with
      | zero => simp at hi; subst hi; exact h.slotD t
      | succ i => simpa using k3 i av (by simpa using hi)
  | .cell x t :: r, l, hl => by
    simp only [resL] at hl
    split at hl
    · rename_i y p q hx
      split at hl
      · rename_i v r0 hv
        simp only [Option.map_eq_some_iff] at hl
        obtain ⟨l', h1, rfl⟩ := hl
        obtain ⟨vs, k1, k2, k3⟩ := Holds.resList h htt r l' h1
        have hs := h.slotD x
        rw [hx] at hs
        obtain ⟨ad, u, e1, e2, e3⟩ := h.loadVar htt hs hv
        refine ⟨u :: vs, ?_, by simp [k2], fun i av hi => ?_⟩
        · rw [List.mapM_cons]
          simp only [Sem.run_bind, resF, Sem.run_pure, Result.andThen_ok, e1, asAddr, e2, k1]
        · cases i with
          | zero => simp at hi; subst hi; exact e3
          | succ i => simpa using k3 i av (by simpa using hi)
      · cases hl
    · cases hl
theorem Holds.results (h : Holds A0 D0 w0 nt σ a w G) (htt : TTok P TT) {fn : Func} {l : List AV} (hl : resL TT σ fn.results.toList = some l) : ∃ v, (Go.results fn a.tmps).run P w = .ok v w ∧ Rel w (Own A0 G) G σ.n (one l) v := by
  obtain ⟨vs, k1, k2, k3⟩ := h.resList htt _ _ hl
  have hdef : Go.results fn a.tmps = (do let vs ← fn.results.mapM (resF a.tmps); pure (if h : vs.size = 1 then vs[0] else .tuple vs)) := rfl
  rw [hdef, Array.mapM_eq_mapM_toList]
  simp only [Sem.run_bind, Sem.run_map, k1, Result.andThen_ok, Sem.run_pure]
  refine ⟨_, rfl, ?_⟩
  cases l with
  | nil =>
    have : vs = [] := List.eq_nil_of_length_eq_zero (by simpa using k2)
    subst this
    exact .tup [] [] rfl (fun i a h => by simp at h)
  | cons a l => cases l with
    | nil =>
      cases vs with
      | nil => simp at k2
      | cons v vs =>
        have : vs = [] := List.eq_nil_of_length_eq_zero (by simpa using k2)
        subst this
        exact k3 0 a rfl
    | cons b l =>
      have hne : ¬ vs.length = 1 := by rw [k2]; simp
      have hsz : ¬ (vs.toArray.size = 1) := by simpa using hne
      rw [dif_neg hsz]
      exact .tup _ vs k2 k3
end
end Go.Ab
namespace Go.Ab
open Go Go.RowKit
def Lens (a : AV) : Prop := ∃ (w : World) (A : Nat → Prop) (v : Value), FR w A a v
theorem Lens.sl {n : Nat} {l : List (List AV)} (h : Lens (.sl n l)) : l.length ≤ MX ∧ ∀ r ∈ l, r.length = n ∧ ∀ a ∈ r, Lens a := by
  obtain ⟨w, A, v, h⟩ := h
  cases h with
  | slnil => exact ⟨by simp, fun r hr => by simp at hr⟩
  | slmt => exact ⟨by simp, fun r hr => by simp at hr⟩
  | sl _ _ b o cap h1 h2 h3 h4 h5 h6 =>
    refine ⟨h3, fun r hr => ?_⟩
    obtain ⟨i, hi⟩ := List.getElem?_of_mem hr
    refine ⟨h4 i r hi, fun a ha => ?_⟩
    obtain ⟨j, hj⟩ := List.getElem?_of_mem ha
    exact ⟨w, A, _, h6 i r j a hi hj⟩
theorem Lens.agg {l : List AV} (h : Lens (.agg l)) : ∀ a ∈ l, Lens a := by
  obtain ⟨w, A, v, h⟩ := h
  cases h with
  | agg _ vs h1 h2 => intro a ha; obtain ⟨j, hj⟩ := List.getElem?_of_mem ha; exact ⟨w, A, _, h2 j a hj⟩
theorem Lens.str {s : ByteArray} (h : Lens (.str s)) : s.size ≤ MX := by
  obtain ⟨w, A, v, h⟩ := h
  cases h with
  | str _ h => exact h
mutual
def leP : AV → AV → Prop
  | .sl n l, b => b = .sl n l ∨ (l = [] ∧ b = .nilsl)
  | .agg l, b => ∃ l', b = .agg l' ∧ leL l l'
  | .tup l, b => ∃ l', b = .tup l' ∧ leL l l'
  | .undef, _ => True
  | a, b => b = a
def leL : List AV → List AV → Prop
  | [], [] => True
  | a :: r, b :: s => leP a b ∧ leL r s
  | _, _ => False
end
theorem leL.len : ∀ {l l' : List AV}, leL l l' → l'.length = l.length
  | [], [], _ => rfl
  | a :: r, b :: s, h => by simp only [leL] at h; simp [leL.len h.2]
  | [], b :: s, h => by simp [leL] at h
  | a :: r, [], h => by simp [leL] at h
theorem leL.at_ : ∀ {l l' : List AV}, leL l l' → ∀ (i : Nat) (a : AV), l[i]? = some a → ∃ b, l'[i]? = some b ∧ leP a b
  | [], _, _, i, a, hi => by simp at hi
  | a :: r, [], h, _, _, _ => by simp [leL] at h
  | a :: r, b :: s, h, i, c, hi => by
    simp only [leL] at h
    cases i with
    | zero => simp at hi; subst hi; exact ⟨b, rfl, h.1⟩
    | succ i => simpa using leL.at_ h.2 i c (by simpa using hi)
theorem leP_fr {w : World} {A : Nat → Prop} : ∀ (a b : AV) (v : Value), leP a b → FR w A b v → FR w A a v
  | .undef, _, v, _, _ => .undef v
  | .sl n l, b, v, h, hf => by
    simp only [leP] at h
    rcases h with rfl | ⟨rfl, rfl⟩
    · exact hf
    · cases hf; exact .slnil n
  | .agg l, b, v, h, hf => by
    simp only [leP] at h
    obtain ⟨l2, rfl, hl⟩ := h
    cases hf with
    | agg _ vs h1 h2 =>
      refine .agg l vs (by rw [h1, hl.len]) fun i a hi => ?_
      obtain ⟨b, hb, hab⟩ := hl.at_ i a hi
      exact leP_fr a b _ hab (h2 i b hb)
  | .tup l, b, v, h, hf => by
    simp only [leP] at h
    obtain ⟨l2, rfl, hl⟩ := h
    cases hf with
    | tup _ vs h1 h2 =>
      refine .tup l vs (by rw [h1, hl.len]) fun i a hi => ?_
      obtain ⟨b, hb, hab⟩ := hl.at_ i a hi
      exact leP_fr a b _ hab (h2 i b hb)
  | .bool _, b, v, h, hf => by simp only [leP] at h; subst h; exact hf
  | .int _ _, b, v, h, hf => by simp only [leP] at h; subst h; exact hf
  | .str _, b, v, h, hf => by simp only [leP] at h; subst h; exact hf
  | .nilsl, b, v, h, hf => by simp only [leP] at h; subst h; exact hf
  | .tight _ _, b, v, h, hf => by simp only [leP] at h; subst h; exact hf
  | .own _ _, b, v, h, hf => by simp only [leP] at h; subst h; exact hf
  | .ref _ _ _, b, v, h, hf => by simp only [leP] at h; subst h; exact hf
  | .nilp, b, v, h, hf => by simp only [leP] at h; subst h; exact hf
  | .fp _, b, v, h, hf => by simp only [leP] at h; subst h; exact hf
  | .lv _ _ _, b, v, h, hf => by simp only [leP] at h; subst h; exact hf
  | .nilmap, b, v, h, hf => by simp only [leP] at h; subst h; exact hf
  | .fmap _, b, v, h, hf => by simp only [leP] at h; subst h; exact hf
  | .omap _, b, v, h, hf => by simp only [leP] at h; subst h; exact hf
  | .iter _ _, b, v, h, hf => by simp only [leP] at h; subst h; exact hf
  | .func _ _ _, b, v, h, hf => by simp only [leP] at h; subst h; exact hf
  | .nilfunc, b, v, h, hf => by simp only [leP] at h; subst h; exact hf
  | .ifc _ _, b, v, h, hf => by simp only [leP] at h; subst h; exact hf
  | .nili, b, v, h, hf => by simp only [leP] at h; subst h; exact hf
  termination_by a _ _ _ _ => SizeOf.sizeOf a
  decreasing_by
  all_goals
    have := List.sizeOf_lt_of_mem (List.mem_of_getElem? hi)
    simp
    omega
theorem leL_fr {w : World} {A : Nat → Prop} {l l' : List AV} {vs : List Value} (h : leL l l') (h1 : vs.length = l'.length) (h2 : ∀ (i : Nat) (a : AV), l'[i]? = some a → FR w A a (vs.getD i undef)) : vs.length = l.length ∧ ∀ (i : Nat) (a : AV), l[i]? = some a → FR w A a (vs.getD i undef) :=
  ⟨by rw [h1, h.len], fun i a hi => by obtain ⟨b, hb, hab⟩ := h.at_ i a hi; exact leP_fr a b _ hab (h2 i b hb)⟩
theorem leP_refl : ∀ (a : AV), leP a a
  | .agg l => by simp only [leP]; exact ⟨l, rfl, leL_refl l⟩
  | .tup l => by simp only [leP]; exact ⟨l, rfl, leL_refl l⟩
  | .undef | .sl _ _ | .tight _ _ | .bool _ | .int _ _ | .str _ | .nilsl | .own _ _ | .ref _ _ _ | .nilp | .fp _ | .lv _ _ _ | .nilmap | .fmap _ | .omap _ | .iter _ _ | .func _ _ _ | .nilfunc | .ifc _ _ | .nili => by simp [leP]
  where leL_refl : ∀ (l : List AV), leL l l
  | [] => by simp [leL]
  | a :: r => by simp only [leL]; exact ⟨leP_refl a, leL_refl r⟩
mutual
def AV.flat : AV → Bool
  | .ref _ _ _ | .lv _ _ _ | .own _ _ | .omap _ | .iter _ _ | .fp _ | .fmap _ | .tight _ _ => false
  | .sl _ l => l.isEmpty
  | .func _ a b => flatL a && flatL b
  | .agg l => flatL l
  | .tup l => flatL l
  | .ifc _ a => a.flat
  | .undef | .bool _ | .int _ _ | .str _ | .nilsl | .nilp | .nilmap | .nilfunc | .nili => true
def flatL : List AV → Bool
  | [] => true
  | a :: r => a.flat && flatL r
end
theorem flatL_at : ∀ {l : List AV}, flatL l = true → ∀ (i : Nat) (a : AV), l[i]? = some a → a.flat = true
  | [], _, i, a, h => by simp at h
  | b :: r, h, i, a, hi => by
    simp only [flatL, Bool.and_eq_true] at h
    cases i with
    | zero => simp at hi; subst hi; exact h.1
    | succ i => exact flatL_at h.2 i a (by simpa using hi)
theorem FR.flat {w w' : World} {A A' : Nat → Prop} {a : AV} {v : Value} (h : FR w A a v) (hf : a.flat = true) : FR w' A' a v := by
  induction h with
  | undef v => exact .undef v
  | bool b => exact .bool b
  | int k i => exact .int k i
  | str s h => exact .str s h
  | nilsl => exact .nilsl
  | slnil n => exact .slnil n
  | slmt n a cap h => exact .slmt n a cap h
  | sl n l b o cap h1 h2 h3 h4 h5 h6 ih =>
    simp only [AV.flat, List.isEmpty_iff] at hf
    subst hf
    exact .sl n [] b o cap h1 h2 h3 (fun i e h => by simp at h) (fun i e j a h => by simp at h) (fun i e j a h => by simp at h)
  | tight n l ad h ih => simp [AV.flat] at hf
  | nilp => exact .nilp
  | fp l b o h1 h2 ih => simp [AV.flat] at hf
  | nilmap => exact .nilmap
  | fmap => simp [AV.flat] at hf
  | func fn first caps us vs h1 h2 h3 h4 ih1 ih2 =>
    simp only [AV.flat, Bool.and_eq_true] at hf
    exact .func fn first caps us vs h1 h2 (fun i a ha => ih1 i a ha (flatL_at hf.1 i a ha)) (fun i a ha => ih2 i a ha (flatL_at hf.2 i a ha))
  | nilfunc => exact .nilfunc
  | ifc t v u h ih => exact .ifc t v u (ih (by simpa [AV.flat] using hf))
  | nili => exact .nili
  | agg l vs h1 h2 ih => exact .agg l vs h1 fun i a ha => ih i a ha (flatL_at (by simpa [AV.flat] using hf) i a ha)
  | tup l vs h1 h2 ih => exact .tup l vs h1 fun i a ha => ih i a ha (flatL_at (by simpa [AV.flat] using hf) i a ha)
def Ends (up : Bool) (w : World) (A : Nat → Prop) (R : AV → Prop) : Ending → World → Prop
  | .returned v, w' => ∃ r, R r ∧ FR w' A r v ∧ Fr (fun _ => False) w w'
  | .panicked _, _ => False
  | .outgrown, _ => up = true
def Callable (P : Program) (f : FuncId) : Prop := ∃ fn, P.funcs[f]? = some fn ∧ (fn.name == "runtime.NumGoroutine") = false ∧ fn.body.isNone = false
def PCall (P : Program) (up : Bool) (f : FuncId) (args : List AV) (R : AV → Prop) : Prop :=
  Callable P f ∧ ∀ (w : World) (A : Nat → Prop) (vs : List Value), (∀ b, A b → b < w.heap.size) → vs.length = args.length → (∀ (i : Nat) (a : AV), args[i]? = some a → FR w A a (vs.getD i undef)) →
    Calls P f vs.toArray w (Ends up w A R)
theorem PCall.mono {P : Program} {up : Bool} {f : FuncId} {args : List AV} {R R' : AV → Prop} (h : PCall P up f args R) (hr : ∀ r, R r → R' r) : PCall P up f args R' :=
  ⟨h.1, fun w A vs h1 h2 h3 => (h.2 w A vs h1 h2 h3).mono fun e w' he => by
    cases e with
    | returned v => obtain ⟨r, k1, k2, k3⟩ := he; exact ⟨r, hr r k1, k2, k3⟩
    | panicked c => exact he
    | outgrown => exact he⟩
theorem run_enter {P : Program} {f : FuncId} (hc : Callable P f) {o : Oper} {x : Operand} {xs : Array Operand} {ts : Array TypeId} {a : Act} {w : World} {us vs : List Value} (ho : o.op = .call { callee := .value x, args := xs, argTypes := ts })
    (hx : a.eval x = .func (.func f) us.toArray vs.toArray) : (execOp a.eval o).run P w = .ok (.enter f (us ++ xs.toList.map a.eval ++ vs).toArray) w := by
  obtain ⟨fn, h1, h2, h3⟩ := hc
  have e : (us.toArray ++ xs.map a.eval ++ vs.toArray) = (us ++ xs.toList.map a.eval ++ vs).toArray := by
    apply Array.toList_inj.1
    simp
  have hn : ¬ fn.name = "runtime.NumGoroutine" := by simpa using h2
  rw [← e]
  simp only [execOp, ho, resolve, hx, Deferred.ofValue, Sem.run_bind, Sem.run_pure, Result.andThen_ok, invoke, callFunc]
  simp only [run_program, Result.andThen_ok, h1, h2, h3]
  rfl
section
variable {P : Program} {up : Bool} {o : Oper} {σ : St} {K : St → Prop}
theorem Holds.same {A0 D0 : Nat → Prop} {w0 : World} {nt : Nat} {a : Act} {w w' : World} {G : Nat → Option GR} (h : Holds A0 D0 w0 nt σ a w G) (hf : Fr (fun _ => False) w w') : Holds A0 D0 w0 nt σ a w' G := by
  have hb : ∀ b, b < w.heap.size → w'.heap[b]? = w.heap[b]? := fun b hb => hf.block b hb id
  have hkeep : ∀ {a : AV} {v : Value}, Rel w (Own A0 G) G σ.n a v → Rel w' (Own A0 G) G σ.n a v := fun hr => hr.keep (Nat.le_refl _) (fun b hb' _ => hb b hb') (fun _ _ h => h) (fun _ _ _ _ _ h => h) (fun _ _ _ _ _ h => h)
  exact h.change (σ' := σ) (G' := G) id (fun _ => False) (Nat.le_refl _) (fun b hb' _ => hb b hb') ⟨hf.os, hf.tape, hf.output, hf.size⟩ (fun b hb => .inl hb) (fun a v hr => hkeep hr) rfl (fun _ _ => rfl) h.inv.dom
    (fun x _ => ⟨by cases getS σ.s x <;> simp, rfl⟩) (fun x g _ hg b hrb => by
      by_cases hlt : b < w.heap.size
      · exact hb b hlt
      · exact absurd (rfp_lt h.inv ⟨x, g, hg, hrb⟩) hlt) (fun _ _ _ hc => hc.elim) (fun _ _ _ _ hc => hc.elim) (mapT_id _).symm
end
end Go.Ab
namespace Go.Ab
open Go Go.RowKit
theorem rel_append {w : World} {A : Nat → Prop} {G : Nat → Option GR} {n : Nat} {l l' : List AV} {vs vs' : List Value} (h1 : vs.length = l.length) (h2 : vs'.length = l'.length) (h3 : ∀ (i : Nat) (a : AV), l[i]? = some a → Rel w A G n a (vs.getD i undef))
    (h4 : ∀ (i : Nat) (a : AV), l'[i]? = some a → Rel w A G n a (vs'.getD i undef)) : (vs ++ vs').length = (l ++ l').length ∧ ∀ (i : Nat) (a : AV), (l ++ l')[i]? = some a → Rel w A G n a ((vs ++ vs').getD i undef) := by
  refine ⟨by simp [h1, h2], fun i a hi => ?_⟩
  rw [List.getElem?_append] at hi
  rw [List.getD_eq_getElem?_getD, List.getElem?_append]
  by_cases hlt : i < l.length
  · rw [if_pos hlt] at hi
    rw [if_pos (by omega), ← List.getD_eq_getElem?_getD]
    exact h3 i a hi
  · rw [if_neg hlt] at hi
    rw [if_neg (by omega), ← List.getD_eq_getElem?_getD, h1]
    exact h4 _ a hi
section
variable {P : Program} {TT : TTab} {up : Bool} {o : Oper} {σ : St} {K : St → Prop}
def callL (σ : St) (first : List AV) (xs : List Operand) (caps : List AV) : List AV := first ++ xs.map (ev σ) ++ caps
theorem Holds.callArgs {A0 D0 : Nat → Prop} {w0 : World} {nt : Nat} {a : Act} {w : World} {G : Nat → Option GR} (h : Holds A0 D0 w0 nt σ a w G) {x : Operand} {f : FuncId} {first caps : List AV} (hx : Ab.ev σ x = .func (.func f) first caps) (xs : List Operand) :
    ∃ us vs : List Value, a.eval x = .func (.func f) us.toArray vs.toArray ∧ (us ++ xs.map a.eval ++ vs).length = (callL σ first xs caps).length ∧
      ∀ (i : Nat) (b : AV), (callL σ first xs caps)[i]? = some b → Rel w (Own A0 G) G σ.n b ((us ++ xs.map a.eval ++ vs).getD i undef) := by
  have he := h.ev x
  rw [hx] at he
  obtain ⟨us, vs, e1, e2, e3, e4, e5⟩ := he.func_inv
  refine ⟨us, vs, e1, ?_⟩
  obtain ⟨g1, g2⟩ := rel_append (l := first) (l' := xs.map (Ab.ev σ)) (vs := us) (vs' := xs.map a.eval) e2 (by simp) e4 (fun i b hi => by
    simp only [List.getElem?_map, Option.map_eq_some_iff] at hi
    obtain ⟨y, hy, rfl⟩ := hi
    have : (xs.map a.eval).getD i undef = a.eval y := by apply getD_of; simp [hy]
    rw [this]
    exact h.ev y)
  exact rel_append g1 e3 g2 e5
theorem snd_pcall {x : Operand} {xs : Array Operand} {ts : Array TypeId} {f : FuncId} {first caps args : List AV} {R : AV → Prop} (ho : o.op = .call { callee := .value x, args := xs, argTypes := ts }) (hx : ev σ x = .func (.func f) first caps)
    (hp : PCall P up f args R) (ha : leL args ((callL σ first xs.toList caps).map (view 9 σ))) (hk : ∀ r, R r → r.flat = true ∧ K (σ.put o.dst r)) : SndU P up o σ K := by
  intro A0 D0 w0 nt a w G Q hd hu h
  left
  obtain ⟨us, vs, e1, e2, e3⟩ := h.callArgs hx xs.toList
  obtain ⟨f1, f2⟩ := leL_fr (w := w) (A := A0) (vs := us ++ xs.toList.map a.eval ++ vs) ha (by simpa using e2) (fun i b hi => by
    simp only [List.getElem?_map, Option.map_eq_some_iff] at hi
    obtain ⟨b', hb', rfl⟩ := hi
    exact h.view 9 b' _ (e3 i b' hb'))
  have hc := hp.2 w A0 (us ++ xs.toList.map a.eval ++ vs) (fun b hb => Nat.lt_of_lt_of_le (h.a0lt b hb) h.fr.size) f1 f2
  simp only [Oper.wp, run_enter hp.1 ho e1, Oper.upon]
  refine hc.mono fun e w' he => ?_
  cases e with
  | returned v =>
    obtain ⟨r, k1, k2, k3⟩ := he
    obtain ⟨q1, q2⟩ := hk r k1
    exact ⟨_, G, (h.same k3).put (.fr _ _ (k2.flat q1)) hd, q2⟩
  | panicked c => exact he.elim
  | outgrown => exact hu he
theorem snd_pcallA {x : Operand} {xs : Array Operand} {ts : Array TypeId} {f : FuncId} {first caps args : List AV} {R : AV → Prop} (ho : o.op = .call { callee := .value x, args := xs, argTypes := ts }) (hx : ev σ x = .func (.func f) first caps)
    (hp : PCall P up f args R) (ha : leL args (callL σ first xs.toList caps)) (hpu : pureL (callL σ first xs.toList caps) = true) (hk : ∀ r, R r → K (σ.put o.dst r)) : SndU P up o σ K := by
  intro A0 D0 w0 nt a w G Q hd hu h
  left
  obtain ⟨us, vs, e1, e2, e3⟩ := h.callArgs hx xs.toList
  obtain ⟨f1, f2⟩ := leL_fr (w := w) (A := Own A0 G) ha e2 (fun i b hi => (e3 i b hi).pure (pureL_at hpu i b hi))
  have hsz : ∀ b, Own A0 G b → b < w.heap.size := fun b hb => hb.elim (fun hb => Nat.lt_of_lt_of_le (h.a0lt b hb) h.fr.size) (fun hb => rfp_lt h.inv hb)
  have hc := hp.2 w (Own A0 G) (us ++ xs.toList.map a.eval ++ vs) hsz f1 f2
  simp only [Oper.wp, run_enter hp.1 ho e1, Oper.upon]
  refine hc.mono fun e w' he => ?_
  cases e with
  | returned v =>
    obtain ⟨r, k1, k2, k3⟩ := he
    exact ⟨_, G, (h.same k3).put (.fr _ _ k2) hd, hk r k1⟩
  | panicked c => exact he.elim
  | outgrown => exact hu he
theorem CWops.call {nt : Nat} {all : Array Oper} {os : List Oper} {K : St → Prop} {d : Option Tmp} {ty : TypeId} {pos : String} {af : Array Edge} {gd : Option (Nat × Bool)} {x : Operand} {xs : Array Operand} {ts : Array TypeId} {f : FuncId} {first caps args : List AV} {R : AV → Prop}
    (hp : PCall P up f args R) (hw : wantd all σ ⟨d, .call ⟨.value x, xs, ts⟩, ty, pos, af, gd⟩ = some true) (hx : ev σ x = .func (.func f) first caps)
    (ha : leL args ((callL σ first xs.toList caps).map (view 9 σ))) (hk : ∀ r, R r → r.flat = true ∧ CWops P up nt all os (σ.put d r) K) : CWops P up nt all (⟨d, .call ⟨.value x, xs, ts⟩, ty, pos, af, gd⟩ :: os) σ K :=
  CWops.step hw (snd_pcall rfl hx hp ha hk)
theorem CWops.callA {nt : Nat} {all : Array Oper} {os : List Oper} {K : St → Prop} {d : Option Tmp} {ty : TypeId} {pos : String} {af : Array Edge} {gd : Option (Nat × Bool)} {x : Operand} {xs : Array Operand} {ts : Array TypeId} {f : FuncId} {first caps args : List AV} {R : AV → Prop}
    (hp : PCall P up f args R) (hw : wantd all σ ⟨d, .call ⟨.value x, xs, ts⟩, ty, pos, af, gd⟩ = some true) (hx : ev σ x = .func (.func f) first caps)
    (ha : leL args (callL σ first xs.toList caps)) (hpu : pureL (callL σ first xs.toList caps) = true) (hk : ∀ r, R r → CWops P up nt all os (σ.put d r) K) : CWops P up nt all (⟨d, .call ⟨.value x, xs, ts⟩, ty, pos, af, gd⟩ :: os) σ K :=
  CWops.step hw (snd_pcallA rfl hx hp ha hpu hk)
def retQ (TT : TTab) (rs : List ResultVar) (R : AV → Prop) (e : Exit) (σ : St) : Prop := (e = .normal ∨ e = .ret) ∧ ∃ l r, resL TT σ rs = some l ∧ leP r (view 9 σ (one l)) ∧ R r
def tmps0 : Nat → List AV → List (Nat × AV)
  | _, [] => []
  | i, a :: r => (i, a) :: tmps0 (i + 1) r
theorem tmps0_get : ∀ (k : Nat) (l : List AV) (i : Nat), getT (tmps0 k l) i = if k ≤ i then l.getD (i - k) .undef else .undef
  | k, [], i => by simp [tmps0, getT]
  | k, a :: r, i => by
    simp only [tmps0, getT, tmps0_get (k + 1) r i]
    by_cases h1 : k = i
    · subst h1; simp
    · by_cases h2 : k ≤ i
      · rw [if_neg h1, if_pos (by omega), if_pos h2, show i - k = (i - (k + 1)) + 1 by omega]; simp
      · rw [if_neg h1, if_neg (by omega), if_neg h2]
theorem PCall.intro (htt : TTok P TT) {f : FuncId} {fn : Func} {c : Code} {args : List AV} {R : AV → Prop} (hf : P.funcs[f]? = some fn) (hn : (fn.name == "runtime.NumGoroutine") = false) (hb : fn.body = some c) (hl : args.length ≤ fn.ntmps)
    (hk : (∀ a ∈ args, Lens a) → CW P up 0 fn.ntmps c { n := 0, t := tmps0 0 args, s := [] } (retQ TT fn.results.toList R)) : PCall P up f args R := by
  refine ⟨⟨fn, hf, hn, by rw [hb]; rfl⟩, fun w A vs hA hvl hr => ?_⟩
  have hlens : ∀ a ∈ args, Lens a := fun a ha => by
    obtain ⟨i, hi⟩ := List.getElem?_of_mem ha
    exact ⟨w, A, _, hr i a hi⟩
  refine calls_of_wp hf hb ?_
  refine hk hlens A (fun _ => False) w _ w (fun _ => none) _ (fun hu => ⟨⟨#[], []⟩, w, hu⟩) ?_ fun e a' w' σ' G' hh _ hq => ?_
  · have hsz : (vs.toArray ++ Array.replicate (fn.ntmps - vs.toArray.size) undef).size = fn.ntmps := by simp; omega
    refine ⟨⟨fun x => rfl, fun x r g h => (by cases h), fun x r g h => (by cases h), fun x g h => (by cases h), fun x g b h => (by cases h), fun x g x' g' h => (by cases h), fun x g h => (by cases h), fun b ⟨x, g, h, _⟩ => (by cases h)⟩,
      hsz, rfl, fun i hi => ?_, fun i hi => ?_, ⟨rfl, rfl, rfl, Nat.le_refl _, fun _ _ _ => rfl⟩, fun b ⟨x, g, h, _⟩ => (by cases h), hA⟩
    · rw [tmps0_get, if_pos (Nat.zero_le i), Nat.sub_zero]
      by_cases hlt : i < args.length
      · have h1 : args[i]? = some args[i] := List.getElem?_eq_getElem hlt
        have h2 := hr i _ h1
        rw [getD_of h1]
        have h3 : (vs.toArray ++ Array.replicate (fn.ntmps - vs.toArray.size) undef).getD i undef = vs.getD i undef := by
          rw [Array.getD_eq_getD_getElem?, List.getD_eq_getElem?_getD, Array.getElem?_append_left (by simp; omega), List.getElem?_toArray]
        rw [h3]
        exact .fr _ _ (h2.keep (fun _ _ _ => rfl) (fun b _ hb => hb.elim id fun ⟨x, g, h, _⟩ => by cases h))
      · have : args.getD i .undef = .undef := by simp [List.getElem?_eq_none (Nat.le_of_not_lt hlt)]
        rw [this]
        exact .fr _ _ (.undef _)
    · rw [tmps0_get, if_pos (Nat.zero_le i), Nat.sub_zero]
      simp [List.getElem?_eq_none (show args.length ≤ i by omega)]
  · obtain ⟨he, l, r, hl, hv, hR⟩ := hq
    obtain ⟨v, k1, k2⟩ := hh.results htt hl
    have hfr := leP_fr _ _ _ hv (hh.view 9 _ _ k2)
    rcases he with rfl | rfl
    · exact ⟨hh.defers, v, k1, r, hR, hfr, hh.fr⟩
    · exact ⟨hh.defers, v, k1, r, hR, hfr, hh.fr⟩
end
end Go.Ab
namespace Go.Ab
open Go Go.RowKit
def kindOf : TypeDesc → TK
  | .int k => .int k
  | .bool => .bool
  | .string => .str
  | .pointer e => .ptr e
  | .slice e => .slice e
  | .array n e => .array n e
  | .map k e => .map k e
  | .struct f => .struct (f.toList.map fun x => (x.type, x.offset))
  | .func _ _ _ => .func
  | .interface ms => .iface ms.toList
  | _ => .other
def allCell' : List Value → Bool
  | [] => true
  | v :: r => v.oneCell' && allCell' r
theorem allCell'_at : ∀ {l : List Value}, allCell' l = true → ∀ (i : Nat) (v : Value), l[i]? = some v → v.oneCell' = true
  | [], _, i, v, h => by simp at h
  | b :: r, h, i, a, hi => by
    simp only [allCell', Bool.and_eq_true] at h
    cases i with
    | zero => simp at hi; subst hi; exact h.1
    | succ i => exact allCell'_at h.2 i a (by simpa using hi)
def isAggV : Value → Bool
  | .agg _ => true
  | _ => false
def goodZ (k : TK) (z : Value) : Bool := allCell' z.cells.toList && (match k.agg with | true => isAggV z | false => z.oneCell')
def namesOK : List Field → Bool
  | [] => true
  | f :: fs => (match decEq f.name "_" with | .isTrue _ => false | .isFalse _ => true) && namesOK fs
theorem namesOK_at : ∀ {l : List Field}, namesOK l = true → ∀ f ∈ l, f.name ≠ "_"
  | [], _, f, hf => by cases hf
  | g :: l, h, f, hf => by
    simp only [namesOK, Bool.and_eq_true] at h
    rcases List.mem_cons.1 hf with rfl | hf
    · intro e
      have h1 := h.1
      split at h1
      · cases h1
      · rename_i hn _; exact hn e
    · exact namesOK_at h.2 f hf
def isStruct : TypeDesc → Bool
  | .struct _ => true
  | _ => false
def eqsB (P : Program) (t : Nat) : Bool :=
  match P.underlying t with
  | some (.struct _) => !P.stoodInHeld t && !P.eqGuardType P.depth t && namesOK (P.fieldsOf t).toList
  | _ => false
def tiOf (P : Program) (t : Nat) : Option TI :=
  match P.underlying t with
  | some d => match P.info? t with
    | some inf => match inf.zero with
      | some z => if goodZ (kindOf d) z = true then some ⟨kindOf d, inf.size, inf.bytes, z.cells.toList.map ofV, eqsB P t⟩ else none
      | none => none
    | none => none
  | none => none
theorem tiOf_ok (P : Program) : TTok P (tiOf P) := by
  intro t i h
  unfold tiOf at h
  split at h
  · rename_i d hd
    split at h
    · rename_i inf hi
      split at h
      · rename_i z hz
        split at h
        · rename_i hc
          cases h
          simp only [goodZ, Bool.and_eq_true] at hc
          refine ⟨⟨inf, z, hi, rfl, rfl, hz, ⟨by simp, fun j a v ha hv => ?_⟩, fun hk => ?_, fun hk => ?_⟩, ?_, ?_⟩
          · simp only [List.getElem?_map, hv, Option.map_some, Option.some.injEq] at ha
            subst ha
            exact ⟨fun w A => ofV_fr w A v, allCell'_at hc.1 j v hv⟩
          · have h2 := hc.2
            simp only at hk
            rw [hk] at h2; simp only at h2
            cases z <;> first | exact ⟨_, rfl⟩ | cases h2
          · have h2 := hc.2
            simp only at hk
            rw [hk] at h2; simp only at h2
            exact h2
          · cases d <;> simp only [kindOf, KindOK] <;> first | exact hd | (exact ⟨_, hd, rfl⟩) | (exact ⟨_, _, _, hd⟩) | (refine ⟨_, hd, ?_, ?_, ?_⟩ <;> intros <;> simp)
          · intro he
            simp only [eqsB] at he
            split at he
            · rename_i f hf
              simp only [Bool.and_eq_true, Bool.not_eq_true'] at he
              exact ⟨he.1.1, he.1.2, by simp only [Program.fieldsOf, hf], namesOK_at he.2⟩
            · cases he
        · cases h
      · cases h
    · cases h
  · cases h
end Go.Ab
namespace Go.Ab
open Go Go.RowKit
structure Ext (τ σ : St) : Prop where
  s : ∀ y r, getS τ.s y = some r → getS σ.s y = some r
  n : τ.n ≤ σ.n
theorem Ext.cell {τ σ : St} (h : Ext τ σ) {y : Nat} {p : List (Nat × Nat)} {c : Nat} (hne : cellAtB τ y p c ≠ .undef) : cellAtB σ y p c = cellAtB τ y p c := by
  unfold cellAtB at *
  split at hne
  · rename_i r hr
    rw [h.s y r hr]
  · exact absurd rfl hne
theorem fillB_ev {τ σ : St} {TT : TTab} {fs : List (Nat × Nat)} : ∀ {parts : List (Nat × Operand)} {cs : List AV}, (∀ p ∈ parts, ev σ p.2 = ev τ p.2) → fillB σ TT fs cs parts = fillB τ TT fs cs parts
  | [], cs, _ => rfl
  | (i, x) :: r, cs, h => by
    have h1 := h (i, x) (by simp)
    have ih := fun cs => fillB_ev (TT := TT) (fs := fs) (parts := r) (cs := cs) (fun p hp => h p (by simp [hp]))
    simp only at h1
    simp only [fillB, h1, ih]
theorem fillR_ev {τ σ : St} {m : Nat} : ∀ {parts : List (Nat × Operand)} {rows : List (List AV)}, (∀ p ∈ parts, ev σ p.2 = ev τ p.2) → fillR σ m rows parts = fillR τ m rows parts
  | [], rows, _ => rfl
  | (i, x) :: r, rows, h => by
    have h1 := h (i, x) (by simp)
    have ih := fun rows => fillR_ev (m := m) (parts := r) (rows := rows) (fun p hp => h p (by simp [hp]))
    simp only at h1
    simp only [fillR, h1, ih]
theorem mapOf_ext {τ σ : St} (h : Ext τ σ) {a : AV} {es : List (Int × AV)} (hm : mapOf τ a = some es) : mapOf σ a = some es := by
  unfold mapOf at *
  split at hm
  · exact hm
  · exact hm
  · rename_i x p c
    split at hm
    · rename_i es' hc
      simp only [h.cell (by rw [hc]; simp), hc]; exact hm
    · cases hm
  · cases hm
theorem rLoad_ext {τ σ : St} (h : Ext τ σ) {TT : TTab} {t : Nat} {a v : AV} {r : Option Root} (hm : rLoad TT τ t a = some (v, r)) : rLoad TT σ t a = some (v, r) := by
  unfold rLoad at *
  split at hm
  · split at hm
    · rename_i hok
      rw [if_pos hok]
      split at hm
      · split at hm
        · rename_i r' hr
          rw [h.s _ _ hr]; exact hm
        · cases hm
      · exact hm
      · cases hm
    · cases hm
  · cases hm
theorem rIndexAddr_ext {τ σ : St} (h : Ext τ σ) {TT : TTab} {t : Nat} {a b v : AV} {r : Option Root} (hm : rIndexAddr TT τ t a b = some (v, r)) : rIndexAddr TT σ t a b = some (v, r) := by
  unfold rIndexAddr at *
  split at hm
  · split at hm
    · split at hm
      · split at hm
        · rename_i hs
          rw [if_pos hs]
          split at hm
          · exact hm
          · split at hm
            · split at hm
              · rename_i hc
                simp only [h.cell (by rw [hc]; simp), hc]; exact hm
              · cases hm
            · cases hm
          · cases hm
        · cases hm
      · cases hm
    · exact hm
    · cases hm
  · cases hm
theorem rLookup_ext {τ σ : St} (h : Ext τ σ) {TT : TTab} {t : Nat} {m k v : AV} {ok : Bool} {r : Option Root} (hm : rLookup TT τ t m k ok = some (v, r)) : rLookup TT σ t m k ok = some (v, r) := by
  unfold rLookup at *
  split at hm
  · split at hm
    · split at hm
      · split at hm
        · split at hm
          · split at hm
            · rename_i es hes
              simp only [mapOf_ext h hes]; exact hm
            · cases hm
          · cases hm
        · cases hm
      · cases hm
    · cases hm
  · cases hm
theorem eLen_ext {τ σ : St} (h : Ext τ σ) {TT : TTab} {t : Nat} {a : AV} {e : Ev} (hm : eLen TT τ t a = some e) : eLen TT σ t a = some ⟨σ, e.v, True⟩ := by
  unfold eLen at *
  split at hm
  · split at hm
    · split at hm
      · cases hm; rfl
      · cases hm; rfl
      · split at hm
        · rename_i hc
          cases hm
          simp only [h.cell (by rw [hc]; simp), hc]
        · cases hm
      · cases hm
    · split at hm
      · cases hm; rfl
      · cases hm
    · split at hm
      · rename_i es hes
        cases hm
        simp only [mapOf_ext h hes]
      · cases hm
    · cases hm
  · cases hm
def lenC (TT : TTab) (σ : St) (f : Callee) (args : List Operand) (ts : List Nat) : Option AV :=
  match f with
  | .builtin .len => match args with
    | [x] => match ts with
      | [t] => (eLen TT σ t (ev σ x)).map (·.v)
      | _ => none
    | _ => none
  | _ => none
def pval (TT : TTab) (σ : St) (o : Op) : Option (AV × Option Root) :=
  match o with
  | .call c => (lenC TT σ c.callee c.args.toList c.argTypes.toList).map fun v => (v, none)
  | o => rop TT σ o
theorem pval_ext {TT : TTab} {τ σ : St} (h : Ext τ σ) {o : Op} {v : AV} {r : Option Root} (ho : ∀ x ∈ o.operands, ev σ x = ev τ x) (hr : r.isSome = true → σ.n = τ.n) (hv : pval TT τ o = some (v, r)) : pval TT σ o = some (v, r) := by
  cases o <;> simp only [pval] at hv ⊢
  case call c =>
    obtain ⟨f, args, ts⟩ := c
    simp only [Option.map_eq_some_iff] at hv ⊢
    obtain ⟨v', h1, h2⟩ := hv
    refine ⟨v', ?_, h2⟩
    unfold lenC at *
    split at h1
    · split at h1
      · rename_i x hx
        split at h1
        · rename_i t ht
          have hx' : ev σ x = ev τ x := ho x (by
            have hx : args = #[x] := by rw [← Array.toList_inj]; exact hx
            subst hx
            simp [Op.operands, Call.operands])
          simp only [Option.map_eq_some_iff] at h1 ⊢
          obtain ⟨e, h3, h4⟩ := h1
          rw [hx']
          exact ⟨_, eLen_ext h h3, h4⟩
        · cases h1
      · cases h1
    · cases h1
  case load t x => simp only [rop] at hv ⊢; rw [ho x (by simp [Op.operands])]; exact rLoad_ext h hv
  case indexAddr t x y => simp only [rop] at hv ⊢; rw [ho x (by simp [Op.operands]), ho y (by simp [Op.operands])]; exact rIndexAddr_ext h hv
  case lookup t x y ok => simp only [rop] at hv ⊢; rw [ho x (by simp [Op.operands]), ho y (by simp [Op.operands])]; exact rLookup_ext h hv
  case move x => simp only [rop] at hv ⊢; rw [ho x (by simp [Op.operands])]; exact hv
  case assign x => simp only [rop] at hv ⊢; rw [ho x (by simp [Op.operands])]; exact hv
  case pick c x y => simp only [rop] at hv ⊢; rw [ho x (by simp [Op.operands]), ho y (by simp [Op.operands]), ho c (by simp [Op.operands])]; exact hv
  case nilCheck x => simp only [rop] at hv ⊢; rw [ho x (by simp [Op.operands])]; exact hv
  case fieldAddr s x f => simp only [rop] at hv ⊢; rw [ho x (by simp [Op.operands])]; exact hv
  case field s x f => simp only [rop] at hv ⊢; rw [ho x (by simp [Op.operands])]; exact hv
  case index s x y => simp only [rop] at hv ⊢; rw [ho x (by simp [Op.operands]), ho y (by simp [Op.operands])]; exact hv
  case binOp op t x y u => simp only [rop] at hv ⊢; rw [ho x (by simp [Op.operands]), ho y (by simp [Op.operands])]; exact hv
  case unOp op t x => simp only [rop] at hv ⊢; rw [ho x (by simp [Op.operands])]; exact hv
  case makeInterface t x => simp only [rop] at hv ⊢; rw [ho x (by simp [Op.operands])]; exact hv
  case makeFunc fn first caps =>
    simp only [rop] at hv ⊢
    rw [List.map_congr_left (f := ev σ) (g := ev τ) (l := first.toList) (fun x hx => ho x (by simp [Op.operands]; left; simpa using hx)), List.map_congr_left (f := ev σ) (g := ev τ) (l := caps.toList) (fun x hx => ho x (by simp [Op.operands]; right; simpa using hx))]
    exact hv
  case extract x k => simp only [rop] at hv ⊢; rw [ho x (by simp [Op.operands])]; exact hv
  case typeAssert x s t ok => simp only [rop] at hv ⊢; rw [ho x (by simp [Op.operands])]; exact hv
  case build t parts =>
    simp only [rop, rBuild] at hv ⊢
    have hp : ∀ p ∈ parts.toList, ev σ p.2 = ev τ p.2 := fun p hp => ho p.2 (by
      simp only [Op.operands, List.mem_toArray, List.mem_map]; exact ⟨p, hp, rfl⟩)
    simp only [fillB_ev hp]
    exact hv
  case buildSlice t n parts =>
    simp only [rop, rBuildSlice] at hv ⊢
    have hp : ∀ p ∈ parts.toList, ev σ p.2 = ev τ p.2 := fun p hp => ho p.2 (by
      simp only [Op.operands, List.mem_toArray, List.mem_map]; exact ⟨p, hp, rfl⟩)
    simp only [fillR_ev hp]
    have hn : σ.n = τ.n := hr (by
      split at hv
      · split at hv
        · split at hv
          · split at hv
            · split at hv
              · cases hv; rfl
              · cases hv
            · cases hv
          · cases hv
        · cases hv
      · cases hv)
    rw [hn]; exact hv
  case alloc t =>
    simp only [rop] at hv ⊢
    have hn : σ.n = τ.n := hr (by
      split at hv
      · cases hv; rfl
      · cases hv)
    rw [hn]; exact hv
  case makeMap t x =>
    cases x with
    | none => simp only [rop] at hv ⊢; cases hv; rw [hr rfl]
    | some x => simp [rop] at hv
  all_goals (simp only [rop] at hv; cases hv)
theorem pval_sound {P : Program} {TT : TTab} (htt : TTok P TT) {o : Oper} {σ : St} {v : AV} {r : Option Root} (h : pval TT σ o.op = some (v, r)) : Snd P o σ (fun σ' => σ' = newR σ o.dst v r) := by
  have viaR : rop TT σ o.op = some (v, r) → Snd P o σ (fun σ' => σ' = newR σ o.dst v r) := rop_sound htt
  cases ho : o.op <;> rw [ho] at h viaR <;> simp only [pval] at h <;> try exact viaR h
  rename_i c
  obtain ⟨f, args, ts⟩ := c
  simp only [Option.map_eq_some_iff] at h
  obtain ⟨v', h1, h2⟩ := h
  cases h2
  unfold lenC at h1
  split at h1
  · split at h1
    · rename_i x hx
      split at h1
      · rename_i t ht
        simp only [Option.map_eq_some_iff] at h1
        obtain ⟨e, h3, h4⟩ := h1
        have h5 := eLen_ext (τ := σ) (σ := σ) ⟨fun _ _ h => h, Nat.le_refl _⟩ h3
        have hx : args = #[x] := by rw [← Array.toList_inj]; exact hx
        have ht : ts = #[t] := by rw [← Array.toList_inj]; exact ht
        subst hx ht
        have := eop_sound (e := ⟨σ, e.v, True⟩) htt (o := o) (σ := σ) (by rw [ho]; simp only [eop, eCall]; exact h5) trivial
        rw [h4] at this
        exact this
      · cases h1
    · cases h1
  · cases h1
end Go.Ab
namespace Go.Ab
open Go Go.RowKit
def bnd (o : Oper) : List Nat := o.after.toList.filterMap fun e => if Region.binds .any e = true then some e.on else none
theorem mem_bnd {o : Oper} {j : Nat} : j ∈ bnd o ↔ ∃ e ∈ o.after, Region.binds .any e = true ∧ e.on = j := by
  unfold bnd
  simp only [List.mem_filterMap, Array.mem_toList_iff]
  constructor
  · rintro ⟨e, h1, h2⟩
    split at h2
    · rename_i hb; cases h2; exact ⟨e, h1, hb, rfl⟩
    · cases h2
  · rintro ⟨e, h1, h2, h3⟩
    exact ⟨e, h1, by rw [if_pos h2, h3]⟩
def memB (i : Nat) : List Nat → Bool
  | [] => false
  | j :: r => Nat.beq i j || memB i r
theorem memB_iff {i : Nat} : ∀ {l : List Nat}, memB i l = true ↔ i ∈ l
  | [] => by simp [memB]
  | j :: r => by simp [memB, memB_iff (l := r)]
def needsAll (ops : List Oper) : Nat → List Nat → Bool
  | 0, _ => true
  | i + 1, m => memB i m && needsAll ops i (match ops[i]? with | some o => bnd o ++ m | none => m)
def edgesDown : Nat → List Oper → Bool
  | _, [] => true
  | i, o :: os => (bnd o).all (fun j => Nat.blt j i) && edgesDown (i + 1) os
def writers (x : Nat) : Nat → List Oper → List Nat
  | _, [] => []
  | i, o :: os => (match o.dst with | some d => if Nat.beq d x then [i] else [] | none => []) ++ writers x (i + 1) os
def allIn (l m : List Nat) : Bool := l.all fun i => memB i m
def segOK (all : Array Oper) (first : List Oper) : List Oper → Bool
  | [] => true
  | o :: os => (match o.dst with | some d => Nat.beq (writers d 0 first).length 1 | none => true) && (o.looksAt all).all (fun x => allIn (writers x 0 first) (bnd o)) && segOK all first os
def tailOK (ops : List Oper) : Nat → List Oper → Bool
  | _, [] => true
  | j, o :: os => needsAll ops j (bnd o) && tailOK ops (j + 1) os
def segChk (k : Nat) (ops : Array Oper) : Bool := edgesDown 0 ops.toList && segOK ops (ops.toList.take k) (ops.toList.take k) && tailOK ops.toList k (ops.toList.drop k)
theorem mem_writers {x : Nat} : ∀ {i : Nat} {os : List Oper} {j : Nat}, j ∈ writers x i os ↔ ∃ o, os[j - i]? = some o ∧ i ≤ j ∧ o.dst = some x
  | i, [], j => by simp [writers]
  | i, o :: os, j => by
    simp only [writers, List.mem_append, mem_writers (i := i + 1) (os := os)]
    constructor
    · rintro (h | ⟨o', h1, h2, h3⟩)
      · split at h
        · rename_i d hd
          split at h
          · rename_i hb
            simp only [List.mem_singleton] at h
            subst h
            exact ⟨o, by simp, Nat.le_refl _, by rw [hd, Nat.eq_of_beq_eq_true hb]⟩
          · cases h
        · cases h
      · refine ⟨o', ?_, by omega, h3⟩
        rw [show j - i = (j - (i + 1)) + 1 by omega]
        simpa using h1
    · rintro ⟨o', h1, h2, h3⟩
      by_cases hj : j = i
      · subst hj
        simp at h1
        subst h1
        left
        rw [h3]
        simp
      · right
        refine ⟨o', ?_, by omega, h3⟩
        rw [show j - i = (j - (i + 1)) + 1 by omega] at h1
        simpa using h1
def plainB : Op → Bool
  | .move _ | .assign _ | .pick .. | .extract .. | .binOp .. | .unOp .. | .load .. | .fieldAddr .. | .indexAddr .. | .slice .. => true
  | _ => false
def Stab (P : Program) (up : Bool) (all : Array Oper) (o : Oper) (t : List (Nat × AV)) (σ0 : St) (v : AV) (r : Option Root) : Prop :=
  (plainB o.op = true → r = none) ∧ ∀ σ' : St, (∀ x ∈ o.looksAt all, getT σ'.t x = getT t x) → Ext σ0 σ' → (r.isSome = true → σ'.n = σ0.n) →
    (wantd all σ' o = some true ∧ SndU P up o σ' (fun σ'' => σ'' = newR σ' o.dst v r)) ∨ (wantd all σ' o = some false ∧ v = .tup [] ∧ r = none)
def putT (t : List (Nat × AV)) (d : Option Tmp) (v : AV) : List (Nat × AV) :=
  match d with
  | some d => (d, v) :: t
  | none => t
def Seg (P : Program) (up : Bool) (all : Array Oper) (σ0 : St) : List Oper → List (Nat × AV) → Option Root → (List (Nat × AV) → Option Root → Prop) → Prop
  | [], t, r, K => ∃ t2, (∀ x, getT t2 x = getT t x) ∧ K t2 r
  | o :: os, t, r, K => ∃ t2 v r', (∀ x, getT t2 x = getT t x) ∧ Stab P up all o t2 σ0 v r' ∧ (r' = none ∨ r = none) ∧ Seg P up all σ0 os (putT t2 o.dst v) (r'.or r) K
def endSt (σ0 : St) (t : List (Nat × AV)) : Option Root → St
  | none => { σ0 with t := t }
  | some r => { n := σ0.n + 1, t := t, s := (σ0.n, r) :: σ0.s }
structure SegV (P : Program) (up : Bool) (all : Array Oper) (σ0 : St) (os : List Oper) (t0 : List (Nat × AV)) (r0 : Option Root) (te : List (Nat × AV)) (re : Option Root) (val : Nat → AV × Option Root) (tt : Nat → List (Nat × AV)) : Prop where
  stab : ∀ (i : Nat) (o : Oper), os[i]? = some o → Stab P up all o (tt i) σ0 (val i).1 (val i).2
  tN : ∀ (x : Nat), (∀ (i : Nat) (o : Oper), os[i]? = some o → o.dst ≠ some x) → getT te x = getT t0 x
  tE : ∀ (i : Nat) (o : Oper) (x : Nat), os[i]? = some o → o.dst = some x → (∀ (j : Nat) (o' : Oper), os[j]? = some o' → o'.dst = some x → j ≤ i) → getT te x = (val i).1
  tI0 : ∀ (i x : Nat), (∀ (j : Nat) (o : Oper), j < i → os[j]? = some o → o.dst ≠ some x) → getT (tt i) x = getT t0 x
  tI : ∀ (i j : Nat) (o : Oper) (x : Nat), j < i → i < os.length → os[j]? = some o → o.dst = some x → (∀ (j' : Nat) (o' : Oper), j' < i → os[j']? = some o' → o'.dst = some x → j' ≤ j) → getT (tt i) x = (val j).1
  rOne : ∀ (i : Nat) (o : Oper), os[i]? = some o → (val i).2.isSome = true → re = (val i).2 ∧ r0 = none ∧ ∀ (j : Nat) (o' : Oper), os[j]? = some o' → (val j).2.isSome = true → j = i
  rNone : (∀ (i : Nat) (o : Oper), os[i]? = some o → (val i).2 = none) → re = r0
theorem seg_vals {P : Program} {up : Bool} {all : Array Oper} {σ0 : St} {K : List (Nat × AV) → Option Root → Prop} : ∀ {os : List Oper} {t : List (Nat × AV)} {r : Option Root}, Seg P up all σ0 os t r K →
    ∃ te re val tt, K te re ∧ SegV P up all σ0 os t r te re val tt
  | [], t, r, h => by
    obtain ⟨t2, h1, h2⟩ := h
    refine ⟨t2, r, fun _ => (.undef, none), fun _ => t, h2, ⟨fun i o hi => by simp at hi, fun x _ => h1 x, fun i o x hi => by simp at hi, fun i x _ => rfl, fun i j o x _ _ hi => by simp at hi, fun i o hi => by simp at hi, fun _ => rfl⟩⟩
  | o :: os, t, r, h => by
    obtain ⟨t2, v, r', h1, h2, h3, h4⟩ := h
    obtain ⟨te, re, val, tt, hk, hv⟩ := seg_vals h4
    have hput : ∀ x, o.dst ≠ some x → getT (putT t2 o.dst v) x = getT t x := by
      intro x hx
      unfold putT
      split
      · rename_i d hd
        simp only [getT]
        rw [if_neg (fun e => hx (by rw [hd, e]))]
        exact h1 x
      · exact h1 x
    have hputS : ∀ x, o.dst = some x → getT (putT t2 o.dst v) x = v := by
      intro x hx
      rw [hx]
      simp [putT, getT]
    let val' : Nat → AV × Option Root := fun i => match i with | 0 => (v, r') | i + 1 => val i
    let tt' : Nat → List (Nat × AV) := fun i => match i with | 0 => t2 | i + 1 => tt i
    have sh : ∀ {i : Nat} {o' : Oper}, os[i]? = some o' → (o :: os)[i + 1]? = some o' := fun h => by simpa using h
    refine ⟨te, re, val', tt', hk, ⟨fun i o' hi => ?_, fun x hx => ?_, fun i o' x hi hd hm => ?_, fun i x hx => ?_, fun i j o' x hj hil hi hd hm => ?_, fun i o' hi hs => ?_, fun hn => ?_⟩⟩
    · cases i with
      | zero => simp at hi; subst hi; exact h2
      | succ i => exact hv.stab i o' (by simpa using hi)
    · rw [hv.tN x (fun i o' hi => hx (i + 1) o' (sh hi)), hput x (hx 0 o (by simp))]
    · cases i with
      | zero =>
        simp at hi; subst hi
        rw [hv.tN x (fun i o' hi hd' => by have := hm (i + 1) o' (sh hi) hd'; omega)]
        exact hputS x hd
      | succ i => exact hv.tE i o' x (by simpa using hi) hd (fun j o'' hj hd' => by have := hm (j + 1) o'' (sh hj) hd'; omega)
    · cases i with
      | zero => exact h1 x
      | succ i =>
        show getT (tt i) x = getT t x
        rw [hv.tI0 i x (fun j o' hj hi => hx (j + 1) o' (by omega) (sh hi)), hput x (hx 0 o (by omega) (by simp))]
    · cases i with
      | zero => omega
      | succ i =>
        cases j with
        | zero =>
          simp at hi; subst hi
          show getT (tt i) x = v
          rw [hv.tI0 i x (fun j o' hj' hi hd' => by have := hm (j + 1) o' (by omega) (sh hi) hd'; omega)]
          exact hputS x hd
        | succ j =>
          exact hv.tI i j o' x (by omega) (by simpa using hil) (by simpa using hi) hd (fun j' o'' hj' hi' hd' => by have := hm (j' + 1) o'' (by omega) (sh hi') hd'; omega)
    · cases i with
      | zero =>
        simp at hi; subst hi
        have hs : r'.isSome = true := hs
        obtain ⟨x, rfl⟩ := Option.isSome_iff_exists.1 hs
        have hr : r = none := h3.resolve_left (by simp)
        subst hr
        have hnone : ∀ i o', os[i]? = some o' → (val i).2 = none := by
          intro i o' hi
          cases hvi : (val i).2 with
          | none => rfl
          | some y => have := (hv.rOne i o' hi (by rw [hvi]; rfl)).2.1; simp at this
        refine ⟨by rw [hv.rNone hnone]; simp; rfl, rfl, fun j o'' hj hjs => ?_⟩
        cases j with
        | zero => rfl
        | succ j => have := hnone j o'' (by simpa using hj); simp [val', this] at hjs
      | succ i =>
        obtain ⟨q1, q2, q3⟩ := hv.rOne i o' (by simpa using hi) hs
        have hr' : r' = none ∧ r = none := by simpa using q2
        refine ⟨q1, hr'.2, fun j o'' hj hjs => ?_⟩
        cases j with
        | zero => simp [val', hr'.1] at hjs
        | succ j => rw [q3 j o'' (by simpa using hj) hjs]
    · have hr' : r' = none := hn 0 o (by simp)
      rw [hv.rNone (fun i o' hi => hn (i + 1) o' (sh hi)), hr']; rfl
end Go.Ab
namespace Go.Ab
open Go Go.RowKit
def unl (n : Nat) (listed : Array Bool) : Nat := ((List.range n).filter fun i => !listed.getD i true).length
theorem filter_one {l : List Nat} {p q : Nat → Bool} {i : Nat} (hn : l.Nodup) (hi : i ∈ l) (hp : p i = true) (hq : q i = false) (he : ∀ j, j ≠ i → q j = p j) : (l.filter q).length + 1 = (l.filter p).length := by
  induction l with
  | nil => cases hi
  | cons a l ih =>
    rw [List.nodup_cons] at hn
    rcases List.mem_cons.1 hi with rfl | hi
    · have : l.filter q = l.filter p := List.filter_congr fun x hx => he x (fun e => by subst e; exact hn.1 hx)
      simp [List.filter_cons, hp, hq, this]
    · have hne : a ≠ i := fun e => by subst e; exact hn.1 hi
      have := ih hn.2 hi
      simp only [List.filter_cons, he a hne]
      split
      · simp; omega
      · exact this
theorem unl_set {n : Nat} {listed : Array Bool} {i : Nat} (hi : i < n) (hs : listed.size = n) (hl : listed.getD i true = false) : unl n (listed.setIfInBounds i true) + 1 = unl n listed := by
  unfold unl
  refine filter_one List.nodup_range (List.mem_range.2 hi) (by simp [hl]) ?_ fun j hj => ?_
  · rw [Array.getD_eq_getD_getElem?, Array.getElem?_setIfInBounds_self_of_lt (by rw [hs]; exact hi)]; rfl
  · rw [getD_set_ne true (Ne.symm hj)]
theorem unl_zero {n : Nat} {listed : Array Bool} (h : unl n listed = 0) {i : Nat} (hi : i < n) : listed.getD i true = true := by
  unfold unl at h
  cases hl : listed.getD i true with
  | true => rfl
  | false =>
    have : i ∈ (List.range n).filter fun i => !listed.getD i true := List.mem_filter.2 ⟨List.mem_range.2 hi, by simp [hl]⟩
    rw [List.eq_nil_of_length_eq_zero h] at this
    cases this
theorem getD_tf {listed : Array Bool} {i : Nat} (hi : i < listed.size) : listed.getD i true = listed.getD i false := by
  simp [Array.getD_eq_getD_getElem?, hi]
def Closed (ops : Array Oper) (listed : Array Bool) : Prop := ∀ i o, ops[i]? = some o → listed.getD i false = true → ∀ j ∈ bnd o, listed.getD j false = true
theorem needsAll_spec {ops : Array Oper} {listed : Array Bool} (hc : Closed ops listed) : ∀ (j : Nat) (m : List Nat), (∀ x ∈ m, listed.getD x false = true) → needsAll ops.toList j m = true → ∀ i, i < j → listed.getD i false = true
  | 0, m, _, _, i, hi => by omega
  | j + 1, m, hm, h, i, hi => by
    simp only [needsAll, Bool.and_eq_true] at h
    have hj := hm j (memB_iff.1 h.1)
    by_cases hij : i = j
    · subst hij; exact hj
    · refine needsAll_spec hc j _ ?_ h.2 i (by omega)
      intro x hx
      split at hx
      · rename_i o ho
        rcases List.mem_append.1 hx with hx | hx
        · exact hc j o (by rw [← Array.getElem?_toList]; exact ho) hj x hx
        · exact hm x hx
      · exact hm x hx
theorem edgesDown_spec : ∀ {k : Nat} {os : List Oper}, edgesDown k os = true → ∀ i o, os[i]? = some o → ∀ j ∈ bnd o, j < k + i
  | k, [], _, i, o, hi => by simp at hi
  | k, o :: os, h, i, o', hi => by
    simp only [edgesDown, Bool.and_eq_true] at h
    intro j hj
    cases i with
    | zero =>
      simp at hi; subst hi
      have := List.all_eq_true.1 h.1 j hj
      exact Nat.blt_eq.mp this
    | succ i =>
      have := edgesDown_spec h.2 i o' (by simpa using hi) j hj
      omega
theorem tailOK_spec {ops : List Oper} : ∀ {k : Nat} {os : List Oper}, tailOK ops k os = true → ∀ i o, os[i]? = some o → needsAll ops (k + i) (bnd o) = true
  | k, [], _, i, o, hi => by simp at hi
  | k, o :: os, h, i, o', hi => by
    simp only [tailOK, Bool.and_eq_true] at h
    cases i with
    | zero => simp at hi; subst hi; exact h.1
    | succ i =>
      have := tailOK_spec h.2 i o' (by simpa using hi)
      rw [show k + (i + 1) = k + 1 + i by omega]; exact this
theorem segOK_spec {all : Array Oper} {first : List Oper} : ∀ {os : List Oper}, segOK all first os = true → ∀ o ∈ os, (∀ d, o.dst = some d → (writers d 0 first).length = 1) ∧ ∀ x ∈ o.looksAt all, ∀ j ∈ writers x 0 first, j ∈ bnd o
  | [], _, o, ho => by cases ho
  | o :: os, h, o', ho => by
    simp only [segOK, Bool.and_eq_true] at h
    rcases List.mem_cons.1 ho with rfl | ho
    · refine ⟨fun d hd => ?_, fun x hx j hj => ?_⟩
      · have h1 := h.1.1
        rw [hd] at h1
        exact Nat.eq_of_beq_eq_true h1
      · have h2 := List.all_eq_true.1 h.1.2 x hx
        exact memB_iff.1 (List.all_eq_true.1 h2 j hj)
    · exact segOK_spec h.2 o' ho
section
variable {P : Program} {ops : Array Oper} {Q : Exit → Act → World → Prop}
theorem ready_spec {i : Nat} {listed : Array Bool} : i ∈ Region.ready .any ops listed ↔ listed.getD i true = false ∧ ∃ o, ops[i]? = some o ∧ ∀ j ∈ bnd o, listed.getD j false = true := by
  rw [mem_ready]
  constructor
  · rintro ⟨h1, o, h2, h3⟩
    exact ⟨h1, o, h2, fun j hj => by obtain ⟨e, he, hb, rfl⟩ := mem_bnd.1 hj; exact h3 e he hb⟩
  · rintro ⟨h1, o, h2, h3⟩
    exact ⟨h1, o, h2, fun e he hb => h3 _ (mem_bnd.2 ⟨e, he, hb, rfl⟩)⟩
theorem closed_set {listed : Array Bool} (hc : Closed ops listed) {i : Nat} (hi : i ∈ Region.ready .any ops listed) : Closed ops (listed.setIfInBounds i true) := by
  intro j o hj hl x hx
  by_cases hij : i = j
  · subst hij
    obtain ⟨_, o', ho', h3⟩ := ready_spec.1 hi
    rw [ho'] at hj; cases hj
    exact getD_set_true (h3 x hx)
  · rw [getD_set_ne false hij] at hl
    exact getD_set_true (hc j o hj hl x hx)
theorem any_tail (hdown : edgesDown 0 ops.toList = true) {k : Nat} (htail : tailOK ops.toList k (ops.toList.drop k) = true) : ∀ (fuel j : Nat) (listed : Array Bool) (a : Act) (w : World), listed.size = ops.size → unl ops.size listed = fuel → k ≤ j →
    (∀ i, i < ops.size → (listed.getD i false = true ↔ i < j)) → wpList P ops Q (ops.toList.drop j) a w → wpAny P .any ops Q fuel listed a w := by
  intro fuel
  induction fuel with
  | zero =>
    intro j listed a w hs hu hk hl h
    have hall : ∀ i, i < ops.size → listed.getD i true = true := fun i hi => unl_zero hu hi
    refine ⟨?_, ?_⟩
    · refine List.eq_nil_iff_forall_not_mem.2 fun i hi => ?_
      obtain ⟨h1, o, h2, _⟩ := ready_spec.1 hi
      rw [hall i (Array.getElem?_eq_some_iff.1 h2).1] at h1; cases h1
    · have hj : ops.size ≤ j := by
        rcases Nat.lt_or_ge j ops.size with hlt | hge
        · have h1 := hall j hlt
          rw [getD_tf (by rw [hs]; exact hlt)] at h1
          have := (hl j hlt).1 h1
          omega
        · exact hge
      rw [List.drop_eq_nil_of_le (by simpa using hj)] at h
      exact h
  | succ fuel ih =>
    intro j listed a w hs hu hk hl h
    have hclosed : Closed ops listed := fun i o ho hi x hx => by
      have hin := (Array.getElem?_eq_some_iff.1 ho).1
      have := edgesDown_spec hdown i o (by rw [Array.getElem?_toList]; exact ho) x hx
      exact (hl x (by omega)).2 (by have := (hl i hin).1 hi; omega)
    have hjlt : j < ops.size := by
      rcases Nat.lt_or_ge j ops.size with hlt | hge
      · exact hlt
      · exfalso
        have : unl ops.size listed = 0 := by
          unfold unl
          rw [List.length_eq_zero_iff, List.filter_eq_nil_iff]
          intro i hi
          have hi := List.mem_range.1 hi
          rw [getD_tf (by rw [hs]; exact hi), (hl i hi).2 (by omega)]
          simp
        omega
    have hoj : ops[j]? = some ops[j] := Array.getElem?_eq_getElem hjlt
    have hjun : listed.getD j true = false := by
      rw [getD_tf (by rw [hs]; exact hjlt)]
      cases hc : listed.getD j false with
      | false => rfl
      | true => have := (hl j hjlt).1 hc; omega
    have hready : j ∈ Region.ready .any ops listed := ready_spec.2 ⟨hjun, _, hoj, fun x hx => by
      have := edgesDown_spec hdown j _ (by rw [Array.getElem?_toList]; exact hoj) x hx
      exact (hl x (by omega)).2 (by omega)⟩
    refine ⟨fun h0 => (by rw [h0] at hready; cases hready), fun i hi => ?_⟩
    obtain ⟨h1, o, h2, h3⟩ := ready_spec.1 hi
    have hin := (Array.getElem?_eq_some_iff.1 h2).1
    have hij : i = j := by
      rcases Nat.lt_trichotomy i j with hlt | rfl | hgt
      · rw [getD_tf (by rw [hs]; exact hin), (hl i hin).2 hlt] at h1; cases h1
      · rfl
      · exfalso
        have hn := tailOK_spec htail (i - k) o (by rw [List.getElem?_drop, show k + (i - k) = i by omega, Array.getElem?_toList]; exact h2)
        rw [show k + (i - k) = i by omega] at hn
        have := needsAll_spec hclosed i _ h3 hn j hgt
        rw [← getD_tf (by rw [hs]; exact hjlt), hjun] at this; cases this
    subst hij
    have hdrop : ops.toList.drop i = o :: ops.toList.drop (i + 1) := by
      have : ops.toList[i]? = some o := by rw [Array.getElem?_toList]; exact h2
      obtain ⟨hlt, he⟩ := List.getElem?_eq_some_iff.1 this
      rw [List.drop_eq_getElem_cons hlt, he]
    rw [hdrop] at h
    have hnext : ∀ a w, wpList P ops Q (ops.toList.drop (i + 1)) a w → wpAny P .any ops Q fuel (listed.setIfInBounds i true) a w := fun a w h => by
      refine ih (i + 1) _ a w (by simpa using hs) ?_ (by omega) (fun x hx => ?_) h
      · have := unl_set hjlt hs hjun; omega
      · by_cases hxi : i = x
        · subst hxi
          rw [Array.getD_eq_getD_getElem?, Array.getElem?_setIfInBounds_self_of_lt (by rw [hs]; exact hx)]
          simp
        · rw [getD_set_ne false hxi, hl x hx]
          omega
    unfold wpOp
    rw [h2]
    rw [wpList_cons] at h
    simp only
    split
    · rename_i hw; rw [if_pos hw] at h
      exact h.imp (Oper.wp_mono hnext) id
    · rename_i hw; rw [if_neg hw] at h
      exact hnext _ _ h
end
end Go.Ab
namespace Go.Ab
open Go Go.RowKit
structure Agree (first : List Oper) (σ : St) (val : Nat → AV × Option Root) (listed : Array Bool) (σ' : St) : Prop where
  w : ∀ (i : Nat) (o : Oper) (x : Nat), first[i]? = some o → listed.getD i false = true → o.dst = some x → getT σ'.t x = (val i).1
  u : ∀ (x : Nat), (∀ (i : Nat) (o : Oper), first[i]? = some o → listed.getD i false = true → o.dst ≠ some x) → getT σ'.t x = getT σ.t x
  r : ∀ (i : Nat) (o : Oper) (r : Root), first[i]? = some o → listed.getD i false = true → (val i).2 = some r → σ'.n = σ.n + 1 ∧ ∀ y, getS σ'.s y = getS ((σ.n, r) :: σ.s) y
  z : (∀ (i : Nat) (o : Oper), first[i]? = some o → listed.getD i false = true → (val i).2 = none) → σ'.n = σ.n ∧ ∀ y, getS σ'.s y = getS σ.s y
theorem one_writer {first : List Oper} {x : Nat} (h : (writers x 0 first).length = 1) {i j : Nat} {o o' : Oper} (hi : first[i]? = some o) (hd : o.dst = some x) (hj : first[j]? = some o') (hd' : o'.dst = some x) : i = j := by
  have h1 : i ∈ writers x 0 first := mem_writers.2 ⟨o, by simpa using hi, Nat.zero_le _, hd⟩
  have h2 : j ∈ writers x 0 first := mem_writers.2 ⟨o', by simpa using hj, Nat.zero_le _, hd'⟩
  match hw : writers x 0 first, h with
  | [a], _ =>
    rw [hw] at h1 h2
    simp at h1 h2
    rw [h1, h2]
theorem least_not {n : Nat} {p : Nat → Prop} (h : ∃ i, i < n ∧ ¬ p i) : ∃ i, i < n ∧ ¬ p i ∧ ∀ j, j < i → p j := by
  obtain ⟨i, ⟨h1, h2⟩, h3⟩ := least h
  refine ⟨i, h1, h2, fun j hj => Classical.byContradiction fun hp => ?_⟩
  have := h3 j ⟨by omega, hp⟩
  omega
section
variable {P : Program} {up : Bool} {nt : Nat} {ops : Array Oper} {Q : Exit → Act → World → Prop} {σ : St} {te : List (Nat × AV)} {re : Option Root} {val : Nat → AV × Option Root} {tt : Nat → List (Nat × AV)}
theorem any_seg {A0 D0 : Nat → Prop} {w0 : World} {k : Nat} (hk : k ≤ ops.size) (hchk : segChk k ops = true) (hd : okDst nt ops.toList = true) (hu : up = true → LetsOut Q) (hlt : ∀ y, (getS σ.s y).isSome = true → y < σ.n)
    (hv : SegV P up ops σ (ops.toList.take k) σ.t none te re val tt)
    (hend : ∀ a w G, Holds A0 D0 w0 nt (endSt σ te re) a w G → wpList P ops Q (ops.toList.drop k) a w) :
    ∀ (fuel : Nat) (listed : Array Bool) (a : Act) (w : World) (σ' : St) (G : Nat → Option GR), listed.size = ops.size → unl ops.size listed = fuel → (∀ i, listed.getD i false = true → i < k) → Closed ops listed →
      Agree (ops.toList.take k) σ val listed σ' → Holds A0 D0 w0 nt σ' a w G → wpAny P .any ops Q fuel listed a w := by
  simp only [segChk, Bool.and_eq_true] at hchk
  obtain ⟨⟨hdown, hseg⟩, htail⟩ := hchk
  generalize hfirst : ops.toList.take k = first at *
  have hfk : first.length = k := by rw [← hfirst]; simp; omega
  have hget : ∀ i, i < k → first[i]? = ops[i]? := fun i hi => by rw [← hfirst, List.getElem?_take, if_pos hi, Array.getElem?_toList]
  have hin : ∀ {i : Nat} {o : Oper}, first[i]? = some o → i < k ∧ ops[i]? = some o := fun {i o} h => by
    have h1 : i < k := by have := (List.getElem?_eq_some_iff.1 h).1; omega
    exact ⟨h1, by rw [← hget i h1]; exact h⟩
  have hsegs := segOK_spec hseg
  have hdst : ∀ (i : Nat) (o : Oper), ops[i]? = some o → ∀ d, o.dst = some d → d < nt := by
    have key : ∀ {os : List Oper}, okDst nt os = true → ∀ o ∈ os, ∀ d, o.dst = some d → d < nt := by
      intro os
      induction os with
      | nil => intro _ o ho; cases ho
      | cons b os ih =>
        intro h o ho
        obtain ⟨h1, h2⟩ := okDst_cons h
        rcases List.mem_cons.1 ho with rfl | ho
        · exact h1
        · exact ih h2 o ho
    intro i o ho
    exact key hd o (List.mem_of_getElem? (by rw [Array.getElem?_toList]; exact ho))
  have finish : ∀ {listed : Array Bool} {a : Act} {w : World} {σ' : St} {G : Nat → Option GR}, (∀ i, i < k → listed.getD i false = true) → Agree first σ val listed σ' → Holds A0 D0 w0 nt σ' a w G → Holds A0 D0 w0 nt (endSt σ te re) a w G := by
    intro listed a w σ' G hall hag hh
    have ht : ∀ x, getT te x = getT σ'.t x := by
      intro x
      by_cases hx : ∃ (i : Nat) (o : Oper), first[i]? = some o ∧ o.dst = some x
      · obtain ⟨i, o, hi, hdx⟩ := hx
        have h1 := (hsegs o (List.mem_of_getElem? hi)).1 x hdx
        rw [hv.tE i o x hi hdx (fun j o' hj hd' => Nat.le_of_eq (one_writer h1 hj hd' hi hdx)), hag.w i o x hi (hall i (hin hi).1) hdx]
      · have hno : ∀ (i : Nat) (o : Oper), first[i]? = some o → o.dst ≠ some x := fun i o hi hd => hx ⟨i, o, hi, hd⟩
        rw [hv.tN x hno, hag.u x (fun i o hi _ => hno i o hi)]
    by_cases hr : ∃ (i : Nat) (o : Oper), first[i]? = some o ∧ (val i).2.isSome = true
    · obtain ⟨i, o, hi, his⟩ := hr
      obtain ⟨r, hr⟩ := Option.isSome_iff_exists.1 his
      obtain ⟨q1, q2⟩ := hag.r i o r hi (hall i (hin hi).1) hr
      rw [(hv.rOne i o hi his).1, hr]
      exact hh.ext (σ' := endSt σ te (some r)) q1.symm ht (fun y => (q2 y).symm)
    · have hno : ∀ (i : Nat) (o : Oper), first[i]? = some o → (val i).2 = none := fun i o hi => by
        cases hvi : (val i).2 with
        | none => rfl
        | some y => exact absurd ⟨i, o, hi, by rw [hvi]; rfl⟩ hr
      obtain ⟨q1, q2⟩ := hag.z (fun i o hi _ => hno i o hi)
      rw [hv.rNone hno]
      exact hh.ext (σ' := endSt σ te none) q1.symm ht (fun y => (q2 y).symm)
  intro fuel
  induction fuel with
  | zero =>
    intro listed a w σ' G hs hun hL hc hag hh
    have hall : ∀ i, i < ops.size → listed.getD i false = true := fun i hi => by rw [← getD_tf (by rw [hs]; exact hi)]; exact unl_zero hun hi
    have hks : k = ops.size := by
      rcases Nat.lt_or_ge k ops.size with h | h
      · have := hL k (hall k h); omega
      · omega
    exact any_tail hdown htail 0 k listed a w hs hun (Nat.le_refl _) (fun i hi => ⟨fun _ => by omega, fun _ => hall i hi⟩) (hend a w G (finish (fun i hi => hall i (by omega)) hag hh))
  | succ fuel ih =>
    intro listed a w σ' G hs hun hL hc hag hh
    by_cases hall : ∀ i, i < k → listed.getD i false = true
    · exact any_tail hdown htail (fuel + 1) k listed a w hs hun (Nat.le_refl _) (fun i hi => ⟨fun h => hL i h, fun h => hall i h⟩) (hend a w G (finish hall hag hh))
    -- one of the first is still to be done: there is one that can be
    obtain ⟨i0, h01, h02, h03⟩ := least_not (n := k) (p := fun i => listed.getD i false = true) (Classical.byContradiction fun h => hall fun i hi => Classical.byContradiction fun h' => h ⟨i, hi, h'⟩)
    have hready0 : i0 ∈ Region.ready .any ops listed := by
      have hlt0 : i0 < ops.size := by omega
      refine ready_spec.2 ⟨by rw [getD_tf (by rw [hs]; exact hlt0)]; simpa using h02, ops[i0], Array.getElem?_eq_getElem hlt0, fun j hj => h03 j ?_⟩
      have := edgesDown_spec hdown i0 ops[i0] (by rw [Array.getElem?_toList]; exact Array.getElem?_eq_getElem hlt0) j hj
      omega
    refine ⟨fun h0 => (by rw [h0] at hready0; cases hready0), fun i hi => ?_⟩
    obtain ⟨h1, o, h2, h3⟩ := ready_spec.1 hi
    have hisz := (Array.getElem?_eq_some_iff.1 h2).1
    have hun1 : listed.getD i false = false := by rw [← getD_tf (by rw [hs]; exact hisz)]; exact h1
    have hik : i < k := by
      rcases Nat.lt_or_ge i k with h | h
      · exact h
      · exfalso
        have hn := tailOK_spec htail (i - k) o (by rw [List.getElem?_drop, show k + (i - k) = i by omega, Array.getElem?_toList]; exact h2)
        rw [show k + (i - k) = i by omega] at hn
        exact h02 (needsAll_spec hc i _ h3 hn i0 (by omega))
    have hfi : first[i]? = some o := by rw [hget i hik]; exact h2
    obtain ⟨hs1, hs2⟩ := hsegs o (List.mem_of_getElem? hfi)
    -- no root has been made by another one, if this one makes one
    have hnoroot : (val i).2.isSome = true → ∀ (j : Nat) (o' : Oper), first[j]? = some o' → listed.getD j false = true → (val j).2 = none := by
      intro his j o' hj hlj
      cases hvj : (val j).2 with
      | none => rfl
      | some y =>
        have := (hv.rOne i o hfi his).2.2 j o' hj (by rw [hvj]; rfl)
        subst this
        rw [hun1] at hlj; cases hlj
    have hext : Ext σ σ' := by
      by_cases hr : ∃ (j : Nat) (o' : Oper), first[j]? = some o' ∧ listed.getD j false = true ∧ (val j).2.isSome = true
      · obtain ⟨j, o', hj, hlj, his⟩ := hr
        obtain ⟨r, hr⟩ := Option.isSome_iff_exists.1 his
        obtain ⟨q1, q2⟩ := hag.r j o' r hj hlj hr
        refine ⟨fun y r' hy => ?_, by omega⟩
        rw [q2 y]
        simp only [getS]
        have := hlt y (by rw [hy]; rfl)
        rw [if_neg (by omega)]
        exact hy
      · obtain ⟨q1, q2⟩ := hag.z (fun j o' hj hlj => by
          cases hvj : (val j).2 with
          | none => rfl
          | some y => exact absurd ⟨j, o', hj, hlj, by rw [hvj]; rfl⟩ hr)
        exact ⟨fun y r' hy => by rw [q2 y]; exact hy, by omega⟩
    have hreads : ∀ x ∈ o.looksAt ops, getT σ'.t x = getT (tt i) x := by
      intro x hx
      by_cases hw : ∃ (j : Nat) (o' : Oper), first[j]? = some o' ∧ o'.dst = some x
      · obtain ⟨j, o', hj, hdx⟩ := hw
        have hjb := hs2 x hx j (mem_writers.2 ⟨o', by simpa using hj, Nat.zero_le _, hdx⟩)
        have hlj := h3 j hjb
        have hji := edgesDown_spec hdown i o (by rw [Array.getElem?_toList]; exact h2) j hjb
        have h1w := (hsegs o' (List.mem_of_getElem? hj)).1 x hdx
        rw [hag.w j o' x hj hlj hdx, hv.tI i j o' x (by omega) (by omega) hj hdx (fun j' o'' _ hj' hd' => Nat.le_of_eq (one_writer h1w hj' hd' hj hdx))]
      · have hno : ∀ (j : Nat) (o' : Oper), first[j]? = some o' → o'.dst ≠ some x := fun j o' hj hd => hw ⟨j, o', hj, hd⟩
        rw [hag.u x (fun j o' hj _ => hno j o' hj), hv.tI0 i x (fun j o' _ hj => hno j o' hj)]
    have hset : ∀ j, (listed.setIfInBounds i true).getD j false = true ↔ j = i ∨ listed.getD j false = true := by
      intro j
      by_cases hij : i = j
      · subst hij
        rw [Array.getD_eq_getD_getElem?, Array.getElem?_setIfInBounds_self_of_lt (by rw [hs]; exact hisz)]
        simp
      · rw [getD_set_ne false hij]
        exact ⟨.inr, fun h => h.resolve_left (Ne.symm hij)⟩
    -- behind it
    have hnext : ∀ (a : Act) (w : World) (G : Nat → Option GR), Holds A0 D0 w0 nt (newR σ' o.dst (val i).1 (val i).2) a w G → wpAny P .any ops Q fuel (listed.setIfInBounds i true) a w := by
      intro a w G hh'
      have hT : ∀ x, getT (newR σ' o.dst (val i).1 (val i).2).t x = if o.dst = some x then (val i).1 else getT σ'.t x := by
        intro x
        have hp : ∀ (τ : St), getT (τ.put o.dst (val i).1).t x = if o.dst = some x then (val i).1 else getT τ.t x := by
          intro τ
          unfold St.put
          split
          · rename_i d hd
            rw [hd]
            simp only [getT, Option.some.injEq]
          · rename_i hd; rw [hd]; simp
        unfold newR
        split <;> exact hp _
      refine ih _ a w _ G (by simpa using hs) (by have := unl_set hisz hs h1; omega) (fun j hj => ?_) (closed_set hc hi) ⟨fun j o' x hj hl hdx => ?_, fun x hx => ?_, fun j o' r hj hl hr => ?_, fun hz => ?_⟩ hh'
      · rcases (hset j).1 hj with rfl | h
        · exact hik
        · exact hL j h
      · rw [hT x]
        rcases (hset j).1 hl with rfl | h
        · rw [hfi] at hj; cases hj
          rw [if_pos hdx]
        · have hne : ¬ o.dst = some x := fun hd => by
            have := one_writer (hs1 x hd) hfi hd hj hdx
            subst this
            rw [hun1] at h; cases h
          rw [if_neg hne]
          exact hag.w j o' x hj h hdx
      · rw [hT x, if_neg (hx i o hfi ((hset i).2 (.inl rfl)))]
        exact hag.u x (fun j o' hj hl => hx j o' hj ((hset j).2 (.inr hl)))
      · rcases (hset j).1 hl with rfl | h
        · rw [hfi] at hj; cases hj
          obtain ⟨q1, q2⟩ := hag.z (hnoroot (by rw [hr]; rfl))
          have e : newR σ' o.dst (val j).1 (val j).2 = St.put { n := σ'.n + 1, t := σ'.t, s := (σ'.n, r) :: σ'.s } o.dst (val j).1 := by rw [hr]; rfl
          rw [e]
          have e2 : ∀ (τ : St), (τ.put o.dst (val j).1).n = τ.n ∧ (τ.put o.dst (val j).1).s = τ.s := fun τ => by unfold St.put; split <;> exact ⟨rfl, rfl⟩
          rw [(e2 _).1, (e2 _).2]
          refine ⟨by rw [q1], fun y => ?_⟩
          simp only [getS, q1]
          split
          · rfl
          · exact q2 y
        · obtain ⟨q1, q2⟩ := hag.r j o' r hj h hr
          have hnone : (val i).2 = none := by
            cases hvi : (val i).2 with
            | none => rfl
            | some y => have := hnoroot (by rw [hvi]; rfl) j o' hj h; rw [hr] at this; cases this
          have e : newR σ' o.dst (val i).1 (val i).2 = St.put σ' o.dst (val i).1 := by rw [hnone]; rfl
          rw [e]
          have e2 : ∀ (τ : St), (τ.put o.dst (val i).1).n = τ.n ∧ (τ.put o.dst (val i).1).s = τ.s := fun τ => by unfold St.put; split <;> exact ⟨rfl, rfl⟩
          rw [(e2 _).1, (e2 _).2]
          exact ⟨q1, q2⟩
      · have hnone := hz i o hfi ((hset i).2 (.inl rfl))
        obtain ⟨q1, q2⟩ := hag.z (fun j o' hj hl => hz j o' hj ((hset j).2 (.inr hl)))
        have e : newR σ' o.dst (val i).1 (val i).2 = St.put σ' o.dst (val i).1 := by rw [hnone]; rfl
        rw [e]
        have e2 : ∀ (τ : St), (τ.put o.dst (val i).1).n = τ.n ∧ (τ.put o.dst (val i).1).s = τ.s := fun τ => by unfold St.put; split <;> exact ⟨rfl, rfl⟩
        rw [(e2 _).1, (e2 _).2]
        exact ⟨q1, q2⟩
    unfold wpOp
    rw [h2]
    simp only
    rcases (hv.stab i o hfi).2 σ' hreads hext (fun his => (hag.z (hnoroot his)).1) with ⟨hw, hsnd⟩ | ⟨hw, hv1, hv2⟩
    · rw [if_pos (wantd_spec hh hw)]
      refine (hsnd A0 D0 w0 nt a w G Q (hdst i o h2) hu hh).imp (Oper.wp_mono fun a w ⟨σ'', G', g1, g2⟩ => ?_) id
      subst g2
      exact hnext a w G' g1
    · rw [if_neg (by rw [wantd_spec hh hw]; simp)]
      refine hnext _ w G ?_
      rw [hv1, hv2]
      exact hh.put (.fr _ _ (.tup [] [] rfl (fun i a h => by simp at h))) (hdst i o h2)
end
end Go.Ab
