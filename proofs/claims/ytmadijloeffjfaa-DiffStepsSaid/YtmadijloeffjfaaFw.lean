/-
  That operations, blocks, loops and whole codes of the model turn such a state as told ('CW'). No condition but those of each theorem.
-/
import Derived.Scope
import Derived.Test.YtmadijloeffjfaaFv
set_option linter.unusedVariables false
set_option linter.unusedSimpArgs false
namespace Go.Ab
open Go Go.RowKit

/-! ### 23. Operations that turn the state -/
structure Ev where
  σ : St
  v : AV
  ob : Prop

def eLen (TT : TTab) (σ : St) (t : Nat) (x : AV) : Option Ev :=
  match TT t with
  | some i => match i.kind with
    | .slice _ => match x with
      | .nilsl => some ⟨σ, .int .i64 0, True⟩
      | .sl _ l => some ⟨σ, .int .i64 l.length, True⟩
      | .ref y p c => match cellAtB σ y p c with
        | .own _ es => some ⟨σ, .int .i64 es.length, True⟩
        | _ => none
      | _ => none
    | .str => match x with
      | .str s => some ⟨σ, .int .i64 s.size, True⟩
      | _ => none
    | .map _ _ => match mapOf σ x with
      | some es => some ⟨σ, .int .i64 es.length, True⟩
      | none => none
    | _ => none
  | none => none

def eApp (TT : TTab) (σ : St) (t : Nat) (s x : AV) : Option Ev :=
  match TT t with
  | some i => match i.kind with
    | .slice e => match TT e with
      | some j => if 0 < j.size ∧ j.zero.length = j.size then (match srcRows σ j.size x with
        | some rows => match s with
          | .nilsl => some ⟨{ n := σ.n + 1, t := σ.t, s := (σ.n, ⟨false, [.own j.size rows]⟩) :: σ.s }, .ref σ.n [] 0,
              (if isRef x = true then ∀ r ∈ rows, ∀ a ∈ r, a.tree = false else ∀ r ∈ rows, ∀ a ∈ r, a.cell = true) ∧ rows.length * j.bytes ≤ MX ∧ rows.length ≤ MX⟩
          | .ref y p c => match getS σ.s y with
            | some r => match rowOf r.cells p with
              | some row => match row[c]? with
                | some (.own n es) => if n = j.size then some ⟨{ n := σ.n + 1, t := σ.t, s := (σ.n, ⟨false, [.own j.size (es ++ rows)]⟩) :: (if r.box = false ∧ p = [] then delS σ.s y else updS σ.s y { r with cells := putAt r.cells p c .undef }) }, .ref σ.n [] 0,
                    (if isRef x = true then ∀ r ∈ rows, ∀ a ∈ r, a.tree = false else ∀ r ∈ rows, ∀ a ∈ r, a.cell = true) ∧ (es.length + rows.length) * j.bytes ≤ MX ∧ es.length + rows.length ≤ MX⟩ else none
                | _ => none
              | none => none
            | none => none
          | _ => none
        | none => none) else none
      | none => none
    | _ => none
  | none => none

def eSto (TT : TTab) (σ : St) (t : Nat) (x v : AV) : Option Ev :=
  match TT t with
  | some i => match x with
    | .lv y p q => match getS σ.s y with
      | some r => if p ≠ [] ∨ r.box = true then (match rowOf r.cells p with
        | some row => if v.cells.length = i.size ∧ q + i.size ≤ row.length ∧ allCell v.cells = true then (match stCells y p id σ q v.cells with
          | some σ' => some ⟨σ', .undef, True⟩
          | none => none) else none
        | none => none) else none
      | none => none
    | _ => none
  | none => none

def eUpd (TT : TTab) (σ : St) (t : Nat) (m k v : AV) : Option Ev :=
  match TT t with
  | some i => match i.kind with
    | .map kt _ => match TT kt with
      | some ik => match ik.kind with
        | .int .i64 => match m with
          | .ref y p c => match k with
            | .int .i64 q => if v.pure = true then (match getS σ.s y with
              | some r => match rowOf r.cells p with
                | some row => match row[c]? with
                  | some (.omap es) => some ⟨{ σ with s := updS σ.s y { r with cells := putAt r.cells p c (.omap (mapput es q v)) } }, .undef, es.length < MX⟩
                  | _ => none
                | none => none
              | none => none) else none
            | _ => none
          | _ => none
        | _ => none
      | none => none
    | _ => none
  | none => none

def eBox (σ : St) (x : AV) : Option Ev :=
  if allCell x.cells = true then (match stCells σ.n [] id { n := σ.n + 1, t := σ.t, s := (σ.n, ⟨true, x.cells.map fun _ => .undef⟩) :: σ.s } 0 x.cells with
    | some σ' => some ⟨σ', .lv σ.n [] 0, True⟩
    | none => none) else none

def addR (σ : St) : AV × Option Root → Ev
  | (v, none) => ⟨σ, v, True⟩
  | (v, some r) => ⟨{ n := σ.n + 1, t := σ.t, s := (σ.n, r) :: σ.s }, v, True⟩

def eCall (TT : TTab) (σ : St) (f : Callee) (args : List Operand) (ts : List Nat) : Option Ev :=
  match f with
  | .builtin .len => match args with
    | [x] => match ts with
      | [t] => eLen TT σ t (ev σ x)
      | _ => none
    | _ => none
  | .builtin .append => match args with
    | [s, x] => match ts with
      | [t, u] => if t = u then eApp TT σ t (ev σ s) (ev σ x) else none
      | _ => none
    | _ => none
  | _ => none

def eop (TT : TTab) (σ : St) (d : Option Tmp) (o : Op) : Option Ev :=
  match o with
  | .store t x v => if d.isNone = true then eSto TT σ t (ev σ x) (ev σ v) else none
  | .mapUpdate t m k v => if d.isNone = true then eUpd TT σ t (ev σ m) (ev σ k) (ev σ v) else none
  | .insert t m k v => if d.isNone = true then eUpd TT σ t (ev σ m) (ev σ k) (ev σ v) else none
  | .box _ x => eBox σ (ev σ x)
  | .call c => eCall TT σ c.callee c.args.toList c.argTypes.toList
  | o => (rop TT σ o).map (addR σ)

def fin (d : Option Tmp) (e : Ev) : St := e.σ.put d e.v

/-- An operation within a code that may let out. -/
def SndU (P : Program) (up : Bool) (o : Oper) (σ : St) (K : St → Prop) : Prop :=
  ∀ (A0 D0 : Nat → Prop) (w0 : World) (nt : Nat) (a : Act) (w : World) (G : Nat → Option GR) (Q : Exit → Act → World → Prop), (∀ d, o.dst = some d → d < nt) → (up = true → LetsOut Q) → Holds A0 D0 w0 nt σ a w G →
    o.wp P a w (Goes A0 D0 w0 nt K) Q ∨ (o.asks P a w ∧ LetsOut Q)
theorem Snd.up {P : Program} {up : Bool} {o : Oper} {σ : St} {K : St → Prop} (h : Snd P o σ K) : SndU P up o σ K :=
  fun A0 D0 w0 nt a w G Q hd _ hh => .inl (h A0 D0 w0 nt a w G Q hd hh)

theorem put_none {σ : St} {v : AV} : σ.put none v = σ := rfl

theorem eop_sound {P : Program} {TT : TTab} (htt : TTok P TT) {o : Oper} {σ : St} {e : Ev} (h : eop TT σ o.dst o.op = some e) (hob : e.ob) : Snd P o σ (fun σ' => σ' = fin o.dst e) := by
  have viaR : (rop TT σ o.op).map (addR σ) = some e → Snd P o σ (fun σ' => σ' = fin o.dst e) := by
    intro h
    cases hr : rop TT σ o.op with
    | none => rw [hr] at h; cases h
    | some q =>
      obtain ⟨v, r⟩ := q
      rw [hr] at h
      have hs := rop_sound htt hr
      cases r with
      | none => cases h; exact hs
      | some r => cases h; exact hs
  cases ho : o.op <;> rw [ho] at h viaR <;> simp only [eop] at h <;> try exact viaR h
  case store t x v =>
    split at h
    · rename_i hd
      have hd : o.dst = none := by simpa using hd
      unfold eSto at h
      split at h
      · rename_i i hi
        split at h
        · rename_i y p q hx
          split at h
          · rename_i r hr
            split at h
            · rename_i hb
              split at h
              · rename_i row hrow
                split at h
                · rename_i hc
                  split at h
                  · rename_i σ' hst
                    cases h
                    refine snd_store ho hd htt hi ?_
                    rw [hx]; simp only [hr, hrow, hst]
                    exact ⟨fun hp => hb.resolve_left (fun h => h hp), hc.1, hc.2.1, hc.2.2, by rw [hd]; rfl⟩
                  · cases h
                · cases h
              · cases h
            · cases h
          · cases h
        · cases h
      · cases h
    · cases h
  case box t x =>
    unfold eBox at h
    split at h
    · rename_i hc
      split at h
      · rename_i σ' hst
        cases h
        refine snd_box ho ⟨hc, ?_⟩
        simp only [hst]; rfl
      · cases h
    · cases h
  case call c =>
    obtain ⟨f, args, ts⟩ := c
    simp only at h
    unfold eCall at h
    split at h
    · split at h
      · rename_i x hx
        split at h
        · rename_i t ht
          have hx : args = #[x] := by rw [← Array.toList_inj]; exact hx
          have ht : ts = #[t] := by rw [← Array.toList_inj]; exact ht
          subst hx ht
          unfold eLen at h
          split at h
          · rename_i i hi
            refine snd_len ho htt hi ?_
            split at h
            · rename_i u hk
              rw [hk]; simp only
              split at h
              · rename_i hx; cases h; rw [hx]; rfl
              · rename_i hx; cases h; rw [hx]; exact fun _ => rfl
              · rename_i y p c hx
                split at h
                · rename_i hc; cases h; rw [hx]; simp only [hc]; exact fun _ => rfl
                · cases h
              · cases h
            · rename_i hk
              rw [hk]; simp only
              split at h
              · rename_i hx; cases h; rw [hx]; exact fun _ => rfl
              · cases h
            · rename_i hk
              rw [hk]; simp only
              split at h
              · rename_i hx; cases h; rw [hx]; exact fun _ => rfl
              · cases h
            · cases h
          · cases h
        · cases h
      · cases h
    · split at h
      · rename_i s x hx
        split at h
        · rename_i t u ht
          have hx : args = #[s, x] := by rw [← Array.toList_inj]; exact hx
          have ht : ts = #[t, u] := by rw [← Array.toList_inj]; exact ht
          subst hx ht
          split at h
          · rename_i e; subst e
            unfold eApp at h
            split at h
            · rename_i i hi
              split at h
              · rename_i e hk
                split at h
                · rename_i j hj
                  split at h
                  · rename_i hc
                    refine snd_append ho htt hi hk hj hc.1 hc.2 ?_
                    split at h
                    · rename_i rows hrows
                      rw [hrows]; simp only
                      split at h
                      · rename_i hs; cases h; exact ⟨hob.1, by rw [hs]; exact ⟨hob.2.1, hob.2.2, rfl⟩⟩
                      · rename_i y p c hs
                        split at h
                        · rename_i r hr
                          split at h
                          · rename_i row hrow
                            split at h
                            · rename_i n es hcell
                              split at h
                              · rename_i hn
                                cases h
                                refine ⟨hob.1, ?_⟩
                                rw [hs]; simp only [hr, hrow, hcell]
                                exact ⟨hn, fun _ => ⟨hob.2.1, hob.2.2⟩, rfl⟩
                              · cases h
                            · cases h
                          · cases h
                        · cases h
                      · cases h
                    · cases h
                  · cases h
                · cases h
              · cases h
            · cases h
          · cases h
        · cases h
      · cases h
    · cases h
  all_goals
    rename_i t m ix x
    split at h
    · rename_i hd
      have hd : o.dst = none := by simpa using hd
      unfold eUpd at h
      split at h
      · rename_i i hi
        split at h
        · rename_i kt vt hk
          split at h
          · rename_i ik hik
            split at h
            · rename_i hki
              refine snd_mapUpdate (by first | exact .inl ho | exact .inr ho) hd htt hi hk hik hki ?_
              split at h
              · rename_i y p c hm
                split at h
                · rename_i q hx
                  split at h
                  · rename_i hp
                    split at h
                    · rename_i r hr
                      split at h
                      · rename_i row hrow
                        split at h
                        · rename_i es hcell
                          cases h
                          rw [hm, hx]; simp only [hr, hrow, hcell]
                          exact ⟨hp, hob, by rw [hd]; rfl⟩
                        · cases h
                      · cases h
                    · cases h
                  · cases h
                · cases h
              · cases h
            · cases h
          · cases h
        · cases h
      · cases h
    · cases h
end Go.Ab

namespace Go.Ab
open Go Go.RowKit

/-! ### 24. A region's operations, one behind the other -/
def gdst (all : Array Oper) (j : Nat) : Option Tmp := (all.toList[j]?).bind (·.dst)

def wantd (all : Array Oper) (σ : St) (o : Oper) : Option Bool :=
  match o.guard with
  | none => some true
  | some (j, want) => match gdst all j with
    | some t => match getT σ.t t with
      | .bool b => some (b == want)
      | .tup [] => some false
      | _ => none
    | none => some false

def runStep (TT : TTab) (all : Array Oper) (σ : St) (o : Oper) : Option Ev :=
  match wantd all σ o with
  | some true => eop TT σ o.dst o.op
  | some false => some ⟨σ, .tup [], True⟩
  | none => none

structure Stop where
  os : List Oper
  σ : St
  ob : Prop

def runS (TT : TTab) (all : Array Oper) : Nat → List Oper → St → Prop → Stop
  | 0, os, σ, ob => ⟨os, σ, ob⟩
  | _ + 1, [], σ, ob => ⟨[], σ, ob⟩
  | n + 1, o :: os, σ, ob => match runStep TT all σ o with
    | some e => runS TT all n os (fin o.dst e) (ob ∧ e.ob)
    | none => ⟨o :: os, σ, ob⟩

def okDst (nt : Nat) : List Oper → Bool
  | [] => true
  | o :: os => (match o.dst with | some d => Nat.blt d nt | none => true) && okDst nt os

def CWops (P : Program) (up : Bool) (nt : Nat) (all : Array Oper) (os : List Oper) (σ : St) (K : St → Prop) : Prop :=
  okDst nt os = true → ∀ (A0 D0 : Nat → Prop) (w0 : World) (a : Act) (w : World) (G : Nat → Option GR) (Q : Exit → Act → World → Prop), (up = true → LetsOut Q) → Holds A0 D0 w0 nt σ a w G →
    (∀ a w σ' G', Holds A0 D0 w0 nt σ' a w G' → K σ' → Q .normal a w) → wpList P all Q os a w

/-- The first slots are as they were. -/
def Kept (np : Nat) (a a' : Act) : Prop := ∀ i, i < np → a'.tmps[i]? = a.tmps[i]?
theorem Kept.refl (np : Nat) (a : Act) : Kept np a a := fun _ _ => rfl
theorem Kept.trans {np : Nat} {a b c : Act} (h : Kept np a b) (h' : Kept np b c) : Kept np a c := fun i hi => (h' i hi).trans (h i hi)
def keepDst (np : Nat) : List Oper → Bool
  | [] => true
  | o :: os => (match o.dst with | some d => Nat.ble np d | none => true) && keepDst np os

def CW (P : Program) (up : Bool) (np nt : Nat) (c : Code) (σ : St) (Q : Exit → St → Prop) : Prop :=
  ∀ (A0 D0 : Nat → Prop) (w0 : World) (a : Act) (w : World) (G : Nat → Option GR) (R : Exit → Act → World → Prop), (up = true → LetsOut R) → Holds A0 D0 w0 nt σ a w G →
    (∀ e a' w σ' G', Holds A0 D0 w0 nt σ' a' w G' → Kept np a a' → Q e σ' → R e a' w) → c.wp P R a w

section
variable {P : Program} {TT : TTab} {up : Bool} {nt : Nat} {all : Array Oper} {os : List Oper} {o : Oper} {σ : St} {K : St → Prop}

theorem CWops.done (h : K σ) : CWops P up nt all [] σ K := fun _ A0 D0 w0 a w G Q _ hh hq => hq a w σ G hh h

theorem okDst_cons {o : Oper} {os : List Oper} (h : okDst nt (o :: os) = true) : (∀ d, o.dst = some d → d < nt) ∧ okDst nt os = true := by
  simp only [okDst, Bool.and_eq_true] at h
  refine ⟨fun d hd => ?_, h.2⟩
  have h1 := h.1
  rw [hd] at h1
  exact Nat.blt_eq.mp h1

theorem tup_nil {w : World} {A : Nat → Prop} {G : Nat → Option GR} {n : Nat} {v : Value} (h : Rel w A G n (.tup []) v) : v = .tuple #[] := by
  cases h with
  | fr _ _ h => cases h with
    | tup _ vs h1 _ => have : vs = [] := List.eq_nil_of_length_eq_zero (by simpa using h1); subst this; rfl
  | tup _ vs h1 _ => have : vs = [] := List.eq_nil_of_length_eq_zero (by simpa using h1); subst this; rfl

theorem bool_of {w : World} {A : Nat → Prop} {G : Nat → Option GR} {n : Nat} {b : Bool} {v : Value} (h : Rel w A G n (.bool b) v) : v = .bool b := by
  cases h with
  | fr _ _ h => cases h; rfl

theorem Holds.slot {A0 D0 : Nat → Prop} {w0 : World} {a : Act} {w : World} {G : Nat → Option GR} (h : Holds A0 D0 w0 nt σ a w G) {t : Nat} (ht : getT σ.t t ≠ .undef) : ∃ v, a.tmps[t]? = some v ∧ Rel w (Own A0 G) G σ.n (getT σ.t t) v := by
  by_cases hlt : t < nt
  · have hs : t < a.tmps.size := by rw [h.size]; exact hlt
    refine ⟨a.tmps[t], by simp [hs], ?_⟩
    have := h.tmp t hlt
    rw [Array.getD_eq_getD_getElem?, Array.getElem?_eq_getElem hs] at this
    exact this
  · exact absurd (h.far t (by omega)) ht

theorem wantd_spec {A0 D0 : Nat → Prop} {w0 : World} {a : Act} {w : World} {G : Nat → Option GR} (h : Holds A0 D0 w0 nt σ a w G) {b : Bool} (hw : wantd all σ o = some b) : Region.wanted o (yielded all a.tmps) = b := by
  unfold wantd at hw
  unfold Region.wanted
  split at hw
  · rename_i hg; rw [hg]; cases hw; rfl
  · rename_i j want hg
    rw [hg]
    simp only
    have hgd : (all[j]?).bind (·.dst) = gdst all j := by unfold gdst; rw [Array.getElem?_toList]
    unfold yielded
    rw [hgd]
    split at hw
    · rename_i t ht
      rw [ht]
      simp only [Option.bind_some]
      split at hw
      · rename_i b' hb
        obtain ⟨v, h1, h2⟩ := h.slot (t := t) (by rw [hb]; simp)
        rw [hb] at h2
        rw [h1, bool_of h2]
        cases hw
        simp only
        cases b' <;> cases want <;> rfl
      · rename_i hb
        obtain ⟨v, h1, h2⟩ := h.slot (t := t) (by rw [hb]; simp)
        rw [hb] at h2
        rw [h1, tup_nil h2]
        cases hw
        rfl
      · cases hw
    · rename_i ht
      rw [ht]
      cases hw
      rfl

theorem wpList_cons {a : Act} {w : World} {Q : Exit → Act → World → Prop} : wpList P all Q (o :: os) a w = (if Region.wanted o (yielded all a.tmps) then o.wp P a w (wpList P all Q os) Q ∨ (o.asks P a w ∧ LetsOut Q) else wpList P all Q os (a.put o.dst undef) w) := rfl

theorem CWops.step (hw : wantd all σ o = some true) (h : SndU P up o σ (fun σ' => CWops P up nt all os σ' K)) : CWops P up nt all (o :: os) σ K := by
  intro hd A0 D0 w0 a w G Q hu hh hq
  obtain ⟨hd1, hd2⟩ := okDst_cons hd
  rw [wpList_cons, wantd_spec hh hw, if_pos rfl]
  rcases h A0 D0 w0 nt a w G Q hd1 hu hh with h1 | h1
  · exact .inl (Oper.wp_mono (fun a w ⟨σ', G', h1, h2⟩ => h2 hd2 A0 D0 w0 a w G' Q hu h1 hq) h1)
  · exact .inr h1

theorem CWops.skip (hw : wantd all σ o = some false) (h : CWops P up nt all os (σ.put o.dst (.tup [])) K) : CWops P up nt all (o :: os) σ K := by
  intro hd A0 D0 w0 a w G Q hu hh hq
  obtain ⟨hd1, hd2⟩ := okDst_cons hd
  rw [wpList_cons, wantd_spec hh hw, if_neg (by simp)]
  exact h hd2 A0 D0 w0 _ w G Q hu (hh.put (.fr _ _ (.tup [] [] rfl (fun i a h => by simp at h))) hd1) hq

theorem CWops.runs (htt : TTok P TT) : ∀ (n : Nat) {os : List Oper} {σ : St} {ob : Prop} {r : Stop}, runS TT all n os σ ob = r → (r.ob → ob) ∧ (r.ob → CWops P up nt all r.os r.σ K → CWops P up nt all os σ K)
  | 0, os, σ, ob, r, h => by subst h; exact ⟨id, fun _ h => h⟩
  | n + 1, [], σ, ob, r, h => by subst h; exact ⟨id, fun _ h => h⟩
  | n + 1, o :: os, σ, ob, r, h => by
    simp only [runS] at h
    split at h
    · rename_i e he
      obtain ⟨h1, h2⟩ := CWops.runs htt n h
      refine ⟨fun hr => (h1 hr).1, fun hr hk => ?_⟩
      have hob := (h1 hr).2
      have hk := h2 hr hk
      unfold runStep at he
      split at he
      · rename_i hw
        refine CWops.step hw (Snd.up ?_)
        have hs := eop_sound htt he hob
        intro A0 D0 w0 nt a w G Q hd hh
        exact Oper.wp_mono (fun a w ⟨σ', G', g1, g2⟩ => ⟨σ', G', g1, by subst g2; exact hk⟩) (hs A0 D0 w0 nt a w G Q hd hh)
      · rename_i hw
        cases he
        exact CWops.skip hw hk
      · cases he
    · subst h; exact ⟨id, fun _ h => h⟩

/-- So many operations that make a value, or turn the state, at once. -/
theorem CWops.run (htt : TTok P TT) (n : Nat) {os' : List Oper} {σ' : St} {ob : Prop} (h : runS TT all n os σ True = ⟨os', σ', ob⟩) (hob : ob) (hk : CWops P up nt all os' σ' K) : CWops P up nt all os σ K :=
  (CWops.runs htt n h).2 hob hk

/-- What a guard tells is looked at. -/
theorem CWops.guard (t : Tmp) {b : Bool} (hg : getT σ.t t = .bool b) (h1 : b = true → CWops P up nt all os (σ.put (some t) (.bool true)) K) (h2 : b = false → CWops P up nt all os (σ.put (some t) (.bool false)) K) : CWops P up nt all os σ K := by
  intro hd A0 D0 w0 a w G Q hu hh hq
  obtain ⟨v, k1, k2⟩ := hh.slot (t := t) (by rw [hg]; simp)
  have key : CWops P up nt all os (σ.put (some t) (.bool b)) K := by
    cases b
    · exact h2 rfl
    · exact h1 rfl
  refine key hd A0 D0 w0 a w G Q hu ⟨hh.inv, hh.size, hh.defers, fun i hi => ?_, fun i hi => ?_, hh.fr, hh.own, hh.a0lt⟩ hq
  · simp only [St.put, getT]
    split
    · rename_i e; subst e; rw [← hg]; exact hh.tmp t hi
    · exact hh.tmp i hi
  · simp only [St.put, getT]
    have : t ≠ i := fun e => by subst e; have := hh.far t hi; rw [hg] at this; cases this
    rw [if_neg this]
    exact hh.far i hi
end

/-! ### 25. Code -/
section
variable {P : Program} {np : Nat} {ops : Array Oper} {Q : Exit → Act → World → Prop}

theorem Kept.put {o : Oper} {a a' : Act} {v : Value} (hd : ∀ d, o.dst = some d → np ≤ d) (h : a' = a.put o.dst v) : Kept np a a' := by
  subst h
  intro i hi
  cases ho : o.dst with
  | none => rfl
  | some d =>
    have := hd d ho
    simp only [Act.put]
    rw [Array.getElem?_setIfInBounds_ne (by omega)]

def KeepQ (np : Nat) (a0 : Act) (Q : Exit → Act → World → Prop) : Exit → Act → World → Prop := fun e a w => Q e a w ∧ (e = .normal → Kept np a0 a)
theorem letsOut_keep {a0 : Act} (h : LetsOut Q) : LetsOut (KeepQ np a0 Q) := by
  obtain ⟨a, w, h⟩ := h; exact ⟨a, w, h, fun h => by cases h⟩

theorem Oper.wp_keep {o : Oper} {a a0 : Act} {w : World} {K : Act → World → Prop} (hd : ∀ d, o.dst = some d → np ≤ d) (h : o.wp P a w K Q) : o.wp P a w (fun a' w' => K a' w' ∧ Kept np a a') (KeepQ np a0 Q) := by
  unfold Oper.wp at *
  generalize (execOp a.eval o).run P w = r at *
  cases r with
  | ok n w' =>
    cases n <;> simp only [Oper.upon] at h ⊢
    case value v => exact ⟨h, Kept.put hd rfl⟩
    case skip => exact ⟨h, Kept.put hd rfl⟩
    case defer d => exact ⟨h, (Kept.put (a := { a with defers := d :: a.defers }) hd rfl)⟩
    case enter f args =>
      refine Calls.mono h fun e w'' he => ?_
      cases e with
      | returned v => exact ⟨he, Kept.put hd rfl⟩
      | panicked c => exact ⟨he, fun h => by cases h⟩
      | outgrown => exact letsOut_keep he
    case row row args => exact Rows.mono h fun v w'' he => ⟨he, Kept.put hd rfl⟩
  | halt x w' =>
    cases x <;> simp only [Oper.upon] at h ⊢
    case panic v => exact ⟨h, fun h => by cases h⟩

theorem keepDst_cons {o : Oper} {os : List Oper} (h : keepDst np (o :: os) = true) : (∀ d, o.dst = some d → np ≤ d) ∧ keepDst np os = true := by
  simp only [keepDst, Bool.and_eq_true] at h
  refine ⟨fun d hd => ?_, h.2⟩
  have h1 := h.1
  rw [hd] at h1
  exact Nat.ble_eq.mp h1

theorem wpList_keep {a0 : Act} : ∀ {os : List Oper} {a : Act} {w : World}, keepDst np os = true → Kept np a0 a → wpList P ops Q os a w → wpList P ops (KeepQ np a0 Q) os a w
  | [], a, w, _, hk, h => ⟨h, fun _ => hk⟩
  | o :: os, a, w, hd, hk, h => by
    obtain ⟨hd1, hd2⟩ := keepDst_cons hd
    rw [wpList_cons] at h ⊢
    split
    · rename_i hw
      rw [if_pos hw] at h
      rcases h with h | h
      · exact .inl (Oper.wp_mono (fun a' w' ⟨h1, h2⟩ => wpList_keep hd2 (hk.trans h2) h1) (Oper.wp_keep hd1 h))
      · exact .inr ⟨h.1, letsOut_keep h.2⟩
    · rename_i hw
      rw [if_neg hw] at h
      exact wpList_keep hd2 (hk.trans (Kept.put hd1 rfl)) h
end

section
variable {P : Program} {TT : TTab} {up : Bool} {np nt : Nat} {σ : St} {Q : Exit → St → Prop}

def thenS (P : Program) (up : Bool) (np nt : Nat) (c : Code) (Q : Exit → St → Prop) : Exit → St → Prop
  | .normal, σ => CW P up np nt c σ Q
  | e, σ => Q e σ
def inBlk (id : Nat) (Q : Exit → St → Prop) : Exit → St → Prop
  | .exit id', σ => match Nat.beq id' id with
    | true => Q .normal σ
    | false => Q (.exit id') σ
  | e, σ => Q e σ
def noGoto (Q : Exit → St → Prop) : Exit → St → Prop
  | .goto _, _ => False
  | e, σ => Q e σ

theorem CW.mono {c : Code} {Q' : Exit → St → Prop} (h : CW P up np nt c σ Q) (hq : ∀ e σ, Q e σ → Q' e σ) : CW P up np nt c σ Q' :=
  fun A0 D0 w0 a w G R hu hh hr => h A0 D0 w0 a w G R hu hh fun e a' w σ' G' h1 hk h2 => hr e a' w σ' G' h1 hk (hq e σ' h2)

theorem CW.skip (h : Q .normal σ) : CW P up np nt .skip σ Q := fun _ _ _ a _ _ _ _ hh hr => wp_skip (hr _ _ _ _ _ hh (Kept.refl np a) h)
theorem CW.label {l : Nat} (h : Q .normal σ) : CW P up np nt (.label l) σ Q := fun _ _ _ a _ _ _ _ hh hr => wp_label (hr _ _ _ _ _ hh (Kept.refl np a) h)
theorem CW.exit {id : Nat} (h : Q (.exit id) σ) : CW P up np nt (.exit id) σ Q := fun _ _ _ a _ _ _ _ hh hr => wp_exit (hr _ _ _ _ _ hh (Kept.refl np a) h)
theorem CW.goto {l : Nat} (h : Q (.goto l) σ) : CW P up np nt (.goto l) σ Q := fun _ _ _ a _ _ _ _ hh hr => wp_goto (hr _ _ _ _ _ hh (Kept.refl np a) h)
theorem CW.ret (h : Q .ret σ) : CW P up np nt .ret σ Q := fun _ _ _ a _ _ _ _ hh hr => wp_ret (hr _ _ _ _ _ hh (Kept.refl np a) h)

theorem letsOut_then {R : Exit → Act → World → Prop} {next : Act → World → Prop} (h : up = true → LetsOut R) : up = true → LetsOut (Exit.then next R) := fun hu => let ⟨a, w, h⟩ := h hu; ⟨a, w, h⟩
theorem letsOut_block {R : Exit → Act → World → Prop} {id : Nat} (h : up = true → LetsOut R) : up = true → LetsOut (Exit.inBlock id R) := fun hu => let ⟨a, w, h⟩ := h hu; ⟨a, w, h⟩

theorem CW.seq {x y : Code} (h : CW P up np nt x σ (thenS P up np nt y Q)) : CW P up np nt (.seq x y) σ Q := by
  intro A0 D0 w0 a w G R hu hh hr
  refine wp_seq (h A0 D0 w0 a w G _ (letsOut_then hu) hh fun e a' w σ' G' h1 hk h2 => ?_)
  cases e with
  | normal => exact h2 A0 D0 w0 a' w G' R hu h1 fun e a'' w σ' G' h1 hk' h2 => hr e a'' w σ' G' h1 (hk.trans hk') h2
  | _ => exact hr _ a' w σ' G' h1 hk h2

theorem CW.block {id : Nat} {c : Code} (h : CW P up np nt c σ (inBlk id Q)) : CW P up np nt (.block id c) σ Q := by
  intro A0 D0 w0 a w G R hu hh hr
  refine wp_block (h A0 D0 w0 a w G _ (letsOut_block hu) hh fun e a' w σ' G' h1 hk h2 => ?_)
  cases e with
  | exit id' =>
    simp only [inBlk] at h2
    simp only [Exit.inBlock]
    by_cases e : id' = id
    · rw [if_pos e]
      have hb : Nat.beq id' id = true := by subst e; simp
      rw [hb] at h2
      exact hr _ a' w σ' G' h1 hk h2
    · rw [if_neg e]
      have hb : Nat.beq id' id = false := by
        cases hb : Nat.beq id' id with
        | false => rfl
        | true => exact absurd (Nat.eq_of_beq_eq_true hb) e
      rw [hb] at h2
      exact hr _ a' w σ' G' h1 hk h2
  | _ => exact hr _ a' w σ' G' h1 hk h2

theorem CW.scope {c : Code} (h : CW P up np nt c σ (noGoto Q)) : CW P up np nt (.scope c) σ Q := by
  intro A0 D0 w0 a w G R hu hh hr
  refine wp_scope_straight (h A0 D0 w0 a w G _ (fun hu' => let ⟨a, w, h⟩ := hu hu'; ⟨a, w, h⟩) hh fun e a' w σ' G' h1 hk h2 => ?_)
  cases e with
  | goto l => exact h2.elim
  | _ => exact hr _ a' w σ' G' h1 hk h2

theorem CW.cond {c : Operand} {x y : Code} {b : Bool} (hc : ev σ c = .bool b) (h1 : b = true → CW P up np nt x σ Q) (h2 : b = false → CW P up np nt y σ Q) : CW P up np nt (.cond c x y) σ Q := by
  intro A0 D0 w0 a w G R hu hh hr
  have he := hh.ev c
  rw [hc] at he
  exact wp_cond_split (bool_of he) (fun hb => h1 hb A0 D0 w0 a w G R hu hh hr) (fun hb => h2 hb A0 D0 w0 a w G R hu hh hr)

theorem CW.region {id : Nat} {ops : Array Oper} (hd : okDst nt ops.toList = true) (hk : keepDst np ops.toList = true) (h : CWops P up nt ops ops.toList σ (Q .normal)) : CW P up np nt (.region id ops false) σ Q := by
  intro A0 D0 w0 a w G R hu hh hr
  let Q1 : Exit → Act → World → Prop := fun e a' w' => match e with
    | .normal => ∃ σ' G', Holds A0 D0 w0 nt σ' a' w' G' ∧ Q .normal σ'
    | e => R e a' w'
  have h1 := wpList_keep (a0 := a) hk (Kept.refl np a) (h hd A0 D0 w0 a w G Q1 (fun hu' => let ⟨a, w, h⟩ := hu hu'; ⟨a, w, h⟩) hh fun a' w σ' G' h1 h2 => ⟨σ', G', h1, h2⟩)
  refine wp_mono (wp_region_list h1) fun e a' w' he => ?_
  cases e with
  | normal => obtain ⟨⟨σ', G', g1, g2⟩, g3⟩ := he; exact hr _ a' w' σ' G' g1 (g3 rfl) g2
  | _ => exact he.1

/-- A state that says less. -/
def Wk (m : Nat → Nat) (σ τ : St) : Prop := (Names m τ.s).Nodup ∧ AllT m τ.n σ.t τ.t ∧ AllS m τ.n σ.s τ.s

/-- The same place in the run, told otherwise. -/
def Sh (σ τ : St) : Prop := ∀ (A0 D0 : Nat → Prop) (w0 : World) (nt : Nat) (a : Act) (w : World) (G : Nat → Option GR), Holds A0 D0 w0 nt σ a w G → ∃ G', Holds A0 D0 w0 nt τ a w G'
theorem Sh.wk (m : Nat → Nat) {σ τ : St} (h : Wk m σ τ) : Sh σ τ := fun _ _ _ _ _ _ _ hh => ⟨_, hh.weak m h.1 h.2.1 h.2.2⟩
theorem Sh.trans {σ τ ρ : St} (h : Sh σ τ) (h' : Sh τ ρ) : Sh σ ρ := fun A0 D0 w0 nt a w G hh => let ⟨G', h1⟩ := h A0 D0 w0 nt a w G hh; h' A0 D0 w0 nt a w G' h1
theorem Sh.refl (σ : St) : Sh σ σ := fun _ _ _ _ _ _ G hh => ⟨G, hh⟩
theorem CW.sh {τ : St} {c : Code} (h : Sh σ τ) (hk : CW P up np nt c τ Q) : CW P up np nt c σ Q := fun A0 D0 w0 a w G R hu hh hr => let ⟨G', h1⟩ := h A0 D0 w0 nt a w G hh; hk A0 D0 w0 a w G' R hu h1 hr
theorem CWops.sh {all : Array Oper} {os : List Oper} {τ : St} {K : St → Prop} (h : Sh σ τ) (hk : CWops P up nt all os τ K) : CWops P up nt all os σ K := fun hd A0 D0 w0 a w G R hu hh hr => let ⟨G', h1⟩ := h A0 D0 w0 nt a w G hh; hk hd A0 D0 w0 a w G' R hu h1 hr

theorem CW.weak (m : Nat → Nat) {τ : St} {c : Code} (h : Wk m σ τ) (hk : CW P up np nt c τ Q) : CW P up np nt c σ Q :=
  fun A0 D0 w0 a w _ R hu hh hr => hk A0 D0 w0 a w _ R hu (hh.weak m h.1 h.2.1 h.2.2) hr

theorem CW.cut {c d : Code} (τ : St) (h : CW P up np nt c σ (fun e σ' => e = .normal ∧ Sh σ' τ)) (hk : CW P up np nt d τ Q) : CW P up np nt (.seq c d) σ Q := by
  refine CW.seq (CW.mono h fun e σ' ⟨he, hw⟩ => ?_)
  subst he
  exact CW.sh hw hk

def loopS {S : Type} (st : S → St) (I : S → Prop) (μ : S → Nat) (x : S) (Q : Exit → St → Prop) : Exit → St → Prop
  | .normal, σ => ∃ (y : S), Sh σ (st y) ∧ I y ∧ μ y < μ x
  | e, σ => Q e σ

theorem least {p : Nat → Prop} (h : ∃ n, p n) : ∃ n, p n ∧ ∀ k, p k → n ≤ k := by
  obtain ⟨n, hn⟩ := h
  induction n using Nat.strongRecOn with
  | _ n ih =>
    by_cases hk : ∃ k, k < n ∧ p k
    · obtain ⟨k, h1, h2⟩ := hk; exact ih k h1 h2
    · exact ⟨n, hn, fun k hp => Nat.le_of_not_lt fun hlt => hk ⟨k, hlt, hp⟩⟩

theorem leastOf : ∃ f : (Nat → Prop) → Nat, ∀ p, (∃ n, p n) → p (f p) ∧ ∀ k, p k → f p ≤ k := by
  refine Classical.axiomOfChoice (α := Nat → Prop) (β := fun _ => Nat) (r := fun p n => (∃ n, p n) → p n ∧ ∀ k, p k → n ≤ k) fun p => ?_
  by_cases h : ∃ n, p n
  · obtain ⟨n, h1, h2⟩ := least h; exact ⟨n, fun _ => ⟨h1, h2⟩⟩
  · exact ⟨0, fun h' => absurd h' h⟩

theorem CW.loop {S : Type} {c : Code} (st : S → St) (I : S → Prop) (μ : S → Nat) (x0 : S) (hw : Sh σ (st x0)) (h0 : I x0)
    (hb : ∀ x, I x → CW P up np nt c (st x) (loopS st I μ x Q)) : CW P up np nt (.loop c) σ Q := by
  intro A0 D0 w0 a0 w G R hu hh hr
  obtain ⟨least, least_spec⟩ := leastOf
  obtain ⟨G0, hh0⟩ := hw A0 D0 w0 nt a0 w G hh
  let p : Act → World → Nat → Prop := fun a w n => ∃ x G, I x ∧ μ x = n ∧ Holds A0 D0 w0 nt (st x) a w G ∧ Kept np a0 a
  refine wp_loop (fun a w => ∃ n, p a w n) (fun a w => least (p a w)) ⟨_, x0, G0, h0, rfl, hh0, Kept.refl np a0⟩ fun a w hI => ?_
  obtain ⟨⟨x, G, hx, hn, hh', hkept⟩, hmin⟩ := least_spec _ hI
  refine hb x hx A0 D0 w0 a w G _ (letsOut_then hu) hh' fun e a' w' σ' G' h1 hk h2 => ?_
  cases e with
  | normal =>
    obtain ⟨y, k1, k2, k3⟩ := h2
    obtain ⟨G2, hh2⟩ := k1 A0 D0 w0 nt a' w' G' h1
    have hp : p a' w' (μ y) := ⟨y, G2, k2, rfl, hh2, hkept.trans hk⟩
    refine ⟨⟨_, hp⟩, Nat.lt_of_le_of_lt ((least_spec _ ⟨_, hp⟩).2 _ hp) ?_⟩
    rw [← hn]; exact k3
  | _ => exact hr _ a' w' σ' G' h1 (hkept.trans hk) h2
end
end Go.Ab

