/-
  Drawn regions, and what a walk is computed with. No condition but those of each theorem.
-/
import Derived.Test.YtmadijloeffjfaaFc
set_option linter.unusedVariables false
set_option linter.unusedSimpArgs false
namespace Go.Ab
open Go Go.RowKit

theorem okDst_drop {nt : Nat} : ∀ {os : List Oper} (k : Nat), okDst nt os = true → okDst nt (os.drop k) = true
  | [], k, h => by simpa using h
  | o :: os, 0, h => h
  | o :: os, k + 1, h => okDst_drop k (okDst_cons h).2

theorem keepDst_mem {np : Nat} : ∀ {os : List Oper}, keepDst np os = true → ∀ o ∈ os, ∀ d, o.dst = some d → np ≤ d
  | [], _, o, ho => by cases ho
  | b :: os, h, o, ho => by
    obtain ⟨h1, h2⟩ := keepDst_cons h
    rcases List.mem_cons.1 ho with rfl | ho
    · exact h1
    · exact keepDst_mem h2 o ho

theorem wpAny_keep {P : Program} {np : Nat} {ops : Array Oper} {Q : Exit → Act → World → Prop} {md : Region.Mode} {a0 : Act} (hd : keepDst np ops.toList = true) : ∀ (fuel : Nat) (listed : Array Bool) (a : Act) (w : World), Kept np a0 a →
    wpAny P md ops Q fuel listed a w → wpAny P md ops (KeepQ np a0 Q) fuel listed a w
  | 0, listed, a, w, hk, h => ⟨h.1, h.2, fun _ => hk⟩
  | fuel + 1, listed, a, w, hk, h => by
    refine ⟨fun h0 => ⟨h.1 h0, fun _ => hk⟩, fun i hi => ?_⟩
    have h1 := h.2 i hi
    unfold wpOp at h1 ⊢
    split
    · rename_i hn; rw [hn] at h1; exact wpAny_keep hd fuel _ a w hk h1
    · rename_i o ho
      rw [ho] at h1
      have hod := keepDst_mem hd o (List.mem_of_getElem? (by rw [Array.getElem?_toList]; exact ho))
      simp only at h1
      split
      · rename_i hw
        rw [if_pos hw] at h1
        rcases h1 with h1 | h1
        · exact .inl (Oper.wp_mono (fun a' w' ⟨g1, g2⟩ => wpAny_keep hd fuel _ a' w' (hk.trans g2) g1) (Oper.wp_keep hod h1))
        · exact .inr ⟨h1.1, letsOut_keep h1.2⟩
      · rename_i hw
        rw [if_neg hw] at h1
        exact wpAny_keep hd fuel _ _ w (hk.trans (Kept.put hod rfl)) h1

section
variable {P : Program} {TT : TTab} {up : Bool} {np nt : Nat} {σ : St} {Q : Exit → St → Prop}

theorem CW.drawn (hm : P.follows .mixedOrders = true) (k : Nat) {id : Nat} {ops : Array Oper} (hk : k ≤ ops.size) (hchk : segChk k ops = true) (hd : okDst nt ops.toList = true) (hkd : keepDst np ops.toList = true)
    (h : Seg P up ops σ (ops.toList.take k) σ.t none fun t r => CWops P up nt ops (ops.toList.drop k) (endSt σ t r) (Q .normal)) : CW P up np nt (.region id ops true) σ Q := by
  intro A0 D0 w0 a w G R hu hh hr
  let Q1 : Exit → Act → World → Prop := fun e a' w' => match e with
    | .normal => ∃ σ' G', Holds A0 D0 w0 nt σ' a' w' G' ∧ Q .normal σ'
    | e => R e a' w'
  have hu1 : up = true → LetsOut Q1 := fun hu' => let ⟨a, w, h⟩ := hu hu'; ⟨a, w, h⟩
  suffices hs : wpAny P .any ops Q1 ops.size (Array.replicate ops.size false) a { w with drawn := w.drawn + 1 } by
    refine wp_mono (wp_region_any hm (wpAny_keep (a0 := a) hkd _ _ _ _ (Kept.refl np a) hs)) fun e a' w' he => ?_
    cases e with
    | normal => obtain ⟨⟨σ', G', g1, g2⟩, g3⟩ := he; exact hr _ a' w' σ' G' g1 (g3 rfl) g2
    | _ => exact he.1
  obtain ⟨te, re, val, tt, hk', hv⟩ := seg_vals h
  have hno : ∀ i, (Array.replicate ops.size false).getD i false = true → False := fun i hi => by
    rw [Array.getD_eq_getD_getElem?, Array.getElem?_replicate] at hi
    split at hi <;> simp at hi
  refine any_seg (σ' := σ) hk hchk hd hu1 (fun y hy => ?_) hv (fun a w G hh' => hk' (okDst_drop k hd) A0 D0 w0 a w G Q1 hu1 hh' fun a w σ' G' h1 h2 => ⟨σ', G', h1, h2⟩) ops.size _ a _ G (by simp) ?_ (fun i hi => (hno i hi).elim)
    (fun i o _ hi => (hno i hi).elim) ⟨fun i o x _ hi => (hno i hi).elim, fun x _ => rfl, fun i o r _ hi => (hno i hi).elim, fun _ => ⟨rfl, fun _ => rfl⟩⟩ hh.drew
  · have := hh.inv.dom y
    rw [hy] at this
    obtain ⟨g, hg⟩ := Option.isSome_iff_exists.1 this.symm
    exact hh.inv.lt y g hg
  · unfold unl
    have : ((List.range ops.size).filter fun i => !(Array.replicate ops.size false).getD i true) = List.range ops.size := by
      rw [List.filter_eq_self]
      intro i hi
      have hi := List.mem_range.1 hi
      rw [Array.getD_eq_getD_getElem?, Array.getElem?_replicate, if_pos hi]
      rfl
    rw [this, List.length_range]

end

section
variable {P : Program} {TT : TTab} {up : Bool} {all : Array Oper} {σ0 : St} {K : List (Nat × AV) → Option Root → Prop}

theorem Seg.congr : ∀ {os : List Oper} {t t' : List (Nat × AV)} {r : Option Root}, (∀ x, getT t' x = getT t x) → Seg P up all σ0 os t' r K → Seg P up all σ0 os t r K
  | [], t, t', r, he, ⟨t2, h1, h2⟩ => ⟨t2, fun x => (h1 x).trans (he x), h2⟩
  | _ :: _, t, t', r, he, ⟨t2, v, r', h1, h2⟩ => ⟨t2, v, r', fun x => (h1 x).trans (he x), h2⟩

theorem Seg.done {t : List (Nat × AV)} {r : Option Root} (h : K t r) : Seg P up all σ0 [] t r K := ⟨t, fun _ => rfl, h⟩

theorem looks_ops {o : Oper} {σ' τ : St} (h : ∀ x ∈ o.looksAt all, getT σ'.t x = getT τ.t x) {x : Operand} (hx : x ∈ o.op.operands) : ev σ' x = ev τ x := by
  cases x with
  | tmp t =>
    simp only [ev]
    refine h t ?_
    unfold Oper.looksAt
    rw [List.mem_append]; left
    rw [List.mem_filterMap]
    exact ⟨.tmp t, Array.mem_toList_iff.2 hx, rfl⟩
  | _ => rfl

theorem wantd_congr {o : Oper} {σ' τ : St} (h : ∀ x ∈ o.looksAt all, getT σ'.t x = getT τ.t x) : wantd all σ' o = wantd all τ o := by
  unfold wantd
  split
  · rfl
  · rename_i j want hg
    split
    · rename_i t ht
      rw [h t (by
        unfold Oper.looksAt
        rw [List.mem_append]; right
        rw [hg]
        unfold gdst at ht
        rw [Array.getElem?_toList] at ht
        simp [ht])]
    · rfl

theorem rop_plain {TT : TTab} {σ : St} {o : Op} {v : AV} {r : Option Root} (hp : plainB o = true) (h : rop TT σ o = some (v, r)) : r = none := by
  cases o <;> simp only [plainB, Bool.false_eq_true] at hp <;> simp only [rop] at h
  all_goals
    first
    | (unfold rLoad at h; repeat' (split at h)) <;> first | (cases h; rfl) | (cases h; done)
    | (unfold rFieldAddr at h; repeat' (split at h)) <;> first | (cases h; rfl) | (cases h; done)
    | (unfold rIndexAddr at h; repeat' (split at h)) <;> first | (cases h; rfl) | (cases h; done)
    | (unfold rBin at h; repeat' (split at h)) <;> first | (cases h; rfl) | (cases h; done)
    | (repeat' (split at h)) <;> first | (cases h; rfl) | (cases h; done)
theorem pval_plain {TT : TTab} {σ : St} {o : Op} {v : AV} {r : Option Root} (hp : plainB o = true) (h : pval TT σ o = some (v, r)) : r = none := by
  have h' : rop TT σ o = some (v, r) := by
    cases o <;> simp only [plainB, Bool.false_eq_true] at hp <;> simpa only [pval] using h
  exact rop_plain hp h'

theorem stab_skip {o : Oper} {t : List (Nat × AV)} (hw : wantd all { σ0 with t := t } o = some false) : Stab P up all o t σ0 (.tup []) none :=
  ⟨fun _ => rfl, fun σ' hl _ _ => .inr ⟨by rw [wantd_congr (τ := { σ0 with t := t }) hl]; exact hw, rfl, rfl⟩⟩

theorem stab_val (htt : TTok P TT) {o : Oper} {t : List (Nat × AV)} {v : AV} {r : Option Root} (hw : wantd all { σ0 with t := t } o = some true) (hv : pval TT { σ0 with t := t } o.op = some (v, r)) : Stab P up all o t σ0 v r := by
  refine ⟨fun hp => pval_plain hp hv, ?_⟩
  intro σ' hl he hn
  refine .inl ⟨by rw [wantd_congr (τ := { σ0 with t := t }) hl]; exact hw, Snd.up (pval_sound htt ?_)⟩
  exact pval_ext (τ := { σ0 with t := t }) ⟨he.s, he.n⟩ (fun x hx => looks_ops (τ := { σ0 with t := t }) hl hx) hn hv

theorem Seg.skip {o : Oper} {os : List Oper} {t : List (Nat × AV)} {r : Option Root} (hw : wantd all { σ0 with t := t } o = some false) (hk : Seg P up all σ0 os (putT t o.dst (.tup [])) r K) : Seg P up all σ0 (o :: os) t r K :=
  ⟨t, .tup [], none, fun _ => rfl, stab_skip hw, .inl rfl, hk⟩

structure StopG where
  os : List Oper
  t : List (Nat × AV)
  r : Option Root

def segStep (TT : TTab) (all : Array Oper) (τ : St) (o : Oper) : Option (AV × Option Root) :=
  match wantd all τ o with
  | some true => pval TT τ o.op
  | some false => some (.tup [], none)
  | none => none

def addG : Option Root → Option Root → Option (Option Root)
  | none, r => some r
  | some r, none => some (some r)
  | some _, some _ => none

def runG (TT : TTab) (all : Array Oper) (σ0 : St) : Nat → List Oper → List (Nat × AV) → Option Root → StopG
  | 0, os, t, r => ⟨os, t, r⟩
  | _ + 1, [], t, r => ⟨[], t, r⟩
  | n + 1, o :: os, t, r => match segStep TT all { σ0 with t := t } o with
    | some (v, r1) => match addG r1 r with
      | some r2 => runG TT all σ0 n os (putT t o.dst v) r2
      | none => ⟨o :: os, t, r⟩
    | none => ⟨o :: os, t, r⟩

theorem Seg.runs (htt : TTok P TT) : ∀ (n : Nat) {os : List Oper} {t : List (Nat × AV)} {r : Option Root} {s : StopG}, runG TT all σ0 n os t r = s → Seg P up all σ0 s.os s.t s.r K → Seg P up all σ0 os t r K
  | 0, os, t, r, s, h, hk => by subst h; exact hk
  | n + 1, [], t, r, s, h, hk => by subst h; exact hk
  | n + 1, o :: os, t, r, s, h, hk => by
    simp only [runG] at h
    split at h
    · rename_i v r1 hst
      split at h
      · rename_i r2 hr2
        have ih := Seg.runs htt n h hk
        have hr : (r1 = none ∨ r = none) ∧ r2 = r1.or r := by
          unfold addG at hr2
          split at hr2 <;> cases hr2
          · exact ⟨.inl rfl, rfl⟩
          · exact ⟨.inr rfl, rfl⟩
        refine ⟨t, v, r1, fun _ => rfl, ?_, hr.1, by rw [← hr.2]; exact ih⟩
        unfold segStep at hst
        split at hst
        · rename_i hw; exact stab_val htt hw hst
        · rename_i hw; cases hst; exact stab_skip hw
        · cases hst
      · subst h; exact hk
    · subst h; exact hk

theorem Seg.run (htt : TTok P TT) (n : Nat) {os os' : List Oper} {t t' : List (Nat × AV)} {r r' : Option Root} (h : runG TT all σ0 n os t r = ⟨os', t', r'⟩) (hk : Seg P up all σ0 os' t' r' K) : Seg P up all σ0 os t r K :=
  Seg.runs htt n h hk

theorem Seg.guard (x : Tmp) {b : Bool} {os : List Oper} {t : List (Nat × AV)} {r : Option Root} (hg : getT t x = .bool b) (h1 : b = true → Seg P up all σ0 os ((x, .bool true) :: t) r K) (h2 : b = false → Seg P up all σ0 os ((x, .bool false) :: t) r K) : Seg P up all σ0 os t r K := by
  cases b
  · refine Seg.congr (fun y => ?_) (h2 rfl)
    simp only [getT]; split
    · rename_i e; subst e; exact hg.symm
    · rfl
  · refine Seg.congr (fun y => ?_) (h1 rfl)
    simp only [getT]; split
    · rename_i e; subst e; exact hg.symm
    · rfl

def okV : Nat → St → AV → Bool
  | 0, _, _ => false
  | n + 1, σ, a => match a with
    | .ref x p c => (cellAtB σ x p c).tree
    | .lv x p j => match getS σ.s x with
      | some r => match rowOf r.cells p with
        | some row => (row.drop j).all fun a => a.tree || okV n σ a
        | none => false
      | none => false
    | .agg l => l.all (okV n σ)
    | .tup l => l.all (okV n σ)
    | .func _ x y => x.all (okV n σ) && y.all (okV n σ)
    | .ifc _ a => okV n σ a
    | _ => true

theorem view_ext {τ σ : St} (h : Ext τ σ) : ∀ (n : Nat) (a : AV), okV n τ a = true → view n σ a = view n τ a
  | 0, a, hv => by simp [okV] at hv
  | n + 1, a, hv => by
    have ih := view_ext h n
    have list : ∀ (l : List AV), l.all (okV n τ) = true → l.map (view n σ) = l.map (view n τ) := fun l hl => List.map_congr_left fun a ha => ih a (List.all_eq_true.1 hl a ha)
    cases a <;> simp only [okV] at hv <;> simp only [view]
    case ref x p c =>
      have hne : cellAtB τ x p c ≠ .undef := fun e => by rw [e] at hv; cases hv
      rw [h.cell hne]
    case lv x p j =>
      split at hv
      · rename_i r hr
        rw [h.s x r hr, hr]
        simp only
        split at hv
        · rename_i row hrow
          simp only [hrow]
          have : ((row.drop j).map fun a => if a.tree = true then a.freeze else view n σ a) = ((row.drop j).map fun a => if a.tree = true then a.freeze else view n τ a) := by
            refine List.map_congr_left fun a ha => ?_
            have := List.all_eq_true.1 hv a ha
            simp only [Bool.or_eq_true] at this
            by_cases ht : a.tree = true
            · rw [if_pos ht, if_pos ht]
            · rw [if_neg ht, if_neg ht]; exact ih a (this.resolve_left ht)
          rw [this]
        · cases hv
      · cases hv
    case agg l => rw [list l hv]
    case tup l => rw [list l hv]
    case func f x y =>
      simp only [Bool.and_eq_true] at hv
      rw [list x hv.1, list y hv.2]
    case ifc t b => rw [ih b hv]

theorem callL_ev {first caps : List AV} {xs : List Operand} {σ τ : St} (h : ∀ x ∈ xs, ev σ x = ev τ x) : callL σ first xs caps = callL τ first xs caps := by
  unfold callL; rw [List.map_congr_left h]

/-- A call within the first ones, its result known: it reads what is lent to it. -/
theorem Seg.call {os : List Oper} {t : List (Nat × AV)} {r : Option Root} {d : Option Tmp} {ty : TypeId} {pos : String} {af : Array Edge} {gd : Option (Nat × Bool)} {x : Operand} {xs : Array Operand} {ts : Array TypeId} {f : FuncId} {first caps args : List AV} {v : AV}
    (hp : PCall P up f args (· = v)) (hw : wantd all { σ0 with t := t } ⟨d, .call ⟨.value x, xs, ts⟩, ty, pos, af, gd⟩ = some true) (hx : ev { σ0 with t := t } x = .func (.func f) first caps)
    (hok : (callL { σ0 with t := t } first xs.toList caps).all (okV 9 { σ0 with t := t }) = true) (ha : leL args ((callL { σ0 with t := t } first xs.toList caps).map (view 9 { σ0 with t := t }))) (hv : v.flat = true)
    (hk : Seg P up all σ0 os (putT t d v) r K) : Seg P up all σ0 (⟨d, .call ⟨.value x, xs, ts⟩, ty, pos, af, gd⟩ :: os) t r K := by
  refine ⟨t, v, none, fun _ => rfl, ⟨fun _ => rfl, ?_⟩, .inl rfl, hk⟩
  intro σ' hl he hn
  refine .inl ⟨by rw [wantd_congr (τ := { σ0 with t := t }) hl]; exact hw, ?_⟩
  have hev : ∀ y ∈ (Op.call ⟨.value x, xs, ts⟩).operands, ev σ' y = ev { σ0 with t := t } y := fun y hy => looks_ops (τ := { σ0 with t := t }) hl hy
  have hc : callL σ' first xs.toList caps = callL { σ0 with t := t } first xs.toList caps := callL_ev fun y hy => hev y (by simp [Op.operands, Call.operands]; right; simpa using hy)
  have hx' : ev σ' x = .func (.func f) first caps := by rw [hev x (by simp [Op.operands, Call.operands])]; exact hx
  refine snd_pcall rfl hx' hp ?_ (fun r hr => by subst hr; exact ⟨hv, rfl⟩)
  rw [hc, List.map_congr_left fun a ha => view_ext (τ := { σ0 with t := t }) ⟨he.s, he.n⟩ 9 a (List.all_eq_true.1 hok a ha)]
  exact ha

theorem Seg.callA {os : List Oper} {t : List (Nat × AV)} {r : Option Root} {d : Option Tmp} {ty : TypeId} {pos : String} {af : Array Edge} {gd : Option (Nat × Bool)} {x : Operand} {xs : Array Operand} {ts : Array TypeId} {f : FuncId} {first caps args : List AV} {v : AV}
    (hp : PCall P up f args (· = v)) (hw : wantd all { σ0 with t := t } ⟨d, .call ⟨.value x, xs, ts⟩, ty, pos, af, gd⟩ = some true) (hx : ev { σ0 with t := t } x = .func (.func f) first caps)
    (ha : leL args (callL { σ0 with t := t } first xs.toList caps)) (hpu : pureL (callL { σ0 with t := t } first xs.toList caps) = true)
    (hk : Seg P up all σ0 os (putT t d v) r K) : Seg P up all σ0 (⟨d, .call ⟨.value x, xs, ts⟩, ty, pos, af, gd⟩ :: os) t r K := by
  refine ⟨t, v, none, fun _ => rfl, ⟨fun _ => rfl, ?_⟩, .inl rfl, hk⟩
  intro σ' hl he hn
  refine .inl ⟨by rw [wantd_congr (τ := { σ0 with t := t }) hl]; exact hw, ?_⟩
  have hev : ∀ y ∈ (Op.call ⟨.value x, xs, ts⟩).operands, ev σ' y = ev { σ0 with t := t } y := fun y hy => looks_ops (τ := { σ0 with t := t }) hl hy
  have hc : callL σ' first xs.toList caps = callL { σ0 with t := t } first xs.toList caps := callL_ev fun y hy => hev y (by simp [Op.operands, Call.operands]; right; simpa using hy)
  have hx' : ev σ' x = .func (.func f) first caps := by rw [hev x (by simp [Op.operands, Call.operands])]; exact hx
  exact snd_pcallA rfl hx' hp (by rw [hc]; exact ha) (by rw [hc]; exact hpu) (fun r hr => by subst hr; rfl)
end
end Go.Ab

namespace Go.Ab
open Go Go.RowKit

/-! ### 32. What a walk is computed with -/
def nxtS (TT : TTab) (all : Array Oper) (n : Nat) (o : Oper) (os : List Oper) (σ : St) (ob : Prop) : Option Ev → Stop
  | some e => runS TT all n os (fin o.dst e) (ob ∧ e.ob)
  | none => ⟨o :: os, σ, ob⟩
theorem runS_cons (TT : TTab) (all : Array Oper) (n : Nat) (o : Oper) (os : List Oper) (σ : St) (ob : Prop) : runS TT all (n + 1) (o :: os) σ ob = nxtS TT all n o os σ ob (runStep TT all σ o) := by
  simp only [runS, nxtS]; split <;> simp_all
theorem runS_nil (TT : TTab) (all : Array Oper) (n : Nat) (σ : St) (ob : Prop) : runS TT all n [] σ ob = ⟨[], σ, ob⟩ := by cases n <;> rfl
theorem runS_zero (TT : TTab) (all : Array Oper) (os : List Oper) (σ : St) (ob : Prop) : runS TT all 0 os σ ob = ⟨os, σ, ob⟩ := by cases os <;> rfl
def doit (TT : TTab) (σ : St) (o : Oper) : Option Bool → Option Ev
  | some true => eop TT σ o.dst o.op
  | some false => some ⟨σ, .tup [], True⟩
  | none => none
theorem runStep_eq (TT : TTab) (all : Array Oper) (σ : St) (o : Oper) : runStep TT all σ o = doit TT σ o (wantd all σ o) := rfl
def nxtG (TT : TTab) (all : Array Oper) (σ0 : St) (n : Nat) (o : Oper) (os : List Oper) (t : List (Nat × AV)) (r : Option Root) : Option (AV × Option Root) → StopG
  | some (v, none) => runG TT all σ0 n os (putT t o.dst v) r
  | some (v, some r1) => match r with
    | none => runG TT all σ0 n os (putT t o.dst v) (some r1)
    | some _ => ⟨o :: os, t, r⟩
  | none => ⟨o :: os, t, r⟩
theorem runG_cons (TT : TTab) (all : Array Oper) (σ0 : St) (n : Nat) (o : Oper) (os : List Oper) (t : List (Nat × AV)) (r : Option Root) : runG TT all σ0 (n + 1) (o :: os) t r = nxtG TT all σ0 n o os t r (segStep TT all { σ0 with t := t } o) := by
  simp only [runG]
  split
  · rename_i v r1 h
    rw [h]
    cases r1 with
    | none => rfl
    | some r1 => cases r <;> rfl
  · rename_i h; rw [h]; rfl
theorem runG_nil (TT : TTab) (all : Array Oper) (σ0 : St) (n : Nat) (t : List (Nat × AV)) (r : Option Root) : runG TT all σ0 n [] t r = ⟨[], t, r⟩ := by cases n <;> rfl
theorem runG_zero (TT : TTab) (all : Array Oper) (σ0 : St) (os : List Oper) (t : List (Nat × AV)) (r : Option Root) : runG TT all σ0 0 os t r = ⟨os, t, r⟩ := by cases os <;> rfl
def doitG (TT : TTab) (σ : St) (o : Oper) : Option Bool → Option (AV × Option Root)
  | some true => pval TT σ o.op
  | some false => some (.tup [], none)
  | none => none
theorem segStep_eq (TT : TTab) (all : Array Oper) (σ : St) (o : Oper) : segStep TT all σ o = doitG TT σ o (wantd all σ o) := rfl

theorem eqT_succ (TT : TTab) (n t : Nat) (a b : AV) : eqT TT (n + 1) t a b = match TT t with
    | some i => match i.kind with
      | .int _ => match a, b with
        | .int k x, .int k' y => if k = k' then some (decide (x = y)) else none
        | _, _ => none
      | .str => match a, b with
        | .str x, .str y => some (decide (x = y))
        | _, _ => none
      | .bool => match a, b with
        | .bool x, .bool y => some (decide (x = y))
        | _, _ => none
      | .struct fs => if i.eqs = true then (match a, b with
        | .agg l, .agg l' => eqF TT (eqT TT n) fs l l'
        | _, _ => none) else none
      | _ => none
    | none => none := by
  conv => lhs; unfold eqT
  rfl
theorem nxtS_some (TT : TTab) (all : Array Oper) (n : Nat) (o : Oper) (os : List Oper) (σ : St) (ob : Prop) (e : Ev) : nxtS TT all n o os σ ob (some e) = runS TT all n os (fin o.dst e) (ob ∧ e.ob) := rfl
theorem nxtS_none (TT : TTab) (all : Array Oper) (n : Nat) (o : Oper) (os : List Oper) (σ : St) (ob : Prop) : nxtS TT all n o os σ ob none = ⟨o :: os, σ, ob⟩ := rfl
theorem doit_true (TT : TTab) (σ : St) (o : Oper) : doit TT σ o (some true) = eop TT σ o.dst o.op := rfl
theorem doit_false (TT : TTab) (σ : St) (o : Oper) : doit TT σ o (some false) = some ⟨σ, .tup [], True⟩ := rfl
theorem doit_none (TT : TTab) (σ : St) (o : Oper) : doit TT σ o none = none := rfl
theorem doitG_true (TT : TTab) (σ : St) (o : Oper) : doitG TT σ o (some true) = pval TT σ o.op := rfl
theorem doitG_false (TT : TTab) (σ : St) (o : Oper) : doitG TT σ o (some false) = some (.tup [], none) := rfl
theorem doitG_none (TT : TTab) (σ : St) (o : Oper) : doitG TT σ o none = none := rfl
theorem nxtG_val (TT : TTab) (all : Array Oper) (σ0 : St) (n : Nat) (o : Oper) (os : List Oper) (t : List (Nat × AV)) (r : Option Root) (v : AV) : nxtG TT all σ0 n o os t r (some (v, none)) = runG TT all σ0 n os (putT t o.dst v) r := rfl
theorem nxtG_new (TT : TTab) (all : Array Oper) (σ0 : St) (n : Nat) (o : Oper) (os : List Oper) (t : List (Nat × AV)) (v : AV) (r1 : Root) : nxtG TT all σ0 n o os t none (some (v, some r1)) = runG TT all σ0 n os (putT t o.dst v) (some r1) := rfl
theorem nxtG_none (TT : TTab) (all : Array Oper) (σ0 : St) (n : Nat) (o : Oper) (os : List Oper) (t : List (Nat × AV)) (r : Option Root) : nxtG TT all σ0 n o os t r none = ⟨o :: os, t, r⟩ := rfl

attribute [go_sem] runS_cons runS_nil runS_zero nxtS_some nxtS_none runStep_eq doit_true doit_false doit_none wantd gdst fin eop eCall eLen eApp eSto eUpd eBox addR rop rLoad rField rFieldAddr rIndexAddr rIndex rLookup rAssert rBuild rBuildSlice eqKindB rBin isStr eqT_succ eqF tiOK notIface ev ofV getT St.put newR getS updS delS
attribute [go_sem] abin abinI abinS ashift isShift eqB aun mkV ldc TK.agg AV.tree AV.cell AV.cells AV.pure pureL allCell cellAtB rowOf putAt fillB fillR setL stCells stCell mov mapT mapS AV.kill through srcRows isRef mapOf maplk mapput
attribute [go_sem] runG_cons runG_nil runG_zero nxtG_val nxtG_new nxtG_none segStep_eq doitG_true doitG_false doitG_none pval lenC putT endSt callL tmps0 one resL AV.flat flatL leP leL allTT Names AllT AllS Sub SubL
attribute [go_sem] Option.map_some Option.map_none List.map_cons List.map_nil if_true if_false
attribute [go_sem] beq_self_eq_true Bool.false_or Bool.or_true Bool.true_or Bool.or_false Bool.and_true Bool.true_and Bool.and_false Bool.false_and decide_true decide_false true_and and_true and_self not_false_eq_true ne_eq
attribute [go_sem] List.length_cons List.length_nil List.take_succ_cons List.take_zero List.take_nil List.drop_succ_cons List.drop_zero List.drop_nil List.headD_cons List.getElem?_cons_zero List.getElem?_cons_succ List.getElem?_nil List.length_map List.getElem?_map List.nil_append List.append_nil List.cons_append List.getD_cons_zero List.getD_cons_succ List.set_cons_zero List.set_cons_succ List.all_cons List.all_nil List.isEmpty_nil List.isEmpty_cons
attribute [go_sem] AV.agg.injEq AV.tup.injEq exists_eq_left' exists_eq_left AV.sl.injEq AV.int.injEq AV.str.injEq AV.bool.injEq
attribute [go_sem] Int.toNat_natCast Int.natCast_nonneg Option.bind_some Option.isSome_some Option.isNone_none Option.isNone_some not_true_eq_false or_true true_or or_false false_or

theorem view_succ (n : Nat) (σ : St) (a : AV) : view (n + 1) σ a = match a with
    | .ref x p c => if (cellAtB σ x p c).tree = true then (cellAtB σ x p c).freeze else .undef
    | .lv x p j => match getS σ.s x with
      | some r => if p ≠ [] ∨ r.box = true then (match rowOf r.cells p with
        | some row => .fp ((row.drop j).map fun a => if a.tree = true then a.freeze else view n σ a)
        | none => .undef) else .undef
      | none => .undef
    | .agg l => .agg (l.map (view n σ))
    | .tup l => .tup (l.map (view n σ))
    | .func f x y => .func f (x.map (view n σ)) (y.map (view n σ))
    | .ifc t a => .ifc t (view n σ a)
    | a => a := by cases a <;> rfl
theorem okV_succ (n : Nat) (σ : St) (a : AV) : okV (n + 1) σ a = match a with
    | .ref x p c => (cellAtB σ x p c).tree
    | .lv x p j => match getS σ.s x with
      | some r => match rowOf r.cells p with
        | some row => (row.drop j).all fun a => a.tree || okV n σ a
        | none => false
      | none => false
    | .agg l => l.all (okV n σ)
    | .tup l => l.all (okV n σ)
    | .func _ x y => x.all (okV n σ) && y.all (okV n σ)
    | .ifc _ a => okV n σ a
    | _ => true := by cases a <;> rfl
theorem beqTT : (true == true) = true := rfl
theorem beqTF : (true == false) = false := rfl
theorem beqFT : (false == true) = false := rfl
theorem beqFF : (false == false) = true := rfl
attribute [go_sem] beqTT beqTF beqFT beqFF
attribute [go_sem] view_succ okV_succ id_eq
theorem retQ.ret {TT : TTab} {rs : List ResultVar} {R : AV → Prop} {σ : St} {l : List AV} {r : AV} (h1 : resL TT σ rs = some l) (h2 : view 9 σ (one l) = r) (h3 : ∃ r', leP r' r ∧ R r') : retQ TT rs R .ret σ := by
  obtain ⟨r', h3, h4⟩ := h3; exact ⟨.inr rfl, l, r', h1, by rw [h2]; exact h3, h4⟩
theorem retQ.nrm {TT : TTab} {rs : List ResultVar} {R : AV → Prop} {σ : St} {l : List AV} {r : AV} (h1 : resL TT σ rs = some l) (h2 : view 9 σ (one l) = r) (h3 : ∃ r', leP r' r ∧ R r') : retQ TT rs R .normal σ := by
  obtain ⟨r', h3, h4⟩ := h3; exact ⟨.inl rfl, l, r', h1, by rw [h2]; exact h3, h4⟩

theorem wrap_succ {i : Nat} (h : i < MX) : IntKind.i64.wrap ((i : Int) + 1) = ((i + 1 : Nat) : Int) := by
  unfold MX at h
  simp only [IntKind.wrap, IntKind.bits, IntKind.signed]
  simp
  omega
end Go.Ab

