/-
  What a machine's memory holds of plain values, and that each operation, block, loop and call of the model turns such a state as told. No condition but those of each theorem.
-/
import Derived.WalkKit
import Derived.Below
import Derived.Scope
import Derived.Orders
import Derived.Still
import Derived.WalkSmall
import Derived.Lib.AppendStr
import Derived.ArgAppend
import Derived.Test.YtgmegmfbedgabaaFa
import Derived.Test.YtgmegmfbedgabaaFb
import Derived.Test.YtgmegmfbedgabaaFc
import Derived.Test.YtgmegmfbedgabaaFd
set_option linter.unusedVariables false
set_option linter.unusedSimpArgs false
namespace Go.Ab
open Go Go.RowKit
theorem okDst_drop {nt : Nat} : ∀ {os : List Oper} (k : Nat), okDst nt os = true → okDst nt (os.drop k) = true
  | [], k, h => by simpa using h
  | o :: os, 0, h => h
  | o :: os, k + 1, h => okDst_drop k (okDst_cons h).2
theorem keepDst_mem {np : Nat} : ∀ {os : List Oper}, keepDst np os = true → ∀ o ∈ os, ∀ d, o.dst = some d → kp np d = false
  | [], _, o, ho => by cases ho
  | b :: os, h, o, ho => by
    obtain ⟨h1, h2⟩ := keepDst_cons h
    rcases List.mem_cons.1 ho with rfl | ho
    · exact h1
    · exact keepDst_mem h2 o ho
theorem wpAny_keep {P : Program} {np : Nat} {ops : Array Oper} {Q : Exit → Act → World → Prop} {md : Region.Mode} {a0 : Act} (hd : keepDst np ops.toList = true) : ∀ (fuel : Nat) (listed : Array Bool) (a : Act) (w : World), Kept np a0 a →
    wpAny P md ops Q fuel listed a w → wpAny P md ops (KeepQ np a0 Q) fuel listed a w
  | 0, listed, a, w, hk, h => ⟨h.1, h.2, fun _ => hk⟩
  | fuel + 1, listed, a, w, hk, h => by
    refine ⟨fun h0 => ⟨h.1 h0, fun _ => hk⟩, fun i hi => ?_⟩
    have h1 := h.2 i hi
    unfold wpOp at h1 ⊢
    split
    · rename_i hn; rw [hn] at h1; exact wpAny_keep hd fuel _ a w hk h1
    · rename_i o ho
      rw [ho] at h1
      have hod := keepDst_mem hd o (List.mem_of_getElem? (by rw [Array.getElem?_toList]; exact ho))
      simp only at h1
      split
      · rename_i hw
        rw [if_pos hw] at h1
        rcases h1 with h1 | h1
        · exact .inl (Oper.wp_mono (fun a' w' ⟨g1, g2⟩ => wpAny_keep hd fuel _ a' w' (hk.trans g2) g1) (Oper.wp_keep hod h1))
        · exact .inr ⟨h1.1, letsOut_keep h1.2⟩
      · rename_i hw
        rw [if_neg hw] at h1
        exact wpAny_keep hd fuel _ _ w (hk.trans (Kept.put hod rfl)) h1
section
variable {P : Program} {TT : TTab} {up : Bool} {np nt : Nat} {σ : St} {Q : Exit → St → Prop}
theorem CW.drawn (hm : P.follows .mixedOrders = true) (k : Nat) {id : Nat} {ops : Array Oper} (hk : k ≤ ops.size) (hchk : segChk k ops = true) (hd : okDst nt ops.toList = true) (hkd : keepDst np ops.toList = true)
    (h : Seg P up ops σ (ops.toList.take k) σ.t none fun t r => CWops P up nt ops (ops.toList.drop k) (endSt σ t r) (Q .normal)) : CW P up np nt (.region id ops true) σ Q := by
  intro A0 D0 w0 a w G R hu hh hr
  let Q1 : Exit → Act → World → Prop := fun e a' w' => match e with
    | .normal => ∃ σ' G', Holds A0 D0 w0 nt σ' a' w' G' ∧ Q .normal σ'
    | e => R e a' w'
  have hu1 : up = true → LetsOut Q1 := fun hu' => let ⟨a, w, h⟩ := hu hu'; ⟨a, w, h⟩
  suffices hs : wpAny P .any ops Q1 ops.size (Array.replicate ops.size false) a { w with drawn := w.drawn + 1 } by
    refine wp_mono (wp_region_any hm (wpAny_keep (a0 := a) hkd _ _ _ _ (Kept.refl np a) hs)) fun e a' w' he => ?_
    cases e with
    | normal => obtain ⟨⟨σ', G', g1, g2⟩, g3⟩ := he; exact hr _ a' w' σ' G' g1 (g3 rfl) g2
    | _ => exact he.1
  obtain ⟨te, re, val, tt, hk', hv⟩ := seg_vals h
  have hno : ∀ i, (Array.replicate ops.size false).getD i false = true → False := fun i hi => by
    rw [Array.getD_eq_getD_getElem?, Array.getElem?_replicate] at hi
    split at hi <;> simp at hi
  refine any_seg (σ' := σ) hk hchk hd hu1 (fun y hy => ?_) hv (fun a w G hh' => hk' (okDst_drop k hd) A0 D0 w0 a w G Q1 hu1 hh' fun a w σ' G' h1 h2 => ⟨σ', G', h1, h2⟩) ops.size _ a _ G (by simp) ?_ (fun i hi => (hno i hi).elim)
    (fun i o _ hi => (hno i hi).elim) ⟨fun i o x _ hi => (hno i hi).elim, fun x _ => rfl, fun i o r _ hi => (hno i hi).elim, fun _ => ⟨rfl, fun _ => rfl⟩⟩ hh.drew
  · have := hh.inv.dom y
    rw [hy] at this
    obtain ⟨g, hg⟩ := Option.isSome_iff_exists.1 this.symm
    exact hh.inv.lt y g hg
  · unfold unl
    have : ((List.range ops.size).filter fun i => !(Array.replicate ops.size false).getD i true) = List.range ops.size := by
      rw [List.filter_eq_self]
      intro i hi
      have hi := List.mem_range.1 hi
      rw [Array.getD_eq_getD_getElem?, Array.getElem?_replicate, if_pos hi]
      rfl
    rw [this, List.length_range]
end
section
variable {P : Program} {TT : TTab} {up : Bool} {all : Array Oper} {σ0 : St} {K : List (Nat × AV) → Option Root → Prop}
theorem Seg.congr : ∀ {os : List Oper} {t t' : List (Nat × AV)} {r : Option Root}, (∀ x, getT t' x = getT t x) → Seg P up all σ0 os t' r K → Seg P up all σ0 os t r K
  | [], t, t', r, he, ⟨t2, h1, h2⟩ => ⟨t2, fun x => (h1 x).trans (he x), h2⟩
  | _ :: _, t, t', r, he, ⟨t2, v, r', h1, h2⟩ => ⟨t2, v, r', fun x => (h1 x).trans (he x), h2⟩
theorem Seg.done {t : List (Nat × AV)} {r : Option Root} (h : K t r) : Seg P up all σ0 [] t r K := ⟨t, fun _ => rfl, h⟩
theorem looks_ops {o : Oper} {σ' τ : St} (h : ∀ x ∈ o.looksAt all, getT σ'.t x = getT τ.t x) {x : Operand} (hx : x ∈ o.op.operands) : ev σ' x = ev τ x := by
  cases x with
  | tmp t =>
    simp only [ev]
    refine h t ?_
    unfold Oper.looksAt
    rw [List.mem_append]; left
    rw [List.mem_filterMap]
    exact ⟨.tmp t, Array.mem_toList_iff.2 hx, rfl⟩
  | _ => rfl
theorem wantd_congr {o : Oper} {σ' τ : St} (h : ∀ x ∈ o.looksAt all, getT σ'.t x = getT τ.t x) : wantd all σ' o = wantd all τ o := by
  unfold wantd
  split
  · rfl
  · rename_i j want hg
    split
    · rename_i t ht
      rw [h t (by
        unfold Oper.looksAt
        rw [List.mem_append]; right
        rw [hg]
        unfold gdst at ht
        rw [Array.getElem?_toList] at ht
        simp [ht])]
    · rfl
theorem rop_plain {TT : TTab} {σ : St} {o : Op} {v : AV} {r : Option Root} (hp : plainB o = true) (h : rop TT σ o = some (v, r)) : r = none := by
  cases o <;> simp only [plainB, Bool.false_eq_true] at hp <;> simp only [rop] at h
  all_goals
    first
    | (unfold rLoad at h; repeat' (split at h)) <;> first | (cases h; rfl) | (cases h; done)
    | (unfold rFieldAddr at h; repeat' (split at h)) <;> first | (cases h; rfl) | (cases h; done)
    | (unfold rIndexAddr at h; repeat' (split at h)) <;> first | (cases h; rfl) | (cases h; done)
    | (unfold rBin at h; repeat' (split at h)) <;> first | (cases h; rfl) | (cases h; done)
    | (repeat' (split at h)) <;> first | (cases h; rfl) | (cases h; done)
theorem pval_plain {TT : TTab} {σ : St} {o : Op} {v : AV} {r : Option Root} (hp : plainB o = true) (h : pval TT σ o = some (v, r)) : r = none := by
  have h' : rop TT σ o = some (v, r) := by
    cases o <;> simp only [plainB, Bool.false_eq_true] at hp <;> simpa only [pval] using h
  exact rop_plain hp h'
theorem stab_skip {o : Oper} {t : List (Nat × AV)} (hw : wantd all { σ0 with t := t } o = some false) : Stab P up all o t σ0 (.tup []) none :=
  ⟨fun _ => rfl, fun σ' hl _ _ => .inr ⟨by rw [wantd_congr (τ := { σ0 with t := t }) hl]; exact hw, rfl, rfl⟩⟩
theorem stab_val (htt : TTok P TT) {o : Oper} {t : List (Nat × AV)} {v : AV} {r : Option Root} (hw : wantd all { σ0 with t := t } o = some true) (hv : pval TT { σ0 with t := t } o.op = some (v, r)) : Stab P up all o t σ0 v r := by
  refine ⟨fun hp => pval_plain hp hv, ?_⟩
  intro σ' hl he hn
  refine .inl ⟨by rw [wantd_congr (τ := { σ0 with t := t }) hl]; exact hw, Snd.up (pval_sound htt ?_)⟩
  exact pval_ext (τ := { σ0 with t := t }) ⟨he.s, he.n⟩ (fun x hx => looks_ops (τ := { σ0 with t := t }) hl hx) hn hv
structure StopG where
  os : List Oper
  t : List (Nat × AV)
  r : Option Root
def segStep (TT : TTab) (all : Array Oper) (τ : St) (o : Oper) : Option (AV × Option Root) :=
  match wantd all τ o with
  | some true => pval TT τ o.op
  | some false => some (.tup [], none)
  | none => none
def addG : Option Root → Option Root → Option (Option Root)
  | none, r => some r
  | some r, none => some (some r)
  | some _, some _ => none
def runG (TT : TTab) (all : Array Oper) (σ0 : St) : Nat → List Oper → List (Nat × AV) → Option Root → StopG
  | 0, os, t, r => ⟨os, t, r⟩
  | _ + 1, [], t, r => ⟨[], t, r⟩
  | n + 1, o :: os, t, r => match segStep TT all { σ0 with t := t } o with
    | some (v, r1) => match addG r1 r with
      | some r2 => runG TT all σ0 n os (putT t o.dst v) r2
      | none => ⟨o :: os, t, r⟩
    | none => ⟨o :: os, t, r⟩
theorem Seg.runs (htt : TTok P TT) : ∀ (n : Nat) {os : List Oper} {t : List (Nat × AV)} {r : Option Root} {s : StopG}, runG TT all σ0 n os t r = s → Seg P up all σ0 s.os s.t s.r K → Seg P up all σ0 os t r K
  | 0, os, t, r, s, h, hk => by subst h; exact hk
  | n + 1, [], t, r, s, h, hk => by subst h; exact hk
  | n + 1, o :: os, t, r, s, h, hk => by
    simp only [runG] at h
    split at h
    · rename_i v r1 hst
      split at h
      · rename_i r2 hr2
        have ih := Seg.runs htt n h hk
        have hr : (r1 = none ∨ r = none) ∧ r2 = r1.or r := by
          unfold addG at hr2
          split at hr2 <;> cases hr2
          · exact ⟨.inl rfl, rfl⟩
          · exact ⟨.inr rfl, rfl⟩
        refine ⟨t, v, r1, fun _ => rfl, ?_, hr.1, by rw [← hr.2]; exact ih⟩
        unfold segStep at hst
        split at hst
        · rename_i hw; exact stab_val htt hw hst
        · rename_i hw; cases hst; exact stab_skip hw
        · cases hst
      · subst h; exact hk
    · subst h; exact hk
theorem Seg.run (htt : TTok P TT) (n : Nat) {os os' : List Oper} {t t' : List (Nat × AV)} {r r' : Option Root} (h : runG TT all σ0 n os t r = ⟨os', t', r'⟩) (hk : Seg P up all σ0 os' t' r' K) : Seg P up all σ0 os t r K :=
  Seg.runs htt n h hk
theorem Seg.guard (x : Tmp) {b : Bool} {os : List Oper} {t : List (Nat × AV)} {r : Option Root} (hg : getT t x = .bool b) (h1 : b = true → Seg P up all σ0 os ((x, .bool true) :: t) r K) (h2 : b = false → Seg P up all σ0 os ((x, .bool false) :: t) r K) : Seg P up all σ0 os t r K := by
  cases b
  · refine Seg.congr (fun y => ?_) (h2 rfl)
    simp only [getT]; split
    · rename_i e; subst e; exact hg.symm
    · rfl
  · refine Seg.congr (fun y => ?_) (h1 rfl)
    simp only [getT]; split
    · rename_i e; subst e; exact hg.symm
    · rfl
def okV : Nat → St → AV → Bool
  | 0, _, _ => false
  | n + 1, σ, a => match a with
    | .ref x p c => (cellAtB σ x p c).tree
    | .lv x p j => match getS σ.s x with
      | some r => match rowOf r.cells p with
        | some row => (row.drop j).all fun a => a.tree || okV n σ a
        | none => false
      | none => false
    | .agg l => l.all (okV n σ)
    | .tup l => l.all (okV n σ)
    | .func _ x y => x.all (okV n σ) && y.all (okV n σ)
    | .ifc _ a => okV n σ a
    | _ => true
theorem view_ext {τ σ : St} (h : Ext τ σ) : ∀ (n : Nat) (a : AV), okV n τ a = true → view n σ a = view n τ a
  | 0, a, hv => by simp [okV] at hv
  | n + 1, a, hv => by
    have ih := view_ext h n
    have list : ∀ (l : List AV), l.all (okV n τ) = true → l.map (view n σ) = l.map (view n τ) := fun l hl => List.map_congr_left fun a ha => ih a (List.all_eq_true.1 hl a ha)
    cases a <;> simp only [okV] at hv <;> simp only [view]
    case ref x p c =>
      have hne : cellAtB τ x p c ≠ .undef := fun e => by rw [e] at hv; cases hv
      rw [h.cell hne]
    case lv x p j =>
      split at hv
      · rename_i r hr
        rw [h.s x r hr, hr]
        simp only
        split at hv
        · rename_i row hrow
          simp only [hrow]
          have : ((row.drop j).map fun a => if a.tree = true then a.freeze else view n σ a) = ((row.drop j).map fun a => if a.tree = true then a.freeze else view n τ a) := by
            refine List.map_congr_left fun a ha => ?_
            have := List.all_eq_true.1 hv a ha
            simp only [Bool.or_eq_true] at this
            by_cases ht : a.tree = true
            · rw [if_pos ht, if_pos ht]
            · rw [if_neg ht, if_neg ht]; exact ih a (this.resolve_left ht)
          rw [this]
        · cases hv
      · cases hv
    case agg l => rw [list l hv]
    case tup l => rw [list l hv]
    case func f x y =>
      simp only [Bool.and_eq_true] at hv
      rw [list x hv.1, list y hv.2]
    case ifc t b => rw [ih b hv]
theorem callL_ev {first caps : List AV} {xs : List Operand} {σ τ : St} (h : ∀ x ∈ xs, ev σ x = ev τ x) : callL σ first xs caps = callL τ first xs caps := by
  unfold callL; rw [List.map_congr_left h]
theorem Seg.call {os : List Oper} {t : List (Nat × AV)} {r : Option Root} {d : Option Tmp} {ty : TypeId} {pos : String} {af : Array Edge} {gd : Option (Nat × Bool)} {x : Operand} {xs : Array Operand} {ts : Array TypeId} {f : FuncId} {first caps args : List AV} {v : AV}
    (hp : PCall P up f args (· = v)) (hw : wantd all { σ0 with t := t } ⟨d, .call ⟨.value x, xs, ts⟩, ty, pos, af, gd⟩ = some true) (hx : ev { σ0 with t := t } x = .func (.func f) first caps)
    (hok : (callL { σ0 with t := t } first xs.toList caps).all (okV 9 { σ0 with t := t }) = true) (ha : leL args ((callL { σ0 with t := t } first xs.toList caps).map (view 9 { σ0 with t := t }))) (hv : v.flat = true)
    (hk : Seg P up all σ0 os (putT t d v) r K) : Seg P up all σ0 (⟨d, .call ⟨.value x, xs, ts⟩, ty, pos, af, gd⟩ :: os) t r K := by
  refine ⟨t, v, none, fun _ => rfl, ⟨fun _ => rfl, ?_⟩, .inl rfl, hk⟩
  intro σ' hl he hn
  refine .inl ⟨by rw [wantd_congr (τ := { σ0 with t := t }) hl]; exact hw, ?_⟩
  have hev : ∀ y ∈ (Op.call ⟨.value x, xs, ts⟩).operands, ev σ' y = ev { σ0 with t := t } y := fun y hy => looks_ops (τ := { σ0 with t := t }) hl hy
  have hc : callL σ' first xs.toList caps = callL { σ0 with t := t } first xs.toList caps := callL_ev fun y hy => hev y (by simp [Op.operands, Call.operands]; right; simpa using hy)
  have hx' : ev σ' x = .func (.func f) first caps := by rw [hev x (by simp [Op.operands, Call.operands])]; exact hx
  refine snd_pcall rfl hx' hp ?_ (fun r hr => by subst hr; exact ⟨hv, rfl⟩)
  rw [hc, List.map_congr_left fun a ha => view_ext (τ := { σ0 with t := t }) ⟨he.s, he.n⟩ 9 a (List.all_eq_true.1 hok a ha)]
  exact ha
theorem Seg.callA {os : List Oper} {t : List (Nat × AV)} {r : Option Root} {d : Option Tmp} {ty : TypeId} {pos : String} {af : Array Edge} {gd : Option (Nat × Bool)} {x : Operand} {xs : Array Operand} {ts : Array TypeId} {f : FuncId} {first caps args : List AV} {v : AV}
    (hp : PCall P up f args (· = v)) (hw : wantd all { σ0 with t := t } ⟨d, .call ⟨.value x, xs, ts⟩, ty, pos, af, gd⟩ = some true) (hx : ev { σ0 with t := t } x = .func (.func f) first caps)
    (ha : leL args (callL { σ0 with t := t } first xs.toList caps)) (hpu : pureL (callL { σ0 with t := t } first xs.toList caps) = true)
    (hk : Seg P up all σ0 os (putT t d v) r K) : Seg P up all σ0 (⟨d, .call ⟨.value x, xs, ts⟩, ty, pos, af, gd⟩ :: os) t r K := by
  refine ⟨t, v, none, fun _ => rfl, ⟨fun _ => rfl, ?_⟩, .inl rfl, hk⟩
  intro σ' hl he hn
  refine .inl ⟨by rw [wantd_congr (τ := { σ0 with t := t }) hl]; exact hw, ?_⟩
  have hev : ∀ y ∈ (Op.call ⟨.value x, xs, ts⟩).operands, ev σ' y = ev { σ0 with t := t } y := fun y hy => looks_ops (τ := { σ0 with t := t }) hl hy
  have hc : callL σ' first xs.toList caps = callL { σ0 with t := t } first xs.toList caps := callL_ev fun y hy => hev y (by simp [Op.operands, Call.operands]; right; simpa using hy)
  have hx' : ev σ' x = .func (.func f) first caps := by rw [hev x (by simp [Op.operands, Call.operands])]; exact hx
  exact snd_pcallA rfl hx' hp (by rw [hc]; exact ha) (by rw [hc]; exact hpu) (fun r hr => by subst hr; rfl)
end
end Go.Ab
namespace Go.Ab
open Go Go.RowKit
def nxtS (TT : TTab) (all : Array Oper) (n : Nat) (o : Oper) (os : List Oper) (σ : St) (ob : Prop) : Option Ev → Stop
  | some e => runS TT all n os (fin o.dst e) (ob ∧ e.ob)
  | none => ⟨o :: os, σ, ob⟩
theorem runS_cons (TT : TTab) (all : Array Oper) (n : Nat) (o : Oper) (os : List Oper) (σ : St) (ob : Prop) : runS TT all (n + 1) (o :: os) σ ob = nxtS TT all n o os σ ob (runStep TT all σ o) := by
  simp only [runS, nxtS]; split <;> simp_all
theorem runS_nil (TT : TTab) (all : Array Oper) (n : Nat) (σ : St) (ob : Prop) : runS TT all n [] σ ob = ⟨[], σ, ob⟩ := by cases n <;> rfl
theorem runS_zero (TT : TTab) (all : Array Oper) (os : List Oper) (σ : St) (ob : Prop) : runS TT all 0 os σ ob = ⟨os, σ, ob⟩ := by cases os <;> rfl
def doit (TT : TTab) (σ : St) (o : Oper) : Option Bool → Option Ev
  | some true => eop TT σ o.dst o.op
  | some false => some ⟨σ, .tup [], True⟩
  | none => none
theorem runStep_eq (TT : TTab) (all : Array Oper) (σ : St) (o : Oper) : runStep TT all σ o = doit TT σ o (wantd all σ o) := rfl
def nxtG (TT : TTab) (all : Array Oper) (σ0 : St) (n : Nat) (o : Oper) (os : List Oper) (t : List (Nat × AV)) (r : Option Root) : Option (AV × Option Root) → StopG
  | some (v, none) => runG TT all σ0 n os (putT t o.dst v) r
  | some (v, some r1) => match r with
    | none => runG TT all σ0 n os (putT t o.dst v) (some r1)
    | some _ => ⟨o :: os, t, r⟩
  | none => ⟨o :: os, t, r⟩
theorem runG_cons (TT : TTab) (all : Array Oper) (σ0 : St) (n : Nat) (o : Oper) (os : List Oper) (t : List (Nat × AV)) (r : Option Root) : runG TT all σ0 (n + 1) (o :: os) t r = nxtG TT all σ0 n o os t r (segStep TT all { σ0 with t := t } o) := by
  simp only [runG]
  split
  · rename_i v r1 h
    rw [h]
    cases r1 with
    | none => rfl
    | some r1 => cases r <;> rfl
  · rename_i h; rw [h]; rfl
theorem runG_nil (TT : TTab) (all : Array Oper) (σ0 : St) (n : Nat) (t : List (Nat × AV)) (r : Option Root) : runG TT all σ0 n [] t r = ⟨[], t, r⟩ := by cases n <;> rfl
theorem runG_zero (TT : TTab) (all : Array Oper) (σ0 : St) (os : List Oper) (t : List (Nat × AV)) (r : Option Root) : runG TT all σ0 0 os t r = ⟨os, t, r⟩ := by cases os <;> rfl
def doitG (TT : TTab) (σ : St) (o : Oper) : Option Bool → Option (AV × Option Root)
  | some true => pval TT σ o.op
  | some false => some (.tup [], none)
  | none => none
theorem segStep_eq (TT : TTab) (all : Array Oper) (σ : St) (o : Oper) : segStep TT all σ o = doitG TT σ o (wantd all σ o) := rfl
theorem eqT_succ (TT : TTab) (n t : Nat) (a b : AV) : eqT TT (n + 1) t a b = match TT t with
    | some i => match i.kind with
      | .int _ => match a, b with
        | .int k x, .int k' y => if k = k' then some (decide (x = y)) else none
        | _, _ => none
      | .str => match a, b with
        | .str x, .str y => some (decide (x = y))
        | _, _ => none
      | .bool => match a, b with
        | .bool x, .bool y => some (decide (x = y))
        | _, _ => none
      | .struct fs => if i.eqs = true then (match a, b with
        | .agg l, .agg l' => eqF TT (eqT TT n) fs l l'
        | _, _ => none) else none
      | _ => none
    | none => none := by
  conv => lhs; unfold eqT
  rfl
theorem nxtS_some (TT : TTab) (all : Array Oper) (n : Nat) (o : Oper) (os : List Oper) (σ : St) (ob : Prop) (e : Ev) : nxtS TT all n o os σ ob (some e) = runS TT all n os (fin o.dst e) (ob ∧ e.ob) := rfl
theorem nxtS_none (TT : TTab) (all : Array Oper) (n : Nat) (o : Oper) (os : List Oper) (σ : St) (ob : Prop) : nxtS TT all n o os σ ob none = ⟨o :: os, σ, ob⟩ := rfl
theorem doit_true (TT : TTab) (σ : St) (o : Oper) : doit TT σ o (some true) = eop TT σ o.dst o.op := rfl
theorem doit_false (TT : TTab) (σ : St) (o : Oper) : doit TT σ o (some false) = some ⟨σ, .tup [], True⟩ := rfl
theorem doit_none (TT : TTab) (σ : St) (o : Oper) : doit TT σ o none = none := rfl
theorem doitG_true (TT : TTab) (σ : St) (o : Oper) : doitG TT σ o (some true) = pval TT σ o.op := rfl
theorem doitG_false (TT : TTab) (σ : St) (o : Oper) : doitG TT σ o (some false) = some (.tup [], none) := rfl
theorem doitG_none (TT : TTab) (σ : St) (o : Oper) : doitG TT σ o none = none := rfl
theorem nxtG_val (TT : TTab) (all : Array Oper) (σ0 : St) (n : Nat) (o : Oper) (os : List Oper) (t : List (Nat × AV)) (r : Option Root) (v : AV) : nxtG TT all σ0 n o os t r (some (v, none)) = runG TT all σ0 n os (putT t o.dst v) r := rfl
theorem nxtG_new (TT : TTab) (all : Array Oper) (σ0 : St) (n : Nat) (o : Oper) (os : List Oper) (t : List (Nat × AV)) (v : AV) (r1 : Root) : nxtG TT all σ0 n o os t none (some (v, some r1)) = runG TT all σ0 n os (putT t o.dst v) (some r1) := rfl
theorem nxtG_none (TT : TTab) (all : Array Oper) (σ0 : St) (n : Nat) (o : Oper) (os : List Oper) (t : List (Nat × AV)) (r : Option Root) : nxtG TT all σ0 n o os t r none = ⟨o :: os, t, r⟩ := rfl
attribute [go_sem] runS_cons runS_nil runS_zero nxtS_some nxtS_none runStep_eq doit_true doit_false doit_none wantd gdst fin eop eCall eLen eApp eSto eUpd eBox addR rop rLoad rField rFieldAddr rIndexAddr rIndex rLookup rAssert rBuild rBuildSlice eqKindB rBin isStr eqT_succ eqF tiOK notIface ev ofV getT St.put newR getS updS delS
attribute [go_sem] arrFs abin abinI abinS ashift isShift eqB aun mkV ldc TK.agg AV.tree AV.cell AV.cells AV.pure pureL allCell cellAtB rowOf putAt fillB fillR setL stCells stCell mov mapT mapS AV.kill through srcRows isRef mapOf maplk mapput
attribute [go_sem] runG_cons runG_nil runG_zero nxtG_val nxtG_new nxtG_none segStep_eq doitG_true doitG_false doitG_none pval lenC putT endSt callL tmps0 one resL AV.flat flatL leP leL allTT Names AllT AllS Sub SubL
attribute [go_sem] Option.map_some Option.map_none List.map_cons List.map_nil if_true if_false
attribute [go_sem] beq_self_eq_true Bool.false_or Bool.or_true Bool.true_or Bool.or_false Bool.and_true Bool.true_and Bool.and_false Bool.false_and decide_true decide_false true_and and_true and_self not_false_eq_true ne_eq
attribute [go_sem] List.length_cons List.length_nil List.take_succ_cons List.take_zero List.take_nil List.drop_succ_cons List.drop_zero List.drop_nil List.headD_cons List.getElem?_cons_zero List.getElem?_cons_succ List.getElem?_nil List.length_map List.getElem?_map List.nil_append List.append_nil List.cons_append List.getD_cons_zero List.getD_cons_succ List.set_cons_zero List.set_cons_succ List.all_cons List.all_nil List.isEmpty_nil List.isEmpty_cons
attribute [go_sem] AV.agg.injEq AV.tup.injEq exists_eq_left' exists_eq_left AV.sl.injEq AV.int.injEq AV.str.injEq AV.bool.injEq
attribute [go_sem] Int.toNat_natCast Int.natCast_nonneg Option.bind_some Option.isSome_some Option.isNone_none Option.isNone_some not_true_eq_false or_true true_or or_false false_or
theorem view_succ (n : Nat) (σ : St) (a : AV) : view (n + 1) σ a = match a with
    | .ref x p c => if (cellAtB σ x p c).tree = true then (cellAtB σ x p c).freeze else .undef
    | .lv x p j => match getS σ.s x with
      | some r => if p ≠ [] ∨ r.box = true then (match rowOf r.cells p with
        | some row => .fp ((row.drop j).map fun a => if a.tree = true then a.freeze else view n σ a)
        | none => .undef) else .undef
      | none => .undef
    | .agg l => .agg (l.map (view n σ))
    | .tup l => .tup (l.map (view n σ))
    | .func f x y => .func f (x.map (view n σ)) (y.map (view n σ))
    | .ifc t a => .ifc t (view n σ a)
    | a => a := by cases a <;> rfl
theorem okV_succ (n : Nat) (σ : St) (a : AV) : okV (n + 1) σ a = match a with
    | .ref x p c => (cellAtB σ x p c).tree
    | .lv x p j => match getS σ.s x with
      | some r => match rowOf r.cells p with
        | some row => (row.drop j).all fun a => a.tree || okV n σ a
        | none => false
      | none => false
    | .agg l => l.all (okV n σ)
    | .tup l => l.all (okV n σ)
    | .func _ x y => x.all (okV n σ) && y.all (okV n σ)
    | .ifc _ a => okV n σ a
    | _ => true := by cases a <;> rfl
theorem beqTT : (true == true) = true := rfl
theorem beqTF : (true == false) = false := rfl
theorem beqFT : (false == true) = false := rfl
theorem beqFF : (false == false) = true := rfl
attribute [go_sem] beqTT beqTF beqFT beqFF
attribute [go_sem] view_succ okV_succ id_eq
theorem retQ.ret {TT : TTab} {rs : List ResultVar} {R : AV → Prop} {σ : St} {l : List AV} {r : AV} (h1 : resL TT σ rs = some l) (h2 : view 9 σ (one l) = r) (h3 : ∃ r', leP r' r ∧ R r') : retQ TT rs R .ret σ := by
  obtain ⟨r', h3, h4⟩ := h3; exact ⟨.inr rfl, l, r', h1, by rw [h2]; exact h3, h4⟩
theorem wrap_succ {i : Nat} (h : i < MX) : IntKind.i64.wrap ((i : Int) + 1) = ((i + 1 : Nat) : Int) := by
  unfold MX at h
  simp only [IntKind.wrap, IntKind.bits, IntKind.signed]
  simp
  omega
end Go.Ab
namespace Go.Ab
open Go Go.RowKit
def ren (m : Nat → Nat) : AV → AV
  | .ref x p c => .ref (m x) p c
  | .lv x p j => .lv (m x) p j
  | .agg l => .agg (l.map fun a => ren m a)
  | .tup l => .tup (l.map fun a => ren m a)
  | .func f a b => .func f (a.map fun a => ren m a) (b.map fun a => ren m a)
  | .ifc t a => .ifc t (ren m a)
  | a => a
theorem ren_tree {m : Nat → Nat} {a : AV} (h : a.tree = true) : ren m a = a := by cases a <;> first | (cases h; done) | simp only [ren]
theorem FR.ren {w : World} {A : Nat → Prop} {m : Nat → Nat} {a : AV} {v : Value} (h : FR w A a v) : FR w A (ren m a) v := by
  induction h with
  | func fn first caps us vs h1 h2 h3 h4 ih1 ih2 =>
    simp only [Ab.ren]
    refine .func fn _ _ us vs (by simpa using h1) (by simpa using h2) (fun i a h => ?_) (fun i a h => ?_)
    · simp only [List.getElem?_map, Option.map_eq_some_iff] at h
      obtain ⟨a', h', rfl⟩ := h; exact ih1 i a' h'
    · simp only [List.getElem?_map, Option.map_eq_some_iff] at h
      obtain ⟨a', h', rfl⟩ := h; exact ih2 i a' h'
  | ifc t v u h ih => simp only [Ab.ren]; exact .ifc t _ u ih
  | agg l vs h1 h2 ih =>
    simp only [Ab.ren]
    refine .agg _ vs (by simpa using h1) fun i a h => ?_
    simp only [List.getElem?_map, Option.map_eq_some_iff] at h
    obtain ⟨a', h', rfl⟩ := h; exact ih i a' h'
  | tup l vs h1 h2 ih =>
    simp only [Ab.ren]
    refine .tup _ vs (by simpa using h1) fun i a h => ?_
    simp only [List.getElem?_map, Option.map_eq_some_iff] at h
    obtain ⟨a', h', rfl⟩ := h; exact ih i a' h'
  | sl n l b o cap h1 h2 h3 h4 h5 h6 _ => simp only [Ab.ren]; exact .sl n l b o cap h1 h2 h3 h4 h5 h6
  | fp l b o h5 h6 _ => simp only [Ab.ren]; exact .fp l b o h5 h6
  | fmap es b ents clock h1 h2 h3 h4 h5 h6 _ => simp only [Ab.ren]; exact .fmap es b ents clock h1 h2 h3 h4 h5 h6
  | str s h => simp only [Ab.ren]; exact .str s h
  | undef v => simp only [Ab.ren]; exact .undef v
  | bool v => simp only [Ab.ren]; exact .bool v
  | int k v => simp only [Ab.ren]; exact .int k v
  | nilsl => simp only [Ab.ren]; exact .nilsl
  | slnil n => simp only [Ab.ren]; exact .slnil n
  | slmt n a cap h => simp only [Ab.ren]; exact .slmt n a cap h
  | tight n l ad h _ => simp only [Ab.ren]; exact .tight n l ad h
  | nilp => simp only [Ab.ren]; exact .nilp
  | nilmap => simp only [Ab.ren]; exact .nilmap
  | nilfunc => simp only [Ab.ren]; exact .nilfunc
  | nili => simp only [Ab.ren]; exact .nili
theorem Rel.ren {w : World} {A A' : Nat → Prop} {G G' : Nat → Option GR} {n n' : Nat} {m : Nat → Nat} (hA : ∀ b, b < w.heap.size → A' b → A b) (hn : ∀ x, x < n → m x < n') (hG : ∀ x, x < n → G' (m x) = G x) {a : AV} {v : Value}
    (h : Rel w A G n a v) : Rel w A' G' n' (ren m a) v := by
  have list : ∀ (l : List AV) (vs : List Value), vs.length = l.length → (∀ (i : Nat) (a : AV), l[i]? = some a → Rel w A' G' n' (Ab.ren m a) (vs.getD i Go.undef)) →
      vs.length = (l.map fun a => Ab.ren m a).length ∧ ∀ (i : Nat) (a : AV), (l.map fun a => Ab.ren m a)[i]? = some a → Rel w A' G' n' a (vs.getD i Go.undef) := by
    intro l vs h1 h2
    refine ⟨by simpa using h1, fun i a h => ?_⟩
    simp only [List.getElem?_map, Option.map_eq_some_iff] at h
    obtain ⟨a', h', rfl⟩ := h
    exact h2 i a' h'
  induction h with
  | fr a v h => exact .fr _ v ((h.keep (fun _ _ _ => rfl) hA).ren)
  | ref x p c v h1 h2 h3 =>
    simp only [Ab.ren]
    exact .ref _ p c v (hn x h1) h2 (fun r row g hr => h3 r row g (by rw [← hG x h1]; exact hr))
  | lv x p j ad h1 h2 =>
    simp only [Ab.ren]
    exact .lv _ p j ad (hn x h1) (fun r b o hr => h2 r b o (by rw [← hG x h1]; exact hr))
  | func fn first caps us vs h1 h2 h3 h4 ih1 ih2 =>
    simp only [Ab.ren]
    obtain ⟨g1, g2⟩ := list first us h1 ih1
    obtain ⟨g3, g4⟩ := list caps vs h2 ih2
    exact .func fn _ _ us vs g1 g3 g2 g4
  | ifc t v u h ih => simp only [Ab.ren]; exact .ifc t _ u ih
  | agg l vs h1 h2 ih => simp only [Ab.ren]; obtain ⟨g1, g2⟩ := list l vs h1 ih; exact .agg _ vs g1 g2
  | tup l vs h1 h2 ih => simp only [Ab.ren]; obtain ⟨g1, g2⟩ := list l vs h1 ih; exact .tup _ vs g1 g2
def kref (y : Nat) : List (Nat × Nat) → Nat → AV
  | [], 0 => .ref y [] 0
  | _, _ => .undef
def killH (ρ K : List Nat) : AV → AV
  | .ref y q c => if memB y ρ = true then (if memB y K = true then kref y q c else .undef) else .ref y q c
  | .lv y q c => if memB y ρ = true then (match q with | [] => .lv y q c | _ :: _ => .undef) else .lv y q c
  | .agg l => .agg (l.map fun a => killH ρ K a)
  | .tup l => .tup (l.map fun a => killH ρ K a)
  | .func f a b => .func f (a.map fun a => killH ρ K a) (b.map fun a => killH ρ K a)
  | .ifc t a => .ifc t (killH ρ K a)
  | a => a
theorem killH_tree {ρ K : List Nat} {a : AV} (h : a.tree = true) : killH ρ K a = a := by cases a <;> first | (cases h; done) | simp only [killH]
theorem FR.killH {w : World} {A : Nat → Prop} {ρ K : List Nat} {a : AV} {v : Value} (h : FR w A a v) : FR w A (killH ρ K a) v := by
  induction h with
  | func fn first caps us vs h1 h2 h3 h4 ih1 ih2 =>
    simp only [Ab.killH]
    refine .func fn _ _ us vs (by simpa using h1) (by simpa using h2) (fun i a h => ?_) (fun i a h => ?_)
    · simp only [List.getElem?_map, Option.map_eq_some_iff] at h
      obtain ⟨a', h', rfl⟩ := h; exact ih1 i a' h'
    · simp only [List.getElem?_map, Option.map_eq_some_iff] at h
      obtain ⟨a', h', rfl⟩ := h; exact ih2 i a' h'
  | ifc t v u h ih => simp only [Ab.killH]; exact .ifc t _ u ih
  | agg l vs h1 h2 ih =>
    simp only [Ab.killH]
    refine .agg _ vs (by simpa using h1) fun i a h => ?_
    simp only [List.getElem?_map, Option.map_eq_some_iff] at h
    obtain ⟨a', h', rfl⟩ := h; exact ih i a' h'
  | tup l vs h1 h2 ih =>
    simp only [Ab.killH]
    refine .tup _ vs (by simpa using h1) fun i a h => ?_
    simp only [List.getElem?_map, Option.map_eq_some_iff] at h
    obtain ⟨a', h', rfl⟩ := h; exact ih i a' h'
  | sl n l b o cap h1 h2 h3 h4 h5 h6 _ => simp only [Ab.killH]; exact .sl n l b o cap h1 h2 h3 h4 h5 h6
  | fp l b o h5 h6 _ => simp only [Ab.killH]; exact .fp l b o h5 h6
  | fmap es b ents clock h1 h2 h3 h4 h5 h6 _ => simp only [Ab.killH]; exact .fmap es b ents clock h1 h2 h3 h4 h5 h6
  | str s h => simp only [Ab.killH]; exact .str s h
  | undef v => simp only [Ab.killH]; exact .undef v
  | bool v => simp only [Ab.killH]; exact .bool v
  | int k v => simp only [Ab.killH]; exact .int k v
  | nilsl => simp only [Ab.killH]; exact .nilsl
  | slnil n => simp only [Ab.killH]; exact .slnil n
  | slmt n a cap h => simp only [Ab.killH]; exact .slmt n a cap h
  | tight n l ad h _ => simp only [Ab.killH]; exact .tight n l ad h
  | nilp => simp only [Ab.killH]; exact .nilp
  | nilmap => simp only [Ab.killH]; exact .nilmap
  | nilfunc => simp only [Ab.killH]; exact .nilfunc
  | nili => simp only [Ab.killH]; exact .nili
theorem Rel.killH {w w' : World} {A A' : Nat → Prop} {G G' : Nat → Option GR} {n n' : Nat} {ρ K : List Nat} (hn : n ≤ n') (hw : ∀ b, b < w.heap.size → ¬ A b → w'.heap[b]? = w.heap[b]?) (hA : ∀ b, b < w.heap.size → A' b → A b)
    (hG : ∀ y, y < n → y ∉ ρ → G' y = G y) (hB : ∀ y g', y < n → y ∈ ρ → G' y = some g' → ∃ g, G y = some g ∧ g'.base = g.base)
    (hK : ∀ y g' t', y < n → y ∈ ρ → y ∈ K → G' y = some g' → g'.cells[0]? = some t' → t'.leaf = false → ∃ g t, G y = some g ∧ g.cells[0]? = some t ∧ t.leaf = false ∧ t'.val = t.val) {a : AV} {v : Value} (h : Rel w A G n a v) : Rel w' A' G' n' (killH ρ K a) v := by
  have list : ∀ (l : List AV) (vs : List Value), vs.length = l.length → (∀ (i : Nat) (a : AV), l[i]? = some a → Rel w' A' G' n' (Ab.killH ρ K a) (vs.getD i Go.undef)) →
      vs.length = (l.map fun a => Ab.killH ρ K a).length ∧ ∀ (i : Nat) (a : AV), (l.map fun a => Ab.killH ρ K a)[i]? = some a → Rel w' A' G' n' a (vs.getD i Go.undef) := by
    intro l vs h1 h2
    refine ⟨by simpa using h1, fun i a h => ?_⟩
    simp only [List.getElem?_map, Option.map_eq_some_iff] at h
    obtain ⟨a', h', rfl⟩ := h
    exact h2 i a' h'
  induction h with
  | fr a v h => exact .fr _ v ((h.keep hw hA).killH)
  | ref x p c v h1 h2 h3 =>
    simp only [Ab.killH]
    split
    · rename_i hm
      split
      · rename_i hmk
        unfold kref
        split
        · refine .ref _ [] 0 v (Nat.lt_of_lt_of_le h1 hn) h2 (fun r row g hr hrow hc hl => ?_)
          cases hrow
          obtain ⟨g0, t, k1, k2, k3, k4⟩ := hK x r g h1 (memB_iff.1 hm) (memB_iff.1 hmk) hr hc hl
          rw [k4]
          exact h3 g0 g0.cells t k1 rfl k2 k3
        · exact .fr _ _ (.undef v)
      · exact .fr _ _ (.undef v)
    · rename_i hm
      have hx : x ∉ ρ := fun h => hm (memB_iff.2 h)
      exact .ref _ p c v (Nat.lt_of_lt_of_le h1 hn) h2 (fun r row g hr => h3 r row g (by rw [← hG x h1 hx]; exact hr))
  | lv x p j ad h1 h2 =>
    by_cases hx : x ∈ ρ
    · cases p with
      | nil =>
        have e : Ab.killH ρ K (.lv x [] j) = .lv x [] j := by simp only [Ab.killH]; split <;> rfl
        rw [e]
        refine .lv _ [] j ad (Nat.lt_of_lt_of_le h1 hn) (fun r b o hr hb => ?_)
        obtain ⟨g, k1, k2⟩ := hB x r h1 hx hr
        refine h2 g b o k1 ?_
        have hb' : r.at_ = some (b, o) := by rw [← hb]; unfold gBase; rfl
        have hg : gBase g.at_ g.cells [] = g.at_ := by unfold gBase; rfl
        rw [hg, ← hb']
        show g.base.map _ = r.base.map _
        rw [k2]
      | cons q p =>
        simp only [Ab.killH, if_pos (memB_iff.2 hx)]
        exact .fr _ _ (.undef _)
    · have hm : ¬ memB x ρ = true := fun h => hx (memB_iff.1 h)
      have e : Ab.killH ρ K (.lv x p j) = .lv x p j := by cases p <;> simp only [Ab.killH, if_neg hm]
      rw [e]
      exact .lv _ p j ad (Nat.lt_of_lt_of_le h1 hn) (fun r b o hr => h2 r b o (by rw [← hG x h1 hx]; exact hr))
  | func fn first caps us vs h1 h2 h3 h4 ih1 ih2 =>
    simp only [Ab.killH]
    obtain ⟨g1, g2⟩ := list first us h1 ih1
    obtain ⟨g3, g4⟩ := list caps vs h2 ih2
    exact .func fn _ _ us vs g1 g3 g2 g4
  | ifc t v u h ih => simp only [Ab.killH]; exact .ifc t _ u ih
  | agg l vs h1 h2 ih => simp only [Ab.killH]; obtain ⟨g1, g2⟩ := list l vs h1 ih; exact .agg _ vs g1 g2
  | tup l vs h1 h2 ih => simp only [Ab.killH]; obtain ⟨g1, g2⟩ := list l vs h1 ih; exact .tup _ vs g1 g2
def mName (ρ : List Nat) (k x : Nat) : Nat := ρ.getD x (k + x)
def unName (ρ : List Nat) (k y : Nat) : Option Nat := if y ∈ ρ then some (ρ.idxOf y) else if k + ρ.length ≤ y then some (y - k) else none
theorem un_m {ρ : List Nat} {k x : Nat} (hd : ρ.Nodup) (hk : ∀ y ∈ ρ, y < k) : unName ρ k (mName ρ k x) = some x := by
  unfold unName mName
  by_cases hx : x < ρ.length
  · have e : ρ.getD x (k + x) = ρ[x] := by simp [hx]
    rw [e, if_pos (List.getElem_mem hx), List.Nodup.idxOf_getElem hd x hx]
  · have e : ρ.getD x (k + x) = k + x := by simp [List.getElem?_eq_none (Nat.le_of_not_lt hx)]
    rw [e, if_neg (fun h => by have := hk _ h; omega), if_pos (by omega)]
    congr 1; omega
theorem m_un {ρ : List Nat} {k x y : Nat} (h : unName ρ k y = some x) : mName ρ k x = y := by
  unfold unName at h
  unfold mName
  split at h
  · rename_i hy
    cases h
    have hl := List.idxOf_lt_length_of_mem hy
    have : ρ[ρ.idxOf y]? = some y := by rw [List.getElem?_eq_getElem hl, List.getElem_idxOf hl]
    simp [this]
  · split at h
    · rename_i hy hl
      cases h
      have : ρ[y - k]? = none := List.getElem?_eq_none (by omega)
      simp [this]; omega
    · cases h
end Go.Ab
namespace Go.Ab
open Go Go.RowKit
def HKept (H : List Nat) (G G' : Nat → Option GR) : Prop := ∀ x, x ∈ H → ∀ g' t', G' x = some g' → g'.cells[0]? = some t' → t'.leaf = false → ∃ g t, G x = some g ∧ g.cells[0]? = some t ∧ t.leaf = false ∧ t'.val = t.val
def EndsG (up : Bool) (w : World) (A : Nat → Prop) (G : Nat → Option GR) (n : Nat) (H : List Nat) (Post : AV → St → Prop) : Ending → World → Prop
  | .returned v, w' => ∃ (σ' : St) (G' : Nat → Option GR) (r : AV), Post r σ' ∧ Inv A w' σ'.n σ'.s G' ∧ Rel w' (Own A G') G' σ'.n r v ∧ Fr (GFp G) w w' ∧ (∀ b, GFp G' b → GFp G b ∨ w.heap.size ≤ b) ∧
      (∀ x g g', x < n → G x = some g → G' x = some g' → g'.base = g.base) ∧ HKept H G G'
  | .panicked _, _ => False
  | .outgrown, _ => up = true
def GCallH (P : Program) (up : Bool) (f : FuncId) (args : List AV) (n : Nat) (s : List (Nat × Root)) (H : List Nat) (Post : AV → St → Prop) : Prop :=
  Callable P f ∧ ∀ (w : World) (A : Nat → Prop) (G : Nat → Option GR) (vs : List Value), (∀ b, A b → b < w.heap.size) → Inv A w n s G → vs.length = args.length → (∀ (i : Nat) (a : AV), args[i]? = some a → Rel w (Own A G) G n a (vs.getD i undef)) →
    Calls P f vs.toArray w (EndsG up w A G n H Post)
abbrev GCall (P : Program) (up : Bool) (f : FuncId) (args : List AV) (n : Nat) (s : List (Nat × Root)) (Post : AV → St → Prop) : Prop := GCallH P up f args n s [] Post
def ptrOK (np : Nat) (args : List AV) (σ : St) : List (Nat × Root) → Prop
  | [] => True
  | (x, r) :: rest => (∀ r', getS σ.s x = some r' → (r.box = false ∧ r'.box = false) ∨ ∃ i, (r.box = true ∧ r'.box = true) ∧ i < np ∧ args[i]? = some (.lv x [] 0) ∧ getT σ.t i = .lv x [] 0) ∧ ptrOK np args σ rest
theorem ptrOK_get {np : Nat} {args : List AV} {σ : St} : ∀ {s : List (Nat × Root)} {x : Nat} {r : Root}, ptrOK np args σ s → getS s x = some r → ∀ r', getS σ.s x = some r' → (r.box = false ∧ r'.box = false) ∨ ∃ i, (r.box = true ∧ r'.box = true) ∧ i < np ∧ args[i]? = some (.lv x [] 0) ∧ getT σ.t i = .lv x [] 0
  | [], x, r, _, h => by simp [getS] at h
  | (y, u) :: rest, x, r, h, hg => by
    simp only [getS] at hg
    split at hg
    · rename_i e; subst e; cases hg; exact h.1
    · exact ptrOK_get h.2 hg
def hdrOK (np : Nat) (args : List AV) (s : List (Nat × Root)) (σ : St) : List Nat → Prop
  | [] => True
  | x :: r => (∃ i, i < np ∧ args[i]? = some (.ref x [] 0) ∧ getT σ.t i = .ref x [] 0 ∧ (match getS s x with | some r => (match r.cells with | av :: _ => av.tree | [] => false) | none => false) = true) ∧ hdrOK np args s σ r
theorem hdrOK_get {np : Nat} {args : List AV} {s : List (Nat × Root)} {σ : St} : ∀ {H : List Nat} {x : Nat}, hdrOK np args s σ H → x ∈ H → ∃ i, i < np ∧ args[i]? = some (.ref x [] 0) ∧ getT σ.t i = .ref x [] 0 ∧ (match getS s x with | some r => (match r.cells with | av :: _ => av.tree | [] => false) | none => false) = true
  | y :: r, x, h, hx => by
    rcases List.mem_cons.1 hx with rfl | hx
    · exact h.1
    · exact hdrOK_get h.2 hx
def retH (TT : TTab) (rs : List ResultVar) (np : Nat) (args : List AV) (s : List (Nat × Root)) (H : List Nat) (Post : AV → St → Prop) (e : Exit) (σ : St) : Prop :=
  (e = .normal ∨ e = .ret) ∧ (ptrOK np args σ s ∧ hdrOK np args s σ H) ∧ ∃ l, resL TT σ rs = some l ∧ Post (one l) σ
def retG (TT : TTab) (rs : List ResultVar) (np : Nat) (args : List AV) (s : List (Nat × Root)) (Post : AV → St → Prop) (e : Exit) (σ : St) : Prop :=
  (e = .normal ∨ e = .ret) ∧ ptrOK np args σ s ∧ ∃ l, resL TT σ rs = some l ∧ Post (one l) σ
section
variable {P : Program} {TT : TTab} {up : Bool} {σ : St} {K : St → Prop}
theorem GCallH.intro (htt : TTok P TT) (np : Nat) {f : FuncId} {fn : Func} {c : Code} {args : List AV} {n : Nat} {s : List (Nat × Root)} {H : List Nat} {Post : AV → St → Prop} (hf : P.funcs[f]? = some fn) (hn : (fn.name == "runtime.NumGoroutine") = false) (hb : fn.body = some c) (hl : args.length ≤ fn.ntmps)
    (hk : CW P up np fn.ntmps c { n := n, t := tmps0 0 args, s := s } (retH TT fn.results.toList np args s H Post)) (hnp : np < 65536 := by decide) : GCallH P up f args n s H Post := by
  refine ⟨⟨fn, hf, hn, by rw [hb]; rfl⟩, fun w A G vs hA hinv hvl hr => ?_⟩
  refine calls_of_wp hf hb ?_
  have hsz : (vs.toArray ++ Array.replicate (fn.ntmps - vs.toArray.size) undef).size = fn.ntmps := by simp; omega
  have hval : ∀ i, i < args.length → (vs.toArray ++ Array.replicate (fn.ntmps - vs.toArray.size) undef).getD i undef = vs.getD i undef := fun i hi => by
    rw [Array.getD_eq_getD_getElem?, List.getD_eq_getElem?_getD, Array.getElem?_append_left (by simp; omega), List.getElem?_toArray]
  refine hk A (GFp G) w _ w G _ (fun hu => ⟨⟨#[], []⟩, w, hu⟩) ⟨hinv, hsz, rfl, fun i hi => ?_, fun i hi => ?_, ⟨rfl, rfl, rfl, Nat.le_refl _, fun _ _ _ => rfl⟩, fun b hb => .inl hb, hA⟩ fun e a' w' σ' G' hh hkept hq => ?_
  · rw [tmps0_get, if_pos (Nat.zero_le i), Nat.sub_zero]
    by_cases hlt : i < args.length
    · have h1 : args[i]? = some args[i] := List.getElem?_eq_getElem hlt
      rw [getD_of h1]
      show Rel w (Own A G) G n args[i] ((vs.toArray ++ Array.replicate (fn.ntmps - vs.toArray.size) undef).getD i undef)
      rw [hval i hlt]
      exact hr i _ h1
    · have : args.getD i .undef = .undef := by simp [List.getElem?_eq_none (Nat.le_of_not_lt hlt)]
      rw [this]
      exact .fr _ _ (.undef _)
  · rw [tmps0_get, if_pos (Nat.zero_le i), Nat.sub_zero]
    simp [List.getElem?_eq_none (show args.length ≤ i by omega)]
  · obtain ⟨he, ⟨hp, hh2⟩, l, hl, hR⟩ := hq
    obtain ⟨v, k1, k2⟩ := hh.results htt hl
    have hbase : ∀ x g g', x < n → G x = some g → G' x = some g' → g'.base = g.base := by
      intro x g g' hx hg hg'
      have hd := hinv.dom x
      rw [hg] at hd
      obtain ⟨r, hr1⟩ := Option.isSome_iff_exists.1 hd
      have hd' := hh.inv.dom x
      rw [hg'] at hd'
      obtain ⟨r', hr2⟩ := Option.isSome_iff_exists.1 hd'
      have b1 := hinv.box x r g hr1 hg
      have b2 := hh.inv.box x r' g' hr2 hg'
      rcases ptrOK_get hp hr1 r' hr2 with ⟨q1, q2⟩ | ⟨i, ⟨q01, q02⟩, q1, q2, q3⟩
      · rw [q1] at b1; rw [q2] at b2
        have e1 : g.base = none := by cases h : g.base with | none => rfl | some b => rw [h] at b1; cases b1
        have e2 : g'.base = none := by cases h : g'.base with | none => rfl | some b => rw [h] at b2; cases b2
        rw [e1, e2]
      · have h1 := hr i _ q2
        have hil : i < args.length := (List.getElem?_eq_some_iff.1 q2).1
        have h2 := hh.slotD i
        rw [q3] at h2
        have hsame : a'.tmps.getD i undef = vs.getD i undef := by
          rw [← hval i hil, Array.getD_eq_getD_getElem?, Array.getD_eq_getD_getElem?, hkept i (kp_lt hnp q1)]
        rw [hsame] at h2
        obtain ⟨ad1, e1, _, l1⟩ := h1.lv_inv
        obtain ⟨ad2, e2, _, l2⟩ := h2.lv_inv
        rw [e1] at e2; cases e2
        have gb : ∀ (q : GR), gBase q.at_ q.cells [] = q.base.map fun b => (b, 0) := fun q => by unfold gBase; rfl
        rw [q01] at b1; rw [q02] at b2
        obtain ⟨b, hgb⟩ := Option.isSome_iff_exists.1 b1.symm
        obtain ⟨b', hgb'⟩ := Option.isSome_iff_exists.1 b2.symm
        have a1 := l1 g b 0 hg (by rw [gb, hgb]; rfl)
        have a2 := l2 g' b' 0 hg' (by rw [gb, hgb']; rfl)
        rw [a1] at a2; cases a2
        rw [hgb, hgb']
    have hkept2 : HKept H G G' := by
      intro x hx g' t' hg' ht' hl'
      obtain ⟨i, q1, q2, q3, q4⟩ := hdrOK_get hh2 hx
      have h1 := hr i _ q2
      have hil : i < args.length := (List.getElem?_eq_some_iff.1 q2).1
      have h2 := hh.slotD i
      rw [q3] at h2
      have hsame : a'.tmps.getD i undef = vs.getD i undef := by
        rw [← hval i hil, Array.getD_eq_getD_getElem?, Array.getD_eq_getD_getElem?, hkept i (kp_lt hnp q1)]
      rw [hsame] at h2
      obtain ⟨_, _, e1⟩ := h1.ref_inv
      obtain ⟨_, _, e2⟩ := h2.ref_inv
      split at q4
      · rename_i r hr1
        split at q4
        · rename_i av rest hrc
          have hd := hinv.dom x
          rw [hr1] at hd
          obtain ⟨g, hg⟩ := Option.isSome_iff_exists.1 hd.symm
          have hcs := hinv.cells x r g hr1 hg
          have hlen := hcs.len
          rw [hrc] at hlen
          obtain ⟨t, ht⟩ : ∃ t, g.cells[0]? = some t := ⟨g.cells[0]'(by rw [← hlen]; simp), List.getElem?_eq_getElem _⟩
          have htl : t.leaf = false := by
            rcases hcs.cell 0 av t (by rw [hrc]; rfl) ht with ⟨k1, _⟩ | ⟨_, k2⟩
            · exact k1
            · exfalso
              generalize t.val = vv at k2
              cases k2 with
              | fr _ _ hf => rw [hf.not_tree] at q4; cases q4
              | _ => cases q4
          exact ⟨g, t, hg, ht, htl, by rw [← e2 g' g'.cells t' hg' rfl ht' hl', e1 g g.cells t hg rfl ht htl]⟩
        · cases q4
      · cases q4
    rcases he with rfl | rfl
    · exact ⟨hh.defers, v, k1, σ', G', one l, hR, hh.inv, k2, hh.fr, hh.own, hbase, hkept2⟩
    · exact ⟨hh.defers, v, k1, σ', G', one l, hR, hh.inv, k2, hh.fr, hh.own, hbase, hkept2⟩
theorem GCall.intro (htt : TTok P TT) (np : Nat) {f : FuncId} {fn : Func} {c : Code} {args : List AV} {n : Nat} {s : List (Nat × Root)} {Post : AV → St → Prop} (hf : P.funcs[f]? = some fn) (hn : (fn.name == "runtime.NumGoroutine") = false) (hb : fn.body = some c) (hl : args.length ≤ fn.ntmps)
    (hk : CW P up np fn.ntmps c { n := n, t := tmps0 0 args, s := s } (retG TT fn.results.toList np args s Post)) (hnp : np < 65536 := by decide) : GCall P up f args n s Post :=
  GCallH.intro htt np hf hn hb hl (hk.mono fun _ _ h => ⟨h.1, ⟨h.2.1, trivial⟩, h.2.2⟩) hnp
def delAll (ρ : List Nat) : List (Nat × Root) → List (Nat × Root)
  | [] => []
  | (j, v) :: r => if memB j ρ = true then delAll ρ r else (j, v) :: delAll ρ r
theorem getS_delAll (ρ : List Nat) (s : List (Nat × Root)) (y : Nat) : getS (delAll ρ s) y = if memB y ρ = true then none else getS s y := by
  induction s with
  | nil => simp [delAll, getS]
  | cons q r ih =>
    obtain ⟨j, v⟩ := q
    simp only [delAll]
    split
    · rename_i hj
      rw [ih]
      split
      · rfl
      · rename_i hy
        simp only [getS]
        rw [if_neg (fun e => hy (by rw [← e]; exact hj))]
    · rename_i hj
      simp only [getS, ih]
      by_cases e : j = y
      · subst e; simp [hj]
      · simp [e]
def renS (m : Nat → Nat) (s : List (Nat × Root)) : List (Nat × Root) := s.map fun q => (m q.1, { q.2 with cells := q.2.cells.map (ren m) })
theorem getS_renS {ρ : List Nat} {k : Nat} (hd : ρ.Nodup) (hk : ∀ y ∈ ρ, y < k) (s : List (Nat × Root)) (y : Nat) :
    getS (renS (mName ρ k) s) y = match unName ρ k y with | some x => (getS s x).map (fun r => { r with cells := r.cells.map (ren (mName ρ k)) }) | none => none := by
  induction s with
  | nil => simp only [renS, List.map_nil, getS]; split <;> rfl
  | cons q r ih =>
    obtain ⟨j, v⟩ := q
    have e : renS (mName ρ k) ((j, v) :: r) = (mName ρ k j, { v with cells := v.cells.map (ren (mName ρ k)) }) :: renS (mName ρ k) r := rfl
    rw [e]
    simp only [getS]
    rw [ih]
    cases hu : unName ρ k y with
    | none =>
      have hne : ¬ mName ρ k j = y := fun e => by rw [← e, un_m hd hk] at hu; cases hu
      rw [if_neg hne]
    | some x =>
      have hm := m_un hu
      simp only
      by_cases hj : j = x
      · subst hj; rw [if_pos hm, if_pos rfl]; rfl
      · have hne : ¬ mName ρ k j = y := fun e => by rw [← e, un_m hd hk] at hu; cases hu; exact hj rfl
        rw [if_neg hne, if_neg hj]
theorem getS_app (s s' : List (Nat × Root)) (y : Nat) : getS (s ++ s') y = (getS s y).or (getS s' y) := by
  induction s with
  | nil => simp [getS]
  | cons q r ih =>
    obtain ⟨j, v⟩ := q
    simp only [List.cons_append, getS, ih]
    split
    · rfl
    · rfl
def aftH (ρ K : List Nat) (σ σ' : St) : St := { n := σ.n + σ'.n, t := mapT (killH ρ K) σ.t, s := renS (mName ρ σ.n) σ'.s ++ mapS (killH ρ K) (delAll ρ σ.s) }
abbrev aftS (ρ : List Nat) (σ σ' : St) : St := aftH ρ [] σ σ'
theorem rel_subL {w : World} {A A' : Nat → Prop} {G G' : Nat → Option GR} {n n' : Nat} {m : Nat → Nat} (hrel : ∀ {b : AV} {v : Value}, Rel w A G n b v → ∀ {a : AV}, Sub m n' a b → Rel w A' G' n' a v) {l l' : List AV} {vs : List Value}
    (hs : SubL m n' l l') (hv : vs.length = l'.length) (h : ∀ (i : Nat) (a : AV), l'[i]? = some a → Rel w A G n a (vs.getD i undef)) : vs.length = l.length ∧ ∀ (i : Nat) (a : AV), l[i]? = some a → Rel w A' G' n' a (vs.getD i undef) := by
  refine ⟨by rw [hv, hs.len], fun i a ha => ?_⟩
  obtain ⟨b, h1, h2⟩ := hs.at_ i a ha
  exact hrel (h i b h1) h2
theorem snd_gcallH (ρ H : List Nat) {o : Oper} {x : Operand} {xs : Array Operand} {ts : Array TypeId} {f : FuncId} {first caps args : List AV} {sc : List (Nat × Root)} {Post : AV → St → Prop} (ho : o.op = .call { callee := .value x, args := xs, argTypes := ts }) (hx : ev σ x = .func (.func f) first caps)
    (hp : GCallH P up f args ρ.length sc H Post) (hH : ∀ x ∈ H, x < ρ.length) (hρ : ρ.Nodup) (hsc : AllS (mName ρ 0) ρ.length σ.s sc) (hnm : (Names (mName ρ 0) sc).Nodup) (hin : ∀ y ∈ ρ, (getS σ.s y).isSome = true) (hcov : ∀ x, x < ρ.length → (getS sc x).isSome = true)
    (ha : SubL (mName ρ 0) ρ.length args (callL σ first xs.toList caps)) (hk : ∀ (r : AV) (σ' : St), Post r σ' → K ((aftH ρ (H.map (mName ρ 0)) σ σ').put o.dst (ren (mName ρ σ.n) r))) : SndU P up o σ K := by
  intro A0 D0 w0 nt a w G Q hd hu h
  left
  obtain ⟨us, vs, e1, e2, e3⟩ := h.callArgs hx xs.toList
  have hlt : ∀ y, (getS σ.s y).isSome = true → y < σ.n := fun y hy => by
    rw [h.inv.dom y] at hy
    obtain ⟨g, hg⟩ := Option.isSome_iff_exists.1 hy
    exact h.inv.lt y g hg
  have hkρ : ∀ y ∈ ρ, y < σ.n := fun y hy => hlt y (hin y hy)
  -- what is kept from the callee
  let Ac : Nat → Prop := fun b => A0 b ∨ ∃ y g, G y = some g ∧ y ∉ ρ ∧ RFp g b
  have hAc : ∀ b, Ac b → Own A0 G b := fun b hb => hb.imp id fun ⟨y, g, h1, _, h3⟩ => ⟨y, g, h1, h3⟩
  have hmr : ∀ z, z < ρ.length → mName ρ 0 z ∈ ρ := fun z hz => by unfold mName; simp [hz]
  have hscρ : ∀ z g, Gsub (mName ρ 0) sc G z = some g → mName ρ 0 z ∈ ρ := fun z g hg => by
    unfold Gsub at hg
    split at hg
    · rename_i r hr
      obtain ⟨_, _, _, _, hz, _⟩ := hsc.get z r hr
      exact hmr z hz
    · cases hg
  have hfp0 : ∀ z g k, Gsub (mName ρ 0) sc G z = some g → RFp g k → ∃ g0, G (mName ρ 0 z) = some g0 ∧ RFp g0 k := fun z g k hg hk =>
    ((h.inv.weak (A1 := fun _ => False) (mName ρ 0) hnm hsc (fun b hb => hb.elim) (fun b _ hb => hb)).2.2.2) z g k hg hk
  obtain ⟨hinv, hown, hrel, hfp⟩ := h.inv.weak (A1 := Ac) (mName ρ 0) hnm hsc hAc (fun b ⟨z, g, hg, hk⟩ hb => by
    obtain ⟨g0, h1, h2⟩ := hfp0 z g b hg hk
    rcases hb with hb | ⟨y, g', h3, h4, h5⟩
    · exact h.inv.a0 b ⟨_, g0, h1, h2⟩ hb
    · exact h.inv.sep _ g0 y g' h1 h3 (fun e => h4 (by rw [← e]; exact hscρ z g hg)) b h2 h5)
  have hGcb : ∀ z gc, Gsub (mName ρ 0) sc G z = some gc → ∃ g, G (mName ρ 0 z) = some g ∧ gc.base = g.base := fun z gc hg => by
    unfold Gsub at hg
    split at hg
    · simp only [Option.map_eq_some_iff] at hg
      obtain ⟨g0, h1, rfl⟩ := hg
      exact ⟨g0, h1, rfl⟩
    · cases hg
  have hGct : ∀ z gc t, Gsub (mName ρ 0) sc G z = some gc → gc.cells[0]? = some t → t.leaf = false → ∃ g, G (mName ρ 0 z) = some g ∧ g.cells[0]? = some t := fun z gc t hg ht hl => by
    unfold Gsub at hg
    split at hg
    · simp only [Option.map_eq_some_iff] at hg
      obtain ⟨g0, h1, rfl⟩ := hg
      refine ⟨g0, h1, ?_⟩
      simp only [GR.sub, List.getElem?_zipWith_eq_some] at ht
      obtain ⟨av, t0, _, h3, h4⟩ := ht
      unfold pick at h4
      split at h4
      · rw [h3, h4]
      · rw [← h4] at hl; cases hl
    · cases hg
  have hGcd : ∀ z, z < ρ.length → ∃ gc, Gsub (mName ρ 0) sc G z = some gc := fun z hz => by
    obtain ⟨r, hr⟩ := Option.isSome_iff_exists.1 (hcov z hz)
    obtain ⟨v, hv, _⟩ := hsc.get z r hr
    have := h.inv.dom (mName ρ 0 z)
    rw [hv] at this
    obtain ⟨g, hg⟩ := Option.isSome_iff_exists.1 this.symm
    exact ⟨_, by unfold Gsub; rw [hr]; simp only [hg]; rfl⟩
  generalize hGc : Gsub (mName ρ 0) sc G = Gc at *
  have hsize : ∀ b, Ac b → b < w.heap.size := fun b hb => (hAc b hb).elim (fun hb => Nat.lt_of_lt_of_le (h.a0lt b hb) h.fr.size) (fun hb => rfp_lt h.inv hb)
  obtain ⟨hl1, hl2⟩ := rel_subL (A := Own A0 G) hrel ha e2 e3
  have hc := hp.2 w Ac Gc (us ++ xs.toList.map a.eval ++ vs) hsize hinv hl1 hl2
  simp only [Oper.wp, run_enter hp.1 ho e1, Oper.upon]
  refine hc.mono fun e w' he => ?_
  cases e with
  | panicked c => exact he.elim
  | outgrown => exact hu he
  | returned v =>
    obtain ⟨σ', G', r, k1, k2, k3, k4, k5, k6, k7⟩ := he
    let Gn : Nat → Option GR := fun y => match unName ρ σ.n y with | some x => G' x | none => G y
    have hGn : ∀ {y x : Nat}, unName ρ σ.n y = some x → Gn y = G' x := fun {y x} h => by simp only [Gn, h]
    have hGn0 : ∀ {y : Nat}, unName ρ σ.n y = none → Gn y = G y := fun {y} h => by simp only [Gn, h]
    have hunρ : ∀ {y : Nat}, unName ρ σ.n y = none → y ∉ ρ := fun {y} h hy => by unfold unName at h; rw [if_pos hy] at h; cases h
    have hunlt : ∀ {y : Nat}, y < σ.n → y ∉ ρ → unName ρ σ.n y = none := fun {y} h hy => by unfold unName; rw [if_neg hy, if_neg (by omega)]
    have hmlt : ∀ x, x < σ'.n → mName ρ σ.n x < σ.n + σ'.n := fun x hx => by
      unfold mName
      by_cases hxl : x < ρ.length
      · have : ρ.getD x (σ.n + x) = ρ[x] := by simp [hxl]
        rw [this]
        have := hkρ _ (List.getElem_mem hxl)
        omega
      · have : ρ.getD x (σ.n + x) = σ.n + x := by simp [List.getElem?_eq_none (Nat.le_of_not_lt hxl)]
        rw [this]; omega
    have hownN : ∀ b, GFp Gn b → GFp G b ∨ w.heap.size ≤ b := by
      rintro b ⟨y, g, hg, hb⟩
      cases hu' : unName ρ σ.n y with
      | none => rw [hGn0 hu'] at hg; exact .inl ⟨y, g, hg, hb⟩
      | some x => rw [hGn hu'] at hg; exact (k5 b ⟨x, g, hg, hb⟩).imp (hown b) id
    have hAN : ∀ b, b < w.heap.size → Own A0 Gn b → Own A0 G b := fun b hb ho => ho.imp id fun hg => (hownN b hg).resolve_right (by omega)
    have hAc' : ∀ b, Own A0 Gn b → Own Ac G' b := by
      rintro b (hb | ⟨y, g, hg, hb⟩)
      · exact .inl (.inl hb)
      · cases hu' : unName ρ σ.n y with
        | none => rw [hGn0 hu'] at hg; exact .inl (.inr ⟨y, g, hg, hunρ hu', hb⟩)
        | some x => rw [hGn hu'] at hg; exact .inr ⟨x, g, hg, hb⟩
    have hblk : ∀ b, b < w.heap.size → ¬ GFp G b → w'.heap[b]? = w.heap[b]? := fun b hb hg => k4.block b hb fun hgc => hg (hown b hgc)
    have hidx : ∀ y ∈ ρ, ∃ z, z < ρ.length ∧ mName ρ 0 z = y ∧ unName ρ σ.n y = some z := fun y hy => by
      have hl := List.idxOf_lt_length_of_mem hy
      refine ⟨ρ.idxOf y, hl, ?_, by unfold unName; rw [if_pos hy]⟩
      have : ρ[ρ.idxOf y]? = some y := by rw [List.getElem?_eq_getElem hl, List.getElem_idxOf hl]
      unfold mName; simp [this]
    have hrelN : ∀ {av : AV} {u : Value}, Rel w' (Own Ac G') G' σ'.n av u → Rel w' (Own A0 Gn) Gn (σ.n + σ'.n) (ren (mName ρ σ.n) av) u := fun hr =>
      hr.ren (fun b _ hb => hAc' b hb) hmlt (fun x _ => hGn (un_m hρ hkρ))
    have hgs : ∀ y, getS (aftH ρ (H.map (mName ρ 0)) σ σ').s y = match unName ρ σ.n y with | some x => (getS σ'.s x).map (fun r => { r with cells := r.cells.map (ren (mName ρ σ.n)) }) | none => (getS σ.s y).map (fun r => { r with cells := r.cells.map (killH ρ (H.map (mName ρ 0))) }) := by
      intro y
      show getS (renS (mName ρ σ.n) σ'.s ++ mapS (killH ρ (H.map (mName ρ 0))) (delAll ρ σ.s)) y = _
      rw [getS_app, getS_renS hρ hkρ, getS_map, getS_delAll]
      cases hu' : unName ρ σ.n y with
      | none =>
        simp only [Option.none_or]
        rw [if_neg (fun h => hunρ hu' (memB_iff.1 h))]
      | some x =>
        simp only
        have : (if memB y ρ = true then none else getS σ.s y) = none := by
          split
          · rfl
          · rename_i hy
            have hy : y ∉ ρ := fun h => hy (memB_iff.2 h)
            cases hs : getS σ.s y with
            | none => rfl
            | some q =>
              have := hunlt (hlt y (by rw [hs]; rfl)) hy
              rw [this] at hu'; cases hu'
        rw [this]
        simp
    have hH : Holds A0 D0 w0 nt (aftH ρ (H.map (mName ρ 0)) σ σ') a w' Gn := by
      refine h.change (σ' := aftH ρ (H.map (mName ρ 0)) σ σ') (G' := Gn) (killH ρ (H.map (mName ρ 0))) (fun y => (unName ρ σ.n y).isSome = true) (by show σ.n ≤ σ.n + σ'.n; omega) hblk ⟨k4.os, k4.tape, k4.output, k4.size⟩ hownN
        (fun a v hr => ?_) (by simp [killH]) (fun a ht => killH_tree ht) (fun y => ?_) (fun y hy => ?_) (fun y g hy hg b hb => ?_) (fun y r' g hy hr' hg => ?_) (fun y g y' g' hy hg hg' hne b hb hb' => ?_) rfl
      · refine hr.killH (by show σ.n ≤ σ.n + σ'.n; omega) (fun b hb ho => hblk b hb fun hg => ho (.inr hg)) hAN (fun y hy hyρ => hGn0 (hunlt hy hyρ)) (fun y g' hy hyρ hg' => ?_) (fun y g' t' hy hyρ hyK hg' ht' hl' => ?_)
        rotate_left
        · obtain ⟨z, hz, rfl⟩ := List.mem_map.1 hyK
          have hzl := hH z hz
          have hzm : mName ρ 0 z = mName ρ σ.n z := by unfold mName; simp [hzl]
          rw [hzm, hGn (un_m hρ hkρ)] at hg'
          obtain ⟨gc, t, q1, q2, q3, q4⟩ := k7 z hz g' t' hg' ht' hl'
          obtain ⟨g0, q5, q6⟩ := hGct z gc t q1 q2 q3
          exact ⟨g0, t, q5, q6, q3, q4⟩
        obtain ⟨z, hz, hm, hun⟩ := hidx y hyρ
        rw [hGn hun] at hg'
        obtain ⟨gc, hgc⟩ := hGcd z hz
        obtain ⟨g, hg, hb⟩ := hGcb z gc hgc
        rw [hm] at hg
        exact ⟨g, hg, by rw [k6 z gc g' hz hgc hg', hb]⟩
      · rw [hgs y]
        cases hu' : unName ρ σ.n y with
        | none => rw [hGn0 hu']; simp [h.inv.dom y]
        | some x => rw [hGn hu']; simp [k2.dom x]
      · have hu' : unName ρ σ.n y = none := by cases hh : unName ρ σ.n y with | none => rfl | some x => rw [hh] at hy; exact absurd rfl hy
        exact ⟨by rw [hgs y, hu'], hGn0 hu'⟩
      · have hu' : unName ρ σ.n y = none := by cases hh : unName ρ σ.n y with | none => rfl | some x => rw [hh] at hy; exact absurd rfl hy
        refine k4.block b (rfp_lt h.inv ⟨y, g, hg, hb⟩) fun ⟨z, gc, hgc, hbc⟩ => ?_
        obtain ⟨g0, h1, h2⟩ := hfp z gc b hgc hbc
        exact h.inv.sep y g _ g0 hg h1 (fun e => hunρ hu' (by rw [e]; exact hscρ z gc hgc)) b hb h2
      · obtain ⟨x', hu'⟩ := Option.isSome_iff_exists.1 hy
        rw [hgs y, hu'] at hr'
        rw [hGn hu'] at hg
        simp only [Option.map_eq_some_iff] at hr'
        obtain ⟨r0, hr0, rfl⟩ := hr'
        have hcells := k2.cells x' r0 g hr0 hg
        refine ⟨k2.box x' r0 g hr0 hg, ⟨by simpa using hcells.len, fun c av t hav ht => ?_⟩, (k2.row x' g hg).keep (fun _ _ _ => rfl) (fun b _ hb => hAc' b hb) (fun _ _ => rfl) (fun _ _ _ => rfl), fun b hb => k2.base x' g b hg hb, ?_⟩
        · simp only [List.getElem?_map, Option.map_eq_some_iff] at hav
          obtain ⟨av0, h0, rfl⟩ := hav
          rcases hcells.cell c av0 t h0 ht with ⟨q1, q2⟩ | ⟨q1, q2⟩
          · exact .inl ⟨q1, by rw [ren_tree (by rw [q2]; exact tree_of_leaf q1)]; exact q2⟩
          · exact .inr ⟨q1, hrelN q2⟩
        · have := hmlt x' (k2.lt x' g hg)
          rw [m_un hu'] at this
          exact this
      · obtain ⟨x', hu'⟩ := Option.isSome_iff_exists.1 hy
        rw [hGn hu'] at hg
        cases hu2 : unName ρ σ.n y' with
        | none =>
          rw [hGn0 hu2] at hg'
          exact k2.a0 b ⟨x', g, hg, hb⟩ (.inr ⟨y', g', hg', hunρ hu2, hb'⟩)
        | some x2 =>
          rw [hGn hu2] at hg'
          exact k2.sep x' g x2 g' hg hg' (fun e => hne (by rw [← m_un hu', ← m_un hu2, e])) b hb hb'
    exact ⟨_, Gn, hH.put (hrelN k3) hd, hk r σ' k1⟩
theorem snd_gcall (ρ : List Nat) {o : Oper} {x : Operand} {xs : Array Operand} {ts : Array TypeId} {f : FuncId} {first caps args : List AV} {sc : List (Nat × Root)} {Post : AV → St → Prop} (ho : o.op = .call { callee := .value x, args := xs, argTypes := ts }) (hx : ev σ x = .func (.func f) first caps)
    (hp : GCall P up f args ρ.length sc Post) (hρ : ρ.Nodup) (hsc : AllS (mName ρ 0) ρ.length σ.s sc) (hnm : (Names (mName ρ 0) sc).Nodup) (hin : ∀ y ∈ ρ, (getS σ.s y).isSome = true) (hcov : ∀ x, x < ρ.length → (getS sc x).isSome = true)
    (ha : SubL (mName ρ 0) ρ.length args (callL σ first xs.toList caps)) (hk : ∀ (r : AV) (σ' : St), Post r σ' → K ((aftS ρ σ σ').put o.dst (ren (mName ρ σ.n) r))) : SndU P up o σ K :=
  snd_gcallH ρ [] ho hx hp (fun _ h => by cases h) hρ hsc hnm hin hcov ha hk
theorem CWops.callG {nt : Nat} {all : Array Oper} {os : List Oper} {d : Option Tmp} {ty : TypeId} {pos : String} {af : Array Edge} {gd : Option (Nat × Bool)} {x : Operand} {xs : Array Operand} {ts : Array TypeId} {f : FuncId} {first caps args : List AV} {n : Nat} {sc : List (Nat × Root)} {Post : AV → St → Prop}
    (ρ : List Nat) (hn : ρ.length = n) (hp : GCall P up f args n sc Post) (hw : wantd all σ ⟨d, .call ⟨.value x, xs, ts⟩, ty, pos, af, gd⟩ = some true) (hx : ev σ x = .func (.func f) first caps)
    (hρ : ρ.Nodup) (hsc : AllS (mName ρ 0) n σ.s sc) (hnm : (Names (mName ρ 0) sc).Nodup) (hin : ∀ y ∈ ρ, (getS σ.s y).isSome = true) (hcov : ∀ x, x < n → (getS sc x).isSome = true)
    (ha : SubL (mName ρ 0) n args (callL σ first xs.toList caps)) (hk : ∀ (r : AV) (σ' : St), Post r σ' → CWops P up nt all os ((aftS ρ σ σ').put d (ren (mName ρ σ.n) r)) K) : CWops P up nt all (⟨d, .call ⟨.value x, xs, ts⟩, ty, pos, af, gd⟩ :: os) σ K := by
  subst hn
  exact CWops.step hw (snd_gcall ρ rfl hx hp hρ hsc hnm hin hcov ha hk)
end
end Go.Ab
namespace Go.Ab
open Go Go.RowKit
theorem Sh.wk0 {σ τ : St} (h : Wk (fun x => x) σ τ) : Sh σ τ := Sh.wk _ h
theorem Sh.nilRoot {σ τ : St} (i m : Nat) (hi : getT σ.t i = .nilsl) (he : { n := σ.n + 1, t := (i, .ref σ.n [] 0) :: σ.t, s := (σ.n, ⟨false, [.own m []]⟩) :: σ.s } = τ) : Sh σ τ := by
  intro A0 D0 w0 nt a w G h
  subst he
  have hm : GT.er (.own m (.slice none 0 0) []) = .own m [] := by simp [GT.er]
  obtain ⟨G', h1, h2⟩ := h.newDet (.own m (.slice none 0 0) []) (fun _ _ => rfl) ⟨rfl, rfl, rfl, Nat.le_refl _⟩ rfl (.own _ _ _ (fun i r j g hi => by simp at hi) (fun i r j g hi => by simp at hi) (fun i r j g i' r' j' g' hi => by simp at hi))
    (fun k hk => by cases hk with | own _ _ _ i r j g k hr => simp at hr) (fun A _ => .onil m)
  rw [hm] at h1
  obtain ⟨v, k1, k2⟩ := h.slot (t := i) (by rw [hi]; simp)
  rw [hi] at k2
  have hv := k2.nilsl_inv
  subst hv
  refine ⟨G', h1.inv, h1.size, h1.defers, fun j hj => ?_, fun j hj => ?_, h1.fr, h1.own, h1.a0lt⟩
  · simp only [getT]
    split
    · rename_i e; subst e
      rw [Array.getD_eq_getD_getElem?, k1]
      exact h2
    · exact h1.tmp j hj
  · simp only [getT]
    have : i ≠ j := fun e => by subst e; have := h.far i hj; rw [hi] at this; cases this
    rw [if_neg this]
    exact h1.far j hj
theorem Sh.nilCell {σ τ : St} (x : Nat) (p : List (Nat × Nat)) (c m : Nat) (hc : cellAtB σ x p c = .nilsl)
    (he : { n := σ.n + 1, t := mapT (AV.kill x p c) σ.t, s := match getS σ.s x with | some r => updS (mapS (AV.kill x p c) σ.s) x { r with cells := putAt (r.cells.map (AV.kill x p c)) p c (.own m []) } | none => σ.s } = τ) : Sh σ τ := by
  intro A0 D0 w0 nt a w G h
  subst he
  unfold cellAtB at hc
  split at hc
  · rename_i r hr
    split at hc
    · rename_i row hrow
      have hcl : c < row.length := by
        rcases Nat.lt_or_ge c row.length with h | h
        · exact h
        · simp [List.getElem?_eq_none h] at hc
      have hrc : row[c]? = some .nilsl := by
        rw [List.getElem?_eq_getElem hcl]
        simpa [List.getElem?_eq_getElem hcl] using hc
      let t : GT := .own m (.slice none 0 0) []
      have hm : t.er = .own m [] := by simp [t, GT.er]
      have hnofp : ∀ b, ¬ RFp ⟨none, [t]⟩ b := by
        rintro b (hb | ⟨c, g, hg, hb⟩)
        · cases hb
        · cases c with
          | zero =>
            cases hg
            have hb : Fp (.own m (.slice none 0 0) []) b := hb
            cases hb with | own _ _ _ i r j g k hr => simp at hr
          | succ c => simp at hg
      have hsep : Sep t := .own _ _ _ (fun i r j g hi => by simp at hi) (fun i r j g hi => by simp at hi) (fun i r j g i' r' j' g' hi => by simp at hi)
      have h1 := h.newRoot (w' := w) (N := σ.n) (r := ⟨false, [.own m []]⟩) (g := ⟨none, [t]⟩) (Nat.le_refl _) (fun _ _ => rfl) ⟨rfl, rfl, rfl, Nat.le_refl _⟩ (fun b hb => (hnofp b hb).elim) rfl
        (fun A _ => ⟨rfl, fun c av g hav hg => by
          cases c with
          | zero => cases hav; cases hg; exact .inl ⟨rfl, hm.symm⟩
          | succ c => simp at hg⟩)
        (fun A _ => ⟨fun c g hg => by
          cases c with
          | zero => cases hg; exact .onil m
          | succ c => simp at hg, ⟨fun c g hg => by
          cases c with
          | zero => cases hg; exact hsep
          | succ c => simp at hg, fun c g c' g' hg hg' hne k hk hk' => (hnofp k (.inr ⟨c, g, hg, hk⟩)).elim⟩, fun b o e => by simp [GR.at_] at e, fun b o e => by simp [GR.at_] at e⟩) (fun b hb => by simp at hb)
      obtain ⟨g, hg, hb, hcs, hmm⟩ := h.root hr
      have hxn : x < σ.n := h.inv.lt x g hg
      have hne : σ.n ≠ x := by omega
      obtain ⟨grow, k1, k2, k3, k4⟩ := row_at hcs hmm hrow
      have hgl : c < grow.length := by rw [← k2.len]; exact hcl
      have hgc : grow[c]? = some grow[c] := List.getElem?_eq_getElem hgl
      have hval : t.val = grow[c].val := by
        rcases k2.cell c _ _ hrc hgc with ⟨q1, q2⟩ | ⟨q1, q2⟩
        · have := tree_of_leaf q1; rw [← q2] at this; cases this
        · have := q2.nilsl_inv; rw [this]; rfl
      have hG1x : Gset G σ.n (some ⟨none, [t]⟩) x = some g := by unfold Gset; rw [if_neg (Ne.symm hne)]; exact hg
      have hG1y : Gset G σ.n (some ⟨none, [t]⟩) σ.n = some ⟨none, [t]⟩ := by unfold Gset; rw [if_pos rfl]
      have hs1 : getS ((σ.n, (⟨false, [.own m []]⟩ : Root)) :: σ.s) x = some r := by simp only [getS]; rw [if_neg hne]; exact hr
      obtain ⟨h2, _⟩ := h1.adopt (x := x) (y := σ.n) (r := r) (p := p) (row := row) (j := c) hs1 hrow hne hG1x k1 hgc hG1y rfl hval
      refine ⟨_, h2.ext rfl (fun _ => rfl) (fun z => ?_)⟩
      rw [hr, hm]
      simp only
      have hno : getS σ.s σ.n = none := by
        cases hq : getS σ.s σ.n with
        | none => rfl
        | some q =>
          have := h.inv.dom σ.n
          rw [hq] at this
          obtain ⟨g', hg'⟩ := Option.isSome_iff_exists.1 this.symm
          exact absurd (h.inv.lt _ g' hg') (by omega)
      simp only [getS_upd, getS_del, getS_map]
      by_cases hzx : z = x
      · rw [if_pos hzx, if_pos hzx, if_neg (Ne.symm hne)]
        simp only [getS, if_neg hne, hr, Option.map_some]
      · rw [if_neg hzx, if_neg hzx]
        by_cases hzn : z = σ.n
        · subst hzn; rw [if_pos rfl, hno]; rfl
        · rw [if_neg hzn]
          simp only [getS]
          rw [if_neg (Ne.symm hzn)]
    · cases hc
  · cases hc
def keepT (l : List Nat) (t : List (Nat × AV)) : List (Nat × AV) := l.map fun i => (i, getT t i)
mutual
theorem Sub_pure (n : Nat) : ∀ (a : AV), a.pure = true → Sub (fun x => x) n a a
  | .agg l, h => by simp only [AV.pure] at h; simp only [Sub]; exact ⟨l, rfl, SubL_pure n l h⟩
  | .tup l, h => by simp only [AV.pure] at h; simp only [Sub]; exact ⟨l, rfl, SubL_pure n l h⟩
  | .func f x y, h => by simp only [AV.pure, Bool.and_eq_true] at h; simp only [Sub]; exact ⟨x, y, rfl, SubL_pure n x h.1, SubL_pure n y h.2⟩
  | .ifc t a, h => by simp only [AV.pure] at h; simp only [Sub]; exact ⟨a, rfl, Sub_pure n a h⟩
  | .undef, _ | .sl _ _, _ | .tight _ _, _ | .bool _, _ | .int _ _, _ | .str _, _ | .nilsl, _ | .nilp, _ | .fp _, _ | .nilmap, _ | .fmap _, _ | .nilfunc, _ | .nili, _ => by simp [Sub]
  | .own _ _, h | .ref _ _ _, h | .lv _ _ _, h | .omap _, h | .iter _ _, h => by simp [AV.pure] at h
theorem SubL_pure (n : Nat) : ∀ (l : List AV), pureL l = true → SubL (fun x => x) n l l
  | [], _ => by simp [SubL]
  | a :: r, h => by simp only [pureL, Bool.and_eq_true] at h; simp only [SubL]; exact ⟨Sub_pure n a h.1, SubL_pure n r h.2⟩
end
theorem leL_rfl (l : List AV) : leL l l = True := eq_true (leP_refl.leL_refl l)
theorem leP_rfl (a : AV) : leP a a = True := eq_true (leP_refl a)
attribute [go_sem] leL_rfl leP_rfl
attribute [go_sem] keepT ren killH kref mName renS delAll memB aftH
end Go.Ab
namespace Go.Ab
open Go Go.RowKit
section
variable {P : Program} {TT : TTab} {up : Bool} {o : Oper} {σ : St} {K : St → Prop}
theorem snd_range {t : Nat} {x : Operand} {i : TI} {s : ByteArray} (ho : o.op = .range t x) (htt : TTok P TT) (ht : TT t = some i) (hi : i.kind = .str) (hx : ev σ x = .str s)
    (hk : K (St.put { n := σ.n + 1, t := σ.t, s := (σ.n, ⟨false, [.iter s 0]⟩) :: σ.s } o.dst (.ref σ.n [] 0))) : Snd P o σ K := by
  intro A0 D0 w0 nt a w G Q hd h
  have hti := (htt t i ht).kind
  rw [hi] at hti
  have hti : P.underlying t = some .string := hti
  have he := h.ev x
  rw [hx] at he
  have hv := he.str_inv.1
  have hnew : (w.alloc (.stringIter s 0)).heap[w.heap.size]? = some (.stringIter s 0) := Go.heap_alloc_new w _
  obtain ⟨G', k1, k2⟩ := h.newDet (.iter w.heap.size s 0) (w' := w.alloc (.stringIter s 0)) (fun b hb => Below.heap_alloc w _ b hb) ⟨rfl, rfl, rfl, by simp⟩ rfl (.iter _ _ _) (fun k hk => by cases hk; omega)
    (fun A _ => .iter _ _ _ hnew)
  simp only [GT.er] at k1
  refine wp_value (v := .pointer (some ⟨w.heap.size, 0, none⟩)) (w' := w.alloc (.stringIter s 0)) ?_ ⟨_, G', k1.put k2 hd, hk⟩
  simp [execOp, ho, Instr.range, run_underlying hti, hv]
theorem snd_next {x : Operand} {y : Nat} {p : List (Nat × Nat)} {c : Nat} {r : Root} {row : List AV} {s : ByteArray} {pos : Nat} (ho : o.op = .next x true) (hx : ev σ x = .ref y p c) (hr : getS σ.s y = some r) (hrow : rowOf r.cells p = some row) (hc : row[c]? = some (.iter s pos))
    (h1 : pos < s.size → K (St.put { σ with s := updS σ.s y { r with cells := putAt r.cells p c (.iter s (pos + (Utf8.decode s pos).2)) } } o.dst (.tup [.bool true, .int .i64 pos, .int .i32 (Utf8.decode s pos).1])))
    (h2 : s.size ≤ pos → K (σ.put o.dst (.tup [.bool false]))) : Snd P o σ K := by
  intro A0 D0 w0 nt a w G Q hd h
  have hcell : cellAtB σ y p c = .iter s pos := by simp [cellAtB, hr, hrow, hc]
  obtain ⟨r', row', g, grow, t', k1, k2, k3, k4, k5, k6, k7, k8, k9, k10, k11, k12⟩ := h.tree hcell rfl
  rw [hr] at k1; cases k1
  rw [hrow] at k2; cases k2
  obtain ⟨b, rfl⟩ := er_iter k8 k7
  have he := h.ev x
  rw [hx] at he
  have hv := k11 _ he.ref_inv.2.2
  cases k9 with
  | iter b s pos hb =>
    have hlt : b < w.heap.size := (Array.getElem?_eq_some_iff.1 hb).1
    have hget : (getObj b).run P w = .ok (.stringIter s pos) w := by simp [getObj, Sem.run, hb]
    by_cases hp : pos < s.size
    · have hsame : ∀ (u : Obj) k, k ≠ b → (w.heap.setIfInBounds b u)[k]? = w.heap[k]? := fun u k hk => by simp [Array.getElem?_setIfInBounds, Ne.symm hk]
      generalize hq : pos + (Utf8.decode s pos).2 = pos' at h1
      have hself : (w.heap.setIfInBounds b (.stringIter s pos'))[b]? = some (.stringIter s pos') := by simp [hlt]
      have := h.setObj (j := c) (g1 := .iter b s pos') (w' := { w with heap := w.heap.setIfInBounds b (.stringIter s pos') }) hr hrow k4 k5 k6 rfl rfl rfl rfl (.iter _ _ _) (fun k hk => by cases hk; exact .iter _ _ _)
        (fun k hk hn => hsame _ k fun e => hn (e ▸ .iter _ _ _)) ⟨rfl, rfl, rfl, by simp⟩ (fun A hA => .iter b s pos' hself)
      simp only [GT.er] at this
      refine wp_value (v := .tuple #[.bool true, .int .i64 pos, .int .i32 (Utf8.decode s pos).1]) (w' := { w with heap := w.heap.setIfInBounds b (.stringIter s pos') }) ?_ ⟨_, _, this.put (.tup [.bool true, .int .i64 pos, .int .i32 (Utf8.decode s pos).1] [.bool true, .int .i64 pos, .int .i32 (Utf8.decode s pos).1] rfl (fun i av hi => ?_)) hd, h1 hp⟩
      · rw [← hq]
        simp only [execOp, ho, hv, GT.val, Instr.next, Sem.run_bind, hget, Result.andThen_ok, if_pos hp]
        have hset : (setObj b (.stringIter s (pos + (Utf8.decode s pos).2))).run P w = .ok () { w with heap := w.heap.setIfInBounds b (.stringIter s (pos + (Utf8.decode s pos).2)) } := by simp [setObj, Sem.run, hb]
        simp only [Sem.run_bind, hset, Result.andThen_ok, Sem.run_pure, goInt]
      · match i, hi with
        | 0, hi => cases hi; exact .fr _ _ (.bool _)
        | 1, hi => cases hi; exact .fr _ _ (.int _ _)
        | 2, hi => cases hi; exact .fr _ _ (.int _ _)
        | i + 3, hi => simp at hi
    · refine wp_value (v := .tuple #[.bool false]) (w' := w) ?_ ⟨_, G, h.put (.tup [.bool false] [.bool false] rfl (fun i av hi => ?_)) hd, h2 (by omega)⟩
      · simp only [execOp, ho, hv, GT.val, Instr.next, Sem.run_bind, hget, Result.andThen_ok, if_neg hp, Sem.run_pure]
      · match i, hi with
        | 0, hi => cases hi; exact .fr _ _ (.bool _)
        | i + 1, hi => simp at hi
theorem CWops.range {nt : Nat} {all : Array Oper} {os : List Oper} {d : Option Tmp} {ty : TypeId} {pos : String} {af : Array Edge} {gd : Option (Nat × Bool)} {t : Nat} {x : Operand} {i : TI} {s : ByteArray} (htt : TTok P TT) (hw : wantd all σ ⟨d, .range t x, ty, pos, af, gd⟩ = some true) (hx : ev σ x = .str s) (ht : TT t = some i) (hi : i.kind = .str)
    (hk : CWops P up nt all os (St.put { n := σ.n + 1, t := σ.t, s := (σ.n, ⟨false, [.iter s 0]⟩) :: σ.s } d (.ref σ.n [] 0)) K) : CWops P up nt all (⟨d, .range t x, ty, pos, af, gd⟩ :: os) σ K :=
  CWops.step hw (Snd.up (snd_range rfl htt ht hi hx hk))
theorem CWops.next {nt : Nat} {all : Array Oper} {os : List Oper} {d : Option Tmp} {ty : TypeId} {ps : String} {af : Array Edge} {gd : Option (Nat × Bool)} {x : Operand} {y : Nat} {p : List (Nat × Nat)} {c : Nat} {r : Root} {row : List AV} {s : ByteArray} {pos : Nat} (hw : wantd all σ ⟨d, .next x true, ty, ps, af, gd⟩ = some true)
    (hx : ev σ x = .ref y p c) (hr : getS σ.s y = some r) (hrow : rowOf r.cells p = some row) (hc : row[c]? = some (.iter s pos))
    (h1 : pos < s.size → CWops P up nt all os (St.put { σ with s := updS σ.s y { r with cells := putAt r.cells p c (.iter s (pos + (Utf8.decode s pos).2)) } } d (.tup [.bool true, .int .i64 pos, .int .i32 (Utf8.decode s pos).1])) K)
    (h2 : s.size ≤ pos → CWops P up nt all os (σ.put d (.tup [.bool false])) K) : CWops P up nt all (⟨d, .next x true, ty, ps, af, gd⟩ :: os) σ K :=
  CWops.step hw (Snd.up (snd_next rfl hx hr hrow hc h1 h2))
def nextL (b : Bool) (p c : Int) : List AV := match b with
  | true => [.bool true, .int .i64 p, .int .i32 c]
  | false => [.bool false]
theorem nextL_len (b : Bool) (p c : Int) : (0 < (nextL b p c).length) = True := by cases b <;> simp [nextL]
theorem nextL_get (b : Bool) (p c : Int) : (nextL b p c).getD 0 .undef = .bool b := by cases b <;> rfl
theorem nextL_true (p c : Int) : nextL true p c = [.bool true, .int .i64 p, .int .i32 c] := rfl
theorem nextL_false (p c : Int) : nextL false p c = [.bool false] := rfl
attribute [go_sem] nextL_len nextL_get nextL_true nextL_false
def nextP (b : Bool) (s : ByteArray) (pos : Nat) : Nat := match b with
  | true => pos + (Utf8.decode s pos).2
  | false => pos
theorem CWops.nextB {nt : Nat} {all : Array Oper} {os : List Oper} {d : Option Tmp} {ty : TypeId} {ps : String} {af : Array Edge} {gd : Option (Nat × Bool)} {x : Operand} {y : Nat} {s : ByteArray} {pos : Nat} (hw : wantd all σ ⟨d, .next x true, ty, ps, af, gd⟩ = some true)
    (hx : ev σ x = .ref y [] 0) (hr : getS σ.s y = some ⟨false, [.iter s pos]⟩)
    (hk : ∀ b : Bool, (b = true → pos < s.size) → (b = false → s.size ≤ pos) → CWops P up nt all os (St.put { σ with s := updS σ.s y ⟨false, [.iter s (nextP b s pos)]⟩ } d (.tup (nextL b pos (Utf8.decode s pos).1))) K) : CWops P up nt all (⟨d, .next x true, ty, ps, af, gd⟩ :: os) σ K := by
  refine CWops.next (p := []) (c := 0) (row := [.iter s pos]) hw hx hr rfl rfl (fun h => ?_) (fun h => ?_)
  · exact hk true (fun _ => h) (fun h => by cases h)
  · have h1 := hk false (fun h => by cases h) (fun _ => h)
    refine CWops.sh ?_ h1
    intro A0 D0 w0 nt a w G hh
    refine ⟨G, hh.ext (by cases d <;> rfl) (fun i => by cases d <;> rfl) (fun z => ?_)⟩
    have e : (St.put { σ with s := updS σ.s y ⟨false, [.iter s (nextP false s pos)]⟩ } d (.tup (nextL false pos (Utf8.decode s pos).1))).s = updS σ.s y ⟨false, [.iter s pos]⟩ := by cases d <;> rfl
    have e2 : (σ.put d (.tup [.bool false])).s = σ.s := by cases d <;> rfl
    rw [e, e2, getS_upd]
    by_cases hz : z = y
    · subst hz; rw [if_pos rfl, hr]; rfl
    · rw [if_neg hz]
theorem snd_nilcmp {op : BinOp} {t : Nat} {x y : Operand} {u : TypeId} {n : Nat} {l : List (List AV)} {i : TI} {e : Nat} (ho : o.op = .binOp op t x y u) (htt : TTok P TT) (ht : TT t = some i) (hi : i.kind = .slice e) (hx : ev σ x = .sl n l) (hy : ev σ y = .nilsl)
    (hop : ∀ b, (b = true → l = []) → ∃ r, eqB op b = some r ∧ K (σ.put o.dst r)) : Snd P o σ K := by
  intro A0 D0 w0 nt a w G Q hd h
  have hti := (htt t i ht).kind
  rw [hi] at hti
  have hti : P.underlying t = some (.slice e) := hti
  have ha := h.ev x
  have hb := h.ev y
  rw [hx] at ha
  rw [hy] at hb
  have hbv := hb.nilsl_inv
  have ha := ha.fr_of trivial
  have key : ∀ (ad : Option Addr) (m cap : Nat), a.eval x = .slice ad m cap → (ad.isNone = true → l = []) → o.wp P a w (Goes A0 D0 w0 nt K) Q := by
    intro ad m cap he hnil
    obtain ⟨r, hr, hK⟩ := hop ad.isNone hnil
    have hrun : (Op.equal t (.slice ad m cap) (.slice none 0 0)).run P w = .ok ad.isNone w := by
      have key : ∀ d, (Op.equalIn (d + 1) t (.slice ad m cap) (.slice none 0 0)).run P w = .ok ad.isNone w := by
        intro d
        cases ad <;> simp [Op.equalIn, run_underlying hti]
      exact key 9999
    rcases eqB_inv hr with ⟨rfl, rfl⟩ | ⟨rfl, rfl⟩
    · refine wp_value (v := .bool ad.isNone) (w' := w) ?_ ⟨_, G, h.put (.fr _ _ (.bool _)) hd, hK⟩
      simp only [execOp, ho, he, hbv, Sem.run_bind]
      simp [eqGuard, binOp, hrun]
    · refine wp_value (v := .bool (!ad.isNone)) (w' := w) ?_ ⟨_, G, h.put (.fr _ _ (.bool _)) hd, hK⟩
      simp only [execOp, ho, he, hbv, Sem.run_bind]
      simp [eqGuard, binOp, hrun]
  generalize he : a.eval x = v at ha
  cases ha with
  | slnil => exact key none 0 0 he (fun _ => rfl)
  | slmt _ a cap h1 => exact key _ _ _ he (fun hh => by cases hh)
  | sl _ _ b o' cap h1 h2 h3 h4 h5 h6 => exact key _ _ _ he (fun hh => by cases hh)
theorem CWops.nilcmp {nt : Nat} {all : Array Oper} {os : List Oper} {d : Option Tmp} {ty : TypeId} {ps : String} {af : Array Edge} {gd : Option (Nat × Bool)} {op : BinOp} {t : Nat} {x y : Operand} {u : TypeId} {n : Nat} {l : List (List AV)} {i : TI} {e : Nat} (htt : TTok P TT)
    (hw : wantd all σ ⟨d, .binOp op t x y u, ty, ps, af, gd⟩ = some true) (hx : ev σ x = .sl n l) (hy : ev σ y = .nilsl) (ht : TT t = some i) (hi : i.kind = .slice e)
    (hk : ∀ b, (b = true → l = []) → ∃ r, eqB op b = some r ∧ CWops P up nt all os (σ.put d r) K) : CWops P up nt all (⟨d, .binOp op t x y u, ty, ps, af, gd⟩ :: os) σ K :=
  CWops.step hw (Snd.up (snd_nilcmp rfl htt ht hi hx hy hk))
end
end Go.Ab
namespace Go.Ab
open Go Go.RowKit
theorem Sh.frz {σ τ : St} (x j : Nat) {n : Nat} {rows : List (List AV)} (hc : cellAtB σ x [] j = .own n rows)
    (he : { σ with s := match getS σ.s x with | some r => updS σ.s x { r with cells := putAt r.cells [] j (AV.own n rows).freeze } | none => σ.s } = τ) : Sh σ τ := by
  intro A0 D0 w0 nt a w G h
  subst he
  unfold cellAtB at hc
  split at hc
  · rename_i r hr
    simp only [rowOf] at hc
    have hcl : j < r.cells.length := by
      rcases Nat.lt_or_ge j r.cells.length with h | h
      · exact h
      · simp [List.getElem?_eq_none h] at hc
    have hrc : r.cells[j]? = some (.own n rows) := by
      rw [List.getElem?_eq_getElem hcl]
      simpa [List.getElem?_eq_getElem hcl] using hc
    have hrow : rowOf r.cells [] = some r.cells := rfl
    obtain ⟨g, hg, hb, hcs, hm⟩ := h.root hr
    obtain ⟨g0, hg0⟩ := cellAt hcs hcl
    have hgr : gRow g.cells [] = some g.cells := rfl
    have hoc : g0.val.oneCell' = true := (hm.mem j g0 hg0).oneCell
    have her : g0.er = .own n rows := by
      rcases hcs.cell j _ _ hrc hg0 with ⟨_, q2⟩ | ⟨q1, q2⟩
      · exact q2.symm
      · cases q2 with | fr _ _ q => cases q
    obtain ⟨m1, m2, m3⟩ := RowMem.same (g1 := .lf .undef g0.val) (.lf _ _ (.undef _) hoc) (.lf _ _) [] hm hgr hg0 rfl (fun k hk => by cases hk)
    have hoff := gPut_off (g1 := .lf .undef g0.val) rfl [] hm.sep hgr hg0
    have hfp : ∀ k, RFp { g with cells := gPut g.cells [] j (.lf .undef g0.val) } k → RFp g k := fun k hk => hk.imp id fun hk => (m2 k hk).resolve_right (fun hk => by cases hk)
    have hown : ∀ k, GFp (Gset G x (some { g with cells := gPut g.cells [] j (.lf .undef g0.val) })) k → GFp G k := by
      rintro k ⟨y, gy, hy, hk⟩
      by_cases e : y = x
      · subst e; rw [Gset_self] at hy; cases hy; exact ⟨y, g, hg, hfp k hk⟩
      · rw [Gset_ne e] at hy; exact ⟨y, gy, hy, hk⟩
    have h2 := h.turn (w' := w) (r' := { r with cells := putAt r.cells [] j (AV.own n rows).freeze }) (g' := { g with cells := gPut g.cells [] j (.lf .undef g0.val) }) hr hg rfl rfl (gPut_len [] g.cells) (fun _ _ _ => rfl) ⟨rfl, rfl, rfl, Nat.le_refl _⟩ (fun b vs T _ hh => ⟨vs, hh, rfl⟩) hfp
      (m1.keep (fun _ _ _ => rfl) (fun k _ hk => hk.imp id (hown k)) (fun _ _ => rfl) (fun _ _ _ => rfl)) (fun y q c v hr => hr.turn hg hgr hg0 rfl (.inl rfl)) (fun y q c v hr => hr.turn hg hgr hg0 rfl) (fun hA hrel => ?_)
    · refine ⟨Gset G x (some { g with cells := gPut g.cells [] j (.lf .undef g0.val) }), ?_⟩
      simp only [hr]
      exact h2
    · have hfr : FR w (Own A0 (Gset G x (some { g with cells := gPut g.cells [] j (.lf .undef g0.val) }))) (AV.own n rows).freeze g0.val := by
        rw [← her]
        refine (hm.mem j g0 hg0).freeze hA fun b hb hn => ?_
        have hbg : RFp g b := .inr ⟨j, g0, hg0, hb⟩
        rcases hn with hn | ⟨y, gy, hy, hk⟩
        · exact h.inv.a0 b ⟨x, g, hg, hbg⟩ hn
        · by_cases e : y = x
          · subst e; rw [Gset_self] at hy; cases hy
            rcases hk with hk | hk
            · exact hm.off b 0 (by simp only [GR.at_, Option.map_eq_some_iff]; exact ⟨b, hk, rfl⟩) ⟨j, g0, hg0, hb⟩
            · exact hoff b hk hb
          · rw [Gset_ne e] at hy; exact h.inv.sep y gy x g hy hg e b hk hbg
      have hc := cells_put (f := id) (p := []) (j := j) (av := (AV.own n rows).freeze) (g' := .lf .undef g0.val) hcs hm hrow hrel (fun _ _ => rfl) (.inr (.inl ⟨rfl, rfl, .fr _ _ hfr⟩))
      rw [List.map_id] at hc; exact hc
  · cases hc
theorem Sh.frzT {σ τ : St} (i x : Nat) {n : Nat} {rows : List (List AV)} (hi : getT σ.t i = .ref x [] 0) (hc : cellAtB σ x [] 0 = .own n rows)
    (he : { σ with t := (i, (AV.own n rows).freeze) :: σ.t, s := delS σ.s x } = τ) : Sh σ τ := by
  intro A0 D0 w0 nt a w G h
  subst he
  obtain ⟨r, row, g, grow, t, k1, k2, k3, k4, k5, k6, k7, k8, k9, k10, k11, k12⟩ := h.tree hc rfl
  obtain ⟨v, q1, q2⟩ := h.slot (t := i) (by rw [hi]; simp)
  rw [hi] at q2
  obtain ⟨_, _, e3⟩ := q2.ref_inv
  have hv := k11 v e3
  have h2 := h.drop x
  have hown : ∀ b, GFp (Gset G x none) b → GFp G b := by
    rintro b ⟨y, g, hy, hb⟩
    by_cases e : y = x
    · subst e; rw [Gset_self] at hy; cases hy
    · rw [Gset_ne e] at hy; exact ⟨y, g, hy, hb⟩
  have hfr : FR w (Own A0 (Gset G x none)) (AV.own n rows).freeze v := by
    rw [← k8, hv]
    refine k9.freeze (fun b _ hb => hb.imp id (hown b)) fun b hb hn => ?_
    rcases hn with hn | ⟨y, gy, hy, hk⟩
    · exact h.inv.a0 b ⟨x, g, k4, .inr (k12 b hb)⟩ hn
    · by_cases e : y = x
      · subst e; rw [Gset_self] at hy; cases hy
      · rw [Gset_ne e] at hy; exact h.inv.sep y gy x g hy k4 e b hk (.inr (k12 b hb))
  refine ⟨Gset G x none, h2.inv, h2.size, h2.defers, fun j hj => ?_, fun j hj => ?_, h2.fr, h2.own, h2.a0lt⟩
  · simp only [getT]
    split
    · rename_i e; subst e
      rw [Array.getD_eq_getD_getElem?, q1]
      exact .fr _ _ hfr
    · exact h2.tmp j hj
  · simp only [getT]
    have : i ≠ j := fun e => by subst e; have := h.far i hj; rw [hi] at this; cases this
    rw [if_neg this]
    exact h2.far j hj
theorem CW.told {P : Program} {up : Bool} {np nt : Nat} {σ : St} {Q : Exit → St → Prop} {c : Code} (h : CW P up np nt c σ (fun e σ' => ∃ τ, Sh σ' τ ∧ Q e τ)) : CW P up np nt c σ Q :=
  fun A0 D0 w0 a w G R hu hh hr => h A0 D0 w0 a w G R hu hh fun e a' w σ' _ h1 hk ⟨τ, hs, hq⟩ => let ⟨G'', h2⟩ := hs A0 D0 w0 nt a' w _ h1; hr e a' w τ G'' h2 hk hq
end Go.Ab
namespace Go.Ab
open Go Go.RowKit
section
variable {P : Program} {TT : TTab} {up : Bool} {σ : St} {K : St → Prop} {o : Oper}
theorem snd_conv {s d : Nat} {x : Operand} {i j : TI} {k k' : IntKind} {n : Int} (ho : o.op = .convert s d x) (htt : TTok P TT) (hs : TT s = some i) (hik : i.kind = .int k) (hd : TT d = some j) (hjk : j.kind = .int k') (hx : ev σ x = .int k n)
    (hk : K (σ.put o.dst (.int k' (k'.wrap n)))) : Snd P o σ K := by
  have hti := (htt s i hs).kind
  rw [hik] at hti
  have hti : P.underlying s = some (.int k) := hti
  have htj := (htt d j hd).kind
  rw [hjk] at htj
  have htj : P.underlying d = some (.int k') := htj
  refine snd_val _ hk fun {_ _ _ _ a w _} h => ⟨.int k' (k'.wrap n), ?_, .fr _ _ (.int _ _)⟩
  have h1 := h.ev x
  rw [hx] at h1
  have h2 := h1.int_inv
  simp [execOp, ho, convert, run_underlying hti, run_underlying htj, h2, Conv.intToInt]
theorem CWops.conv {nt : Nat} {all : Array Oper} {os : List Oper} {d : Option Tmp} {ty : TypeId} {ps : String} {af : Array Edge} {gd : Option (Nat × Bool)} {s t : Nat} {x : Operand} {i j : TI} {k k' : IntKind} {n : Int} (htt : TTok P TT)
    (hw : wantd all σ ⟨d, .convert s t x, ty, ps, af, gd⟩ = some true) (hs : TT s = some i) (hik : i.kind = .int k) (hd : TT t = some j) (hjk : j.kind = .int k') (hx : ev σ x = .int k n)
    (hk : CWops P up nt all os (σ.put d (.int k' (k'.wrap n))) K) : CWops P up nt all (⟨d, .convert s t x, ty, ps, af, gd⟩ :: os) σ K :=
  CWops.step hw (Snd.up (snd_conv rfl htt hs hik hd hjk hx hk))
end
end Go.Ab
namespace Go.Ab
open Go Go.RowKit
theorem killH_nil : ∀ a : AV, killH [] [] a = a
  | .ref y q c => by simp [killH, memB]
  | .lv y q c => by cases q <;> simp [killH, memB]
  | .agg l => by
    simp only [killH]
    exact congrArg AV.agg ((List.map_congr_left fun a ha => killH_nil a).trans (List.map_id' l))
  | .tup l => by
    simp only [killH]
    exact congrArg AV.tup ((List.map_congr_left fun a ha => killH_nil a).trans (List.map_id' l))
  | .func f a b => by
    simp only [killH]
    rw [(List.map_congr_left fun a ha => killH_nil a : a.map (fun a => killH [] [] a) = a.map fun a => a), (List.map_congr_left fun a ha => killH_nil a : b.map (fun a => killH [] [] a) = b.map fun a => a), List.map_id', List.map_id']
  | .ifc t a => by simp only [killH]; rw [killH_nil a]
  | .undef | .bool _ | .int _ _ | .str _ | .nilsl | .sl _ _ | .tight _ _ | .own _ _ | .nilp | .fp _ | .nilmap | .fmap _ | .omap _ | .iter _ _ | .nilfunc | .nili => by simp only [killH]
theorem delAll_nil (s : List (Nat × Root)) : delAll [] s = s := by
  induction s with
  | nil => rfl
  | cons q r ih => obtain ⟨j, v⟩ := q; simp [delAll, memB, ih]
theorem aft_nil {σ : St} {m : Nat} {rows : List (List AV)} {t : List (Nat × AV)} : aftS [] σ { n := 1, t := t, s := [(0, ⟨false, [.own m rows]⟩)] } = { n := σ.n + 1, t := σ.t, s := (σ.n, ⟨false, [.own m rows]⟩) :: σ.s } := by
  have e : killH [] [] = (fun a => a) := by funext a; exact killH_nil a
  have e1 : mapT (killH [] []) σ.t = σ.t := by rw [e]; simp [mapT]
  have e2 : mapS (killH [] []) (delAll [] σ.s) = σ.s := by rw [e, delAll_nil]; simp [mapS]
  simp only [aftS, aftH, e1, e2]
  simp [renS, mName, ren]
section
variable {P : Program} {TT : TTab} {up : Bool} {all : Array Oper} {σ0 : St} {K : List (Nat × AV) → Option Root → Prop}
theorem Seg.callN {os : List Oper} {t : List (Nat × AV)} {d : Option Tmp} {ty : TypeId} {pos : String} {af : Array Edge} {gd : Option (Nat × Bool)} {x : Operand} {xs : Array Operand} {ts : Array TypeId} {f : FuncId} {first caps args : List AV} {m : Nat} {rows : List (List AV)}
    (hp : GCall P up f args 0 [] (fun r σ' => r = .ref 0 [] 0 ∧ σ'.n = 1 ∧ σ'.s = [(0, ⟨false, [.own m rows]⟩)])) (hw : wantd all { σ0 with t := t } ⟨d, .call ⟨.value x, xs, ts⟩, ty, pos, af, gd⟩ = some true) (hx : ev { σ0 with t := t } x = .func (.func f) first caps)
    (ha : SubL (mName [] 0) 0 args (callL { σ0 with t := t } first xs.toList caps))
    (hk : Seg P up all σ0 os (putT t d (.ref σ0.n [] 0)) (some ⟨false, [.own m rows]⟩) K) : Seg P up all σ0 (⟨d, .call ⟨.value x, xs, ts⟩, ty, pos, af, gd⟩ :: os) t none K := by
  refine ⟨t, .ref σ0.n [] 0, some ⟨false, [.own m rows]⟩, fun _ => rfl, ⟨fun h => (by cases h), ?_⟩, .inr rfl, hk⟩
  intro σ' hl he hn
  have hn := hn rfl
  refine .inl ⟨by rw [wantd_congr (τ := { σ0 with t := t }) hl]; exact hw, ?_⟩
  have hev : ∀ y ∈ (Op.call ⟨.value x, xs, ts⟩).operands, ev σ' y = ev { σ0 with t := t } y := fun y hy => looks_ops (τ := { σ0 with t := t }) hl hy
  have hc : callL σ' first xs.toList caps = callL { σ0 with t := t } first xs.toList caps := callL_ev fun y hy => hev y (by simp [Op.operands, Call.operands]; right; simpa using hy)
  have hx' : ev σ' x = .func (.func f) first caps := by rw [hev x (by simp [Op.operands, Call.operands])]; exact hx
  refine snd_gcall [] rfl hx' hp List.nodup_nil (by simp [AllS]) (by simp [Names]) (fun y hy => by cases hy) (fun x hx => by cases hx) (by rw [hc]; exact ha) fun r σ'' hr => ?_
  obtain ⟨n'', t'', s''⟩ := σ''
  obtain ⟨rfl, h2, h3⟩ := hr
  simp only at h2 h3
  subst h2 h3
  rw [aft_nil]
  simp [newR, ren, mName, hn]
end
end Go.Ab
namespace Go.Ab
open Go Go.RowKit
def ovr : List Nat → (Nat → AV) → List (Nat × AV) → List (Nat × AV)
  | [], _, t => t
  | d :: D, u, t => (d, u d) :: ovr D u t
theorem ovr_nil (u : Nat → AV) (t : List (Nat × AV)) : ovr [] u t = t := rfl
theorem ovr_cons (d : Nat) (D : List Nat) (u : Nat → AV) (t : List (Nat × AV)) : ovr (d :: D) u t = (d, u d) :: ovr D u t := rfl
attribute [go_sem] ovr_nil ovr_cons
section
variable {P : Program} {TT : TTab} {up : Bool} {np nt : Nat} {σ : St} {Q : Exit → St → Prop} {all : Array Oper} {D : List Nat} {fl : List Oper} {K : St → Prop}
end
end Go.Ab
namespace Go.Ab
open Go Go.RowKit
theorem ex_func {m : Nat → Nat} {n : Nat} {a b c d : List AV} : (∃ x' y' : List AV, (x' = a ∧ b = y') ∧ SubL m n c x' ∧ SubL m n d y') = (SubL m n c a ∧ SubL m n d b) := by
  apply propext
  constructor
  · rintro ⟨x, y, ⟨rfl, rfl⟩, h1, h2⟩; exact ⟨h1, h2⟩
  · rintro ⟨h1, h2⟩; exact ⟨a, b, ⟨rfl, rfl⟩, h1, h2⟩
def outF (x j N : Nat) : AV → AV
  | .ref y [] c => if y = x ∧ c = j then .ref N [] 0 else .ref y [] c
  | a => a
theorem outF_tree {x j N : Nat} {a : AV} (h : a.tree = true) : outF x j N a = a := by cases a <;> first | rfl | cases h
theorem Sh.out {σ τ : St} (x j : Nat) {av : AV} (hc : cellAtB σ x [] j = av) (ht : av.tree = true)
    (he : { n := σ.n + 1, t := mapT (outF x j σ.n) σ.t, s := (σ.n, ⟨false, [av]⟩) :: (match getS σ.s x with
      | some r => updS (mapS (outF x j σ.n) σ.s) x { r with cells := putAt (r.cells.map (outF x j σ.n)) [] j (.ref σ.n [] 0) }
      | none => σ.s) } = τ) : Sh σ τ := by
  intro A0 D0 w0 nt a w G h
  subst he
  obtain ⟨r, row, g, grow, g0, hr, hrow, hrc, hg, hgr, hg0, hl, her, hmem, hsep, -⟩ := h.tree hc ht
  cases hrow
  cases hgr
  obtain ⟨g_, hg_, hb, hcs, hm⟩ := h.root hr
  rw [hg] at hg_; cases hg_
  have hrow : rowOf r.cells [] = some r.cells := rfl
  have hgr : gRow g.cells [] = some g.cells := rfl
  have hoc : g0.val.oneCell' = true := hmem.oneCell
  obtain ⟨m1, m2, m3⟩ := RowMem.same (g1 := .lf .undef g0.val) (.lf _ _ (.undef _) hoc) (.lf _ _) [] hm hgr hg0 rfl (fun k hk => by cases hk)
  have hoff := gPut_off (g1 := .lf .undef g0.val) rfl [] hm.sep hgr hg0
  have hxN : x < σ.n := h.inv.lt x g hg
  have hGN : ∀ y gy, G y = some gy → y ≠ σ.n := fun y gy hy => by have := h.inv.lt y gy hy; omega
  let g' : GR := { g with cells := gPut g.cells [] j (.lf .undef g0.val) }
  let gN : GR := ⟨none, [g0]⟩
  let G1 := Gset G x (some g')
  let G' := Gset G1 σ.n (some gN)
  have hG'N : G' σ.n = some gN := Gset_self _ _ _
  have hG'x : G' x = some g' := by show Gset _ _ _ _ = _; rw [Gset_ne (by omega)]; exact Gset_self _ _ _
  have hG'y : ∀ y, y ≠ x → y ≠ σ.n → G' y = G y := fun y h1 h2 => by show Gset _ _ _ _ = _; rw [Gset_ne h2]; exact Gset_ne h1
  have hfpx : ∀ k, RFp g' k → RFp g k := fun k hk => hk.imp id fun hk => (m2 k hk).resolve_right (fun hk => by cases hk)
  have hfpN : ∀ k, RFp gN k → Fp g0 k := by
    rintro k (hk | ⟨c, t, hc, hk⟩)
    · cases hk
    · cases c with
      | zero => cases hc; exact hk
      | succ c => simp [gN] at hc
  have hg0k : ∀ k, Fp g0 k → RFp g k := fun k hk => .inr ⟨j, g0, hg0, hk⟩
  have hown : ∀ k, GFp G' k → GFp G k := by
    rintro k ⟨y, gy, hy, hk⟩
    by_cases e1 : y = σ.n
    · subst e1; rw [hG'N] at hy; cases hy; exact ⟨x, g, hg, hg0k k (hfpN k hk)⟩
    · by_cases e2 : y = x
      · subst e2; rw [hG'x] at hy; cases hy; exact ⟨y, g, hg, hfpx k hk⟩
      · rw [hG'y y e2 e1] at hy; exact ⟨y, gy, hy, hk⟩
  have hA : ∀ k, k < w.heap.size → Own A0 G' k → Own A0 G k := fun k _ hk => hk.imp id (hown k)
  have hkeep : ∀ a v, Rel w (Own A0 G) G σ.n a v → Rel w (Own A0 G') G' (σ.n + 1) a v := fun a v hr =>
    hr.keep (Nat.le_succ _) (fun _ _ _ => rfl) hA (fun y q c v hy hr => (RefOK.turn (g1 := .lf .undef g0.val) hg hgr hg0 rfl (.inl rfl) hr).new (by omega)) (fun y q c v hy hr => (LvOK.turn (g1 := .lf .undef g0.val) hg hgr hg0 rfl hr).new (by omega))
  have hrefN : Rel w (Own A0 G') G' (σ.n + 1) (.ref σ.n [] 0) g0.val := by
    refine .ref _ _ _ _ (by omega) hoc ?_
    intro r1 row t h1 h2 h3 _
    rw [hG'N] at h1; cases h1
    cases h2
    cases h3
    rfl
  have hf : ∀ a v, Rel w (Own A0 G) G σ.n a v → Rel w (Own A0 G') G' (σ.n + 1) (outF x j σ.n a) v := by
    intro a v hrel
    unfold outF
    split
    · rename_i y c
      split
      · rename_i e
        obtain ⟨rfl, rfl⟩ := e
        obtain ⟨_, _, e3⟩ := hrel.ref_inv
        have := e3 g g.cells g0 hg rfl hg0 hl
        rw [this]
        exact hrefN
      · exact hkeep _ _ hrel
    · exact hkeep _ _ hrel
  refine ⟨G', ?_⟩
  refine h.change (outF x j σ.n) (fun y => y = x ∨ y = σ.n) (Nat.le_succ _) (fun _ _ _ => rfl) ⟨rfl, rfl, rfl, Nat.le_refl _⟩ (fun k hk => .inl (hown k hk)) hf rfl (fun a => outF_tree) (fun y => ?_) (fun y hy => ?_) (fun _ _ _ _ _ _ => rfl)
    (fun y r1 g1 hy hr1 hg1 => ?_) (fun y g1 y' g2 hy hg1 hg2 hne b hb hb' => ?_) rfl
  · simp only [getS, hr]
    by_cases e1 : σ.n = y
    · subst e1; rw [if_pos rfl, hG'N]; rfl
    · rw [if_neg e1, getS_upd, getS_map]
      by_cases e2 : y = x
      · subst e2; rw [if_pos rfl, hr, hG'x]; rfl
      · rw [if_neg e2, getS_map, hG'y y e2 (Ne.symm e1)]
        have := h.inv.dom y
        rw [← this]
        cases getS σ.s y <;> rfl
  · rw [not_or] at hy
    simp only [getS, hr]
    rw [if_neg (Ne.symm hy.2), getS_upd, if_neg hy.1, getS_map]
    exact ⟨rfl, hG'y y hy.1 hy.2⟩
  · simp only [getS, hr] at hr1
    by_cases e1 : y = σ.n
    · subst e1
      rw [if_pos rfl] at hr1; cases hr1
      rw [hG'N] at hg1; cases hg1
      refine ⟨rfl, ⟨rfl, fun c a t ha htc => ?_⟩, ⟨fun c t htc => ?_, ⟨fun c t htc => ?_, fun c t c' t' h1 h2 hne => ?_⟩, fun b o e => ?_, fun b o e => ?_⟩, fun b e => ?_, by simp⟩
      · cases c with
        | zero => cases ha; cases htc; exact .inl ⟨hl, her.symm⟩
        | succ c => simp at ha
      · cases c with
        | zero => cases htc; exact hmem.keep (fun _ _ _ => rfl) hA (fun _ _ => rfl)
        | succ c => simp [gN] at htc
      · cases c with
        | zero => cases htc; exact hsep
        | succ c => simp [gN] at htc
      · cases c with
        | zero => cases c' with
          | zero => exact absurd rfl hne
          | succ c' => simp [gN] at h2
        | succ c => simp [gN] at h1
      · cases e
      · cases e
      · cases e
    · have e2 := hy.resolve_right e1
      subst e2
      rw [if_neg (Ne.symm e1), getS_upd, getS_map, if_pos rfl, hr] at hr1
      cases hr1
      rw [hG'x] at hg1; cases hg1
      refine ⟨hb, ?_, m1.keep (fun _ _ _ => rfl) hA (fun _ _ => rfl) (fun _ _ _ => rfl), fun b e => ?_, by simp only; omega⟩
      · exact cells_put (f := outF y j σ.n) (p := []) (j := j) (av := .ref σ.n [] 0) (g' := .lf .undef g0.val) hcs hm hrow hf (fun a => outF_tree) (.inr (.inl ⟨rfl, rfl, hrefN⟩))
      · obtain ⟨vs, T, h1, h2⟩ := h.inv.base y g b hg e
        exact ⟨vs, T, h1, by rw [h2]; exact (gPut_len [] g.cells).symm⟩
  · -- apart
    have hxk : ∀ z gz, z ≠ x → z ≠ σ.n → G' z = some gz → ∀ k, RFp g k → ¬ RFp gz k := fun z gz e2 e1 hz k hk hk' => by
      rw [hG'y z e2 e1] at hz
      exact h.inv.sep x g z gz hg hz (Ne.symm e2) k hk hk'
    have hxN' : ∀ k, RFp g' k → ¬ Fp g0 k := by
      rintro k (hk | hk) hk0
      · exact hm.off k 0 (by simp only [GR.at_, Option.map_eq_some_iff]; exact ⟨k, hk, rfl⟩) ⟨j, g0, hg0, hk0⟩
      · exact hoff k hk hk0
    rcases hy with rfl | rfl
    · rw [hG'x] at hg1; cases hg1
      by_cases e1 : y' = σ.n
      · subst e1; rw [hG'N] at hg2; cases hg2; exact hxN' b hb (hfpN b hb')
      · exact hxk y' g2 (Ne.symm hne) e1 hg2 b (hfpx b hb) hb'
    · rw [hG'N] at hg1; cases hg1
      by_cases e2 : y' = x
      · subst e2; rw [hG'x] at hg2; cases hg2; exact hxN' b hb' (hfpN b hb)
      · exact hxk y' g2 e2 (Ne.symm hne) hg2 b (hg0k b (hfpN b hb)) hb'
end Go.Ab
namespace Go.Ab
open Go Go.RowKit
theorem setCells_facts {b o : Nat} {T : TypeId} : ∀ (us : List Value) (i : Nat) (w : World) (vs : Array Value), w.heap[b]? = some (.cells vs T (0, 0)) → o + i + us.length ≤ vs.size →
    ∃ vs', (setCells b o w i us).heap[b]? = some (.cells vs' T (0, 0)) ∧ vs'.size = vs.size ∧ (∀ k, k < o + i → vs'[k]? = vs[k]?) ∧ (∀ k u, us[k]? = some u → vs'[o + i + k]? = some u) ∧
      (∀ k, k ≠ b → (setCells b o w i us).heap[k]? = w.heap[k]?) ∧ ((setCells b o w i us).os = w.os ∧ (setCells b o w i us).tape = w.tape ∧ (setCells b o w i us).output = w.output ∧ w.heap.size = (setCells b o w i us).heap.size)
  | [], i, w, vs, h, _ => ⟨vs, h, rfl, fun _ _ => rfl, fun k u hu => by simp at hu, fun _ _ => rfl, rfl, rfl, rfl, rfl⟩
  | u :: us, i, w, vs, h, hl => by
    simp only [List.length_cons] at hl
    obtain ⟨vs', h1, h2, h3, h4, h5, h6⟩ := setCells_facts (b := b) (o := o) us (i + 1) (w.setCell ⟨b, o + i, none⟩ u) (vs.setIfInBounds (o + i) u) (heap_setCell_self h) (by simp; omega)
    refine ⟨vs', h1, by rw [h2]; simp, fun k hk => ?_, fun k u' hu => ?_, fun k hk => (h5 k hk).trans (heap_setCell_other w ⟨b, o + i, none⟩ k u hk), h6.1, h6.2.1, h6.2.2.1, Eq.trans (by simp) h6.2.2.2⟩
    · rw [h3 k (by omega), Array.getElem?_setIfInBounds]
      rw [if_neg (by omega)]
    · cases k with
      | zero =>
        simp only [List.getElem?_cons_zero, Option.some.injEq] at hu
        subst hu
        rw [Nat.add_zero, h3 (o + i) (by omega), Array.getElem?_setIfInBounds, if_pos rfl, if_pos (by omega)]
      | succ k =>
        rw [show o + i + (k + 1) = o + (i + 1) + k by omega]
        exact h4 k u' (by simpa using hu)
section
variable {A0 D0 : Nat → Prop} {w0 : World} {nt : Nat} {σ : St} {a : Act} {w : World} {G : Nat → Option GR}
end
section
variable {P : Program} {TT : TTab} {up : Bool} {nt : Nat} {all : Array Oper} {os : List Oper} {σ : St} {K : St → Prop}
theorem run_sliceFrom {t e : Nat} {i j : TI} (htt : TTok P TT) (ht : TT t = some i) (hi : i.kind = .slice e) (he : TT e = some j) {ad : Option Addr} {len cap q : Nat} {k : IntKind} (hq : q ≤ len) (hl : len ≤ cap) (w : World) :
    (Instr.sliceAt t (.slice ad len cap) (some (.int k (q : Int))) none none).run P w = .ok (.slice (if cap = q then ad else ad.map (·.add (q * j.size))) (len - q) (cap - q)) w := by
  have hti := (htt t i ht).kind
  rw [hi] at hti
  have hti : P.underlying t = some (.slice e) := hti
  have h5 : ((q : Int) ≤ (len : Int)) := by omega
  simp [Instr.sliceAt, run_underlying hti, Instr.slice, Instr.sliceBounds, Instr.sliceBound, asIntOf_int, h5, (htt e j he).run_size w]
end
end Go.Ab
namespace Go.Ab
open Go Go.RowKit
def frzF (x : Nat) (l : List AV) : AV → AV
  | .lv y [] 0 => if y = x then .fp l else .lv y [] 0
  | .func f a b => .func f (a.map fun a => frzF x l a) (b.map fun a => frzF x l a)
  | a => a
theorem frzF_tree {x : Nat} {l : List AV} {a : AV} (h : a.tree = true) : frzF x l a = a := by cases a <;> first | (cases h; done) | simp [frzF]
theorem FR.frzF {w : World} {A : Nat → Prop} {x : Nat} {l : List AV} {a : AV} {v : Value} (h : FR w A a v) : FR w A (frzF x l a) v := by
  induction h with
  | func fn first caps us vs h1 h2 h3 h4 ih1 ih2 =>
    simp only [Ab.frzF]
    refine .func fn _ _ us vs (by simpa using h1) (by simpa using h2) (fun i a h => ?_) (fun i a h => ?_)
    · simp only [List.getElem?_map, Option.map_eq_some_iff] at h
      obtain ⟨a', h', rfl⟩ := h; exact ih1 i a' h'
    · simp only [List.getElem?_map, Option.map_eq_some_iff] at h
      obtain ⟨a', h', rfl⟩ := h; exact ih2 i a' h'
  | ifc t v u h ih => simp only [Ab.frzF]; exact .ifc t v u h
  | agg l vs h1 h2 ih => simp only [Ab.frzF]; exact .agg l vs h1 h2
  | tup l vs h1 h2 ih => simp only [Ab.frzF]; exact .tup l vs h1 h2
  | sl n l b o cap h1 h2 h3 h4 h5 h6 _ => simp only [Ab.frzF]; exact .sl n l b o cap h1 h2 h3 h4 h5 h6
  | fp l b o h5 h6 _ => simp only [Ab.frzF]; exact .fp l b o h5 h6
  | fmap es b ents clock h1 h2 h3 h4 h5 h6 _ => simp only [Ab.frzF]; exact .fmap es b ents clock h1 h2 h3 h4 h5 h6
  | str s h => simp only [Ab.frzF]; exact .str s h
  | undef v => simp only [Ab.frzF]; exact .undef v
  | bool v => simp only [Ab.frzF]; exact .bool v
  | int k v => simp only [Ab.frzF]; exact .int k v
  | nilsl => simp only [Ab.frzF]; exact .nilsl
  | slnil n => simp only [Ab.frzF]; exact .slnil n
  | slmt n a cap h => simp only [Ab.frzF]; exact .slmt n a cap h
  | tight n l ad h _ => simp only [Ab.frzF]; exact .tight n l ad h
  | nilp => simp only [Ab.frzF]; exact .nilp
  | nilmap => simp only [Ab.frzF]; exact .nilmap
  | nilfunc => simp only [Ab.frzF]; exact .nilfunc
  | nili => simp only [Ab.frzF]; exact .nili
theorem Sh.frzB {σ τ : St} (x : Nat) {l : List AV} (hx : getS σ.s x = some ⟨true, l⟩) (hl : pureL l = true)
    (he : { n := σ.n, t := mapT (frzF x l) σ.t, s := mapS (frzF x l) (delS σ.s x) } = τ) : Sh σ τ := by
  intro A0 D0 w0 nt a w G h
  subst he
  obtain ⟨g, hg, hb, hcs, hm⟩ := h.root hx
  obtain ⟨b, hgb⟩ := Option.isSome_iff_exists.1 hb.symm
  have hown : ∀ k, GFp (Gset G x none) k → GFp G k := by
    rintro k ⟨y, gy, hy, hk⟩
    by_cases e : y = x
    · subst e; rw [Gset_self] at hy; cases hy
    · rw [Gset_ne e] at hy; exact ⟨y, gy, hy, hk⟩
  have hnb : ¬ Own A0 (Gset G x none) b := by
    rintro (hk | ⟨y, gy, hy, hk⟩)
    · exact h.inv.a0 b ⟨x, g, hg, .inl hgb⟩ hk
    · by_cases e : y = x
      · subst e; rw [Gset_self] at hy; cases hy
      · rw [Gset_ne e] at hy; exact h.inv.sep y gy x g hy hg e b hk (.inl hgb)
  have hat : g.at_ = some (b, 0) := by simp [GR.at_, hgb]
  have hcell : ∀ (i : Nat) (av : AV), l[i]? = some av → ∃ t, g.cells[i]? = some t ∧ w.cell? ⟨b, 0 + i, none⟩ = some t.val ∧ FR w (Own A0 G) av t.val := by
    intro i av hi
    have hil := (List.getElem?_eq_some_iff.1 hi).1
    have hlen := hcs.len
    obtain ⟨t, ht⟩ : ∃ t, g.cells[i]? = some t := ⟨g.cells[i]'(by rw [← hlen]; exact hil), List.getElem?_eq_getElem _⟩
    refine ⟨t, ht, hm.at_ b 0 hat i t ht, ?_⟩
    have hpu := pureL_at hl i av hi
    rcases hcs.cell i av t hi ht with ⟨q1, q2⟩ | ⟨q1, q2⟩
    · have := tree_of_leaf q1
      rw [← q2] at this
      cases av <;> first | (cases this; done) | (simp [AV.pure] at hpu)
    · exact q2.pure hpu
  have hfp : FR w (Own A0 (Gset G x none)) (.fp l) (.pointer (some ⟨b, 0, none⟩)) := by
    refine .fp l b 0 (fun i av hi => ?_) (fun i av hi => ?_)
    · obtain ⟨t, _, h2, _⟩ := hcell i av hi
      exact ⟨hnb, by rw [h2]; rfl⟩
    · obtain ⟨t, _, h2, h3⟩ := hcell i av hi
      unfold rdw; rw [h2]
      exact h3.keep (fun _ _ _ => rfl) (fun k _ hk => hk.imp id (hown k))
  have hkeep : ∀ {a : AV} {v : Value}, Rel w (Own A0 G) G σ.n a v → Rel w (Own A0 (Gset G x none)) (Gset G x none) σ.n a v := fun {a v} hr =>
    Rel.keep (w := w) (w' := w) (Nat.le_refl _) (fun _ _ _ => rfl) (fun b _ hb => hb.imp id (hown b)) (fun y p c v _ hr => by
      by_cases e : y = x
      · subst e; intro r row g hr'; rw [Gset_self] at hr'; cases hr'
      · exact hr.new e) (fun y p c v _ hr => by
      by_cases e : y = x
      · subst e; intro r b o hr'; rw [Gset_self] at hr'; cases hr'
      · exact hr.new e) hr
  have hf : ∀ (a : AV) (v : Value), Rel w (Own A0 G) G σ.n a v → Rel w (Own A0 (Gset G x none)) (Gset G x none) σ.n (frzF x l a) v := by
    intro a v hr
    induction hr with
    | fr a v hr => exact .fr _ _ ((hr.keep (fun _ _ _ => rfl) (fun b _ hb => hb.imp id (hown b))).frzF)
    | ref y p c v h1 h2 h3 => simp only [frzF]; exact hkeep (.ref y p c v h1 h2 h3)
    | lv y p j ad h1 h2 =>
      by_cases e : y = x ∧ p = [] ∧ j = 0
      · obtain ⟨rfl, rfl, rfl⟩ := e
        simp only [frzF, if_true]
        have : ad = ⟨b, 0, none⟩ := h2 g b 0 hg (by unfold gBase; exact hat)
        rw [this]
        exact .fr _ _ hfp
      · have : frzF x l (.lv y p j) = .lv y p j := by
          unfold frzF
          split
          · rename_i e1; cases e1; rw [if_neg (fun h => e ⟨h, rfl, rfl⟩)]
          · rename_i e1; cases e1
          · rfl
        rw [this]
        exact hkeep (.lv y p j ad h1 h2)
    | func fn first caps us vs h1 h2 h3 h4 ih1 ih2 =>
      simp only [frzF]
      refine .func fn _ _ us vs (by simpa using h1) (by simpa using h2) (fun i a h => ?_) (fun i a h => ?_)
      · simp only [List.getElem?_map, Option.map_eq_some_iff] at h
        obtain ⟨a', h', rfl⟩ := h; exact ih1 i a' h'
      · simp only [List.getElem?_map, Option.map_eq_some_iff] at h
        obtain ⟨a', h', rfl⟩ := h; exact ih2 i a' h'
    | ifc t v u hr ih => simp only [frzF]; exact hkeep (.ifc t v u hr)
    | agg l vs h1 h2 ih => simp only [frzF]; exact hkeep (.agg l vs h1 h2)
    | tup l vs h1 h2 ih => simp only [frzF]; exact hkeep (.tup l vs h1 h2)
  refine ⟨Gset G x none, ?_⟩
  refine h.change (frzF x l) (fun y => y = x) (Nat.le_refl _) (fun _ _ _ => rfl) ⟨rfl, rfl, rfl, Nat.le_refl _⟩ (fun b hb => .inl (hown b hb)) hf (by simp [frzF]) (fun a => frzF_tree) (fun y => ?_) (fun y hy => ?_) (fun _ _ _ _ _ _ => rfl) (fun y r g hy hr hg => ?_) (fun y g _ _ hy hg => ?_) rfl
  · show (getS (mapS (frzF x l) (delS σ.s x)) y).isSome = _
    rw [getS_map, getS_del]
    by_cases e : y = x
    · subst e; simp [Gset_self]
    · rw [if_neg e, Gset_ne e]
      have := h.inv.dom y
      rw [← this]
      cases getS σ.s y <;> rfl
  · show getS (mapS (frzF x l) (delS σ.s x)) y = _ ∧ _
    rw [getS_map, getS_del, if_neg hy, Gset_ne hy]
    exact ⟨rfl, rfl⟩
  · subst hy; rw [Gset_self] at hg; cases hg
  · subst hy; rw [Gset_self] at hg; cases hg
end Go.Ab
namespace Go.Ab
open Go Go.RowKit
theorem FR.slFrom {w : World} {A : Nat → Prop} {n q : Nat} {l : List (List AV)} {ad : Option Addr} {len cap : Nat} (h : FR w A (.sl n l) (.slice ad len cap)) (hq : q ≤ l.length) :
    len = l.length ∧ l.length ≤ cap ∧ FR w A (.sl n (l.drop q)) (.slice (if cap = q then ad else ad.map (·.add (q * n))) (len - q) (cap - q)) := by
  cases h with
  | slnil n =>
    simp at hq; subst hq
    exact ⟨rfl, Nat.le_refl _, .slnil n⟩
  | slmt n a cap hc =>
    simp at hq; subst hq
    refine ⟨rfl, Nat.zero_le _, ?_⟩
    simp only [List.drop_nil, Nat.zero_mul, Option.map_some]
    split
    · exact .slmt n a _ (by omega)
    · exact .slmt n _ _ (by omega)
  | sl n l b o cap h1 h2 h3 h4 h5 h6 =>
    refine ⟨rfl, h1, ?_⟩
    by_cases hqe : q = l.length
    · have hnil : l.drop q = [] := List.drop_eq_nil_of_le (by omega)
      rw [hnil, show l.length - q = 0 by omega]
      simp only [Option.map_some]
      split
      · exact .slmt n _ _ (by omega)
      · exact .slmt n _ _ (by omega)
    · rw [if_neg (by omega)]
      have hlen : l.length - q = (l.drop q).length := by simp
      simp only [Option.map_some, Addr.add_lit]
      rw [hlen]
      refine .sl n (l.drop q) b (o + q * n) (cap - q) (by simp; omega) (by omega) (by simp; omega) (fun i e hi => ?_) (fun i e j a hi hj => ?_) (fun i e j a hi hj => ?_)
      all_goals rw [List.getElem?_drop] at hi
      · exact h4 _ e hi
      · have := h5 _ e j a hi hj
        rw [show o + ((q + i) * n + j) = o + q * n + (i * n + j) by rw [Nat.add_mul]; omega] at this
        exact this
      · have := h6 _ e j a hi hj
        rw [show o + ((q + i) * n + j) = o + q * n + (i * n + j) by rw [Nat.add_mul]; omega] at this
        exact this
section
variable {P : Program} {TT : TTab} {up : Bool} {o : Oper} {σ : St} {K : St → Prop}
theorem snd_slFrom {t e : Nat} {x lo : Operand} {i j : TI} {k : IntKind} {q : Nat} {l : List (List AV)} (ho : o.op = .slice t x (some lo) none none) (htt : TTok P TT) (ht : TT t = some i) (hi : i.kind = .slice e) (he : TT e = some j) (hx : ev σ x = .sl j.size l) (hl : ev σ lo = .int k (q : Int)) (hq : q ≤ l.length)
    (hk : K (σ.put o.dst (.sl j.size (l.drop q)))) : Snd P o σ K := by
  refine snd_val _ hk fun {A0 D0 w0 nt a w G} h => ?_
  have hxv := h.ev x
  rw [hx] at hxv
  have hfr := hxv.pure rfl
  have hlv := h.ev lo
  rw [hl] at hlv
  have hlv := hlv.int_inv
  obtain ⟨ad, len, cap, hv⟩ : ∃ ad len cap, a.eval x = .slice ad len cap := by
    generalize a.eval x = v at hfr
    cases hfr with
    | slnil => exact ⟨_, _, _, rfl⟩
    | slmt => exact ⟨_, _, _, rfl⟩
    | sl => exact ⟨_, _, _, rfl⟩
  rw [hv] at hfr
  obtain ⟨h1, h2, h3⟩ := hfr.slFrom hq
  refine ⟨_, ?_, .fr _ _ h3⟩
  have hr := run_sliceFrom htt ht hi he (ad := ad) (len := len) (cap := cap) (q := q) (k := k) (by omega) (by omega) w
  simp only [execOp, ho, hv, Option.map_some, hlv, Option.map_none]
  rw [Sem.run_bind, hr]
  rfl
theorem CWops.slFrom {nt : Nat} {all : Array Oper} {os : List Oper} {d : Option Tmp} {ty : TypeId} {ps : String} {af : Array Edge} {gd : Option (Nat × Bool)} {t e : Nat} {x lo : Operand} {i j : TI} {k : IntKind} {q : Nat} {l : List (List AV)} (htt : TTok P TT)
    (hw : wantd all σ ⟨d, .slice t x (some lo) none none, ty, ps, af, gd⟩ = some true) (ht : TT t = some i) (hi : i.kind = .slice e) (he : TT e = some j) (hx : ev σ x = .sl j.size l) (hl : ev σ lo = .int k (q : Int)) (hq : q ≤ l.length)
    (hk : CWops P up nt all os (σ.put d (.sl j.size (l.drop q))) K) : CWops P up nt all (⟨d, .slice t x (some lo) none none, ty, ps, af, gd⟩ :: os) σ K :=
  CWops.step hw (Snd.up (snd_slFrom rfl htt ht hi he hx hl hq hk))
end
end Go.Ab
namespace Go.Ab
open Go Go.RowKit
structure SndV (P : Program) (o : Oper) (σ : St) (av : AV) : Prop where
  run : ∀ {A0 D0 : Nat → Prop} {w0 : World} {nt : Nat} {a : Act} {w : World} {G : Nat → Option GR}, Holds A0 D0 w0 nt σ a w G →
    ∃ v, (execOp a.eval o).run P w = .ok (.value v) w ∧ Rel w (Own A0 G) G σ.n av v
section
variable {P : Program} {TT : TTab} {o : Oper} {σ : St} {av : AV}
theorem sndV_val (av' : AV) (hk : av' = av) (hrun : ∀ {A0 D0 : Nat → Prop} {w0 : World} {nt : Nat} {a : Act} {w : World} {G : Nat → Option GR}, Holds A0 D0 w0 nt σ a w G →
    ∃ v, (execOp a.eval o).run P w = .ok (.value v) w ∧ Rel w (Own A0 G) G σ.n av' v) : SndV P o σ av := ⟨fun h => by subst hk; exact hrun h⟩
theorem valV_move {x : Operand} (ho : o.op = .move x ∨ o.op = .assign x) (hk : ((ev σ x)) = av) : SndV P o σ av :=
  sndV_val _ hk fun {_ _ _ _ a w _} h => ⟨a.eval x, by rcases ho with ho | ho <;> simp [execOp, ho], h.ev x⟩
theorem valV_nilCheck {x : Operand} (ho : o.op = .nilCheck x) (hx : match ev σ x with | .lv _ _ _ => True | .fp _ => True | .func (.func _) _ _ => True | _ => False) (hk : ((ev σ x)) = av) : SndV P o σ av :=
  sndV_val _ hk fun {_ _ _ _ a w _} h => by
    have hb := h.ev x
    refine ⟨a.eval x, ?_, hb⟩
    cases hx' : ev σ x <;> rw [hx'] at hb hx <;> try (exact hx.elim)
    · have hb := hb.fr_of trivial
      generalize he : a.eval x = u at hb
      cases hb
      simp [execOp, ho, he]
    · obtain ⟨ad, h1, _⟩ := hb.lv_inv
      simp [execOp, ho, h1]
    · rename_i fn f c
      obtain ⟨us, vs, h1, _⟩ := hb.func_inv
      cases fn <;> simp_all [execOp]
theorem valV_fieldAddr {s f T off : Nat} {x : Operand} {fs : List (Nat × Nat)} {i : TI} {j : TI} (ho : o.op = .fieldAddr s x f) (htt : TTok P TT) (hs : TT s = some i) (hi : i.kind = .struct fs) (hf : fs[f]? = some (T, off)) (hT : TT T = some j) (hsz : 0 < j.size)
    (hk : match ev σ x with | .lv y p q => ((.lv y p (q + off))) = av | .fp l => ((.fp (l.drop off))) = av | _ => False) : SndV P o σ av := by
  have hrun : ∀ (a : Act) (w : World) (ad : Addr), a.eval x = .pointer (some ad) → (execOp a.eval o).run P w = .ok (.value (.pointer (some (ad.add off)))) w := by
    intro a w ad hx
    have h1 := (htt s i hs).kind
    rw [hi] at h1
    obtain ⟨fa, h2, h3⟩ := h1
    have h4 : ∃ fl, fa[f]? = some fl ∧ fl.type = T ∧ fl.offset = off := by
      rw [← h3] at hf
      simp only [List.getElem?_map, Option.map_eq_some_iff] at hf
      obtain ⟨fl, hfl, e⟩ := hf
      refine ⟨fl, by simpa using hfl, by cases e; rfl, by cases e; rfl⟩
    obtain ⟨fl, h5, rfl, rfl⟩ := h4
    have h6 := (htt _ j hT).run_size w
    simp [execOp, ho, Instr.fieldAt, run_underlying h2, h5, Instr.sureAddr, hx, fieldPlace, h6, Nat.pos_iff_ne_zero.1 hsz]
  cases hx : ev σ x <;> rw [hx] at hk <;> try (exact hk.elim)
  · rename_i l
    refine sndV_val _ hk fun {A0 D0 w0 nt a w G} h => ?_
    have hb := h.ev x
    rw [hx] at hb
    have hb := hb.fr_of trivial
    generalize he : a.eval x = u at hb
    cases hb with
    | fp _ b of h1 h2 =>
      refine ⟨_, hrun a w _ he, .fr _ _ ?_⟩
      rw [Addr.add_lit]
      refine .fp _ _ _ (fun q av hq => ?_) (fun q av hq => ?_)
      · rw [List.getElem?_drop] at hq
        have := h1 _ av hq
        rwa [← Nat.add_assoc] at this
      · rw [List.getElem?_drop] at hq
        have := h2 _ av hq
        rwa [← Nat.add_assoc] at this
  · rename_i y p q
    refine sndV_val _ hk fun {A0 D0 w0 nt a w G} h => ?_
    have hb := h.ev x
    rw [hx] at hb
    obtain ⟨ad, h1, h2, h3⟩ := hb.lv_inv
    refine ⟨_, hrun a w ad h1, .lv _ _ _ _ h2 fun r b of hr hp => ?_⟩
    rw [h3 r b of hr hp, Addr.add_lit, Nat.add_assoc]
theorem valV_load {t : Nat} {i : TI} {x : Operand} (ho : o.op = .load t x) (htt : TTok P TT) (ht : TT t = some i) (h1 : i.kind.agg = false → i.size = 1)
    (hk : match ev σ x with
      | .lv y p q => match getS σ.s y with
        | some r => (p = [] → r.box = true) ∧ (match rowOf r.cells p with
          | some row => q + i.size ≤ row.length ∧ ((mkV i (ldc y p q ((row.drop q).take i.size)))) = av
          | none => False)
        | none => False
      | .fp l => i.size ≤ l.length ∧ ((mkV i (l.take i.size))) = av
      | _ => False) : SndV P o σ av := by
  have hti := htt t i ht
  -- a list of cells as a value
  have mk : ∀ {A0 : Nat → Prop} {w : World} {G : Nat → Option GR} (l : List AV) (vs : List Value), l.length = i.size → vs.length = i.size → (∀ (j : Nat) (a : AV), l[j]? = some a → Rel w (Own A0 G) G σ.n a (vs.getD j undef)) →
      Rel w (Own A0 G) G σ.n (mkV i l) (if i.kind.agg then .agg vs.toArray else vs.headD undef) := by
    intro A0 w G l vs hl hv hr
    unfold mkV
    cases hk : i.kind.agg with
    | true => exact .agg _ _ (by rw [hl, hv]) hr
    | false =>
      have hs1 := h1 hk
      cases l with
      | nil => simp at hl; omega
      | cons a l => cases vs with
        | nil => simp at hv; omega
        | cons v vs => exact hr 0 a rfl
  cases hx : ev σ x <;> rw [hx] at hk <;> try (exact hk.elim)
  · rename_i l
    obtain ⟨hl, hk⟩ := hk
    refine sndV_val _ hk fun {A0 D0 w0 nt a w G} h => ?_
    have hb := h.ev x
    rw [hx] at hb
    have hb := hb.fr_of trivial
    generalize he : a.eval x = u at hb
    cases hb with
    | fp _ b of h2 h3 =>
      let vs : List Value := (List.range i.size).map fun j => rdw w b (of + j)
      have hvs : ∀ (j : Nat) (v : Value), vs[j]? = some v → j < i.size ∧ v = rdw w b (of + j) := by
        intro j v hj
        simp only [vs, List.getElem?_map, Option.map_eq_some_iff] at hj
        obtain ⟨j', h4, h5⟩ := hj
        have hjl : j < i.size := by
          have := (List.getElem?_eq_some_iff.1 h4).1; simpa using this
        rw [List.getElem?_range hjl] at h4; cases h4
        exact ⟨hjl, h5.symm⟩
      have hrun := run_loadVar (P := P) hti (w := w) (ad := ⟨b, of, none⟩) (vs := vs) (by simp [vs]) (fun j v hj => by
        obtain ⟨hjl, rfl⟩ := hvs j v hj
        rw [Addr.add_lit]
        obtain ⟨_, hs⟩ := h2 j l[j] (List.getElem?_eq_getElem (by omega))
        unfold rdw
        obtain ⟨u, hu⟩ := Option.isSome_iff_exists.1 hs
        rw [hu]; rfl) h1
      refine ⟨_, by simp [execOp, ho, he, Instr.loadAt, Instr.sureAddr, hrun], mk _ vs (by simp; omega) (by simp [vs]) fun j av hj => ?_⟩
      rw [List.getElem?_take] at hj
      split at hj
      · rename_i hjl
        have : vs.getD j undef = rdw w b (of + j) := by
          have : vs[j]? = some (rdw w b (of + j)) := by simp only [vs, List.getElem?_map, List.getElem?_range hjl, Option.map_some]
          exact getD_of this
        rw [this]
        exact .fr _ _ (h3 j av hj)
      · cases hj
  · rename_i y p q
    simp only at hk
    split at hk
    · rename_i r hr
      obtain ⟨hbox, hk⟩ := hk
      split at hk
      · rename_i row hrow
        obtain ⟨hl, hk⟩ := hk
        refine sndV_val _ hk fun {A0 D0 w0 nt a w G} h => ?_
        have hb := h.ev x
        rw [hx] at hb
        obtain ⟨ad, e1, e2, e3⟩ := hb.lv_inv
        obtain ⟨g, grow, k1, k2, k3, k4, k5⟩ := h.read hr hrow
        obtain ⟨b, of, _, _, k6, _⟩ := h.place hr k1 k2 hbox
        have had := e3 g b of k1 k6
        have hgl : grow.length = row.length := k3.len.symm
        let vs : List Value := ((grow.drop q).take i.size).map GT.val
        have hvs : ∀ (j : Nat), j < i.size → ∃ t, grow[q + j]? = some t ∧ vs[j]? = some t.val := by
          intro j hj
          have hlt : q + j < grow.length := by omega
          refine ⟨grow[q + j], List.getElem?_eq_getElem hlt, ?_⟩
          simp only [vs, List.getElem?_map, List.getElem?_take, if_pos hj, List.getElem?_drop, List.getElem?_eq_getElem hlt, Option.map_some]
        have hvl : vs.length = i.size := by simp [vs]; omega
        have hrun := run_loadVar (P := P) hti (w := w) (ad := ad) (vs := vs) hvl (fun j v hj => by
          have hjl : j < i.size := by have := (List.getElem?_eq_some_iff.1 hj).1; omega
          obtain ⟨t, ht1, ht2⟩ := hvs j hjl
          rw [ht2] at hj; cases hj
          rw [had, Addr.add_lit, Nat.add_assoc]
          exact k5 b of k6 _ t ht1) h1
        refine ⟨_, by simp [execOp, ho, e1, Instr.loadAt, Instr.sureAddr, hrun], mk _ vs (by rw [ldc_len]; simp; omega) hvl fun j av hj => ?_⟩
        obtain ⟨b', hb', rfl⟩ := ldc_at y p q _ j av hj
        rw [List.getElem?_take] at hb'
        split at hb'
        · rename_i hjl
          rw [List.getElem?_drop] at hb'
          obtain ⟨t, ht1, ht2⟩ := hvs j hjl
          rw [getD_of ht2]
          rcases k3.cell _ b' t hb' ht1 with ⟨q1, q2⟩ | ⟨q1, q2⟩
          · rw [if_pos (by rw [q2]; exact tree_of_leaf q1)]
            exact (k4 _ t ht1).2 q1
          · have : b'.tree = false := by
              generalize t.val = vv at q2
              cases q2 with
              | fr _ _ hf => exact hf.not_tree
              | _ => rfl
            rw [this]; exact q2
        · cases hb'
      · exact hk.elim
    · exact hk.elim
theorem valV_indexAddr {t e : Nat} {i j : TI} {x ix : Operand} (ho : o.op = .indexAddr t x ix) (htt : TTok P TT) (ht : TT t = some i) (hi : i.kind = .slice e) (he : TT e = some j) (hsz : 0 < j.size)
    (hk : match ev σ x, ev σ ix with
      | .sl n l, .int _ q => n = j.size ∧ 0 ≤ q ∧ (match l[q.toNat]? with
        | some el => ((.fp el)) = av
        | none => False)
      | .ref y p c, .int _ q => (match cellAtB σ y p c with
        | .own n es => n = j.size ∧ 0 ≤ q ∧ q.toNat < es.length ∧ ((.lv y (p ++ [(c, q.toNat)]) 0)) = av
        | _ => False)
      | _, _ => False) : SndV P o σ av := by
  have hti := (htt t i ht).kind
  rw [hi] at hti
  have hti : P.underlying t = some (.slice e) := hti
  have hrun : ∀ (a : Act) (w : World) (ad : Addr) (len cap : Nat) (k : IntKind) (q : Int), a.eval x = .slice (some ad) len cap → a.eval ix = .int k q → 0 ≤ q → q.toNat < len →
      (execOp a.eval o).run P w = .ok (.value (.pointer (some (ad.add (q.toNat * j.size))))) w := by
    intro a w ad len cap k q h1 h2 h3 h4
    have h5 : q < (len : Int) := by omega
    simp [execOp, ho, Instr.indexAt, h1, h2, asIntOf_int, run_underlying hti, h3, h5, (htt e j he).run_size w]
  cases hx : ev σ x <;> rw [hx] at hk <;> try (exact hk.elim)
  · rename_i n l
    cases hy : ev σ ix <;> rw [hy] at hk <;> try (exact hk.elim)
    rename_i k q
    obtain ⟨rfl, hq, hk⟩ := hk
    split at hk
    · rename_i el hel
      refine sndV_val _ hk fun {A0 D0 w0 nt a w G} h => ?_
      have hb := h.ev x
      rw [hx] at hb
      have hb := hb.fr_of trivial
      have hc := h.ev ix
      rw [hy] at hc
      generalize hu : a.eval x = u at hb
      have hlt := (List.getElem?_eq_some_iff.1 hel).1
      cases hb with
      | slnil => simp at hlt
      | slmt => simp at hlt
      | sl _ _ b of cap h1 h2 h3 h4 h5 h6 =>
        refine ⟨_, hrun a w _ _ _ k q hu hc.int_inv hq hlt, .fr _ _ ?_⟩
        rw [Addr.add_lit]
        refine .fp _ _ _ (fun c av hav => ?_) (fun c av hav => ?_)
        · have := h5 _ el c av hel hav
          rwa [← Nat.add_assoc] at this
        · have := h6 _ el c av hel hav
          rwa [← Nat.add_assoc] at this
    · exact hk.elim
  · rename_i y p c
    cases hy : ev σ ix <;> rw [hy] at hk <;> try (exact hk.elim)
    rename_i k q
    simp only at hk
    split at hk
    · rename_i n es hc
      obtain ⟨rfl, hq, hlt, hk⟩ := hk
      refine sndV_val _ hk fun {A0 D0 w0 nt a w G} h => ?_
      have hb := h.ev x
      rw [hx] at hb
      have hcq := h.ev ix
      rw [hy] at hcq
      obtain ⟨b1, b2, b3⟩ := hb.ref_inv
      obtain ⟨r, row, g, grow, t', k1, k2, k3, k4, k5, k6, k7, k8, k9, k10, k11, k12⟩ := h.tree hc rfl
      obtain ⟨v, rows, rfl, rfl⟩ := er_own k8 k7
      have hv := k11 _ b3
      simp only [GT.val] at hv
      rcases k9.own_inv with ⟨rfl, e2⟩ | ⟨b, cap, vs, T, e1, e2, e3, e4, e5, e6, e7, e8, e9⟩
      · subst e2; simp at hlt
      · refine ⟨_, hrun a w ⟨b, 0, none⟩ rows.length cap k q (by rw [hv, e1]) hcq.int_inv hq (by simpa using hlt), .lv _ _ _ _ b1 fun r' b' o' hr' hp' => ?_⟩
        rw [Addr.add_lit]
        rw [k4] at hr'; cases hr'
        -- the base of the element's row
        have hbase : ∀ (p : List (Nat × Nat)) {base : Option (Nat × Nat)} {cells grow : List GT}, RowMem w (Own A0 G) base cells → gRow cells p = some grow → grow[c]? = some (GT.own j.size v rows) → gBase base cells (p ++ [(c, q.toNat)]) = some (b, q.toNat * j.size) := by
          intro p
          induction p with
          | nil =>
            intro base cells grow hm hg hgc
            cases hg
            obtain ⟨rr, hrr⟩ : ∃ rr, rows[q.toNat]? = some rr := ⟨_, List.getElem?_eq_getElem (by simpa using hlt)⟩
            simp only [List.nil_append, gBase, hgc, e1, hrr]
          | cons s p ih =>
            obtain ⟨c0, i0⟩ := s
            intro base cells grow hm hg hgc
            simp only [gRow] at hg
            split at hg
            · rename_i n0 v0 rows0 hc0
              split at hg
              · rename_i r0 hr0
                obtain ⟨b0, cap0, rfl, hin, _⟩ := hm.inner hc0 hr0
                simp only [List.cons_append, gBase, hc0, hr0]
                exact ih hin hg hgc
              · cases hg
            · cases hg
        have := hbase p (h.inv.row y g k4) k5 k6
        rw [this] at hp'
        cases hp'
        simp
    · exact hk.elim
theorem valV_indexAddrArr {t n e : Nat} {i j : TI} {x ix : Operand} {k : IntKind} {q : Int} (ho : o.op = .indexAddr t x ix) (htt : TTok P TT) (ht : TT t = some i) (hi : i.kind = .array n e) (he : TT e = some j) (hix : ev σ ix = .int k q) (h0 : 0 ≤ q ∧ q < (n : Int))
    (hk : match ev σ x with | .lv y p c => ((.lv y p (c + q.toNat * j.size))) = av | .fp l => ((.fp (l.drop (q.toNat * j.size)))) = av | _ => False) : SndV P o σ av := by
  have hkd := (htt t i ht).kind
  rw [hi] at hkd
  have hkd : P.underlying t = some (.array n e) := hkd
  have hrun : ∀ (a : Act) (w : World) (ad : Addr), a.eval x = .pointer (some ad) → a.eval ix = .int k q → (execOp a.eval o).run P w = .ok (.value (.pointer (some (ad.add (q.toNat * j.size))))) w := by
    intro a w ad hx hq
    simp [execOp, ho, Instr.indexAt, hx, hq, asIntOf_int, run_underlying hkd, Instr.sureAddr, h0.1, h0.2, (htt e j he).run_size w]
  cases hx : ev σ x <;> rw [hx] at hk <;> try (exact hk.elim)
  · rename_i l
    refine sndV_val _ hk fun {A0 D0 w0 nt a w G} h => ?_
    have hb := h.ev x
    rw [hx] at hb
    have hb := hb.fr_of trivial
    have hc := h.ev ix
    rw [hix] at hc
    generalize he : a.eval x = u at hb
    cases hb with
    | fp _ b of h1 h2 =>
      refine ⟨_, hrun a w _ he hc.int_inv, .fr _ _ ?_⟩
      rw [Addr.add_lit]
      refine .fp _ _ _ (fun q av hq => ?_) (fun q av hq => ?_)
      · rw [List.getElem?_drop] at hq
        have := h1 _ av hq
        rwa [← Nat.add_assoc] at this
      · rw [List.getElem?_drop] at hq
        have := h2 _ av hq
        rwa [← Nat.add_assoc] at this
  · rename_i y p c
    refine sndV_val _ hk fun {A0 D0 w0 nt a w G} h => ?_
    have hb := h.ev x
    rw [hx] at hb
    have hc := h.ev ix
    rw [hix] at hc
    obtain ⟨ad, h1, h2, h3⟩ := hb.lv_inv
    refine ⟨_, hrun a w ad h1 hc.int_inv, .lv _ _ _ _ h2 fun r b of hr hp => ?_⟩
    rw [h3 r b of hr hp, Addr.add_lit, Nat.add_assoc]
def stillB : Op → Bool
  | .move _ | .assign _ | .nilCheck .. | .load .. | .fieldAddr .. | .indexAddr .. => true
  | _ => false
theorem rop_val (htt : TTok P TT) {v : AV} {r : Option Root} (hs : stillB o.op = true) (h : rop TT σ o.op = some (v, r)) : SndV P o σ v := by
  cases ho : o.op <;> rw [ho] at h hs <;> simp only [rop] at h <;> simp only [stillB, Bool.false_eq_true] at hs
  case move x => cases h; exact valV_move (.inl ho) rfl
  case assign x => cases h; exact valV_move (.inr ho) rfl
  case fieldAddr s x f =>
    unfold rFieldAddr at h
    split at h
    · rename_i i hi
      split at h
      · rename_i fs hk
        split at h
        · rename_i T off hf
          split at h
          · rename_i j hj
            split at h
            · rename_i hs
              refine valV_fieldAddr ho htt hi hk hf hj hs ?_
              split at h
              · rename_i y p q hx; cases h; rw [hx]; try rfl
              · rename_i l hx; cases h; rw [hx]; try rfl
              · cases h
            · cases h
          · cases h
        · cases h
      · cases h
    · cases h
  case indexAddr t x ix =>
    unfold rIndexAddr at h
    split at h
    · rename_i i hi
      split at h
      · rename_i e hk
        split at h
        · rename_i j hj
          split at h
          · rename_i hs
            refine valV_indexAddr ho htt hi hk hj hs ?_
            split at h
            · rename_i n l hx
              split at h
              · rename_i k q hy
                split at h
                · rename_i hc
                  split at h
                  · rename_i el hel; cases h; rw [hx, hy]; simp only [hel]; exact ⟨hc.1, hc.2, by trivial⟩
                  · cases h
                · cases h
              · cases h
            · rename_i y p c hx
              split at h
              · rename_i k q hy
                split at h
                · rename_i n es hcc
                  split at h
                  · rename_i hc; cases h; rw [hx, hy]; simp only [hcc]; exact ⟨hc.1, hc.2.1, hc.2.2, by trivial⟩
                  · cases h
                · cases h
              · cases h
            · cases h
          · cases h
        · cases h
      · rename_i n e hk
        split at h
        · rename_i j hj
          split at h
          · rename_i k q hy
            split at h
            · rename_i h0
              refine valV_indexAddrArr ho htt hi hk hj hy h0 ?_
              split at h
              · rename_i y p c hx; cases h; rw [hx]; try rfl
              · rename_i l hx; cases h; rw [hx]; try rfl
              · cases h
            · cases h
          · cases h
        · cases h
      · cases h
    · cases h
  case load t x =>
    unfold rLoad at h
    split at h
    · rename_i i hi
      split at h
      · rename_i hok
        refine valV_load ho htt hi (tiOK_spec hok) ?_
        split at h
        · rename_i y p q hx
          split at h
          · rename_i r' hr
            split at h
            · rename_i hb
              split at h
              · rename_i row hrow
                split at h
                · rename_i hl
                  cases h
                  rw [hx]; simp only [hr, hrow]
                  exact ⟨fun hp => hb.resolve_left (fun h => h hp), hl, by trivial⟩
                · cases h
              · cases h
            · cases h
          · cases h
        · rename_i l hx
          split at h
          · rename_i hl; cases h; rw [hx]; exact ⟨hl, by trivial⟩
          · cases h
        · cases h
      · cases h
    · cases h
  case nilCheck x =>
    split at h
    · rename_i y p q hx; cases h; exact valV_nilCheck ho (by rw [hx]; trivial) (by rw [hx]; try rfl)
    · rename_i l hx; cases h; exact valV_nilCheck ho (by rw [hx]; trivial) (by rw [hx]; try rfl)
    · rename_i g a b hx; cases h; exact valV_nilCheck ho (by rw [hx]; trivial) (by rw [hx]; try rfl)
    · cases h
end
section
variable {P : Program} {TT : TTab} {all : Array Oper} {σ τ : St}
def StillS (P : Program) (all : Array Oper) (os : List Oper) (σ τ : St) : Prop :=
  ∀ (A0 D0 : Nat → Prop) (w0 : World) (nt : Nat) (a : Act) (w : World) (G : Nat → Option GR) (Q : Act → Prop), okDst nt os = true → Holds A0 D0 w0 nt σ a w G →
    (∀ a', Holds A0 D0 w0 nt τ a' w G → Q a') → wpStill P all w Q os a
theorem StillS.nil : StillS P all [] σ σ := fun _ _ _ _ _ _ _ _ _ h hq => hq _ h
theorem StillS.step {o : Oper} {os : List Oper} {av : AV} (hw : wantd all σ o = some true) (hv : SndV P o σ av) (h : StillS P all os (σ.put o.dst av) τ) : StillS P all (o :: os) σ τ := by
  intro A0 D0 w0 nt a w G Q hd hh hq
  obtain ⟨hd1, hd2⟩ := okDst_cons hd
  obtain ⟨v, h1, h2⟩ := hv.run hh
  show (if Region.wanted o (yielded all a.tmps) then o.still P a w (wpStill P all w Q os) else wpStill P all w Q os (a.put o.dst undef))
  rw [if_pos (wantd_spec hh hw)]
  unfold Oper.still
  rw [h1, Oper.stillUpon_value]
  exact h A0 D0 w0 nt _ w G Q hd2 (hh.put h2 hd1) hq
def runV (TT : TTab) (all : Array Oper) : List Oper → St → Option St
  | [], σ => some σ
  | o :: os, σ => if stillB o.op = true then (match wantd all σ o with
    | some true => match rop TT σ o.op with
      | some (v, _) => runV TT all os (σ.put o.dst v)
      | none => none
    | _ => none) else none
theorem StillS.run (htt : TTok P TT) : ∀ {os : List Oper} {σ : St}, runV TT all os σ = some τ → StillS P all os σ τ
  | [], σ, h => by cases h; exact StillS.nil
  | o :: os, σ, h => by
    simp only [runV] at h
    split at h
    · rename_i hs
      split at h
      · rename_i hw
        split at h
        · rename_i v r hv
          exact StillS.step hw (rop_val htt hs hv) (StillS.run htt h)
        · cases h
      · cases h
    · cases h
theorem wpList_of_still {w : World} {Q : Act → Prop} {Q' : Exit → Act → World → Prop} (hQ : ∀ a, Q a → Q' .normal a w) : ∀ {os : List Oper} {a : Act}, wpStill P all w Q os a → wpList P all Q' os a w
  | [], a, h => hQ a h
  | o :: os, a, h => by
    rw [wpList_cons]
    change (if Region.wanted o (yielded all a.tmps) then o.still P a w (wpStill P all w Q os) else wpStill P all w Q os (a.put o.dst undef)) at h
    split
    · rename_i hw
      rw [if_pos hw] at h
      exact .inl (Oper.wp_of_still (fun a' h' => wpList_of_still hQ h') h)
    · rename_i hw
      rw [if_neg hw] at h
      exact wpList_of_still hQ h
def RCall (P : Program) (f : FuncId) (args : List AV) (n : Nat) (s : List (Nat × Root)) (r : AV) : Prop :=
  Callable P f ∧ ∀ (w : World) (A : Nat → Prop) (G : Nat → Option GR) (vs : List Value), (∀ b, A b → b < w.heap.size) → Inv A w n s G → vs.length = args.length → (∀ (i : Nat) (a : AV), args[i]? = some a → Rel w (Own A G) G n a (vs.getD i undef)) →
    Calls P f vs.toArray w (fun e w' => ∃ v, e = .returned v ∧ w' = w.drew ∧ Rel w (Own A G) G n r v)
theorem RCall.intro (htt : TTok P TT) (hm : P.follows .mixedOrders = true) {f : FuncId} {fn : Func} {i0 i1 : Nat} {ops0 ops1 : Array Oper} {args : List AV} {n : Nat} {s : List (Nat × Root)} {σ1 τ : St} {r : AV} (hf : P.funcs[f]? = some fn) (hn : (fn.name == "runtime.NumGoroutine") = false)
    (hb : fn.body = some (.seq (.region i0 ops0 false) (.seq (.region i1 ops1 true) .ret))) (hl : args.length ≤ fn.ntmps) (hB : Region.lexB .any ops1 = true) (hd0 : okDst fn.ntmps ops0.toList = true) (hd1 : okDst fn.ntmps ops1.toList = true)
    (h0 : StillS P ops0 ops0.toList { n := n, t := tmps0 0 args, s := s } σ1) (h1 : StillS P ops1 ops1.toList σ1 τ) (ht : τ.n = n) (hr : ∃ l, resL TT τ fn.results.toList = some l ∧ one l = r) : RCall P f args n s r := by
  refine ⟨⟨fn, hf, hn, by rw [hb]; rfl⟩, fun w A G vs hA hinv hvl hrel => ?_⟩
  refine calls_of_wp hf hb ?_
  have hsz : (vs.toArray ++ Array.replicate (fn.ntmps - vs.toArray.size) undef).size = fn.ntmps := by simp; omega
  have hval : ∀ i, i < args.length → (vs.toArray ++ Array.replicate (fn.ntmps - vs.toArray.size) undef).getD i undef = vs.getD i undef := fun i hi => by
    rw [Array.getD_eq_getD_getElem?, List.getD_eq_getElem?_getD, Array.getElem?_append_left (by simp; omega), List.getElem?_toArray]
  have hH : Holds A (GFp G) w fn.ntmps { n := n, t := tmps0 0 args, s := s } { tmps := vs.toArray ++ Array.replicate (fn.ntmps - vs.toArray.size) undef, defers := [] } w G := by
    refine ⟨hinv, hsz, rfl, fun i hi => ?_, fun i hi => ?_, ⟨rfl, rfl, rfl, Nat.le_refl _, fun _ _ _ => rfl⟩, fun b hb => .inl hb, hA⟩
    · rw [tmps0_get, if_pos (Nat.zero_le i), Nat.sub_zero]
      by_cases hlt : i < args.length
      · have h1 : args[i]? = some args[i] := List.getElem?_eq_getElem hlt
        rw [getD_of h1]
        show Rel w (Own A G) G n args[i] ((vs.toArray ++ Array.replicate (fn.ntmps - vs.toArray.size) undef).getD i undef)
        rw [hval i hlt]
        exact hrel i _ h1
      · have : args.getD i .undef = .undef := by simp [List.getElem?_eq_none (Nat.le_of_not_lt hlt)]
        rw [this]
        exact .fr _ _ (.undef _)
    · rw [tmps0_get, if_pos (Nat.zero_le i), Nat.sub_zero]
      simp [List.getElem?_eq_none (show args.length ≤ i by omega)]
  refine wp_seq (wp_region ?_)
  rw [List.range_eq_range', show ops0.size = ops0.toList.length by simp, wpOps_eq_wpList ops0.toList 0 (fun j => by simp)]
  refine wpList_of_still (Q := fun a' => Holds A (GFp G) w fn.ntmps σ1 a' w G) (fun a1 hh1 => ?_) (h0 A (GFp G) w fn.ntmps _ w G _ hd0 hH fun a' h' => h')
  refine wp_seq (wp_region_still hm hB ?_)
  refine h1 A (GFp G) w fn.ntmps a1 w.drew G _ hd1 hh1.drew fun a2 hh2 => ?_
  refine wp_ret ?_
  obtain ⟨l, hl, rfl⟩ := hr
  obtain ⟨v, k1, k2⟩ := hh2.results htt hl
  refine ⟨hh2.defers, v, k1, v, rfl, rfl, ?_⟩
  rw [ht] at k2
  exact Rel.keep (w := w.drew) (w' := w) (Nat.le_refl _) (fun _ _ _ => rfl) (fun _ _ h => h) (fun _ _ _ _ _ h => h) (fun _ _ _ _ _ h => h) k2
theorem snd_rcall {up : Bool} {o : Oper} {K : St → Prop} {x : Operand} {xs : Array Operand} {ts : Array TypeId} {f : FuncId} {first caps : List AV} {r : AV} (ho : o.op = .call { callee := .value x, args := xs, argTypes := ts }) (hx : ev σ x = .func (.func f) first caps)
    (hp : RCall P f (callL σ first xs.toList caps) σ.n σ.s r) (hk : K (σ.put o.dst r)) : SndU P up o σ K := by
  intro A0 D0 w0 nt a w G Q hd hu h
  left
  obtain ⟨us, vs, e1, e2, e3⟩ := h.callArgs hx xs.toList
  have hc := hp.2 w A0 G (us ++ xs.toList.map a.eval ++ vs) (fun b hb => Nat.lt_of_lt_of_le (h.a0lt b hb) h.fr.size) h.inv e2 e3
  simp only [Oper.wp, run_enter hp.1 ho e1, Oper.upon]
  refine hc.mono fun e w' he => ?_
  obtain ⟨v, rfl, rfl, k⟩ := he
  exact ⟨_, G, h.drew.put (Rel.keep (w := w) (w' := w.drew) (Nat.le_refl _) (fun _ _ _ => rfl) (fun _ _ h => h) (fun _ _ _ _ _ h => h) (fun _ _ _ _ _ h => h) k) hd, hk⟩
theorem CWops.callR {up : Bool} {nt : Nat} {os : List Oper} {K : St → Prop} {d : Option Tmp} {ty : TypeId} {pos : String} {af : Array Edge} {gd : Option (Nat × Bool)} {x : Operand} {xs : Array Operand} {ts : Array TypeId} {f : FuncId} {first caps : List AV} {r : AV}
    (hw : wantd all σ ⟨d, .call ⟨.value x, xs, ts⟩, ty, pos, af, gd⟩ = some true) (hx : ev σ x = .func (.func f) first caps)
    (hp : RCall P f (callL σ first xs.toList caps) σ.n σ.s r) (hk : CWops P up nt all os (σ.put d r) K) : CWops P up nt all (⟨d, .call ⟨.value x, xs, ts⟩, ty, pos, af, gd⟩ :: os) σ K :=
  CWops.step hw (snd_rcall rfl hx hp hk)
theorem Seg.callR {up : Bool} {σ0 : St} {K : List (Nat × AV) → Option Root → Prop} {os : List Oper} {t : List (Nat × AV)} {r : Option Root} {d : Option Tmp} {ty : TypeId} {pos : String} {af : Array Edge} {gd : Option (Nat × Bool)} {x : Operand} {xs : Array Operand} {ts : Array TypeId} {f : FuncId} {first caps : List AV} {v : AV}
    (hw : wantd all { σ0 with t := t } ⟨d, .call ⟨.value x, xs, ts⟩, ty, pos, af, gd⟩ = some true) (hx : ev { σ0 with t := t } x = .func (.func f) first caps)
    (hp : ∀ n s, (∀ y r, getS σ0.s y = some r → getS s y = some r) → RCall P f (callL { σ0 with t := t } first xs.toList caps) n s v)
    (hk : Seg P up all σ0 os (putT t d v) r K) : Seg P up all σ0 (⟨d, .call ⟨.value x, xs, ts⟩, ty, pos, af, gd⟩ :: os) t r K := by
  refine ⟨t, v, none, fun _ => rfl, ⟨fun _ => rfl, ?_⟩, .inl rfl, hk⟩
  intro σ' hl he hn
  refine .inl ⟨by rw [wantd_congr (τ := { σ0 with t := t }) hl]; exact hw, ?_⟩
  have hev : ∀ y ∈ (Op.call ⟨.value x, xs, ts⟩).operands, ev σ' y = ev { σ0 with t := t } y := fun y hy => looks_ops (τ := { σ0 with t := t }) hl hy
  have hc : callL σ' first xs.toList caps = callL { σ0 with t := t } first xs.toList caps := callL_ev fun y hy => hev y (by simp [Op.operands, Call.operands]; right; simpa using hy)
  have hx' : ev σ' x = .func (.func f) first caps := by rw [hev x (by simp [Op.operands, Call.operands])]; exact hx
  exact snd_rcall rfl hx' (by rw [hc]; exact hp _ _ he.s) rfl
end
end Go.Ab
namespace Go.Ab
open Go Go.RowKit
section
variable {A0 D0 : Nat → Prop} {w0 : World} {nt : Nat} {σ : St} {a : Act} {w : World} {G : Nat → Option GR}
theorem Holds.refill (h : Holds A0 D0 w0 nt σ a w G) {y n q : Nat} {es : List (List AV)} (hy : getS σ.s y = some ⟨false, [.own n es]⟩) (hq : q < es.length) :
    ∃ (b cap : Nat) (vs : Array Value) (T : TypeId), es.length ≤ cap ∧ cap ≤ maxLen ∧ (∀ v, RefOK G y [] 0 v → v = .slice (some ⟨b, 0, none⟩) es.length cap) ∧ w.heap[b]? = some (.cells vs T (0, 0)) ∧ vs.size = cap * n ∧ (∀ (i : Nat) (r : List AV), es[i]? = some r → r.length = n) ∧
      (∀ (i : Nat) (r : List AV) (j : Nat) (av : AV), es[i]? = some r → r[j]? = some av → av.tree = false → ∃ u, w.cell? ⟨b, i * n + j, none⟩ = some u ∧ FR w (Own A0 G) av u ∧ u.oneCell' = true) ∧
      ∀ (ns : List (List AV)) (us : List Value), ns.length = es.length - q → (∀ (i : Nat) (r : List AV), ns[i]? = some r → r.length = n) → us.length = (es.length - q) * n →
      (∀ (i : Nat) (r : List AV) (j : Nat) (av : AV), ns[i]? = some r → r[j]? = some av → ∃ u, us[i * n + j]? = some u ∧ FR w (Own A0 G) av u ∧ u.oneCell' = true) →
      ∃ rows' : List (List GT), Holds A0 D0 w0 nt { σ with s := updS σ.s y ⟨false, [.own n (es.take q ++ ns)]⟩ } a (setCells b (q * n) w 0 us) (Gset G y (some ⟨none, [.own n (.slice (some ⟨b, 0, none⟩) rows'.length cap) rows']⟩)) ∧ rows'.length = es.length := by
  have hc : cellAtB σ y [] 0 = .own n es := by simp [cellAtB, hy, rowOf]
  obtain ⟨r, row, g, grow, t, g1, g2, g3, hg, g5, g6, hl, her, hmem, hsep, href, hfpr⟩ := h.tree hc rfl
  rw [hy] at g1; cases g1
  cases g2; cases g5
  obtain ⟨v, rows, rfl, rfl⟩ := er_own her hl
  obtain ⟨g_, hg_, hb, hcs, hm⟩ := h.root hy
  rw [hg] at hg_; cases hg_
  rw [List.length_map] at hq
  have hcells : g.cells = [.own n v rows] := by
    have := hcs.len
    cases hgc : g.cells with
    | nil => rw [hgc] at this; simp at this
    | cons x l =>
      rw [hgc] at this g6
      cases l with
      | nil => simpa using g6
      | cons => simp at this
  obtain ⟨gb, gc⟩ := g
  simp only at hcells hb
  subst hcells
  have hgb : gb = none := by cases gb <;> simp at hb ⊢
  subst hgb
  rcases hmem.own_inv with ⟨_, rfl⟩ | ⟨b, cap, vs, T, rfl, e2, e3, e4, e5, e6, e7, e8, e9⟩
  · simp at hq
  have hcell0 : ∀ (i : Nat) (r : List AV) (j : Nat) (av : AV), (rows.map fun r => r.map GT.er)[i]? = some r → r[j]? = some av → av.tree = false → ∃ u, w.cell? ⟨b, i * n + j, none⟩ = some u ∧ FR w (Own A0 G) av u ∧ u.oneCell' = true := by
    intro i r j av hr hj ht
    simp only [List.getElem?_map, Option.map_eq_some_iff] at hr
    obtain ⟨r0, hr0, rfl⟩ := hr
    simp only [List.getElem?_map, Option.map_eq_some_iff] at hj
    obtain ⟨g0, hg0, rfl⟩ := hj
    have hlf : g0.leaf = true := by
      cases hq : g0.leaf with
      | true => rfl
      | false => have := tree_of_leaf hq; rw [ht] at this; cases this
    have hm0 := e9 i r0 j g0 hr0 hg0
    cases hm0 with
    | lf av v hfr hoc => exact ⟨v, e8 i r0 j _ hr0 hg0, by simpa only [GT.er] using hfr, hoc⟩
    | _ => cases hlf
  refine ⟨b, cap, vs, T, by rw [List.length_map]; exact e4, e5, fun v hv => by rw [List.length_map]; exact href v hv, e2, e3, fun i r hr => ?_, hcell0, fun ns us hnl hnr hus hnu => ?_⟩
  · simp only [List.getElem?_map, Option.map_eq_some_iff] at hr
    obtain ⟨r0, hr0, rfl⟩ := hr
    simpa using e7 i r0 hr0
  rw [List.length_map] at hus hnl ⊢
  have hroom : q * n + 0 + us.length ≤ vs.size := by
    have : q * n + (rows.length - q) * n = rows.length * n := by rw [← Nat.add_mul]; congr 1; omega
    have := Nat.mul_le_mul_right n e4
    omega
  obtain ⟨vs', k1, k2, k3, k4, k5, k6⟩ := setCells_facts us 0 w vs e2 hroom
  generalize hw' : setCells b (q * n) w 0 us = w' at k1 k5 k6
  let zrs : List (List GT) := ns.zipIdx.map fun p => p.1.zipIdx.map fun s => GT.lf s.1 ((us[p.2 * n + s.2]?).getD undef)
  have hzl : zrs.length = ns.length := by simp [zrs]
  have hz1 : ∀ (i : Nat) (r : List GT), zrs[i]? = some r → ∃ row, ns[i]? = some row ∧ r = row.zipIdx.map fun s => GT.lf s.1 ((us[i * n + s.2]?).getD undef) := by
    intro i r h
    simp only [zrs, List.getElem?_map, List.getElem?_zipIdx, Option.map_eq_some_iff] at h
    obtain ⟨p, ⟨row, h1, rfl⟩, rfl⟩ := h
    exact ⟨row, h1, by simp⟩
  have hzr : ∀ (i : Nat) (r : List GT) (j : Nat) (g : GT), zrs[i]? = some r → r[j]? = some g → ∃ av u, g = .lf av u ∧ us[i * n + j]? = some u ∧ FR w (Own A0 G) av u ∧ u.oneCell' = true := by
    intro i r j g h1 h2
    obtain ⟨row, k1, rfl⟩ := hz1 i r h1
    simp only [List.getElem?_map, List.getElem?_zipIdx, Option.map_eq_some_iff] at h2
    obtain ⟨s, ⟨av, k2, rfl⟩, rfl⟩ := h2
    obtain ⟨u, k3, k4, k5⟩ := hnu i row j av k1 k2
    exact ⟨av, u, by simp only [Nat.zero_add, k3, Option.getD_some], k3, k4, k5⟩
  have hzrl : ∀ (i : Nat) (r : List GT), zrs[i]? = some r → r.length = n := by
    intro i r h1
    obtain ⟨row, k1, rfl⟩ := hz1 i r h1
    simpa using hnr i row k1
  have hzer : zrs.map (fun r => r.map GT.er) = ns := by
    apply List.ext_getElem?
    intro i
    simp only [zrs, List.map_map, List.getElem?_map, List.getElem?_zipIdx]
    cases hri : ns[i]? with
    | none => rfl
    | some row =>
      simp only [Option.map_some, Function.comp, List.map_map, Option.some.injEq]
      have : (GT.er ∘ fun s : AV × Nat => GT.lf s.1 ((us[(0 + i) * n + s.2]?).getD undef)) = Prod.fst := by funext s; simp [GT.er]
      rw [this]; simp
  let rows' := rows.take q ++ zrs
  have hrl : rows'.length = rows.length := by simp [rows', hzl]; omega
  have hro : ∀ {i : Nat} {r : List GT}, rows'[i]? = some r → (i < q ∧ rows[i]? = some r) ∨ (q ≤ i ∧ i < rows.length ∧ zrs[i - q]? = some r) := fun {i r} hi => by
    have hl := (List.getElem?_eq_some_iff.1 hi).1
    rcases Nat.lt_or_ge i q with h1 | h1
    · rw [List.getElem?_append_left (by simp; omega), List.getElem?_take, if_pos h1] at hi
      exact .inl ⟨h1, hi⟩
    · rw [List.getElem?_append_right (by simp; omega)] at hi
      rw [show (rows.take q).length = q by simp; omega] at hi
      exact .inr ⟨h1, by omega, hi⟩
  let t' : GT := .own n (.slice (some ⟨b, 0, none⟩) rows'.length cap) rows'
  have hfp : ∀ k, Fp t' k → Fp (.own n (.slice (some ⟨b, 0, none⟩) rows.length cap) rows) k := by
    intro k hk
    change Fp (GT.own n (.slice (some ⟨b, 0, none⟩) rows'.length cap) rows') k at hk
    cases hk with
    | own0 => exact .own0 _ _ _ _ _
    | own _ _ _ i r j g k hr hj hg =>
      rcases hro hr with ⟨_, h1⟩ | ⟨_, _, hz⟩
      · exact .own _ _ _ i r j g k h1 hj hg
      · obtain ⟨av, u, rfl, _⟩ := hzr _ r j g hz hj; cases hg
  have hsep' : Sep t' := by
    cases hsep with
    | own _ _ _ s1 s2 s3 =>
      refine .own _ _ _ (fun i r j g hr hj => ?_) (fun i r j g hr hj ad l c e => ?_) (fun i r j g i' r' j' g' hr hj hr' hj' hne k hk hk' => ?_)
      · rcases hro hr with ⟨_, h1⟩ | ⟨_, _, hz⟩
        · exact s1 i r j g h1 hj
        · obtain ⟨av, u, rfl, _⟩ := hzr _ r j g hz hj; exact .lf _ _
      · rcases hro hr with ⟨_, h1⟩ | ⟨_, _, hz⟩
        · cases e; exact s2 i r j g h1 hj ⟨b, 0, none⟩ rows.length cap rfl
        · obtain ⟨av, u, rfl, _⟩ := hzr _ r j g hz hj; exact fun hx => by cases hx
      · rcases hro hr with ⟨_, h1⟩ | ⟨_, _, hz⟩
        · rcases hro hr' with ⟨_, h1'⟩ | ⟨_, _, hz'⟩
          · exact s3 i r j g i' r' j' g' h1 hj h1' hj' hne k hk hk'
          · obtain ⟨av, u, rfl, _⟩ := hzr _ r' j' g' hz' hj'; cases hk'
        · obtain ⟨av, u, rfl, _⟩ := hzr _ r j g hz hj; cases hk
  have hgx : ∀ (G' : Nat → Option GR), True := fun _ => trivial
  have hnb : ∀ (i : Nat) (r : List GT) (j : Nat) (g : GT), rows[i]? = some r → r[j]? = some g → ¬ Fp g b := by
    intro i r j g hr hj
    cases hsep with
    | own _ _ _ s1 s2 s3 => exact s2 i r j g hr hj ⟨b, 0, none⟩ _ _ rfl
  have hcell' : ∀ k, w'.cell? ⟨b, k, none⟩ = vs'[k]? := fun k => by simp [World.cell?, k1]
  have hcell : ∀ k, w.cell? ⟨b, k, none⟩ = vs[k]? := fun k => by simp [World.cell?, e2]
  have hlt : ∀ {i j : Nat}, i < q → j < n → i * n + j < q * n := fun {i j} hi hj => by
    have : (i + 1) * n ≤ q * n := Nat.mul_le_mul_right n hi
    rw [Nat.add_mul] at this; omega
  have hbo : Own A0 G b := .inr ⟨y, _, hg, .inr ⟨0, _, rfl, .own0 _ _ _ _ _⟩⟩
  have hmem' : ∀ A : Nat → Prop, (∀ k, k < w.heap.size → A k → Own A0 G k) → Mem w' A t' := by
    intro A hA
    refine .own n b cap vs' T rows' k1 (by rw [k2, e3]) (by rw [hrl]; exact e4) e5 (by rw [hrl]; exact e6) (fun i r hr => ?_) (fun i r j g hr hj => ?_) (fun i r j g hr hj => ?_)
    · rcases hro hr with ⟨_, h1⟩ | ⟨_, _, hz⟩
      · exact e7 i r h1
      · exact hzrl _ r hz
    · rcases hro hr with ⟨hi, h1⟩ | ⟨hi, hi2, hz⟩
      · have hjn : j < n := by have := (List.getElem?_eq_some_iff.1 hj).1; rw [e7 i r h1] at this; exact this
        rw [hcell', k3 _ (by have := hlt hi hjn; omega), ← hcell]
        exact e8 i r j g h1 hj
      · obtain ⟨av, u, rfl, h2, _⟩ := hzr _ r j g hz hj
        rw [hcell']
        have h3 := k4 _ u h2
        have : q * n + 0 + ((i - q) * n + j) = i * n + j := by
          have : q * n + (i - q) * n = i * n := by rw [← Nat.add_mul]; congr 1; omega
          omega
        rw [this] at h3
        exact h3
    · rcases hro hr with ⟨hi, h1⟩ | ⟨hi, hi2, hz⟩
      · refine (e9 i r j g h1 hj).keep (fun k hk hno => k5 k fun e => ?_) hA (fun k hk => k5 k fun e => ?_)
        · subst e; exact hno hbo
        · subst e; exact hnb i r j g h1 hj hk
      · obtain ⟨av, u, rfl, _, h3, h4⟩ := hzr _ r j g hz hj
        exact .lf _ _ (h3.keep (fun k hk hno => k5 k fun e => hno (e ▸ hbo)) hA) h4
  have hcb : ∀ k, k < w.heap.size → ¬ RFp (⟨none, [.own n (.slice (some ⟨b, 0, none⟩) rows.length cap) rows]⟩ : GR) k → w'.heap[k]? = w.heap[k]? := fun k _ hk => k5 k fun e => hk (by subst e; exact .inr ⟨0, _, rfl, .own0 _ _ _ _ _⟩)
  have hrfp : ∀ k, RFp (⟨none, [t']⟩ : GR) k → RFp (⟨none, [.own n (.slice (some ⟨b, 0, none⟩) rows.length cap) rows]⟩ : GR) k := by
    rintro k (hk | ⟨c, x, hx, hk⟩)
    · cases hk
    · cases c with
      | zero => cases hx; exact .inr ⟨0, _, rfl, hfp k hk⟩
      | succ c => simp at hx
  have her' : t'.er = .own n ((rows.map fun r => r.map GT.er).take q ++ ns) := by
    simp only [t', GT.er, rows', List.map_append, List.map_take]
    rw [← hzer]
  have hown' : ∀ k, k < w.heap.size → Own A0 (Gset G y (some ⟨none, [t']⟩)) k → Own A0 G k := by
    rintro k _ (hk | ⟨z, gz, hz', hk⟩)
    · exact .inl hk
    · by_cases e : z = y
      · subst e; rw [Gset_self] at hz'; cases hz'; exact .inr ⟨z, _, hg, hrfp k hk⟩
      · rw [Gset_ne e] at hz'; exact .inr ⟨z, gz, hz', hk⟩
  have hrowg : ∀ (p : List (Nat × Nat)) (row : List GT) (c : Nat) (gt : GT), gRow [t'] p = some row → row[c]? = some gt → gt.leaf = false → ∃ row0 gt0, gRow [GT.own n (.slice (some ⟨b, 0, none⟩) rows.length cap) rows] p = some row0 ∧ row0[c]? = some gt0 ∧ gt0.leaf = false ∧ gt0.val = gt.val := by
    intro p row c gt hrow hcg hlf
    cases p with
    | nil =>
      cases hrow
      cases c with
      | zero => cases hcg; exact ⟨_, _, rfl, rfl, rfl, by simp only [t', GT.val, hrl]⟩
      | succ c => simp at hcg
    | cons s p =>
      obtain ⟨c0, i⟩ := s
      cases c0 with
      | succ c0 => simp [gRow] at hrow
      | zero =>
        simp only [gRow, List.getElem?_cons_zero, t'] at hrow ⊢
        split at hrow
        · rename_i r hr
          rcases hro hr with ⟨hi, h1⟩ | ⟨hi, hi2, hz⟩
          · rw [h1]; exact ⟨row, gt, hrow, hcg, hlf, rfl⟩
          · cases p with
            | nil =>
              cases hrow
              obtain ⟨av, u, rfl, _⟩ := hzr _ _ c gt hz hcg; cases hlf
            | cons s p =>
              obtain ⟨c1, i1⟩ := s
              simp only [gRow] at hrow
              split at hrow
              · rename_i h5
                obtain ⟨av, u, h6, _⟩ := hzr _ _ c1 _ hz h5; cases h6
              · cases hrow
        · cases hrow
  have hrowb : ∀ (p : List (Nat × Nat)) (s : Nat × Nat), gBase none [t'] p = some s → gBase none [GT.own n (.slice (some ⟨b, 0, none⟩) rows.length cap) rows] p = some s := by
    intro p s hs
    cases p with
    | nil => cases hs
    | cons s0 p =>
      obtain ⟨c0, i⟩ := s0
      cases c0 with
      | succ c0 => simp [gBase] at hs
      | zero =>
        simp only [gBase, List.getElem?_cons_zero, t'] at hs ⊢
        split at hs
        · rename_i r hr
          rcases hro hr with ⟨hi, h1⟩ | ⟨hi, hi2, hz⟩
          · rw [h1]; exact hs
          · rw [List.getElem?_eq_getElem hi2]
            cases p with
            | nil => exact hs
            | cons s1 p =>
              obtain ⟨c1, i1⟩ := s1
              simp only [gBase] at hs
              split at hs
              · rename_i h5
                obtain ⟨av, u, h6, _⟩ := hzr _ _ c1 _ hz h5; cases h6
              · cases hs
        · cases hs
  refine ⟨rows', ?_, hrl⟩
  refine h.turn (r' := ⟨false, [.own n ((rows.map fun r => r.map GT.er).take q ++ ns)]⟩) (g' := ⟨none, [t']⟩) hy hg rfl rfl rfl hcb ⟨k6.1, k6.2.1, k6.2.2.1, Nat.le_of_eq k6.2.2.2⟩ (fun k _ _ e _ => by cases e) hrfp
    ⟨fun c x hx => ?_, ⟨fun c x hx => ?_, fun c x c' x' hx hx' hne => ?_⟩, (fun _ _ e => by cases e), (fun _ _ e => by cases e)⟩ (fun z p c v hr => ?_) (fun z p c v hr => ?_) (fun _ _ => ⟨rfl, fun c av x hav hx => ?_⟩)
  · cases c with
    | zero => cases hx; exact hmem' _ hown'
    | succ c => simp at hx
  · cases c with
    | zero => cases hx; exact hsep'
    | succ c => simp at hx
  · cases c with
    | zero => cases c' with
      | zero => exact absurd rfl hne
      | succ c' => simp at hx'
    | succ c => simp at hx
  · by_cases e : z = y
    · subst e
      intro r1 row1 gt h1 h2 h3 h4
      rw [Gset_self] at h1; cases h1
      obtain ⟨row0, gt0, h5, h6, h7, h8⟩ := hrowg p row1 c gt h2 h3 h4
      rw [← h8]
      exact hr _ row0 gt0 hg h5 h6 h7
    · exact hr.new e
  · by_cases e : z = y
    · subst e
      intro r1 b1 o1 h1 h2
      rw [Gset_self] at h1; cases h1
      exact hr _ b1 o1 hg (hrowb p _ h2)
    · exact hr.new e
  · cases c with
    | zero => cases hav; cases hx; exact .inl ⟨rfl, her'.symm⟩
    | succ c => simp at hx
end
theorem setCells_eq (b o : Nat) : ∀ (us : List Value) (i : Nat) (w : World), setCells b o w i us = w.setCells b (o + i) us
  | [], i, w => rfl
  | u :: us, i, w => (setCells_eq b o us (i + 1) (w.setCell ⟨b, o + i, none⟩ u)).trans (by rw [show o + (i + 1) = o + i + 1 by omega]; rfl)
theorem setCells_app (b : Nat) : ∀ (us us' : List Value) (o : Nat) (w : World), w.setCells b o (us ++ us') = (w.setCells b o us).setCells b (o + us.length) us'
  | [], us', o, w => rfl
  | u :: us, us', o, w => (setCells_app b us us' (o + 1) (w.setCell ⟨b, o, none⟩ u)).trans (by rw [show o + 1 + us.length = o + (u :: us).length by simp; omega]; rfl)
theorem GCall.delete {P : Program} {up : Bool} {f : FuncId} {m i : Nat} {rows : List (List AV)} {zl : List AV} {z : List Value} (hf : Callable P f) (hm : 0 < m) (hi : i < rows.length) (hpl : ∀ r ∈ rows, ∀ a ∈ r, a.tree = false) (hz : ZeroOK zl z) (hzl : zl.length = m)
    (hc : ∀ (b cap : Nat) (w : World) (vs : Array Value) (T : TypeId) (news : List Value), w.heap[b]? = some (.cells vs T (0, 0)) → vs.size = cap * m → rows.length ≤ cap → cap ≤ maxLen → news.length = (rows.length - (i + 1)) * m → (∀ (j : Nat) (u : Value), news[j]? = some u → w.cell? ⟨b, (i + 1) * m + j, none⟩ = some u) → (∀ u ∈ news, u.oneCell' = true) →
      Calls P f #[.slice (some ⟨b, 0, none⟩) rows.length cap, .int .i64 (i : Int), .int .i64 ((i : Int) + 1)] w (fun e w' => e = .returned (.slice (some ⟨b, 0, none⟩) (rows.length - 1) cap) ∧ w' = setCells b (i * m) w.drew 0 (news ++ z))) :
    GCall P up f [.ref 0 [] 0, .int .i64 (i : Int), .int .i64 ((i : Int) + 1)] 1 [(0, ⟨false, [.own m rows]⟩)] (fun r σ' => r = .ref 1 [] 0 ∧ σ'.n = 2 ∧ σ'.s = [(1, ⟨false, [.own m (rows.eraseIdx i)]⟩)]) := by
  refine ⟨hf, fun w A G vs hA hinv hvl hrel => ?_⟩
  have hH : Holds A (GFp G) w 0 { n := 1, t := [], s := [(0, ⟨false, [.own m rows]⟩)] } ⟨#[], []⟩ w G := ⟨hinv, rfl, rfl, fun i hi => by omega, fun i _ => rfl, ⟨rfl, rfl, rfl, Nat.le_refl _, fun _ _ _ => rfl⟩, fun b hb => .inl hb, hA⟩
  have hd := hH.drew
  obtain ⟨b, cap, vs0, T, r1, r2, r3, r4, r5, r6, r7, r8⟩ := hd.refill (y := 0) (n := m) (q := i) (es := rows) rfl hi
  obtain ⟨v0, v1, v2, rfl⟩ : ∃ v0 v1 v2, vs = [v0, v1, v2] := by
    match vs, hvl with
    | [a, b, c], _ => exact ⟨a, b, c, rfl⟩
  have h0 := r3 v0 (hrel 0 _ rfl).ref_inv.2.2
  have h1 : v1 = .int .i64 (i : Int) := (hrel 1 _ rfl).int_inv
  have h2 : v2 = .int .i64 ((i : Int) + 1) := (hrel 2 _ rfl).int_inv
  subst h0 h1 h2
  have hcellD : ∀ ad, w.drew.cell? ad = w.cell? ad := fun _ => rfl
  let news : List Value := (List.range ((rows.length - (i + 1)) * m)).map fun k => rdw w b ((i + 1) * m + k)
  have hnl : news.length = (rows.length - (i + 1)) * m := by simp [news]
  have hat : ∀ (ii : Nat) (r : List AV) (j : Nat) (av : AV), rows[i + 1 + ii]? = some r → r[j]? = some av → ∃ u, news[ii * m + j]? = some u ∧ w.cell? ⟨b, (i + 1) * m + (ii * m + j), none⟩ = some u ∧ FR w.drew (Own A G) av u ∧ u.oneCell' = true := by
    intro ii r j av hr hj
    have hl1 := (List.getElem?_eq_some_iff.1 hr).1
    have hl2 := (List.getElem?_eq_some_iff.1 hj).1
    rw [r6 _ r hr] at hl2
    obtain ⟨u, k1, k2, k3⟩ := r7 (i + 1 + ii) r j av hr hj (hpl r (List.mem_of_getElem? hr) av (List.mem_of_getElem? hj))
    have e : (i + 1 + ii) * m + j = (i + 1) * m + (ii * m + j) := by rw [Nat.add_mul (i + 1) ii]; omega
    rw [e] at k1
    have hlt : ii * m + j < (rows.length - (i + 1)) * m := by
      have : (ii + 1) * m ≤ (rows.length - (i + 1)) * m := Nat.mul_le_mul_right m (by omega)
      rw [Nat.add_mul] at this; omega
    refine ⟨u, ?_, k1, k2, k3⟩
    simp only [news, List.getElem?_map, List.getElem?_range hlt, Option.map_some, rdw]
    rw [show w.cell? ⟨b, (i + 1) * m + (ii * m + j), none⟩ = some u from k1]
    rfl
  have hall : ∀ (k : Nat) (u : Value), news[k]? = some u → w.cell? ⟨b, (i + 1) * m + k, none⟩ = some u ∧ u.oneCell' = true := by
    intro k u hu
    have hk : k < (rows.length - (i + 1)) * m := by have := (List.getElem?_eq_some_iff.1 hu).1; rw [hnl] at this; exact this
    obtain ⟨d1, d2, d3⟩ := divmod hm hk
    have hr : rows[i + 1 + k / m]? = some (rows[i + 1 + k / m]'(by omega)) := List.getElem?_eq_getElem _
    have hj := List.getElem?_eq_getElem (l := rows[i + 1 + k / m]'(by omega)) (i := k % m) (by rw [r6 _ _ hr]; exact d2)
    obtain ⟨u', k1, k2, _, k4⟩ := hat (k / m) _ (k % m) _ hr hj
    rw [d3] at k1 k2
    rw [k1] at hu; cases hu
    exact ⟨k2, k4⟩
  have hzlen : z.length = m := by rw [← hz.1, hzl]
  have hcalls := hc b cap w vs0 T news r4 r5 r1 r2 hnl (fun j u hu => (hall j u hu).1) (fun u hu => by
    obtain ⟨k, hk⟩ := List.getElem?_of_mem hu
    exact (hall k u hk).2)
  obtain ⟨rows', hH', hl'⟩ := r8 (rows.drop (i + 1) ++ [zl]) (news ++ z) (by simp; omega) (fun ii r hr => by
      rw [List.getElem?_append] at hr
      split at hr
      · rw [List.getElem?_drop] at hr; exact r6 _ r hr
      · rename_i hge
        cases hk : ii - (rows.drop (i + 1)).length with
        | zero => rw [hk] at hr; cases hr; exact hzl
        | succ k => rw [hk] at hr; simp at hr) (by
      rw [List.length_append, hnl, hzlen]
      have : (rows.length - (i + 1)) * m + m = (rows.length - (i + 1) + 1) * m := by rw [Nat.add_mul, Nat.one_mul]
      rw [this]; congr 1; omega) (fun ii r j av hr hj => by
      rw [List.getElem?_append] at hr
      split at hr
      · rw [List.getElem?_drop] at hr
        obtain ⟨u, k1, k2, k3, k4⟩ := hat ii r j av hr hj
        have hlt := (List.getElem?_eq_some_iff.1 k1).1
        exact ⟨u, by rw [List.getElem?_append_left hlt]; exact k1, k3, k4⟩
      · rename_i hge
        cases hk : ii - (rows.drop (i + 1)).length with
        | zero =>
          rw [hk] at hr; cases hr
          have hii : ii = rows.length - (i + 1) := by
            have hl := (List.getElem?_eq_some_iff.1 hj).1
            simp at hge hk; omega
          have hjl : j < z.length := by have := (List.getElem?_eq_some_iff.1 hj).1; rw [hzlen]; rw [hzl] at this; exact this
          obtain ⟨q1, q2⟩ := hz.2 j av z[j] hj (List.getElem?_eq_getElem hjl)
          refine ⟨z[j], ?_, q1 _ _, q2⟩
          rw [List.getElem?_append_right (by rw [hnl, hii]; omega), hnl, hii, Nat.add_sub_cancel_left]
          exact List.getElem?_eq_getElem hjl
        | succ k => rw [hk] at hr; simp at hr)
  generalize hw1 : setCells b (i * m) w.drew 0 (news ++ z) = w1 at hH' hcalls
  refine hcalls.mono fun e w' he => ?_
  obtain ⟨rfl, rfl⟩ := he
  -- what is cut
  let v0 : Value := .slice (some ⟨b, 0, none⟩) rows'.length cap
  obtain ⟨r, row, g, grow, t', g1, g2, g3, g4, g5, g6, g7, g8, g9, g10, g11, g12⟩ := hH'.tree (x := 0) (p := []) (c := 0) (av := .own m (rows.take i ++ (rows.drop (i + 1) ++ [zl]))) (by simp [cellAtB, getS, updS, rowOf]) rfl
  rw [Gset_self] at g4; cases g4
  cases g5; cases g6
  have hsub : ∀ {k : Nat} {r : List GT}, (rows'.take (rows.length - 1))[k]? = some r → rows'[k]? = some r := fun {k r} hr => by
    rw [List.getElem?_take] at hr
    split at hr
    · exact hr
    · cases hr
  have hlen : (rows'.take (rows.length - 1)).length = rows.length - 1 := by simp; omega
  let v : Value := .slice (some ⟨b, 0, none⟩) (rows'.take (rows.length - 1)).length cap
  have hfp : ∀ k, Fp (.own m v (rows'.take (rows.length - 1))) k → Fp (.own m v0 rows') k := by
    intro k hk
    change Fp (GT.own m (.slice (some ⟨b, 0, none⟩) (rows'.take (rows.length - 1)).length cap) (rows'.take (rows.length - 1))) k at hk
    cases hk with
    | own0 _ ad l c => exact .own0 _ _ _ _ _
    | own _ _ _ i r jj g k hr hj hg => exact .own _ _ _ i r jj g k (hsub hr) hj hg
  have hmem : ∀ A', (∀ k, k < w'.heap.size → A' k → Own A (Gset G 0 (some ⟨none, [.own m v0 rows']⟩)) k) → Mem w' A' (.own m v (rows'.take (rows.length - 1))) := by
    intro A' hA'
    rcases g9.own_inv with ⟨h, _⟩ | ⟨b', cap', vs', T', e1, e2, e3, e4, e5, e6, e7, e8, e9⟩
    · cases h
    · cases e1
      exact .own _ b cap vs' T' _ e2 e3 (by rw [hlen]; omega) e5 (by rw [hlen]; omega) (fun i r hr => e7 i r (hsub hr)) (fun i r jj g hr hj => e8 i r jj g (hsub hr) hj) (fun i r jj g hr hj => (e9 i r jj g (hsub hr) hj).keep (fun _ _ _ => rfl) hA' (fun _ _ => rfl))
  have hsep : Sep (.own m v (rows'.take (rows.length - 1))) := by
    cases g10 with
    | own _ _ _ s1 s2 s3 =>
      exact .own _ _ _ (fun i r jj g hr hj => s1 i r jj g (hsub hr) hj) (fun i r jj g hr hj ad l c e => by change Value.slice (some ⟨b, 0, none⟩) _ cap = _ at e; cases e; exact s2 i r jj g (hsub hr) hj ⟨b, 0, none⟩ rows'.length cap rfl) (fun i r jj g i' r' j' g' hr hj hr' hj' => s3 i r jj g i' r' j' g' (hsub hr) hj (hsub hr') hj')
  have hy : getS (updS [((0 : Nat), (⟨false, [.own m rows]⟩ : Root))] 0 ⟨false, [.own m (rows.take i ++ (rows.drop (i + 1) ++ [zl]))]⟩) 0 = some ⟨false, [.own m (rows.take i ++ (rows.drop (i + 1) ++ [zl]))]⟩ := by simp [getS, updS]
  have hH2 := (hH'.consume (N := 1) (t := .own m v (rows'.take (rows.length - 1))) (w' := w') (Nat.le_refl _) hy (p := []) (j := 0) (row := [.own m (rows.take i ++ (rows.drop (i + 1) ++ [zl]))]) rfl (Gset_self _ _ _) rfl rfl (fun _ _ _ => rfl) ⟨rfl, rfl, rfl, Nat.le_refl _⟩ rfl hsep (fun k hk => .inl (hfp k hk)) hmem).drop 0
  have her : (GT.own m v (rows'.take (rows.length - 1))).er = .own m (rows.eraseIdx i) := by
    have h3 : rows'.map (fun r => r.map GT.er) = rows.take i ++ (rows.drop (i + 1) ++ [zl]) := by
      simp only [GT.er, AV.own.injEq, true_and] at g8
      exact g8
    simp only [GT.er, List.map_take]
    rw [h3, ← List.append_assoc, List.take_left' (by simp; omega), List.eraseIdx_eq_take_drop_succ]
  rw [her] at hH2
  have hH3 := hH2.ext (σ' := { n := 2, t := [], s := [(1, ⟨false, [.own m (rows.eraseIdx i)]⟩)] }) rfl (fun _ => rfl) (fun z => by
    rcases z with _ | _ | z <;> first | rfl | simp [getS, delS, updS])
  have hval : (Value.slice (some ⟨b, 0, none⟩) (rows.length - 1) cap) = (GT.own m v (rows'.take (rows.length - 1))).val := by simp only [GT.val, v, hlen]
  refine ⟨{ n := 2, t := [], s := [(1, ⟨false, [.own m (rows.eraseIdx i)]⟩)] }, _, .ref 1 [] 0, ⟨rfl, rfl, rfl⟩, hH3.inv, .ref _ _ _ _ (by simp) rfl (fun r1 row1 g1 hr1 hp1 hc1 hl1 => ?_), hH3.fr, hH3.own, fun x g g' hx _ hg' => ?_, fun x hx => by cases hx⟩
  · rw [Gset_ne (by decide), Gset_self] at hr1; cases hr1
    cases hp1; cases hc1
    exact hval
  · have : x = 0 := by omega
    subst this
    rw [Gset_self] at hg'; cases hg'
theorem Sh.outP {σ τ : St} (i x : Nat) (p : List (Nat × Nat)) (c : Nat) {n : Nat} {rows : List (List AV)} (hi : getT σ.t i = .ref x p c) (hc : cellAtB σ x p c = .own n rows)
    (he : { n := σ.n + 1, t := (i, .ref σ.n [] 0) :: σ.t, s := (σ.n, ⟨false, [.own n rows]⟩) :: (match getS σ.s x with
      | some r => updS σ.s x { r with cells := putAt r.cells p c .undef }
      | none => σ.s) } = τ) : Sh σ τ := by
  intro A0 D0 w0 nt a w G h
  subst he
  obtain ⟨r, row, g, grow, t, k1, k2, k3, k4, k5, k6, k7, k8, k9, k10, k11, k12⟩ := h.tree hc rfl
  obtain ⟨v, q1, q2⟩ := h.slot (t := i) (by rw [hi]; simp)
  rw [hi] at q2
  obtain ⟨_, e2, e3⟩ := q2.ref_inv
  have hv := k11 v e3
  have h2 := h.consume (N := σ.n) (t := t) (w' := w) (Nat.le_refl _) k1 k2 k4 k5 k6 (fun _ _ _ => rfl) ⟨rfl, rfl, rfl, Nat.le_refl _⟩ k7 k10 (fun k hk => .inl hk) (fun A hA => k9.keep (fun _ _ _ => rfl) hA (fun _ _ => rfl))
  rw [k8] at h2
  simp only [k1]
  refine ⟨_, h2.inv, h2.size, h2.defers, fun j hj => ?_, fun j hj => ?_, h2.fr, h2.own, h2.a0lt⟩
  · simp only [getT]
    split
    · rename_i e; subst e
      rw [Array.getD_eq_getD_getElem?, q1]
      refine .ref _ _ _ _ (by simp) (by rw [hv]; exact k9.oneCell) fun r1 row1 g1 hr1 hp1 hc1 hl1 => ?_
      rw [Gset_self] at hr1; cases hr1
      cases hp1; cases hc1
      exact hv
    · exact h2.tmp j hj
  · simp only [getT]
    have : i ≠ j := fun e => by subst e; have := h.far i hj; rw [hi] at this; cases this
    rw [if_neg this]
    exact h2.far j hj
theorem GCall.told0 {P : Program} {up : Bool} {f : FuncId} {args : List AV} {Post Post' : AV → St → Prop} (h : GCall P up f args 0 [] Post) (hp : ∀ r σ', Post r σ' → ∃ τ, Sh { n := σ'.n, t := [(0, r)], s := σ'.s } τ ∧ Post' (getT τ.t 0) τ) : GCall P up f args 0 [] Post' := by
  refine ⟨h.1, fun w A G vs hA hinv hvl hrel => (h.2 w A G vs hA hinv hvl hrel).mono fun e w' he => ?_⟩
  cases e with
  | returned v =>
    obtain ⟨σ', G', r, k1, k2, k3, k4, k5, k6, k7⟩ := he
    obtain ⟨τ, q1, q2⟩ := hp r σ' k1
    have hH : Holds A (GFp G) w 1 { n := σ'.n, t := [(0, r)], s := σ'.s } ⟨#[v], []⟩ w' G' := by
      refine ⟨k2, rfl, rfl, fun i hi => ?_, fun i hi => ?_, k4, k5, hA⟩
      · have : i = 0 := by omega
        subst this
        exact k3
      · have : ¬ (0 = i) := by omega
        simp [getT, this]
    obtain ⟨G2, h2⟩ := q1 A (GFp G) w 1 _ w' G' hH
    refine ⟨τ, G2, getT τ.t 0, q2, h2.inv, h2.tmp 0 (by decide), h2.fr, h2.own, fun x g g' hx => absurd hx (Nat.not_lt_zero x), fun x hx => by cases hx⟩
  | panicked c => exact he
  | outgrown => exact he
theorem GCall.mono {P : Program} {up : Bool} {f : FuncId} {args : List AV} {n : Nat} {s : List (Nat × Root)} {Post Post' : AV → St → Prop} (h : GCall P up f args n s Post) (hp : ∀ r σ', Post r σ' → Post' r σ') : GCall P up f args n s Post' := by
  refine ⟨h.1, fun w A G vs hA hinv hvl hrel => (h.2 w A G vs hA hinv hvl hrel).mono fun e w' he => ?_⟩
  cases e with
  | returned v =>
    obtain ⟨σ', G', r, k1, k⟩ := he
    exact ⟨σ', G', r, hp r σ' k1, k⟩
  | panicked c => exact he
  | outgrown => exact he
section
variable {P : Program} {TT : TTab} {up : Bool} {all : Array Oper} {σ0 : St} {K : List (Nat × AV) → Option Root → Prop}
theorem Seg.callNA {os : List Oper} {t : List (Nat × AV)} {d : Option Tmp} {ty : TypeId} {pos : String} {af : Array Edge} {gd : Option (Nat × Bool)} {x : Operand} {xs : Array Operand} {ts : Array TypeId} {f : FuncId} {first caps args : List AV} {m : Nat} {rows : List (List AV)}
    (hp : GCall P up f args 0 [] (fun r σ' => r = .agg [.ref 0 [] 0] ∧ σ'.n = 1 ∧ σ'.s = [(0, ⟨false, [.own m rows]⟩)])) (hw : wantd all { σ0 with t := t } ⟨d, .call ⟨.value x, xs, ts⟩, ty, pos, af, gd⟩ = some true) (hx : ev { σ0 with t := t } x = .func (.func f) first caps)
    (ha : SubL (mName [] 0) 0 args (callL { σ0 with t := t } first xs.toList caps))
    (hk : Seg P up all σ0 os (putT t d (.agg [.ref σ0.n [] 0])) (some ⟨false, [.own m rows]⟩) K) : Seg P up all σ0 (⟨d, .call ⟨.value x, xs, ts⟩, ty, pos, af, gd⟩ :: os) t none K := by
  refine ⟨t, .agg [.ref σ0.n [] 0], some ⟨false, [.own m rows]⟩, fun _ => rfl, ⟨fun h => (by cases h), ?_⟩, .inr rfl, hk⟩
  intro σ' hl he hn
  have hn := hn rfl
  refine .inl ⟨by rw [wantd_congr (τ := { σ0 with t := t }) hl]; exact hw, ?_⟩
  have hev : ∀ y ∈ (Op.call ⟨.value x, xs, ts⟩).operands, ev σ' y = ev { σ0 with t := t } y := fun y hy => looks_ops (τ := { σ0 with t := t }) hl hy
  have hc : callL σ' first xs.toList caps = callL { σ0 with t := t } first xs.toList caps := callL_ev fun y hy => hev y (by simp [Op.operands, Call.operands]; right; simpa using hy)
  have hx' : ev σ' x = .func (.func f) first caps := by rw [hev x (by simp [Op.operands, Call.operands])]; exact hx
  refine snd_gcall [] rfl hx' hp List.nodup_nil (by simp [AllS]) (by simp [Names]) (fun y hy => by cases hy) (fun x hx => by cases hx) (by rw [hc]; exact ha) fun r σ'' hr => ?_
  obtain ⟨n'', t'', s''⟩ := σ''
  obtain ⟨rfl, h2, h3⟩ := hr
  simp only at h2 h3
  subst h2 h3
  rw [aft_nil]
  simp [newR, ren, mName, hn]
end
end Go.Ab
namespace Go.Ab
open Go Go.RowKit
section
variable {P : Program} {TT : TTab} {up : Bool} {np nt : Nat} {σ : St} {Q : Exit → St → Prop} {all : Array Oper} {os : List Oper} {K : St → Prop}
theorem CWops.rn (htt : TTok P TT) (n : Nat) {os' : List Oper} {σ' : St} {ob : Prop} (hk : CWops P up nt all os' σ' K)
    (h : runS TT all n os σ True = ⟨os', σ', ob⟩ := by simp only [go_sem, simprocAttr]; exact rfl)
    (hob : ob := by simp [go_sem]) : CWops P up nt all os σ K := CWops.run htt n h hob hk
theorem CW.rg {id : Nat} {ops : Array Oper} (h : CWops P up nt ops ops.toList σ (Q .normal)) (hd : okDst nt ops.toList = true := by kernel_rfl) (hk : keepDst np ops.toList = true := by kernel_rfl) : CW P up np nt (.region id ops false) σ Q := CW.region hd hk h
end
end Go.Ab
namespace Go.Ab
open Go Go.RowKit
section
variable {P : Program} {up : Bool} {np nt : Nat} {σ : St} {Q : Exit → St → Prop}
theorem CW.cd {c : Operand} {x y : Code} {b : Bool} (h1 : b = true → CW P up np nt x σ Q) (h2 : b = false → CW P up np nt y σ Q) (hc : ev σ c = .bool b := by simp only [go_sem, simprocAttr] <;> exact rfl) : CW P up np nt (.cond c x y) σ Q := CW.cond hc h1 h2
end
theorem retQ.rt {TT : TTab} {rs : List ResultVar} {R : AV → Prop} {σ : St} {l : List AV} {r : AV} (h1 : resL TT σ rs = some l) (h3 : ∃ r', leP r' r ∧ R r') (h2 : view 9 σ (one l) = r := by simp only [go_sem, simprocAttr]; exact rfl) : retQ TT rs R .ret σ := retQ.ret h1 h2 h3
end Go.Ab
namespace Go.Ab
open Go Go.RowKit
section
variable {P : Program} {TT : TTab} {up : Bool} {o : Oper} {σ : St} {K : St → Prop}
theorem snd_makeSlice {t e : Nat} {x y : Operand} {i j : TI} {n : Nat} (ho : o.op = .makeSlice t x y) (htt : TTok P TT) (ht : TT t = some i) (hi : i.kind = .slice e) (he : TT e = some j) (hsz : 0 < j.size) (hzl : j.zero.length = j.size)
    (hx : ev σ x = .int .i64 (n : Int)) (hy : ev σ y = .int .i64 (n : Int)) (hnM : n ≤ MX) (hb : j.bytes * n ≤ MX)
    (hk : K (St.put { n := σ.n + 1, t := σ.t, s := (σ.n, ⟨false, [.own j.size (List.replicate n j.zero)]⟩) :: σ.s } o.dst (.ref σ.n [] 0))) : Snd P o σ K := by
  intro A0 D0 w0 nt a w G Q hd h
  have hkd := (htt t i ht).kind
  rw [hi] at hkd
  have hkd : P.underlying t = some (.slice e) := hkd
  obtain ⟨inf, zz, i1, i2, i3, i4, i5, _, _⟩ := (htt e j he).info
  obtain ⟨z, z1, z2, z3, z4⟩ := (htt e j he).run_zero w
  have hz0 := zeros_ok (w := w) (A := Own A0 G) z2 n
  rw [hzl] at hz0
  have hC' : ((Array.range (n * j.size)).map fun i => z.cells[i % z.cells.size]!).size = n * j.size := by simp
  obtain ⟨gs, g1, g2, g3, g4, g5⟩ := rows_tree (w := w) (T := e) (cap := n) (C' := (Array.range (n * j.size)).map fun i => z.cells[i % z.cells.size]!) (by simpa using hz0) (by rw [hC']) (fun q _ => rfl) (by simp) (by unfold maxLen; unfold MX at hnM; omega) (by simp; exact hnM)
  obtain ⟨G', k1, k2⟩ := h.newDet (.own j.size (.slice (some ⟨w.heap.size, 0, none⟩) (List.replicate n j.zero).length n) gs) (w' := w.alloc (.cells ((Array.range (n * j.size)).map fun i => z.cells[i % z.cells.size]!) e)) (fun b hb => Below.heap_alloc w _ b hb) ⟨rfl, rfl, rfl, by simp⟩ rfl g3 (fun k hk => by rw [g4 k hk]; omega) g5
  simp only [GT.er, g1] at k1
  refine wp_value (v := .slice (some ⟨w.heap.size, 0, none⟩) n n) (w' := w.alloc (.cells ((Array.range (n * j.size)).map fun i => z.cells[i % z.cells.size]!) e)) ?_ ⟨_, G', k1.put (by simpa [GT.val] using k2) hd, hk⟩
  have hxv := h.ev x
  rw [hx] at hxv
  have hxv := hxv.int_inv
  have hyv := h.ev y
  rw [hy] at hyv
  have hyv := hyv.int_inv
  have hM : (MX : Int) = 140737488355328 := rfl
  have hw : IntKind.i64.wrap (n : Int) = (n : Int) := by
    simp only [IntKind.wrap, IntKind.bits, IntKind.signed]
    simp
    omega
  have hb2 : inf.bytes * n ≤ 140737488355328 := by rw [i3]; exact hb
  have hb3 : ¬ ((inf.bytes : Int) * (n : Int) > 2 ^ 48) := by
    have h9 : (inf.bytes : Int) * (n : Int) = ((inf.bytes * n : Nat) : Int) := (Int.natCast_mul _ _).symm
    rw [h9]
    generalize inf.bytes * n = m at hb2
    omega
  have hroom : ¬ (n * inf.bytes > roomBytes) := by
    rw [Nat.mul_comm]; unfold roomBytes; omega
  have hti : ∀ w, (typeInfo e).run P w = .ok inf w := fun w => run_typeInfo w i1
  have c1 : ¬ ((n : Int) < 0) := by omega
  have c2 : ¬ ((n : Int) > (n : Int)) := by omega
  by_cases hnz : n * j.size = 0
  · have hmap : ∀ (f g : Nat → Value), (Array.range (n * j.size)).map f = (Array.range (n * j.size)).map g := fun f g => by rw [hnz]; simp
    rw [hmap _ (fun x => (#[] : Array Value)[x % (#[] : Array Value).size]!)]
    simp only [execOp, ho, hxv, hyv, Instr.makeSlice, Sem.run_bind, run_underlying hkd, Result.andThen_ok, asInt, asIntOf_int, Sem.run_pure, hti, hw, c1, c2, hb3, decide_false, decide_true, Bool.or_false, Bool.false_or, Bool.false_eq_true, if_false, Int.toNat_natCast, askRoom, hroom, (htt e j he).run_size, newRow, run_newObj]
    rw [if_pos hnz]
    simp only [Sem.run_pure, Result.andThen_ok, newRow, Sem.run_bind, run_newObj]
    rfl
  · simp only [execOp, ho, hxv, hyv, Instr.makeSlice, Sem.run_bind, run_underlying hkd, Result.andThen_ok, asInt, asIntOf_int, Sem.run_pure, hti, hw, c1, c2, hb3, decide_false, decide_true, Bool.or_false, Bool.false_or, Bool.false_eq_true, if_false, Int.toNat_natCast, askRoom, hroom, (htt e j he).run_size, newRow, run_newObj, hnz, z1]
    rfl
theorem CWops.makeSlice {nt : Nat} {all : Array Oper} {os : List Oper} {d : Option Tmp} {ty : TypeId} {ps : String} {af : Array Edge} {gd : Option (Nat × Bool)} {t e : Nat} {x y : Operand} {i j : TI} {n : Nat} (htt : TTok P TT)
    (hw : wantd all σ ⟨d, .makeSlice t x y, ty, ps, af, gd⟩ = some true) (ht : TT t = some i) (hi : i.kind = .slice e) (he : TT e = some j) (hsz : 0 < j.size) (hzl : j.zero.length = j.size)
    (hx : ev σ x = .int .i64 (n : Int)) (hy : ev σ y = .int .i64 (n : Int)) (hnM : n ≤ MX) (hb : j.bytes * n ≤ MX)
    (hk : CWops P up nt all os (St.put { n := σ.n + 1, t := σ.t, s := (σ.n, ⟨false, [.own j.size (List.replicate n j.zero)]⟩) :: σ.s } d (.ref σ.n [] 0)) K) : CWops P up nt all (⟨d, .makeSlice t x y, ty, ps, af, gd⟩ :: os) σ K :=
  CWops.step hw (Snd.up (snd_makeSlice rfl htt ht hi he hsz hzl hx hy hnM hb hk))
end
end Go.Ab
namespace Go.Ab
open Go Go.RowKit
section
variable {P : Program} {TT : TTab} {up : Bool} {nt : Nat} {all : Array Oper} {os : List Oper} {o : Oper} {σ : St} {K : St → Prop} {X : List PanicEntry → St → Prop}
def CWopsX (P : Program) (up : Bool) (nt : Nat) (all : Array Oper) (os : List Oper) (σ : St) (K : St → Prop) (X : List PanicEntry → St → Prop) : Prop :=
  okDst nt os = true → ∀ (A0 D0 : Nat → Prop) (w0 : World) (a : Act) (w : World) (G : Nat → Option GR) (Q : Exit → Act → World → Prop), (up = true → LetsOut Q) → Holds A0 D0 w0 nt σ a w G →
    (∀ a w σ' G', Holds A0 D0 w0 nt σ' a w G' → K σ' → Q .normal a w) → (∀ a w σ' G' c, Holds A0 D0 w0 nt σ' a w G' → X c σ' → Q (.panic c) a w) → wpList P all Q os a w
theorem CWopsX.of (h : CWops P up nt all os σ K) : CWopsX P up nt all os σ K X := fun hd A0 D0 w0 a w G Q hu hh hq _ => h hd A0 D0 w0 a w G Q hu hh hq
theorem CWopsX.done (h : K σ) : CWopsX P up nt all [] σ K X := .of (.done h)
theorem CWopsX.step (hw : wantd all σ o = some true) (h : SndU P up o σ (fun σ' => CWopsX P up nt all os σ' K X)) : CWopsX P up nt all (o :: os) σ K X := by
  intro hd A0 D0 w0 a w G Q hu hh hq hx
  obtain ⟨hd1, hd2⟩ := okDst_cons hd
  rw [wpList_cons, wantd_spec hh hw, if_pos rfl]
  rcases h A0 D0 w0 nt a w G Q hd1 hu hh with h1 | h1
  · exact .inl (Oper.wp_mono (fun a w ⟨σ', G', h1, h2⟩ => h2 hd2 A0 D0 w0 a w G' Q hu h1 hq hx) h1)
  · exact .inr h1
theorem CWopsX.skip (hw : wantd all σ o = some false) (h : CWopsX P up nt all os (σ.put o.dst (.tup [])) K X) : CWopsX P up nt all (o :: os) σ K X := by
  intro hd A0 D0 w0 a w G Q hu hh hq hx
  obtain ⟨hd1, hd2⟩ := okDst_cons hd
  rw [wpList_cons, wantd_spec hh hw, if_neg (by simp)]
  exact h hd2 A0 D0 w0 _ w G Q hu (hh.put (.fr _ _ (.tup [] [] rfl (fun i a h => by simp at h))) hd1) hq hx
theorem CWopsX.runs (htt : TTok P TT) : ∀ (n : Nat) {os : List Oper} {σ : St} {ob : Prop} {r : Stop}, runS TT all n os σ ob = r → (r.ob → ob) ∧ (r.ob → CWopsX P up nt all r.os r.σ K X → CWopsX P up nt all os σ K X)
  | 0, os, σ, ob, r, h => by subst h; exact ⟨id, fun _ h => h⟩
  | n + 1, [], σ, ob, r, h => by subst h; exact ⟨id, fun _ h => h⟩
  | n + 1, o :: os, σ, ob, r, h => by
    simp only [runS] at h
    split at h
    · rename_i e he
      obtain ⟨h1, h2⟩ := CWopsX.runs htt n h
      refine ⟨fun hr => (h1 hr).1, fun hr hk => ?_⟩
      have hob := (h1 hr).2
      have hk := h2 hr hk
      unfold runStep at he
      split at he
      · rename_i hw
        refine CWopsX.step hw (Snd.up ?_)
        have hs := eop_sound htt he hob
        intro A0 D0 w0 nt a w G Q hd hh
        exact Oper.wp_mono (fun a w ⟨σ', G', g1, g2⟩ => ⟨σ', G', g1, by subst g2; exact hk⟩) (hs A0 D0 w0 nt a w G Q hd hh)
      · rename_i hw
        cases he
        exact CWopsX.skip hw hk
      · cases he
    · subst h; exact ⟨id, fun _ h => h⟩
theorem CWopsX.run (htt : TTok P TT) (n : Nat) {os' : List Oper} {σ' : St} {ob : Prop} (h : runS TT all n os σ True = ⟨os', σ', ob⟩) (hob : ob) (hk : CWopsX P up nt all os' σ' K X) : CWopsX P up nt all os σ K X :=
  (CWopsX.runs htt n h).2 hob hk
def PE (E : Value → Prop) (c : List PanicEntry) : Prop := ∃ v, E v ∧ c = [{ v, recovered := false }]
def EndsP (up : Bool) (w : World) (A : Nat → Prop) (R : AV → Prop) (E : Value → Prop) : Ending → World → Prop
  | .returned v, w' => ∃ r, R r ∧ FR w' A r v ∧ Fr (fun _ => False) w w'
  | .panicked c, w' => PE E c ∧ Fr (fun _ => False) w w'
  | .outgrown, _ => up = true
def PCallP (P : Program) (up : Bool) (f : FuncId) (args : List AV) (R : AV → Prop) (E : Value → Prop) : Prop :=
  Callable P f ∧ ∀ (w : World) (A : Nat → Prop) (vs : List Value), (∀ b, A b → b < w.heap.size) → vs.length = args.length → (∀ (i : Nat) (a : AV), args[i]? = some a → FR w A a (vs.getD i undef)) →
    Calls P f vs.toArray w (EndsP up w A R E)
theorem PCall.toP {f : FuncId} {args : List AV} {R : AV → Prop} {E : Value → Prop} (h : PCall P up f args R) : PCallP P up f args R E :=
  ⟨h.1, fun w A vs h1 h2 h3 => (h.2 w A vs h1 h2 h3).mono fun e w' k => by
    cases e with
    | returned v => exact k
    | panicked c => exact k.elim
    | outgrown => exact k⟩
theorem CWopsX.callP {d : Option Tmp} {ty : TypeId} {pos : String} {af : Array Edge} {gd : Option (Nat × Bool)} {x : Operand} {xs : Array Operand} {ts : Array TypeId} {f : FuncId} {first caps args : List AV} {R : AV → Prop} {E : Value → Prop}
    (hp : PCallP P up f args R E) (hw : wantd all σ ⟨d, .call ⟨.value x, xs, ts⟩, ty, pos, af, gd⟩ = some true) (hx : ev σ x = .func (.func f) first caps)
    (ha : leL args ((callL σ first xs.toList caps).map (view 9 σ))) (hX : ∀ c, PE E c → X c σ) (hk : ∀ r, R r → r.flat = true ∧ CWopsX P up nt all os (σ.put d r) K X) : CWopsX P up nt all (⟨d, .call ⟨.value x, xs, ts⟩, ty, pos, af, gd⟩ :: os) σ K X := by
  intro hd A0 D0 w0 a w G Q hu h hq hxx
  obtain ⟨hd1, hd2⟩ := okDst_cons hd
  rw [wpList_cons, wantd_spec h hw, if_pos rfl]
  left
  obtain ⟨us, vs, e1, e2, e3⟩ := h.callArgs hx xs.toList
  obtain ⟨f1, f2⟩ := leL_fr (w := w) (A := A0) (vs := us ++ xs.toList.map a.eval ++ vs) ha (by simpa using e2) (fun i b hi => by
    simp only [List.getElem?_map, Option.map_eq_some_iff] at hi
    obtain ⟨b', hb', rfl⟩ := hi
    exact h.view 9 b' _ (e3 i b' hb'))
  have hc := hp.2 w A0 (us ++ xs.toList.map a.eval ++ vs) (fun b hb => Nat.lt_of_lt_of_le (h.a0lt b hb) h.fr.size) f1 f2
  simp only [Oper.wp, run_enter hp.1 (o := ⟨d, .call ⟨.value x, xs, ts⟩, ty, pos, af, gd⟩) rfl e1, Oper.upon]
  refine hc.mono fun e w' he => ?_
  cases e with
  | returned v =>
    obtain ⟨r, k1, k2, k3⟩ := he
    obtain ⟨q1, q2⟩ := hk r k1
    exact q2 hd2 A0 D0 w0 _ w' G Q hu ((h.same k3).put (.fr _ _ (k2.flat q1)) hd1) hq hxx
  | panicked c =>
    exact hxx _ _ σ G _ (h.same he.2) (hX _ he.1)
  | outgrown => exact hu he
theorem CWopsX.callPA {d : Option Tmp} {ty : TypeId} {pos : String} {af : Array Edge} {gd : Option (Nat × Bool)} {x : Operand} {xs : Array Operand} {ts : Array TypeId} {f : FuncId} {first caps args : List AV} {R : AV → Prop} {E : Value → Prop}
    (hp : PCallP P up f args R E) (hw : wantd all σ ⟨d, .call ⟨.value x, xs, ts⟩, ty, pos, af, gd⟩ = some true) (hx : ev σ x = .func (.func f) first caps)
    (ha : leL args (callL σ first xs.toList caps)) (hpu : pureL (callL σ first xs.toList caps) = true) (hX : ∀ c, PE E c → X c σ) (hk : ∀ r, R r → CWopsX P up nt all os (σ.put d r) K X) : CWopsX P up nt all (⟨d, .call ⟨.value x, xs, ts⟩, ty, pos, af, gd⟩ :: os) σ K X := by
  intro hd A0 D0 w0 a w G Q hu h hq hxx
  obtain ⟨hd1, hd2⟩ := okDst_cons hd
  rw [wpList_cons, wantd_spec h hw, if_pos rfl]
  left
  obtain ⟨us, vs, e1, e2, e3⟩ := h.callArgs hx xs.toList
  obtain ⟨f1, f2⟩ := leL_fr (w := w) (A := Own A0 G) ha e2 (fun i b hi => (e3 i b hi).pure (pureL_at hpu i b hi))
  have hsz : ∀ b, Own A0 G b → b < w.heap.size := fun b hb => hb.elim (fun hb => Nat.lt_of_lt_of_le (h.a0lt b hb) h.fr.size) (fun hb => rfp_lt h.inv hb)
  have hc := hp.2 w (Own A0 G) (us ++ xs.toList.map a.eval ++ vs) hsz f1 f2
  simp only [Oper.wp, run_enter hp.1 (o := ⟨d, .call ⟨.value x, xs, ts⟩, ty, pos, af, gd⟩) rfl e1, Oper.upon]
  refine hc.mono fun e w' he => ?_
  cases e with
  | returned v =>
    obtain ⟨r, k1, k2, k3⟩ := he
    exact hk r k1 hd2 A0 D0 w0 _ w' G Q hu ((h.same k3).put (.fr _ _ k2) hd1) hq hxx
  | panicked c =>
    exact hxx _ _ σ G _ (h.same he.2) (hX _ he.1)
  | outgrown => exact hu he
theorem CWopsX.panic {d : Option Tmp} {ty : TypeId} {pos : String} {af : Array Edge} {gd : Option (Nat × Bool)} {x : Operand} {t : TypeId} {k : IntKind} {i : Int} (hw : wantd all σ ⟨d, .panic x, ty, pos, af, gd⟩ = some true) (hx : ev σ x = .ifc t (.agg [.int k i])) (hX : X [{ v := .iface t (.agg #[.int k i]), recovered := false }] σ) :
    CWopsX P up nt all (⟨d, .panic x, ty, pos, af, gd⟩ :: os) σ K X := by
  intro hd A0 D0 w0 a w G Q hu h hq hxx
  rw [wpList_cons, wantd_spec h hw, if_pos rfl]
  left
  have he := h.ev x
  rw [hx] at he
  have e1 : a.eval x = .iface t (.agg #[.int k i]) := by
    obtain ⟨u, e1, h1⟩ := he.ifc_inv
    obtain ⟨vs, rfl, h2, h3⟩ := h1.agg_inv
    obtain ⟨v, rfl⟩ : ∃ v, vs = [v] := by
      cases vs with
      | nil => cases h2
      | cons v r => cases r with
        | nil => exact ⟨v, rfl⟩
        | cons _ _ => cases h2
    have h4 := h3 0 _ rfl
    simp only [List.getD_cons_zero] at h4
    cases h4 with
    | fr _ _ h4 => cases h4; exact e1
  have hr : (execOp a.eval ⟨d, .panic x, ty, pos, af, gd⟩).run P w = .halt (.panic (.iface t (.agg #[.int k i]))) w := by
    simp only [execOp, e1]
    rw [Sem.run_bind, run_panic_iface]; rfl
  simp only [Oper.wp, hr, Oper.upon]
  exact hxx _ _ σ G _ h hX
end
section
variable {P : Program} {np : Nat} {ops : Array Oper} {Q : Exit → Act → World → Prop}
def KeepX (np : Nat) (a0 : Act) (Q : Exit → Act → World → Prop) : Exit → Act → World → Prop := fun e a w => Q e a w ∧ (e ≠ .outgrown → Kept np a0 a)
theorem letsOut_keepX {a0 : Act} (h : LetsOut Q) : LetsOut (KeepX np a0 Q) := by
  obtain ⟨a, w, h⟩ := h; exact ⟨a, w, h, fun h => absurd rfl h⟩
theorem Oper.wp_keepX {o : Oper} {a a0 : Act} {w : World} {K : Act → World → Prop} (hk : Kept np a0 a) (hd : ∀ d, o.dst = some d → kp np d = false) (h : o.wp P a w K Q) : o.wp P a w (fun a' w' => K a' w' ∧ Kept np a a') (KeepX np a0 Q) := by
  unfold Oper.wp at *
  generalize (execOp a.eval o).run P w = r at *
  cases r with
  | ok n w' =>
    cases n <;> simp only [Oper.upon] at h ⊢
    case value v => exact ⟨h, Kept.put hd rfl⟩
    case skip => exact ⟨h, Kept.put hd rfl⟩
    case defer d => exact ⟨h, (Kept.put (a := { a with defers := d :: a.defers }) hd rfl)⟩
    case enter f args =>
      refine Calls.mono h fun e w'' he => ?_
      cases e with
      | returned v => exact ⟨he, Kept.put hd rfl⟩
      | panicked c => exact ⟨he, fun _ => hk⟩
      | outgrown => exact letsOut_keepX he
    case row row args => exact Rows.mono h fun v w'' he => ⟨he, Kept.put hd rfl⟩
  | halt x w' =>
    cases x <;> simp only [Oper.upon] at h ⊢
    case panic v => exact ⟨h, fun _ => hk⟩
theorem wpList_keepX {a0 : Act} : ∀ {os : List Oper} {a : Act} {w : World}, keepDst np os = true → Kept np a0 a → wpList P ops Q os a w → wpList P ops (KeepX np a0 Q) os a w
  | [], a, w, _, hk, h => ⟨h, fun _ => hk⟩
  | o :: os, a, w, hd, hk, h => by
    obtain ⟨hd1, hd2⟩ := keepDst_cons hd
    rw [wpList_cons] at h ⊢
    split
    · rename_i hw
      rw [if_pos hw] at h
      rcases h with h | h
      · exact .inl (Oper.wp_mono (fun a' w' ⟨h1, h2⟩ => wpList_keepX hd2 (hk.trans h2) h1) (Oper.wp_keepX hk hd1 h))
      · exact .inr ⟨h.1, letsOut_keepX h.2⟩
    · rename_i hw
      rw [if_neg hw] at h
      exact wpList_keepX hd2 (hk.trans (Kept.put hd1 rfl)) h
end
section
variable {P : Program} {TT : TTab} {up : Bool} {np nt : Nat} {σ : St} {Q : Exit → St → Prop}
theorem CW.regionX {id : Nat} {ops : Array Oper} (hd : okDst nt ops.toList = true) (hk : keepDst np ops.toList = true) (h : CWopsX P up nt ops ops.toList σ (Q .normal) (fun c => Q (.panic c))) : CW P up np nt (.region id ops false) σ Q := by
  intro A0 D0 w0 a w G R hu hh hr
  let Q1 : Exit → Act → World → Prop := fun e a' w' => match e with
    | .normal => ∃ σ' G', Holds A0 D0 w0 nt σ' a' w' G' ∧ Q .normal σ'
    | .panic c => ∃ σ' G', Holds A0 D0 w0 nt σ' a' w' G' ∧ Q (.panic c) σ'
    | e => R e a' w'
  have h1 := wpList_keepX (a0 := a) hk (Kept.refl np a) (h hd A0 D0 w0 a w G Q1 (fun hu' => let ⟨a, w, h⟩ := hu hu'; ⟨a, w, h⟩) hh (fun a' w σ' G' h1 h2 => ⟨σ', G', h1, h2⟩) (fun a' w σ' G' c h1 h2 => ⟨σ', G', h1, h2⟩))
  refine wp_mono (wp_region_list h1) fun e a' w' he => ?_
  cases e with
  | normal => obtain ⟨⟨σ', G', g1, g2⟩, g3⟩ := he; exact hr _ a' w' σ' G' g1 (g3 (by simp)) g2
  | panic c => obtain ⟨⟨σ', G', g1, g2⟩, g3⟩ := he; exact hr _ a' w' σ' G' g1 (g3 (by simp)) g2
  | _ => exact he.1
def retX (E : List PanicEntry → St → Prop) (Q : Exit → St → Prop) : Exit → St → Prop
  | .panic c, σ => E c σ
  | e, σ => Q e σ
theorem PCallP.intro (htt : TTok P TT) {f : FuncId} {fn : Func} {c : Code} {args : List AV} {R : AV → Prop} {E : Value → Prop} (hf : P.funcs[f]? = some fn) (hn : (fn.name == "runtime.NumGoroutine") = false) (hb : fn.body = some c) (hl : args.length ≤ fn.ntmps)
    (hk : (∀ a ∈ args, Lens a) → CW P up 0 fn.ntmps c { n := 0, t := tmps0 0 args, s := [] } (retX (fun c _ => PE E c) (retQ TT fn.results.toList R))) : PCallP P up f args R E := by
  refine ⟨⟨fn, hf, hn, by rw [hb]; rfl⟩, fun w A vs hA hvl hr => ?_⟩
  have hlens : ∀ a ∈ args, Lens a := fun a ha => by
    obtain ⟨i, hi⟩ := List.getElem?_of_mem ha
    exact ⟨w, A, _, hr i a hi⟩
  refine calls_of_wp hf hb ?_
  refine hk hlens A (fun _ => False) w _ w (fun _ => none) _ (fun hu => ⟨⟨#[], []⟩, w, hu⟩) ?_ fun e a' w' σ' G' hh _ hq => ?_
  · have hsz : (vs.toArray ++ Array.replicate (fn.ntmps - vs.toArray.size) undef).size = fn.ntmps := by simp; omega
    refine ⟨⟨fun x => rfl, fun x r g h => (by cases h), fun x r g h => (by cases h), fun x g h => (by cases h), fun x g b h => (by cases h), fun x g x' g' h => (by cases h), fun x g h => (by cases h), fun b ⟨x, g, h, _⟩ => (by cases h)⟩,
      hsz, rfl, fun i hi => ?_, fun i hi => ?_, ⟨rfl, rfl, rfl, Nat.le_refl _, fun _ _ _ => rfl⟩, fun b ⟨x, g, h, _⟩ => (by cases h), hA⟩
    · rw [tmps0_get, if_pos (Nat.zero_le i), Nat.sub_zero]
      by_cases hlt : i < args.length
      · have h1 : args[i]? = some args[i] := List.getElem?_eq_getElem hlt
        have h2 := hr i _ h1
        rw [getD_of h1]
        have h3 : (vs.toArray ++ Array.replicate (fn.ntmps - vs.toArray.size) undef).getD i undef = vs.getD i undef := by
          rw [Array.getD_eq_getD_getElem?, List.getD_eq_getElem?_getD, Array.getElem?_append_left (by simp; omega), List.getElem?_toArray]
        rw [h3]
        exact .fr _ _ (h2.keep (fun _ _ _ => rfl) (fun b _ hb => hb.elim id fun ⟨x, g, h, _⟩ => by cases h))
      · have : args.getD i .undef = .undef := by simp [List.getElem?_eq_none (Nat.le_of_not_lt hlt)]
        rw [this]
        exact .fr _ _ (.undef _)
    · rw [tmps0_get, if_pos (Nat.zero_le i), Nat.sub_zero]
      simp [List.getElem?_eq_none (show args.length ≤ i by omega)]
  · have fin : retQ TT fn.results.toList R e σ' → bodyPost P fn (EndsP up w A R E) e a' w' := fun ⟨he, l, r, hl, hv, hR⟩ => by
      obtain ⟨v, k1, k2⟩ := hh.results htt hl
      have hfr := leP_fr _ _ _ hv (hh.view 9 _ _ k2)
      rcases he with rfl | rfl
      · exact ⟨hh.defers, v, k1, r, hR, hfr, hh.fr⟩
      · exact ⟨hh.defers, v, k1, r, hR, hfr, hh.fr⟩
    cases e with
    | panic c => exact ⟨hh.defers, hq, hh.fr⟩
    | _ => exact fin hq
end
def AftG (A : Nat → Prop) (w : World) (G : Nat → Option GR) (n : Nat) (w' : World) (σ' : St) (G' : Nat → Option GR) : Prop :=
  Inv A w' σ'.n σ'.s G' ∧ Fr (GFp G) w w' ∧ (∀ b, GFp G' b → GFp G b ∨ w.heap.size ≤ b) ∧ (∀ x g g', x < n → G x = some g → G' x = some g' → g'.base = g.base)
def EndsGX (up : Bool) (w : World) (A : Nat → Prop) (G : Nat → Option GR) (n : Nat) (Post : AV → St → Prop) (PostX : List PanicEntry → St → Prop) : Ending → World → Prop
  | .returned v, w' => ∃ (σ' : St) (G' : Nat → Option GR) (r : AV), Post r σ' ∧ Rel w' (Own A G') G' σ'.n r v ∧ AftG A w G n w' σ' G'
  | .panicked c, w' => ∃ (σ' : St) (G' : Nat → Option GR), PostX c σ' ∧ AftG A w G n w' σ' G'
  | .outgrown, _ => up = true
def GCallX (P : Program) (up : Bool) (f : FuncId) (args : List AV) (n : Nat) (s : List (Nat × Root)) (Post : AV → St → Prop) (PostX : List PanicEntry → St → Prop) : Prop :=
  Callable P f ∧ ∀ (w : World) (A : Nat → Prop) (G : Nat → Option GR) (vs : List Value), (∀ b, A b → b < w.heap.size) → Inv A w n s G → vs.length = args.length → (∀ (i : Nat) (a : AV), args[i]? = some a → Rel w (Own A G) G n a (vs.getD i undef)) →
    Calls P f vs.toArray w (EndsGX up w A G n Post PostX)
section
variable {P : Program} {TT : TTab} {up : Bool}
theorem GCallX.intro (htt : TTok P TT) (np : Nat) {f : FuncId} {fn : Func} {c : Code} {args : List AV} {n : Nat} {s : List (Nat × Root)} {Post : AV → St → Prop} {PostX : List PanicEntry → St → Prop} (hf : P.funcs[f]? = some fn) (hn : (fn.name == "runtime.NumGoroutine") = false) (hb : fn.body = some c) (hl : args.length ≤ fn.ntmps)
    (hk : CW P up np fn.ntmps c { n := n, t := tmps0 0 args, s := s } (retX (fun c σ => ptrOK np args σ s ∧ PostX c σ) (retG TT fn.results.toList np args s Post))) (hnp : np < 65536 := by decide) : GCallX P up f args n s Post PostX := by
  refine ⟨⟨fn, hf, hn, by rw [hb]; rfl⟩, fun w A G vs hA hinv hvl hr => ?_⟩
  refine calls_of_wp hf hb ?_
  have hsz : (vs.toArray ++ Array.replicate (fn.ntmps - vs.toArray.size) undef).size = fn.ntmps := by simp; omega
  have hval : ∀ i, i < args.length → (vs.toArray ++ Array.replicate (fn.ntmps - vs.toArray.size) undef).getD i undef = vs.getD i undef := fun i hi => by
    rw [Array.getD_eq_getD_getElem?, List.getD_eq_getElem?_getD, Array.getElem?_append_left (by simp; omega), List.getElem?_toArray]
  refine hk A (GFp G) w _ w G _ (fun hu => ⟨⟨#[], []⟩, w, hu⟩) ⟨hinv, hsz, rfl, fun i hi => ?_, fun i hi => ?_, ⟨rfl, rfl, rfl, Nat.le_refl _, fun _ _ _ => rfl⟩, fun b hb => .inl hb, hA⟩ fun e a' w' σ' G' hh hkept hq => ?_
  · rw [tmps0_get, if_pos (Nat.zero_le i), Nat.sub_zero]
    by_cases hlt : i < args.length
    · have h1 : args[i]? = some args[i] := List.getElem?_eq_getElem hlt
      rw [getD_of h1]
      show Rel w (Own A G) G n args[i] ((vs.toArray ++ Array.replicate (fn.ntmps - vs.toArray.size) undef).getD i undef)
      rw [hval i hlt]
      exact hr i _ h1
    · have : args.getD i .undef = .undef := by simp [List.getElem?_eq_none (Nat.le_of_not_lt hlt)]
      rw [this]
      exact .fr _ _ (.undef _)
  · rw [tmps0_get, if_pos (Nat.zero_le i), Nat.sub_zero]
    simp [List.getElem?_eq_none (show args.length ≤ i by omega)]
  · have base : ptrOK np args σ' s → AftG A w G n w' σ' G' := fun hp => by
      refine ⟨hh.inv, hh.fr, hh.own, ?_⟩
      intro x g g' hx hg hg'
      have hd := hinv.dom x
      rw [hg] at hd
      obtain ⟨r, hr1⟩ := Option.isSome_iff_exists.1 hd
      have hd' := hh.inv.dom x
      rw [hg'] at hd'
      obtain ⟨r', hr2⟩ := Option.isSome_iff_exists.1 hd'
      have b1 := hinv.box x r g hr1 hg
      have b2 := hh.inv.box x r' g' hr2 hg'
      rcases ptrOK_get hp hr1 r' hr2 with ⟨q1, q2⟩ | ⟨i, ⟨q01, q02⟩, q1, q2, q3⟩
      · rw [q1] at b1; rw [q2] at b2
        have e1 : g.base = none := by cases h : g.base with | none => rfl | some b => rw [h] at b1; cases b1
        have e2 : g'.base = none := by cases h : g'.base with | none => rfl | some b => rw [h] at b2; cases b2
        rw [e1, e2]
      · have h1 := hr i _ q2
        have hil : i < args.length := (List.getElem?_eq_some_iff.1 q2).1
        have h2 := hh.slotD i
        rw [q3] at h2
        have hsame : a'.tmps.getD i undef = vs.getD i undef := by
          rw [← hval i hil, Array.getD_eq_getD_getElem?, Array.getD_eq_getD_getElem?, hkept i (kp_lt hnp q1)]
        rw [hsame] at h2
        obtain ⟨ad1, e1, _, l1⟩ := h1.lv_inv
        obtain ⟨ad2, e2, _, l2⟩ := h2.lv_inv
        rw [e1] at e2; cases e2
        have gb : ∀ (q : GR), gBase q.at_ q.cells [] = q.base.map fun b => (b, 0) := fun q => by unfold gBase; rfl
        rw [q01] at b1; rw [q02] at b2
        obtain ⟨b, hgb⟩ := Option.isSome_iff_exists.1 b1.symm
        obtain ⟨b', hgb'⟩ := Option.isSome_iff_exists.1 b2.symm
        have a1 := l1 g b 0 hg (by rw [gb, hgb]; rfl)
        have a2 := l2 g' b' 0 hg' (by rw [gb, hgb']; rfl)
        rw [a1] at a2; cases a2
        rw [hgb, hgb']
    have fin : retG TT fn.results.toList np args s Post e σ' → bodyPost P fn (EndsGX up w A G n Post PostX) e a' w' := fun ⟨he, hp, l, hl, hR⟩ => by
      obtain ⟨v, k1, k2⟩ := hh.results htt hl
      rcases he with rfl | rfl
      · exact ⟨hh.defers, v, k1, σ', G', one l, hR, k2, base hp⟩
      · exact ⟨hh.defers, v, k1, σ', G', one l, hR, k2, base hp⟩
    cases e with
    | panic c => exact ⟨hh.defers, σ', G', hq.2, base hq.1⟩
    | _ => exact fin hq
end
theorem Inv.away {A A' : Nat → Prop} {w w' : World} {n : Nat} {s : List (Nat × Root)} {G : Nat → Option GR} (h : Inv A w n s G) (hw : ∀ b, b < w.heap.size → ¬ A b → w'.heap[b]? = w.heap[b]?) (hA : ∀ b, b < w.heap.size → A' b → A b) : Inv A' w' n s G := by
  have same : ∀ b, GFp G b → w'.heap[b]? = w.heap[b]? := fun b hb => hw b (rfp_lt h hb) (h.a0 b hb)
  have hwO : ∀ b, b < w.heap.size → ¬ Own A G b → w'.heap[b]? = w.heap[b]? := fun b hb ho => hw b hb fun ha => ho (.inl ha)
  have hAO : ∀ b, b < w.heap.size → Own A' G b → Own A G b := fun b hb ho => ho.imp (hA b hb) id
  refine ⟨h.dom, h.box, fun x r g hr hg => ⟨(h.cells x r g hr hg).len, fun c a t hc ht => ((h.cells x r g hr hg).cell c a t hc ht).imp id fun ⟨k1, k2⟩ => ⟨k1, k2.keep (Nat.le_refl _) hwO hAO (fun _ _ _ _ _ h => h) (fun _ _ _ _ _ h => h)⟩⟩,
    fun x g hg => (h.row x g hg).keep hwO hAO (fun b hb => same b ⟨x, g, hg, .inr hb⟩) fun b o e => ?_, fun x g b hg hb => by rw [same b ⟨x, g, hg, .inl hb⟩]; exact h.base x g b hg hb, h.sep, h.lt, fun b hb ha => h.a0 b hb (hA b (rfp_lt h hb) ha)⟩
  simp only [GR.at_, Option.map_eq_some_iff] at e
  obtain ⟨b', e1, e2⟩ := e
  cases e2
  exact same b ⟨x, g, hg, .inl e1⟩
theorem run_call {P : Program} {f : FuncId} (hc : Callable P f) (args : Array Value) (w : World) : (callFunc f args).run P w = .ok (.enter f args) w := by
  obtain ⟨fn, h1, h2, h3⟩ := hc
  simp only [callFunc, Sem.run_bind, Sem.run_pure, Result.andThen_ok]
  simp only [run_program, Result.andThen_ok, h1, h2, h3]
  rfl
end Go.Ab
namespace Go.Ab
open Go Go.RowKit Go.Lib
def strRows (s : ByteArray) : List (List AV) := s.data.toList.map fun b => [AV.int .u8 (b.toNat : Int)]
theorem strRows_len (s : ByteArray) : (strRows s).length = s.size := by rw [strRows, List.length_map, Array.length_toList]; rfl
theorem run_append_room_cellsS {P : Program} {w : World} (t u ty e : TypeId) (i : TypeInfo) (ht : P.underlying t = some (.slice e)) (hu : P.underlying u = some .string) (hi : P.info? e = some i) (hs1 : i.size = 1)
    (b sLen sCap : Nat) (s : ByteArray) (hroom : sLen + s.size ≤ sCap) (hc : ∀ j, j < (strCells s).length → (w.cell? ⟨b, 0 + sLen * i.size + j, none⟩).isSome = true) (hf : ∀ j, j < (strCells s).length → w.frozen? ⟨b, 0 + sLen * i.size + j, none⟩ = false) :
    (Builtin.append_ #[t, u] ty #[.slice (some ⟨b, 0, none⟩) sLen sCap, .string s]).run P w = .ok (.slice (some ⟨b, 0, none⟩) (sLen + s.size) sCap) (w.setCells b (0 + sLen * i.size) (strCells s)) := by
  have hfc := run_firstCells_string (P := P) w i.size s
  have hst := run_storeCells_cells (P := P) b (0 + sLen * i.size) (strCells s) 0 w (by simpa using hc) (by simpa using hf) (strCells_oneCell s)
  simp only [Nat.add_zero, Nat.zero_add] at hst
  simp [Builtin.append_, run_underlying ht, run_underlying hu, sizeOf, typeInfo, hi, Builtin.lenOf, hroom, hfc, Addr.add_lit, hst]
theorem app_str {P : Program} {t u ty e : Nat} {w : World} {A : Nat → Prop} {j : TI} (ht : P.underlying t = some (.slice e)) (hu : P.underlying u = some .string) (he : TIok P e j) (hm : 0 < j.size) (hj : j.size = 1) (hzl : j.zero.length = j.size) (s : ByteArray) : AppOK P t u ty w A j (.string s) (strRows s) := by
  intro v rows hmem hsep hb hM hAo
  by_cases h2 : strRows s = []
  · have h0 : s.size = 0 := by rw [← strRows_len, h2]; rfl
    have hf := run_firstCells_string (P := P) w j.size s
    have hsn : strCells s = [] := List.eq_nil_of_length_eq_zero (by rw [strCells_length]; exact h0)
    rw [h0, hsn] at hf
    have hsz := he.run_size w
    have hv : ∃ ad n c, v = .slice ad n c ∧ n ≤ c := by
      rcases hmem.own_inv with ⟨rfl, _⟩ | ⟨b, cap, vs, T, rfl, _, _, h3, _⟩
      · exact ⟨none, 0, 0, rfl, Nat.le_refl _⟩
      · exact ⟨_, _, _, rfl, h3⟩
    obtain ⟨ad, n, c, rfl, hnc⟩ := hv
    have hr : (Builtin.append_ #[t, u] ty #[.slice ad n c, .string s]).run P w = .ok (.slice ad n c) w := by
      cases ad <;> simp [Builtin.append_, run_underlying ht, run_underlying hu, hsz, Builtin.lenOf, h0, hnc, hf, storeCells]
    exact ⟨_, w, rows, hr, by simp [h2], hsep, fun k hk => .inl hk, fun _ _ _ => rfl, ⟨rfl, rfl, rfl, Nat.le_refl _⟩, fun A' hA => hmem.keep (fun _ _ _ => rfl) hA fun _ _ => rfl⟩
  · have hpos : 0 < s.size := by
      rw [← strRows_len]; cases hq : strRows s with | nil => exact absurd hq h2 | cons => simp
    refine append_tree_of (news := strCells s) ht he hm hzl hmem hsep h2 (fun i r hi => ?_) ?_ (fun i r k a hi hk => ?_) (strCells_oneCell s) ?_ ?_ ?_ hb hM hAo
    · simp only [strRows, List.getElem?_map, Option.map_eq_some_iff] at hi
      obtain ⟨b, _, rfl⟩ := hi
      rw [hj]; rfl
    · rw [strRows_len, strCells_length, hj, Nat.mul_one]
    · simp only [strRows, List.getElem?_map, Option.map_eq_some_iff] at hi
      obtain ⟨b, hb', rfl⟩ := hi
      have hk0 : k = 0 := by have := (List.getElem?_eq_some_iff.1 hk).1; simp at this; exact this
      subst hk0
      simp only [List.getElem?_cons_zero, Option.some.injEq] at hk
      subst hk
      exact ⟨.int .u8 (b.toNat : Int), by rw [hj]; simp only [strCells, Nat.mul_one, Nat.add_zero, List.getElem?_map, hb', Option.map_some], .int _ _, rfl⟩
    · intro inf z i1 i4 i2 i3 h63 h48
      rw [strRows_len] at h63 h48 ⊢
      have hr := run_append_nil_string (P := P) w t u ty e inf z ht hu i1 i4 s hpos h63 h48
      have e1 : (s.data.map fun b => Value.int .u8 b.toNat) = (strCells s).toArray := by
        apply Array.ext'
        simp [strCells]
      rw [e1] at hr
      exact hr
    · intro inf b sLen sCap i1 i2 hroom hcs hfz
      rw [strRows_len] at hroom ⊢
      exact run_append_room_cellsS t u ty e inf ht hu i1 (by rw [i2, hj]) b sLen sCap s hroom hcs hfz
    · intro inf z b sLen sCap olds i1 i4 i2 ho holds hg h63 hfit
      rw [strRows_len] at hg h63 hfit ⊢
      exact run_append_grow_string w t u ty e inf z ht hu i1 i4 b sLen sCap olds ho holds s hg h63 hfit
end Go.Ab
namespace Go.Ab
open Go Go.RowKit
section
variable {P : Program} {TT : TTab} {up : Bool} {σ : St} {K : St → Prop}
theorem CWops.appStr {nt : Nat} {all : Array Oper} {os : List Oper} {d : Option Tmp} {ty : TypeId} {ps : String} {af : Array Edge} {gd : Option (Nat × Bool)} {t u e : Nat} {s x : Operand} {i iu j : TI} {b : ByteArray} (htt : TTok P TT)
    (hw : wantd all σ ⟨d, .call { callee := .builtin .append, args := #[s, x], argTypes := #[t, u] }, ty, ps, af, gd⟩ = some true) (ht : TT t = some i) (hi : i.kind = .slice e) (hu : TT u = some iu) (hiu : iu.kind = .str) (he : TT e = some j) (hj : j.size = 1) (hzl : j.zero.length = j.size) (hx : ev σ x = .str b)
    (hk : match ev σ s with
        | .nilsl => (strRows b).length * j.bytes ≤ MX ∧ (strRows b).length ≤ MX ∧ CWops P up nt all os (St.put { n := σ.n + 1, t := σ.t, s := (σ.n, ⟨false, [.own j.size (strRows b)]⟩) :: σ.s } d (.ref σ.n [] 0)) K
        | .ref y p c => (match getS σ.s y with
          | some r => (match rowOf r.cells p with
            | some row => (match row[c]? with
              | some (.own n es) => n = j.size ∧ (es.length ≤ MX → (es.length + (strRows b).length) * j.bytes ≤ MX ∧ es.length + (strRows b).length ≤ MX) ∧
                  CWops P up nt all os (St.put { n := σ.n + 1, t := σ.t, s := (σ.n, ⟨false, [.own j.size (es ++ strRows b)]⟩) :: (if r.box = false ∧ p = [] then delS σ.s y else updS σ.s y { r with cells := putAt r.cells p c .undef }) } d (.ref σ.n [] 0)) K
              | _ => False)
            | none => False)
          | none => False)
        | _ => False) :
    CWops P up nt all (⟨d, .call { callee := .builtin .append, args := #[s, x], argTypes := #[t, u] }, ty, ps, af, gd⟩ :: os) σ K := by
  have hti := (htt t i ht).kind
  rw [hi] at hti
  have hti : P.underlying t = some (.slice e) := hti
  have hui := (htt u iu hu).kind
  rw [hiu] at hui
  have hui : P.underlying u = some .string := hui
  refine CWops.step hw (Snd.up (snd_append_of (j := j) (rows := strRows b) rfl (fun {A0 D0 w0 nt a w G} h => ?_) hk))
  have h1 := h.ev x
  rw [hx] at h1
  rw [h1.str_inv.1]
  exact @app_str P t u ty e w (Own A0 G) j hti hui (htt e j he) (by omega) hj hzl b
end
end Go.Ab
