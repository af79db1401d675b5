/-
  What a machine's memory holds of plain values, and that each operation, block, loop and call of the model turns such a state as told. No condition but those of each theorem.
-/
import Derived.WalkKit
import Derived.Below
import Derived.Scope
import Derived.Orders
import Derived.Still
import Derived.WalkSmall
import Derived.Lib.AppendStr
import Derived.ArgAppend
import Derived.Lib.ConvBytes
import Derived.Test.YtgmegmfbedgabaaGreatFa
import Derived.Test.YtgmegmfbedgabaaGreatFb
import Derived.Test.YtgmegmfbedgabaaGreatFc
import Derived.Test.YtgmegmfbedgabaaGreatFd
set_option linter.unusedVariables false
set_option linter.unusedSimpArgs false
namespace Go.Ab
open Go Go.RowKit
theorem okDst_drop {nt : Nat} : ∀ {os : List Oper} (k : Nat), okDst nt os = true → okDst nt (os.drop k) = true
  | [], k, h => by simpa using h
  | o :: os, 0, h => h
  | o :: os, k + 1, h => okDst_drop k (okDst_cons h).2
theorem keepDst_mem {np : Nat} : ∀ {os : List Oper}, keepDst np os = true → ∀ o ∈ os, ∀ d, o.dst = some d → kp np d = false
  | [], _, o, ho => by cases ho
  | b :: os, h, o, ho => by
    obtain ⟨h1, h2⟩ := keepDst_cons h
    rcases List.mem_cons.1 ho with rfl | ho
    · exact h1
    · exact keepDst_mem h2 o ho
theorem wpAny_keep {P : Program} {np : Nat} {ops : Array Oper} {Q : Exit → Act → World → Prop} {md : Region.Mode} {a0 : Act} (hd : keepDst np ops.toList = true) : ∀ (fuel : Nat) (listed : Array Bool) (a : Act) (w : World), Kept np a0 a →
    wpAny P md ops Q fuel listed a w → wpAny P md ops (KeepQ np a0 Q) fuel listed a w
  | 0, listed, a, w, hk, h => ⟨h.1, h.2, fun _ => hk⟩
  | fuel + 1, listed, a, w, hk, h => by
    refine ⟨fun h0 => ⟨h.1 h0, fun _ => hk⟩, fun i hi => ?_⟩
    have h1 := h.2 i hi
    unfold wpOp at h1 ⊢
    split
    · rename_i hn; rw [hn] at h1; exact wpAny_keep hd fuel _ a w hk h1
    · rename_i o ho
      rw [ho] at h1
      have hod := keepDst_mem hd o (List.mem_of_getElem? (by rw [Array.getElem?_toList]; exact ho))
      simp only at h1
      split
      · rename_i hw
        rw [if_pos hw] at h1
        rcases h1 with h1 | h1
        · exact .inl (Oper.wp_mono (fun a' w' ⟨g1, g2⟩ => wpAny_keep hd fuel _ a' w' (hk.trans g2) g1) (Oper.wp_keep hod h1))
        · exact .inr ⟨h1.1, letsOut_keep h1.2⟩
      · rename_i hw
        rw [if_neg hw] at h1
        exact wpAny_keep hd fuel _ _ w (hk.trans (Kept.put hod rfl)) h1
section
variable {P : Program} {TT : TTab} {up : Bool} {np nt : Nat} {σ : St} {Q : Exit → St → Prop}
theorem CW.drawn (hm : P.follows .mixedOrders = true) (k : Nat) {id : Nat} {ops : Array Oper} (hk : k ≤ ops.size) (hchk : segChk k ops = true) (hd : okDst nt ops.toList = true) (hkd : keepDst np ops.toList = true)
    (h : Seg P up ops σ (ops.toList.take k) σ.t none fun t r => CWops P up nt ops (ops.toList.drop k) (endSt σ t r) (Q .normal)) : CW P up np nt (.region id ops true) σ Q := by
  intro A0 D0 w0 a w G R hu hh hr
  let Q1 : Exit → Act → World → Prop := fun e a' w' => match e with
    | .normal => ∃ σ' G', Holds A0 D0 w0 nt σ' a' w' G' ∧ Q .normal σ'
    | e => R e a' w'
  have hu1 : up = true → LetsOut Q1 := fun hu' => let ⟨a, w, h⟩ := hu hu'; ⟨a, w, h⟩
  suffices hs : wpAny P .any ops Q1 ops.size (Array.replicate ops.size false) a { w with drawn := w.drawn + 1 } by
    refine wp_mono (wp_region_any hm (wpAny_keep (a0 := a) hkd _ _ _ _ (Kept.refl np a) hs)) fun e a' w' he => ?_
    cases e with
    | normal => obtain ⟨⟨σ', G', g1, g2⟩, g3⟩ := he; exact hr _ a' w' σ' G' g1 (g3 rfl) g2
    | _ => exact he.1
  obtain ⟨te, re, val, tt, hk', hv⟩ := seg_vals h
  have hno : ∀ i, (Array.replicate ops.size false).getD i false = true → False := fun i hi => by
    rw [Array.getD_eq_getD_getElem?, Array.getElem?_replicate] at hi
    split at hi <;> simp at hi
  refine any_seg (σ' := σ) hk hchk hd hu1 (fun y hy => ?_) hv (fun a w G hh' => hk' (okDst_drop k hd) A0 D0 w0 a w G Q1 hu1 hh' fun a w σ' G' h1 h2 => ⟨σ', G', h1, h2⟩) ops.size _ a _ G (by simp) ?_ (fun i hi => (hno i hi).elim)
    (fun i o _ hi => (hno i hi).elim) ⟨fun i o x _ hi => (hno i hi).elim, fun x _ => rfl, fun i o r _ hi => (hno i hi).elim, fun _ => ⟨rfl, fun _ => rfl⟩⟩ hh.drew
  · have := hh.inv.dom y
    rw [hy] at this
    obtain ⟨g, hg⟩ := Option.isSome_iff_exists.1 this.symm
    exact hh.inv.lt y g hg
  · unfold unl
    have : ((List.range ops.size).filter fun i => !(Array.replicate ops.size false).getD i true) = List.range ops.size := by
      rw [List.filter_eq_self]
      intro i hi
      have hi := List.mem_range.1 hi
      rw [Array.getD_eq_getD_getElem?, Array.getElem?_replicate, if_pos hi]
      rfl
    rw [this, List.length_range]
end
section
variable {P : Program} {TT : TTab} {up : Bool} {all : Array Oper} {σ0 : St} {K : List (Nat × AV) → Option Root → Prop}
theorem Seg.congr : ∀ {os : List Oper} {t t' : List (Nat × AV)} {r : Option Root}, (∀ x, getT t' x = getT t x) → Seg P up all σ0 os t' r K → Seg P up all σ0 os t r K
  | [], t, t', r, he, ⟨t2, h1, h2⟩ => ⟨t2, fun x => (h1 x).trans (he x), h2⟩
  | _ :: _, t, t', r, he, ⟨t2, v, r', h1, h2⟩ => ⟨t2, v, r', fun x => (h1 x).trans (he x), h2⟩
theorem Seg.done {t : List (Nat × AV)} {r : Option Root} (h : K t r) : Seg P up all σ0 [] t r K := ⟨t, fun _ => rfl, h⟩
theorem looks_ops {o : Oper} {σ' τ : St} (h : ∀ x ∈ o.looksAt all, getT σ'.t x = getT τ.t x) {x : Operand} (hx : x ∈ o.op.operands) : ev σ' x = ev τ x := by
  cases x with
  | tmp t =>
    simp only [ev]
    refine h t ?_
    unfold Oper.looksAt
    rw [List.mem_append]; left
    rw [List.mem_filterMap]
    exact ⟨.tmp t, Array.mem_toList_iff.2 hx, rfl⟩
  | _ => rfl
theorem wantd_congr {o : Oper} {σ' τ : St} (h : ∀ x ∈ o.looksAt all, getT σ'.t x = getT τ.t x) : wantd all σ' o = wantd all τ o := by
  unfold wantd
  split
  · rfl
  · rename_i j want hg
    split
    · rename_i t ht
      rw [h t (by
        unfold Oper.looksAt
        rw [List.mem_append]; right
        rw [hg]
        unfold gdst at ht
        rw [Array.getElem?_toList] at ht
        simp [ht])]
    · rfl
theorem rop_plain {TT : TTab} {σ : St} {o : Op} {v : AV} {r : Option Root} (hp : plainB o = true) (h : rop TT σ o = some (v, r)) : r = none := by
  cases o <;> simp only [plainB, Bool.false_eq_true] at hp <;> simp only [rop] at h
  all_goals
    first
    | (unfold rLoad at h; repeat' (split at h)) <;> first | (cases h; rfl) | (cases h; done)
    | (unfold rFieldAddr at h; repeat' (split at h)) <;> first | (cases h; rfl) | (cases h; done)
    | (unfold rIndexAddr at h; repeat' (split at h)) <;> first | (cases h; rfl) | (cases h; done)
    | (unfold rBin at h; repeat' (split at h)) <;> first | (cases h; rfl) | (cases h; done)
    | (repeat' (split at h)) <;> first | (cases h; rfl) | (cases h; done)
theorem pval_plain {TT : TTab} {σ : St} {o : Op} {v : AV} {r : Option Root} (hp : plainB o = true) (h : pval TT σ o = some (v, r)) : r = none := by
  have h' : rop TT σ o = some (v, r) := by
    cases o <;> simp only [plainB, Bool.false_eq_true] at hp <;> simpa only [pval] using h
  exact rop_plain hp h'
theorem stab_skip {o : Oper} {t : List (Nat × AV)} (hw : wantd all { σ0 with t := t } o = some false) : Stab P up all o t σ0 (.tup []) none :=
  ⟨fun _ => rfl, fun σ' hl _ _ => .inr ⟨by rw [wantd_congr (τ := { σ0 with t := t }) hl]; exact hw, rfl, rfl⟩⟩
theorem stab_val (htt : TTok P TT) {o : Oper} {t : List (Nat × AV)} {v : AV} {r : Option Root} (hw : wantd all { σ0 with t := t } o = some true) (hv : pval TT { σ0 with t := t } o.op = some (v, r)) : Stab P up all o t σ0 v r := by
  refine ⟨fun hp => pval_plain hp hv, ?_⟩
  intro σ' hl he hn
  refine .inl ⟨by rw [wantd_congr (τ := { σ0 with t := t }) hl]; exact hw, Snd.up (pval_sound htt ?_)⟩
  exact pval_ext (τ := { σ0 with t := t }) ⟨he.s, he.n⟩ (fun x hx => looks_ops (τ := { σ0 with t := t }) hl hx) hn hv
theorem Seg.skip {o : Oper} {os : List Oper} {t : List (Nat × AV)} {r : Option Root} (hw : wantd all { σ0 with t := t } o = some false) (hk : Seg P up all σ0 os (putT t o.dst (.tup [])) r K) : Seg P up all σ0 (o :: os) t r K :=
  ⟨t, .tup [], none, fun _ => rfl, stab_skip hw, .inl rfl, hk⟩
structure StopG where
  os : List Oper
  t : List (Nat × AV)
  r : Option Root
def segStep (TT : TTab) (all : Array Oper) (τ : St) (o : Oper) : Option (AV × Option Root) :=
  match wantd all τ o with
  | some true => pval TT τ o.op
  | some false => some (.tup [], none)
  | none => none
def addG : Option Root → Option Root → Option (Option Root)
  | none, r => some r
  | some r, none => some (some r)
  | some _, some _ => none
def runG (TT : TTab) (all : Array Oper) (σ0 : St) : Nat → List Oper → List (Nat × AV) → Option Root → StopG
  | 0, os, t, r => ⟨os, t, r⟩
  | _ + 1, [], t, r => ⟨[], t, r⟩
  | n + 1, o :: os, t, r => match segStep TT all { σ0 with t := t } o with
    | some (v, r1) => match addG r1 r with
      | some r2 => runG TT all σ0 n os (putT t o.dst v) r2
      | none => ⟨o :: os, t, r⟩
    | none => ⟨o :: os, t, r⟩
theorem Seg.runs (htt : TTok P TT) : ∀ (n : Nat) {os : List Oper} {t : List (Nat × AV)} {r : Option Root} {s : StopG}, runG TT all σ0 n os t r = s → Seg P up all σ0 s.os s.t s.r K → Seg P up all σ0 os t r K
  | 0, os, t, r, s, h, hk => by subst h; exact hk
  | n + 1, [], t, r, s, h, hk => by subst h; exact hk
  | n + 1, o :: os, t, r, s, h, hk => by
    simp only [runG] at h
    split at h
    · rename_i v r1 hst
      split at h
      · rename_i r2 hr2
        have ih := Seg.runs htt n h hk
        have hr : (r1 = none ∨ r = none) ∧ r2 = r1.or r := by
          unfold addG at hr2
          split at hr2 <;> cases hr2
          · exact ⟨.inl rfl, rfl⟩
          · exact ⟨.inr rfl, rfl⟩
        refine ⟨t, v, r1, fun _ => rfl, ?_, hr.1, by rw [← hr.2]; exact ih⟩
        unfold segStep at hst
        split at hst
        · rename_i hw; exact stab_val htt hw hst
        · rename_i hw; cases hst; exact stab_skip hw
        · cases hst
      · subst h; exact hk
    · subst h; exact hk
theorem Seg.run (htt : TTok P TT) (n : Nat) {os os' : List Oper} {t t' : List (Nat × AV)} {r r' : Option Root} (h : runG TT all σ0 n os t r = ⟨os', t', r'⟩) (hk : Seg P up all σ0 os' t' r' K) : Seg P up all σ0 os t r K :=
  Seg.runs htt n h hk
theorem Seg.guard (x : Tmp) {b : Bool} {os : List Oper} {t : List (Nat × AV)} {r : Option Root} (hg : getT t x = .bool b) (h1 : b = true → Seg P up all σ0 os ((x, .bool true) :: t) r K) (h2 : b = false → Seg P up all σ0 os ((x, .bool false) :: t) r K) : Seg P up all σ0 os t r K := by
  cases b
  · refine Seg.congr (fun y => ?_) (h2 rfl)
    simp only [getT]; split
    · rename_i e; subst e; exact hg.symm
    · rfl
  · refine Seg.congr (fun y => ?_) (h1 rfl)
    simp only [getT]; split
    · rename_i e; subst e; exact hg.symm
    · rfl
def okV : Nat → St → AV → Bool
  | 0, _, _ => false
  | n + 1, σ, a => match a with
    | .ref x p c => (cellAtB σ x p c).tree
    | .lv x p j => match getS σ.s x with
      | some r => match rowOf r.cells p with
        | some row => (row.drop j).all fun a => a.tree || okV n σ a
        | none => false
      | none => false
    | .agg l => l.all (okV n σ)
    | .tup l => l.all (okV n σ)
    | .func _ x y => x.all (okV n σ) && y.all (okV n σ)
    | .ifc _ a => okV n σ a
    | _ => true
theorem view_ext {τ σ : St} (h : Ext τ σ) : ∀ (n : Nat) (a : AV), okV n τ a = true → view n σ a = view n τ a
  | 0, a, hv => by simp [okV] at hv
  | n + 1, a, hv => by
    have ih := view_ext h n
    have list : ∀ (l : List AV), l.all (okV n τ) = true → l.map (view n σ) = l.map (view n τ) := fun l hl => List.map_congr_left fun a ha => ih a (List.all_eq_true.1 hl a ha)
    cases a <;> simp only [okV] at hv <;> simp only [view]
    case ref x p c =>
      have hne : cellAtB τ x p c ≠ .undef := fun e => by rw [e] at hv; cases hv
      rw [h.cell hne]
    case lv x p j =>
      split at hv
      · rename_i r hr
        rw [h.s x r hr, hr]
        simp only
        split at hv
        · rename_i row hrow
          simp only [hrow]
          have : ((row.drop j).map fun a => if a.tree = true then a.freeze else view n σ a) = ((row.drop j).map fun a => if a.tree = true then a.freeze else view n τ a) := by
            refine List.map_congr_left fun a ha => ?_
            have := List.all_eq_true.1 hv a ha
            simp only [Bool.or_eq_true] at this
            by_cases ht : a.tree = true
            · rw [if_pos ht, if_pos ht]
            · rw [if_neg ht, if_neg ht]; exact ih a (this.resolve_left ht)
          rw [this]
        · cases hv
      · cases hv
    case agg l => rw [list l hv]
    case tup l => rw [list l hv]
    case func f x y =>
      simp only [Bool.and_eq_true] at hv
      rw [list x hv.1, list y hv.2]
    case ifc t b => rw [ih b hv]
theorem callL_ev {first caps : List AV} {xs : List Operand} {σ τ : St} (h : ∀ x ∈ xs, ev σ x = ev τ x) : callL σ first xs caps = callL τ first xs caps := by
  unfold callL; rw [List.map_congr_left h]
theorem Seg.call {os : List Oper} {t : List (Nat × AV)} {r : Option Root} {d : Option Tmp} {ty : TypeId} {pos : String} {af : Array Edge} {gd : Option (Nat × Bool)} {x : Operand} {xs : Array Operand} {ts : Array TypeId} {f : FuncId} {first caps args : List AV} {v : AV}
    (hp : PCall P up f args (· = v)) (hw : wantd all { σ0 with t := t } ⟨d, .call ⟨.value x, xs, ts⟩, ty, pos, af, gd⟩ = some true) (hx : ev { σ0 with t := t } x = .func (.func f) first caps)
    (hok : (callL { σ0 with t := t } first xs.toList caps).all (okV 9 { σ0 with t := t }) = true) (ha : leL args ((callL { σ0 with t := t } first xs.toList caps).map (view 9 { σ0 with t := t }))) (hv : v.flat = true)
    (hk : Seg P up all σ0 os (putT t d v) r K) : Seg P up all σ0 (⟨d, .call ⟨.value x, xs, ts⟩, ty, pos, af, gd⟩ :: os) t r K := by
  refine ⟨t, v, none, fun _ => rfl, ⟨fun _ => rfl, ?_⟩, .inl rfl, hk⟩
  intro σ' hl he hn
  refine .inl ⟨by rw [wantd_congr (τ := { σ0 with t := t }) hl]; exact hw, ?_⟩
  have hev : ∀ y ∈ (Op.call ⟨.value x, xs, ts⟩).operands, ev σ' y = ev { σ0 with t := t } y := fun y hy => looks_ops (τ := { σ0 with t := t }) hl hy
  have hc : callL σ' first xs.toList caps = callL { σ0 with t := t } first xs.toList caps := callL_ev fun y hy => hev y (by simp [Op.operands, Call.operands]; right; simpa using hy)
  have hx' : ev σ' x = .func (.func f) first caps := by rw [hev x (by simp [Op.operands, Call.operands])]; exact hx
  refine snd_pcall rfl hx' hp ?_ (fun r hr => by subst hr; exact ⟨hv, rfl⟩)
  rw [hc, List.map_congr_left fun a ha => view_ext (τ := { σ0 with t := t }) ⟨he.s, he.n⟩ 9 a (List.all_eq_true.1 hok a ha)]
  exact ha
theorem Seg.callA {os : List Oper} {t : List (Nat × AV)} {r : Option Root} {d : Option Tmp} {ty : TypeId} {pos : String} {af : Array Edge} {gd : Option (Nat × Bool)} {x : Operand} {xs : Array Operand} {ts : Array TypeId} {f : FuncId} {first caps args : List AV} {v : AV}
    (hp : PCall P up f args (· = v)) (hw : wantd all { σ0 with t := t } ⟨d, .call ⟨.value x, xs, ts⟩, ty, pos, af, gd⟩ = some true) (hx : ev { σ0 with t := t } x = .func (.func f) first caps)
    (ha : leL args (callL { σ0 with t := t } first xs.toList caps)) (hpu : pureL (callL { σ0 with t := t } first xs.toList caps) = true)
    (hk : Seg P up all σ0 os (putT t d v) r K) : Seg P up all σ0 (⟨d, .call ⟨.value x, xs, ts⟩, ty, pos, af, gd⟩ :: os) t r K := by
  refine ⟨t, v, none, fun _ => rfl, ⟨fun _ => rfl, ?_⟩, .inl rfl, hk⟩
  intro σ' hl he hn
  refine .inl ⟨by rw [wantd_congr (τ := { σ0 with t := t }) hl]; exact hw, ?_⟩
  have hev : ∀ y ∈ (Op.call ⟨.value x, xs, ts⟩).operands, ev σ' y = ev { σ0 with t := t } y := fun y hy => looks_ops (τ := { σ0 with t := t }) hl hy
  have hc : callL σ' first xs.toList caps = callL { σ0 with t := t } first xs.toList caps := callL_ev fun y hy => hev y (by simp [Op.operands, Call.operands]; right; simpa using hy)
  have hx' : ev σ' x = .func (.func f) first caps := by rw [hev x (by simp [Op.operands, Call.operands])]; exact hx
  exact snd_pcallA rfl hx' hp (by rw [hc]; exact ha) (by rw [hc]; exact hpu) (fun r hr => by subst hr; rfl)
end
end Go.Ab
namespace Go.Ab
open Go Go.RowKit
def nxtS (TT : TTab) (all : Array Oper) (n : Nat) (o : Oper) (os : List Oper) (σ : St) (ob : Prop) : Option Ev → Stop
  | some e => runS TT all n os (fin o.dst e) (ob ∧ e.ob)
  | none => ⟨o :: os, σ, ob⟩
theorem runS_cons (TT : TTab) (all : Array Oper) (n : Nat) (o : Oper) (os : List Oper) (σ : St) (ob : Prop) : runS TT all (n + 1) (o :: os) σ ob = nxtS TT all n o os σ ob (runStep TT all σ o) := by
  simp only [runS, nxtS]; split <;> simp_all
theorem runS_nil (TT : TTab) (all : Array Oper) (n : Nat) (σ : St) (ob : Prop) : runS TT all n [] σ ob = ⟨[], σ, ob⟩ := by cases n <;> rfl
theorem runS_zero (TT : TTab) (all : Array Oper) (os : List Oper) (σ : St) (ob : Prop) : runS TT all 0 os σ ob = ⟨os, σ, ob⟩ := by cases os <;> rfl
def doit (TT : TTab) (σ : St) (o : Oper) : Option Bool → Option Ev
  | some true => eop TT σ o.dst o.op
  | some false => some ⟨σ, .tup [], True⟩
  | none => none
theorem runStep_eq (TT : TTab) (all : Array Oper) (σ : St) (o : Oper) : runStep TT all σ o = doit TT σ o (wantd all σ o) := rfl
def nxtG (TT : TTab) (all : Array Oper) (σ0 : St) (n : Nat) (o : Oper) (os : List Oper) (t : List (Nat × AV)) (r : Option Root) : Option (AV × Option Root) → StopG
  | some (v, none) => runG TT all σ0 n os (putT t o.dst v) r
  | some (v, some r1) => match r with
    | none => runG TT all σ0 n os (putT t o.dst v) (some r1)
    | some _ => ⟨o :: os, t, r⟩
  | none => ⟨o :: os, t, r⟩
theorem runG_cons (TT : TTab) (all : Array Oper) (σ0 : St) (n : Nat) (o : Oper) (os : List Oper) (t : List (Nat × AV)) (r : Option Root) : runG TT all σ0 (n + 1) (o :: os) t r = nxtG TT all σ0 n o os t r (segStep TT all { σ0 with t := t } o) := by
  simp only [runG]
  split
  · rename_i v r1 h
    rw [h]
    cases r1 with
    | none => rfl
    | some r1 => cases r <;> rfl
  · rename_i h; rw [h]; rfl
theorem runG_nil (TT : TTab) (all : Array Oper) (σ0 : St) (n : Nat) (t : List (Nat × AV)) (r : Option Root) : runG TT all σ0 n [] t r = ⟨[], t, r⟩ := by cases n <;> rfl
theorem runG_zero (TT : TTab) (all : Array Oper) (σ0 : St) (os : List Oper) (t : List (Nat × AV)) (r : Option Root) : runG TT all σ0 0 os t r = ⟨os, t, r⟩ := by cases os <;> rfl
def doitG (TT : TTab) (σ : St) (o : Oper) : Option Bool → Option (AV × Option Root)
  | some true => pval TT σ o.op
  | some false => some (.tup [], none)
  | none => none
theorem segStep_eq (TT : TTab) (all : Array Oper) (σ : St) (o : Oper) : segStep TT all σ o = doitG TT σ o (wantd all σ o) := rfl
theorem eqT_succ (TT : TTab) (n t : Nat) (a b : AV) : eqT TT (n + 1) t a b = match TT t with
    | some i => match i.kind with
      | .int _ => match a, b with
        | .int k x, .int k' y => if k = k' then some (decide (x = y)) else none
        | _, _ => none
      | .str => match a, b with
        | .str x, .str y => some (decide (x = y))
        | _, _ => none
      | .bool => match a, b with
        | .bool x, .bool y => some (decide (x = y))
        | _, _ => none
      | .struct fs => if i.eqs = true then (match a, b with
        | .agg l, .agg l' => eqF TT (eqT TT n) fs l l'
        | _, _ => none) else none
      | _ => none
    | none => none := by
  conv => lhs; unfold eqT
  rfl
theorem nxtS_some (TT : TTab) (all : Array Oper) (n : Nat) (o : Oper) (os : List Oper) (σ : St) (ob : Prop) (e : Ev) : nxtS TT all n o os σ ob (some e) = runS TT all n os (fin o.dst e) (ob ∧ e.ob) := rfl
theorem nxtS_none (TT : TTab) (all : Array Oper) (n : Nat) (o : Oper) (os : List Oper) (σ : St) (ob : Prop) : nxtS TT all n o os σ ob none = ⟨o :: os, σ, ob⟩ := rfl
theorem doit_true (TT : TTab) (σ : St) (o : Oper) : doit TT σ o (some true) = eop TT σ o.dst o.op := rfl
theorem doit_false (TT : TTab) (σ : St) (o : Oper) : doit TT σ o (some false) = some ⟨σ, .tup [], True⟩ := rfl
theorem doit_none (TT : TTab) (σ : St) (o : Oper) : doit TT σ o none = none := rfl
theorem doitG_true (TT : TTab) (σ : St) (o : Oper) : doitG TT σ o (some true) = pval TT σ o.op := rfl
theorem doitG_false (TT : TTab) (σ : St) (o : Oper) : doitG TT σ o (some false) = some (.tup [], none) := rfl
theorem doitG_none (TT : TTab) (σ : St) (o : Oper) : doitG TT σ o none = none := rfl
theorem nxtG_val (TT : TTab) (all : Array Oper) (σ0 : St) (n : Nat) (o : Oper) (os : List Oper) (t : List (Nat × AV)) (r : Option Root) (v : AV) : nxtG TT all σ0 n o os t r (some (v, none)) = runG TT all σ0 n os (putT t o.dst v) r := rfl
theorem nxtG_new (TT : TTab) (all : Array Oper) (σ0 : St) (n : Nat) (o : Oper) (os : List Oper) (t : List (Nat × AV)) (v : AV) (r1 : Root) : nxtG TT all σ0 n o os t none (some (v, some r1)) = runG TT all σ0 n os (putT t o.dst v) (some r1) := rfl
theorem nxtG_none (TT : TTab) (all : Array Oper) (σ0 : St) (n : Nat) (o : Oper) (os : List Oper) (t : List (Nat × AV)) (r : Option Root) : nxtG TT all σ0 n o os t r none = ⟨o :: os, t, r⟩ := rfl
attribute [go_sem] runS_cons runS_nil runS_zero nxtS_some nxtS_none runStep_eq doit_true doit_false doit_none wantd gdst fin eop eCall eLen eApp eSto eUpd eBox addR rop rLoad rField rFieldAddr rIndexAddr rIndex rLookup rAssert rBuild rBuildSlice eqKindB rBin isStr eqT_succ eqF tiOK notIface ev ofV getT St.put newR getS updS delS
attribute [go_sem] arrFs abin abinI abinS ashift isShift eqB aun mkV ldc TK.agg AV.tree AV.cell AV.cells AV.pure pureL allCell cellAtB rowOf putAt fillB fillR setL stCells stCell mov mapT mapS AV.kill through srcRows isRef mapOf maplk mapput
attribute [go_sem] runG_cons runG_nil runG_zero nxtG_val nxtG_new nxtG_none segStep_eq doitG_true doitG_false doitG_none pval lenC putT endSt callL tmps0 one resL AV.flat flatL leP leL allTT Names AllT AllS Sub SubL
attribute [go_sem] Option.map_some Option.map_none List.map_cons List.map_nil if_true if_false
attribute [go_sem] beq_self_eq_true Bool.false_or Bool.or_true Bool.true_or Bool.or_false Bool.and_true Bool.true_and Bool.and_false Bool.false_and decide_true decide_false true_and and_true and_self not_false_eq_true ne_eq
attribute [go_sem] List.length_cons List.length_nil List.take_succ_cons List.take_zero List.take_nil List.drop_succ_cons List.drop_zero List.drop_nil List.headD_cons List.getElem?_cons_zero List.getElem?_cons_succ List.getElem?_nil List.length_map List.getElem?_map List.nil_append List.append_nil List.cons_append List.getD_cons_zero List.getD_cons_succ List.set_cons_zero List.set_cons_succ List.all_cons List.all_nil List.isEmpty_nil List.isEmpty_cons
attribute [go_sem] AV.agg.injEq AV.tup.injEq exists_eq_left' exists_eq_left AV.sl.injEq AV.int.injEq AV.str.injEq AV.bool.injEq
attribute [go_sem] Int.toNat_natCast Int.natCast_nonneg Option.bind_some Option.isSome_some Option.isNone_none Option.isNone_some not_true_eq_false or_true true_or or_false false_or
theorem view_succ (n : Nat) (σ : St) (a : AV) : view (n + 1) σ a = match a with
    | .ref x p c => if (cellAtB σ x p c).tree = true then (cellAtB σ x p c).freeze else .undef
    | .lv x p j => match getS σ.s x with
      | some r => if p ≠ [] ∨ r.box = true then (match rowOf r.cells p with
        | some row => .fp ((row.drop j).map fun a => if a.tree = true then a.freeze else view n σ a)
        | none => .undef) else .undef
      | none => .undef
    | .agg l => .agg (l.map (view n σ))
    | .tup l => .tup (l.map (view n σ))
    | .func f x y => .func f (x.map (view n σ)) (y.map (view n σ))
    | .ifc t a => .ifc t (view n σ a)
    | a => a := by cases a <;> rfl
theorem okV_succ (n : Nat) (σ : St) (a : AV) : okV (n + 1) σ a = match a with
    | .ref x p c => (cellAtB σ x p c).tree
    | .lv x p j => match getS σ.s x with
      | some r => match rowOf r.cells p with
        | some row => (row.drop j).all fun a => a.tree || okV n σ a
        | none => false
      | none => false
    | .agg l => l.all (okV n σ)
    | .tup l => l.all (okV n σ)
    | .func _ x y => x.all (okV n σ) && y.all (okV n σ)
    | .ifc _ a => okV n σ a
    | _ => true := by cases a <;> rfl
theorem beqTT : (true == true) = true := rfl
theorem beqTF : (true == false) = false := rfl
theorem beqFT : (false == true) = false := rfl
theorem beqFF : (false == false) = true := rfl
attribute [go_sem] beqTT beqTF beqFT beqFF
attribute [go_sem] view_succ okV_succ id_eq
theorem retQ.ret {TT : TTab} {rs : List ResultVar} {R : AV → Prop} {σ : St} {l : List AV} {r : AV} (h1 : resL TT σ rs = some l) (h2 : view 9 σ (one l) = r) (h3 : ∃ r', leP r' r ∧ R r') : retQ TT rs R .ret σ := by
  obtain ⟨r', h3, h4⟩ := h3; exact ⟨.inr rfl, l, r', h1, by rw [h2]; exact h3, h4⟩
theorem wrap_succ {i : Nat} (h : i < MX) : IntKind.i64.wrap ((i : Int) + 1) = ((i + 1 : Nat) : Int) := by
  unfold MX at h
  simp only [IntKind.wrap, IntKind.bits, IntKind.signed]
  simp
  omega
end Go.Ab
namespace Go.Ab
open Go Go.RowKit
def ren (m : Nat → Nat) : AV → AV
  | .ref x p c => .ref (m x) p c
  | .lv x p j => .lv (m x) p j
  | .agg l => .agg (l.map fun a => ren m a)
  | .tup l => .tup (l.map fun a => ren m a)
  | .func f a b => .func f (a.map fun a => ren m a) (b.map fun a => ren m a)
  | .ifc t a => .ifc t (ren m a)
  | a => a
theorem ren_tree {m : Nat → Nat} {a : AV} (h : a.tree = true) : ren m a = a := by cases a <;> first | (cases h; done) | simp only [ren]
theorem FR.ren {w : World} {A : Nat → Prop} {m : Nat → Nat} {a : AV} {v : Value} (h : FR w A a v) : FR w A (ren m a) v := by
  induction h with
  | func fn first caps us vs h1 h2 h3 h4 ih1 ih2 =>
    simp only [Ab.ren]
    refine .func fn _ _ us vs (by simpa using h1) (by simpa using h2) (fun i a h => ?_) (fun i a h => ?_)
    · simp only [List.getElem?_map, Option.map_eq_some_iff] at h
      obtain ⟨a', h', rfl⟩ := h; exact ih1 i a' h'
    · simp only [List.getElem?_map, Option.map_eq_some_iff] at h
      obtain ⟨a', h', rfl⟩ := h; exact ih2 i a' h'
  | ifc t v u h ih => simp only [Ab.ren]; exact .ifc t _ u ih
  | agg l vs h1 h2 ih =>
    simp only [Ab.ren]
    refine .agg _ vs (by simpa using h1) fun i a h => ?_
    simp only [List.getElem?_map, Option.map_eq_some_iff] at h
    obtain ⟨a', h', rfl⟩ := h; exact ih i a' h'
  | tup l vs h1 h2 ih =>
    simp only [Ab.ren]
    refine .tup _ vs (by simpa using h1) fun i a h => ?_
    simp only [List.getElem?_map, Option.map_eq_some_iff] at h
    obtain ⟨a', h', rfl⟩ := h; exact ih i a' h'
  | sl n l b o cap h1 h2 h3 h4 h5 h6 _ => simp only [Ab.ren]; exact .sl n l b o cap h1 h2 h3 h4 h5 h6
  | fp l b o h5 h6 _ => simp only [Ab.ren]; exact .fp l b o h5 h6
  | fmap es b ents clock h1 h2 h3 h4 h5 h6 _ => simp only [Ab.ren]; exact .fmap es b ents clock h1 h2 h3 h4 h5 h6
  | str s h => simp only [Ab.ren]; exact .str s h
  | undef v => simp only [Ab.ren]; exact .undef v
  | bool v => simp only [Ab.ren]; exact .bool v
  | int k v => simp only [Ab.ren]; exact .int k v
  | nilsl => simp only [Ab.ren]; exact .nilsl
  | slnil n => simp only [Ab.ren]; exact .slnil n
  | slmt n a cap h => simp only [Ab.ren]; exact .slmt n a cap h
  | tight n l ad h _ => simp only [Ab.ren]; exact .tight n l ad h
  | nilp => simp only [Ab.ren]; exact .nilp
  | nilmap => simp only [Ab.ren]; exact .nilmap
  | nilfunc => simp only [Ab.ren]; exact .nilfunc
  | nili => simp only [Ab.ren]; exact .nili
theorem Rel.ren {w : World} {A A' : Nat → Prop} {G G' : Nat → Option GR} {n n' : Nat} {m : Nat → Nat} (hA : ∀ b, b < w.heap.size → A' b → A b) (hn : ∀ x, x < n → m x < n') (hG : ∀ x, x < n → G' (m x) = G x) {a : AV} {v : Value}
    (h : Rel w A G n a v) : Rel w A' G' n' (ren m a) v := by
  have list : ∀ (l : List AV) (vs : List Value), vs.length = l.length → (∀ (i : Nat) (a : AV), l[i]? = some a → Rel w A' G' n' (Ab.ren m a) (vs.getD i Go.undef)) →
      vs.length = (l.map fun a => Ab.ren m a).length ∧ ∀ (i : Nat) (a : AV), (l.map fun a => Ab.ren m a)[i]? = some a → Rel w A' G' n' a (vs.getD i Go.undef) := by
    intro l vs h1 h2
    refine ⟨by simpa using h1, fun i a h => ?_⟩
    simp only [List.getElem?_map, Option.map_eq_some_iff] at h
    obtain ⟨a', h', rfl⟩ := h
    exact h2 i a' h'
  induction h with
  | fr a v h => exact .fr _ v ((h.keep (fun _ _ _ => rfl) hA).ren)
  | ref x p c v h1 h2 h3 =>
    simp only [Ab.ren]
    exact .ref _ p c v (hn x h1) h2 (fun r row g hr => h3 r row g (by rw [← hG x h1]; exact hr))
  | lv x p j ad h1 h2 =>
    simp only [Ab.ren]
    exact .lv _ p j ad (hn x h1) (fun r b o hr => h2 r b o (by rw [← hG x h1]; exact hr))
  | func fn first caps us vs h1 h2 h3 h4 ih1 ih2 =>
    simp only [Ab.ren]
    obtain ⟨g1, g2⟩ := list first us h1 ih1
    obtain ⟨g3, g4⟩ := list caps vs h2 ih2
    exact .func fn _ _ us vs g1 g3 g2 g4
  | ifc t v u h ih => simp only [Ab.ren]; exact .ifc t _ u ih
  | agg l vs h1 h2 ih => simp only [Ab.ren]; obtain ⟨g1, g2⟩ := list l vs h1 ih; exact .agg _ vs g1 g2
  | tup l vs h1 h2 ih => simp only [Ab.ren]; obtain ⟨g1, g2⟩ := list l vs h1 ih; exact .tup _ vs g1 g2
def kref (y : Nat) : List (Nat × Nat) → Nat → AV
  | [], 0 => .ref y [] 0
  | _, _ => .undef
def killH (ρ K : List Nat) : AV → AV
  | .ref y q c => if memB y ρ = true then (if memB y K = true then kref y q c else .undef) else .ref y q c
  | .lv y q c => if memB y ρ = true then (match q with | [] => .lv y q c | _ :: _ => .undef) else .lv y q c
  | .agg l => .agg (l.map fun a => killH ρ K a)
  | .tup l => .tup (l.map fun a => killH ρ K a)
  | .func f a b => .func f (a.map fun a => killH ρ K a) (b.map fun a => killH ρ K a)
  | .ifc t a => .ifc t (killH ρ K a)
  | a => a
theorem killH_tree {ρ K : List Nat} {a : AV} (h : a.tree = true) : killH ρ K a = a := by cases a <;> first | (cases h; done) | simp only [killH]
theorem FR.killH {w : World} {A : Nat → Prop} {ρ K : List Nat} {a : AV} {v : Value} (h : FR w A a v) : FR w A (killH ρ K a) v := by
  induction h with
  | func fn first caps us vs h1 h2 h3 h4 ih1 ih2 =>
    simp only [Ab.killH]
    refine .func fn _ _ us vs (by simpa using h1) (by simpa using h2) (fun i a h => ?_) (fun i a h => ?_)
    · simp only [List.getElem?_map, Option.map_eq_some_iff] at h
      obtain ⟨a', h', rfl⟩ := h; exact ih1 i a' h'
    · simp only [List.getElem?_map, Option.map_eq_some_iff] at h
      obtain ⟨a', h', rfl⟩ := h; exact ih2 i a' h'
  | ifc t v u h ih => simp only [Ab.killH]; exact .ifc t _ u ih
  | agg l vs h1 h2 ih =>
    simp only [Ab.killH]
    refine .agg _ vs (by simpa using h1) fun i a h => ?_
    simp only [List.getElem?_map, Option.map_eq_some_iff] at h
    obtain ⟨a', h', rfl⟩ := h; exact ih i a' h'
  | tup l vs h1 h2 ih =>
    simp only [Ab.killH]
    refine .tup _ vs (by simpa using h1) fun i a h => ?_
    simp only [List.getElem?_map, Option.map_eq_some_iff] at h
    obtain ⟨a', h', rfl⟩ := h; exact ih i a' h'
  | sl n l b o cap h1 h2 h3 h4 h5 h6 _ => simp only [Ab.killH]; exact .sl n l b o cap h1 h2 h3 h4 h5 h6
  | fp l b o h5 h6 _ => simp only [Ab.killH]; exact .fp l b o h5 h6
  | fmap es b ents clock h1 h2 h3 h4 h5 h6 _ => simp only [Ab.killH]; exact .fmap es b ents clock h1 h2 h3 h4 h5 h6
  | str s h => simp only [Ab.killH]; exact .str s h
  | undef v => simp only [Ab.killH]; exact .undef v
  | bool v => simp only [Ab.killH]; exact .bool v
  | int k v => simp only [Ab.killH]; exact .int k v
  | nilsl => simp only [Ab.killH]; exact .nilsl
  | slnil n => simp only [Ab.killH]; exact .slnil n
  | slmt n a cap h => simp only [Ab.killH]; exact .slmt n a cap h
  | tight n l ad h _ => simp only [Ab.killH]; exact .tight n l ad h
  | nilp => simp only [Ab.killH]; exact .nilp
  | nilmap => simp only [Ab.killH]; exact .nilmap
  | nilfunc => simp only [Ab.killH]; exact .nilfunc
  | nili => simp only [Ab.killH]; exact .nili
theorem Rel.killH {w w' : World} {A A' : Nat → Prop} {G G' : Nat → Option GR} {n n' : Nat} {ρ K : List Nat} (hn : n ≤ n') (hw : ∀ b, b < w.heap.size → ¬ A b → w'.heap[b]? = w.heap[b]?) (hA : ∀ b, b < w.heap.size → A' b → A b)
    (hG : ∀ y, y < n → y ∉ ρ → G' y = G y) (hB : ∀ y g', y < n → y ∈ ρ → G' y = some g' → ∃ g, G y = some g ∧ g'.base = g.base)
    (hK : ∀ y g' t', y < n → y ∈ ρ → y ∈ K → G' y = some g' → g'.cells[0]? = some t' → t'.leaf = false → ∃ g t, G y = some g ∧ g.cells[0]? = some t ∧ t.leaf = false ∧ t'.val = t.val) {a : AV} {v : Value} (h : Rel w A G n a v) : Rel w' A' G' n' (killH ρ K a) v := by
  have list : ∀ (l : List AV) (vs : List Value), vs.length = l.length → (∀ (i : Nat) (a : AV), l[i]? = some a → Rel w' A' G' n' (Ab.killH ρ K a) (vs.getD i Go.undef)) →
      vs.length = (l.map fun a => Ab.killH ρ K a).length ∧ ∀ (i : Nat) (a : AV), (l.map fun a => Ab.killH ρ K a)[i]? = some a → Rel w' A' G' n' a (vs.getD i Go.undef) := by
    intro l vs h1 h2
    refine ⟨by simpa using h1, fun i a h => ?_⟩
    simp only [List.getElem?_map, Option.map_eq_some_iff] at h
    obtain ⟨a', h', rfl⟩ := h
    exact h2 i a' h'
  induction h with
  | fr a v h => exact .fr _ v ((h.keep hw hA).killH)
  | ref x p c v h1 h2 h3 =>
    simp only [Ab.killH]
    split
    · rename_i hm
      split
      · rename_i hmk
        unfold kref
        split
        · refine .ref _ [] 0 v (Nat.lt_of_lt_of_le h1 hn) h2 (fun r row g hr hrow hc hl => ?_)
          cases hrow
          obtain ⟨g0, t, k1, k2, k3, k4⟩ := hK x r g h1 (memB_iff.1 hm) (memB_iff.1 hmk) hr hc hl
          rw [k4]
          exact h3 g0 g0.cells t k1 rfl k2 k3
        · exact .fr _ _ (.undef v)
      · exact .fr _ _ (.undef v)
    · rename_i hm
      have hx : x ∉ ρ := fun h => hm (memB_iff.2 h)
      exact .ref _ p c v (Nat.lt_of_lt_of_le h1 hn) h2 (fun r row g hr => h3 r row g (by rw [← hG x h1 hx]; exact hr))
  | lv x p j ad h1 h2 =>
    by_cases hx : x ∈ ρ
    · cases p with
      | nil =>
        have e : Ab.killH ρ K (.lv x [] j) = .lv x [] j := by simp only [Ab.killH]; split <;> rfl
        rw [e]
        refine .lv _ [] j ad (Nat.lt_of_lt_of_le h1 hn) (fun r b o hr hb => ?_)
        obtain ⟨g, k1, k2⟩ := hB x r h1 hx hr
        refine h2 g b o k1 ?_
        have hb' : r.at_ = some (b, o) := by rw [← hb]; unfold gBase; rfl
        have hg : gBase g.at_ g.cells [] = g.at_ := by unfold gBase; rfl
        rw [hg, ← hb']
        show g.base.map _ = r.base.map _
        rw [k2]
      | cons q p =>
        simp only [Ab.killH, if_pos (memB_iff.2 hx)]
        exact .fr _ _ (.undef _)
    · have hm : ¬ memB x ρ = true := fun h => hx (memB_iff.1 h)
      have e : Ab.killH ρ K (.lv x p j) = .lv x p j := by cases p <;> simp only [Ab.killH, if_neg hm]
      rw [e]
      exact .lv _ p j ad (Nat.lt_of_lt_of_le h1 hn) (fun r b o hr => h2 r b o (by rw [← hG x h1 hx]; exact hr))
  | func fn first caps us vs h1 h2 h3 h4 ih1 ih2 =>
    simp only [Ab.killH]
    obtain ⟨g1, g2⟩ := list first us h1 ih1
    obtain ⟨g3, g4⟩ := list caps vs h2 ih2
    exact .func fn _ _ us vs g1 g3 g2 g4
  | ifc t v u h ih => simp only [Ab.killH]; exact .ifc t _ u ih
  | agg l vs h1 h2 ih => simp only [Ab.killH]; obtain ⟨g1, g2⟩ := list l vs h1 ih; exact .agg _ vs g1 g2
  | tup l vs h1 h2 ih => simp only [Ab.killH]; obtain ⟨g1, g2⟩ := list l vs h1 ih; exact .tup _ vs g1 g2
def mName (ρ : List Nat) (k x : Nat) : Nat := ρ.getD x (k + x)
def unName (ρ : List Nat) (k y : Nat) : Option Nat := if y ∈ ρ then some (ρ.idxOf y) else if k + ρ.length ≤ y then some (y - k) else none
theorem un_m {ρ : List Nat} {k x : Nat} (hd : ρ.Nodup) (hk : ∀ y ∈ ρ, y < k) : unName ρ k (mName ρ k x) = some x := by
  unfold unName mName
  by_cases hx : x < ρ.length
  · have e : ρ.getD x (k + x) = ρ[x] := by simp [hx]
    rw [e, if_pos (List.getElem_mem hx), List.Nodup.idxOf_getElem hd x hx]
  · have e : ρ.getD x (k + x) = k + x := by simp [List.getElem?_eq_none (Nat.le_of_not_lt hx)]
    rw [e, if_neg (fun h => by have := hk _ h; omega), if_pos (by omega)]
    congr 1; omega
theorem m_un {ρ : List Nat} {k x y : Nat} (h : unName ρ k y = some x) : mName ρ k x = y := by
  unfold unName at h
  unfold mName
  split at h
  · rename_i hy
    cases h
    have hl := List.idxOf_lt_length_of_mem hy
    have : ρ[ρ.idxOf y]? = some y := by rw [List.getElem?_eq_getElem hl, List.getElem_idxOf hl]
    simp [this]
  · split at h
    · rename_i hy hl
      cases h
      have : ρ[y - k]? = none := List.getElem?_eq_none (by omega)
      simp [this]; omega
    · cases h
end Go.Ab
namespace Go.Ab
open Go Go.RowKit
def HKept (H : List Nat) (G G' : Nat → Option GR) : Prop := ∀ x, x ∈ H → ∀ g' t', G' x = some g' → g'.cells[0]? = some t' → t'.leaf = false → ∃ g t, G x = some g ∧ g.cells[0]? = some t ∧ t.leaf = false ∧ t'.val = t.val
def EndsG (up : Bool) (w : World) (A : Nat → Prop) (G : Nat → Option GR) (n : Nat) (H : List Nat) (Post : AV → St → Prop) : Ending → World → Prop
  | .returned v, w' => ∃ (σ' : St) (G' : Nat → Option GR) (r : AV), Post r σ' ∧ Inv A w' σ'.n σ'.s G' ∧ Rel w' (Own A G') G' σ'.n r v ∧ Fr (GFp G) w w' ∧ (∀ b, GFp G' b → GFp G b ∨ w.heap.size ≤ b) ∧
      (∀ x g g', x < n → G x = some g → G' x = some g' → g'.base = g.base) ∧ HKept H G G'
  | .panicked _, _ => False
  | .outgrown, _ => up = true
def GCallH (P : Program) (up : Bool) (f : FuncId) (args : List AV) (n : Nat) (s : List (Nat × Root)) (H : List Nat) (Post : AV → St → Prop) : Prop :=
  Callable P f ∧ ∀ (w : World) (A : Nat → Prop) (G : Nat → Option GR) (vs : List Value), (∀ b, A b → b < w.heap.size) → Inv A w n s G → vs.length = args.length → (∀ (i : Nat) (a : AV), args[i]? = some a → Rel w (Own A G) G n a (vs.getD i undef)) →
    Calls P f vs.toArray w (EndsG up w A G n H Post)
abbrev GCall (P : Program) (up : Bool) (f : FuncId) (args : List AV) (n : Nat) (s : List (Nat × Root)) (Post : AV → St → Prop) : Prop := GCallH P up f args n s [] Post
def ptrOK (np : Nat) (args : List AV) (σ : St) : List (Nat × Root) → Prop
  | [] => True
  | (x, r) :: rest => (∀ r', getS σ.s x = some r' → (r.box = false ∧ r'.box = false) ∨ ∃ i, (r.box = true ∧ r'.box = true) ∧ i < np ∧ args[i]? = some (.lv x [] 0) ∧ getT σ.t i = .lv x [] 0) ∧ ptrOK np args σ rest
theorem ptrOK_get {np : Nat} {args : List AV} {σ : St} : ∀ {s : List (Nat × Root)} {x : Nat} {r : Root}, ptrOK np args σ s → getS s x = some r → ∀ r', getS σ.s x = some r' → (r.box = false ∧ r'.box = false) ∨ ∃ i, (r.box = true ∧ r'.box = true) ∧ i < np ∧ args[i]? = some (.lv x [] 0) ∧ getT σ.t i = .lv x [] 0
  | [], x, r, _, h => by simp [getS] at h
  | (y, u) :: rest, x, r, h, hg => by
    simp only [getS] at hg
    split at hg
    · rename_i e; subst e; cases hg; exact h.1
    · exact ptrOK_get h.2 hg
def hdrOK (np : Nat) (args : List AV) (s : List (Nat × Root)) (σ : St) : List Nat → Prop
  | [] => True
  | x :: r => (∃ i, i < np ∧ args[i]? = some (.ref x [] 0) ∧ getT σ.t i = .ref x [] 0 ∧ (match getS s x with | some r => (match r.cells with | av :: _ => av.tree | [] => false) | none => false) = true) ∧ hdrOK np args s σ r
theorem hdrOK_get {np : Nat} {args : List AV} {s : List (Nat × Root)} {σ : St} : ∀ {H : List Nat} {x : Nat}, hdrOK np args s σ H → x ∈ H → ∃ i, i < np ∧ args[i]? = some (.ref x [] 0) ∧ getT σ.t i = .ref x [] 0 ∧ (match getS s x with | some r => (match r.cells with | av :: _ => av.tree | [] => false) | none => false) = true
  | y :: r, x, h, hx => by
    rcases List.mem_cons.1 hx with rfl | hx
    · exact h.1
    · exact hdrOK_get h.2 hx
def retH (TT : TTab) (rs : List ResultVar) (np : Nat) (args : List AV) (s : List (Nat × Root)) (H : List Nat) (Post : AV → St → Prop) (e : Exit) (σ : St) : Prop :=
  (e = .normal ∨ e = .ret) ∧ (ptrOK np args σ s ∧ hdrOK np args s σ H) ∧ ∃ l, resL TT σ rs = some l ∧ Post (one l) σ
def retG (TT : TTab) (rs : List ResultVar) (np : Nat) (args : List AV) (s : List (Nat × Root)) (Post : AV → St → Prop) (e : Exit) (σ : St) : Prop :=
  (e = .normal ∨ e = .ret) ∧ ptrOK np args σ s ∧ ∃ l, resL TT σ rs = some l ∧ Post (one l) σ
section
variable {P : Program} {TT : TTab} {up : Bool} {σ : St} {K : St → Prop}
theorem GCallH.intro (htt : TTok P TT) (np : Nat) {f : FuncId} {fn : Func} {c : Code} {args : List AV} {n : Nat} {s : List (Nat × Root)} {H : List Nat} {Post : AV → St → Prop} (hf : P.funcs[f]? = some fn) (hn : (fn.name == "runtime.NumGoroutine") = false) (hb : fn.body = some c) (hl : args.length ≤ fn.ntmps)
    (hk : CW P up np fn.ntmps c { n := n, t := tmps0 0 args, s := s } (retH TT fn.results.toList np args s H Post)) (hnp : np < 65536 := by decide) : GCallH P up f args n s H Post := by
  refine ⟨⟨fn, hf, hn, by rw [hb]; rfl⟩, fun w A G vs hA hinv hvl hr => ?_⟩
  refine calls_of_wp hf hb ?_
  have hsz : (vs.toArray ++ Array.replicate (fn.ntmps - vs.toArray.size) undef).size = fn.ntmps := by simp; omega
  have hval : ∀ i, i < args.length → (vs.toArray ++ Array.replicate (fn.ntmps - vs.toArray.size) undef).getD i undef = vs.getD i undef := fun i hi => by
    rw [Array.getD_eq_getD_getElem?, List.getD_eq_getElem?_getD, Array.getElem?_append_left (by simp; omega), List.getElem?_toArray]
  refine hk A (GFp G) w _ w G _ (fun hu => ⟨⟨#[], []⟩, w, hu⟩) ⟨hinv, hsz, rfl, fun i hi => ?_, fun i hi => ?_, ⟨rfl, rfl, rfl, Nat.le_refl _, fun _ _ _ => rfl⟩, fun b hb => .inl hb, hA⟩ fun e a' w' σ' G' hh hkept hq => ?_
  · rw [tmps0_get, if_pos (Nat.zero_le i), Nat.sub_zero]
    by_cases hlt : i < args.length
    · have h1 : args[i]? = some args[i] := List.getElem?_eq_getElem hlt
      rw [getD_of h1]
      show Rel w (Own A G) G n args[i] ((vs.toArray ++ Array.replicate (fn.ntmps - vs.toArray.size) undef).getD i undef)
      rw [hval i hlt]
      exact hr i _ h1
    · have : args.getD i .undef = .undef := by simp [List.getElem?_eq_none (Nat.le_of_not_lt hlt)]
      rw [this]
      exact .fr _ _ (.undef _)
  · rw [tmps0_get, if_pos (Nat.zero_le i), Nat.sub_zero]
    simp [List.getElem?_eq_none (show args.length ≤ i by omega)]
  · obtain ⟨he, ⟨hp, hh2⟩, l, hl, hR⟩ := hq
    obtain ⟨v, k1, k2⟩ := hh.results htt hl
    have hbase : ∀ x g g', x < n → G x = some g → G' x = some g' → g'.base = g.base := by
      intro x g g' hx hg hg'
      have hd := hinv.dom x
      rw [hg] at hd
      obtain ⟨r, hr1⟩ := Option.isSome_iff_exists.1 hd
      have hd' := hh.inv.dom x
      rw [hg'] at hd'
      obtain ⟨r', hr2⟩ := Option.isSome_iff_exists.1 hd'
      have b1 := hinv.box x r g hr1 hg
      have b2 := hh.inv.box x r' g' hr2 hg'
      rcases ptrOK_get hp hr1 r' hr2 with ⟨q1, q2⟩ | ⟨i, ⟨q01, q02⟩, q1, q2, q3⟩
      · rw [q1] at b1; rw [q2] at b2
        have e1 : g.base = none := by cases h : g.base with | none => rfl | some b => rw [h] at b1; cases b1
        have e2 : g'.base = none := by cases h : g'.base with | none => rfl | some b => rw [h] at b2; cases b2
        rw [e1, e2]
      · have h1 := hr i _ q2
        have hil : i < args.length := (List.getElem?_eq_some_iff.1 q2).1
        have h2 := hh.slotD i
        rw [q3] at h2
        have hsame : a'.tmps.getD i undef = vs.getD i undef := by
          rw [← hval i hil, Array.getD_eq_getD_getElem?, Array.getD_eq_getD_getElem?, hkept i (kp_lt hnp q1)]
        rw [hsame] at h2
        obtain ⟨ad1, e1, _, l1⟩ := h1.lv_inv
        obtain ⟨ad2, e2, _, l2⟩ := h2.lv_inv
        rw [e1] at e2; cases e2
        have gb : ∀ (q : GR), gBase q.at_ q.cells [] = q.base.map fun b => (b, 0) := fun q => by unfold gBase; rfl
        rw [q01] at b1; rw [q02] at b2
        obtain ⟨b, hgb⟩ := Option.isSome_iff_exists.1 b1.symm
        obtain ⟨b', hgb'⟩ := Option.isSome_iff_exists.1 b2.symm
        have a1 := l1 g b 0 hg (by rw [gb, hgb]; rfl)
        have a2 := l2 g' b' 0 hg' (by rw [gb, hgb']; rfl)
        rw [a1] at a2; cases a2
        rw [hgb, hgb']
    have hkept2 : HKept H G G' := by
      intro x hx g' t' hg' ht' hl'
      obtain ⟨i, q1, q2, q3, q4⟩ := hdrOK_get hh2 hx
      have h1 := hr i _ q2
      have hil : i < args.length := (List.getElem?_eq_some_iff.1 q2).1
      have h2 := hh.slotD i
      rw [q3] at h2
      have hsame : a'.tmps.getD i undef = vs.getD i undef := by
        rw [← hval i hil, Array.getD_eq_getD_getElem?, Array.getD_eq_getD_getElem?, hkept i (kp_lt hnp q1)]
      rw [hsame] at h2
      obtain ⟨_, _, e1⟩ := h1.ref_inv
      obtain ⟨_, _, e2⟩ := h2.ref_inv
      split at q4
      · rename_i r hr1
        split at q4
        · rename_i av rest hrc
          have hd := hinv.dom x
          rw [hr1] at hd
          obtain ⟨g, hg⟩ := Option.isSome_iff_exists.1 hd.symm
          have hcs := hinv.cells x r g hr1 hg
          have hlen := hcs.len
          rw [hrc] at hlen
          obtain ⟨t, ht⟩ : ∃ t, g.cells[0]? = some t := ⟨g.cells[0]'(by rw [← hlen]; simp), List.getElem?_eq_getElem _⟩
          have htl : t.leaf = false := by
            rcases hcs.cell 0 av t (by rw [hrc]; rfl) ht with ⟨k1, _⟩ | ⟨_, k2⟩
            · exact k1
            · exfalso
              generalize t.val = vv at k2
              cases k2 with
              | fr _ _ hf => rw [hf.not_tree] at q4; cases q4
              | _ => cases q4
          exact ⟨g, t, hg, ht, htl, by rw [← e2 g' g'.cells t' hg' rfl ht' hl', e1 g g.cells t hg rfl ht htl]⟩
        · cases q4
      · cases q4
    rcases he with rfl | rfl
    · exact ⟨hh.defers, v, k1, σ', G', one l, hR, hh.inv, k2, hh.fr, hh.own, hbase, hkept2⟩
    · exact ⟨hh.defers, v, k1, σ', G', one l, hR, hh.inv, k2, hh.fr, hh.own, hbase, hkept2⟩
theorem GCall.intro (htt : TTok P TT) (np : Nat) {f : FuncId} {fn : Func} {c : Code} {args : List AV} {n : Nat} {s : List (Nat × Root)} {Post : AV → St → Prop} (hf : P.funcs[f]? = some fn) (hn : (fn.name == "runtime.NumGoroutine") = false) (hb : fn.body = some c) (hl : args.length ≤ fn.ntmps)
    (hk : CW P up np fn.ntmps c { n := n, t := tmps0 0 args, s := s } (retG TT fn.results.toList np args s Post)) (hnp : np < 65536 := by decide) : GCall P up f args n s Post :=
  GCallH.intro htt np hf hn hb hl (hk.mono fun _ _ h => ⟨h.1, ⟨h.2.1, trivial⟩, h.2.2⟩) hnp
def delAll (ρ : List Nat) : List (Nat × Root) → List (Nat × Root)
  | [] => []
  | (j, v) :: r => if memB j ρ = true then delAll ρ r else (j, v) :: delAll ρ r
theorem getS_delAll (ρ : List Nat) (s : List (Nat × Root)) (y : Nat) : getS (delAll ρ s) y = if memB y ρ = true then none else getS s y := by
  induction s with
  | nil => simp [delAll, getS]
  | cons q r ih =>
    obtain ⟨j, v⟩ := q
    simp only [delAll]
    split
    · rename_i hj
      rw [ih]
      split
      · rfl
      · rename_i hy
        simp only [getS]
        rw [if_neg (fun e => hy (by rw [← e]; exact hj))]
    · rename_i hj
      simp only [getS, ih]
      by_cases e : j = y
      · subst e; simp [hj]
      · simp [e]
def renS (m : Nat → Nat) (s : List (Nat × Root)) : List (Nat × Root) := s.map fun q => (m q.1, { q.2 with cells := q.2.cells.map (ren m) })
theorem getS_renS {ρ : List Nat} {k : Nat} (hd : ρ.Nodup) (hk : ∀ y ∈ ρ, y < k) (s : List (Nat × Root)) (y : Nat) :
    getS (renS (mName ρ k) s) y = match unName ρ k y with | some x => (getS s x).map (fun r => { r with cells := r.cells.map (ren (mName ρ k)) }) | none => none := by
  induction s with
  | nil => simp only [renS, List.map_nil, getS]; split <;> rfl
  | cons q r ih =>
    obtain ⟨j, v⟩ := q
    have e : renS (mName ρ k) ((j, v) :: r) = (mName ρ k j, { v with cells := v.cells.map (ren (mName ρ k)) }) :: renS (mName ρ k) r := rfl
    rw [e]
    simp only [getS]
    rw [ih]
    cases hu : unName ρ k y with
    | none =>
      have hne : ¬ mName ρ k j = y := fun e => by rw [← e, un_m hd hk] at hu; cases hu
      rw [if_neg hne]
    | some x =>
      have hm := m_un hu
      simp only
      by_cases hj : j = x
      · subst hj; rw [if_pos hm, if_pos rfl]; rfl
      · have hne : ¬ mName ρ k j = y := fun e => by rw [← e, un_m hd hk] at hu; cases hu; exact hj rfl
        rw [if_neg hne, if_neg hj]
theorem getS_app (s s' : List (Nat × Root)) (y : Nat) : getS (s ++ s') y = (getS s y).or (getS s' y) := by
  induction s with
  | nil => simp [getS]
  | cons q r ih =>
    obtain ⟨j, v⟩ := q
    simp only [List.cons_append, getS, ih]
    split
    · rfl
    · rfl
def aftH (ρ K : List Nat) (σ σ' : St) : St := { n := σ.n + σ'.n, t := mapT (killH ρ K) σ.t, s := renS (mName ρ σ.n) σ'.s ++ mapS (killH ρ K) (delAll ρ σ.s) }
abbrev aftS (ρ : List Nat) (σ σ' : St) : St := aftH ρ [] σ σ'
theorem rel_subL {w : World} {A A' : Nat → Prop} {G G' : Nat → Option GR} {n n' : Nat} {m : Nat → Nat} (hrel : ∀ {b : AV} {v : Value}, Rel w A G n b v → ∀ {a : AV}, Sub m n' a b → Rel w A' G' n' a v) {l l' : List AV} {vs : List Value}
    (hs : SubL m n' l l') (hv : vs.length = l'.length) (h : ∀ (i : Nat) (a : AV), l'[i]? = some a → Rel w A G n a (vs.getD i undef)) : vs.length = l.length ∧ ∀ (i : Nat) (a : AV), l[i]? = some a → Rel w A' G' n' a (vs.getD i undef) := by
  refine ⟨by rw [hv, hs.len], fun i a ha => ?_⟩
  obtain ⟨b, h1, h2⟩ := hs.at_ i a ha
  exact hrel (h i b h1) h2
theorem snd_gcallH (ρ H : List Nat) {o : Oper} {x : Operand} {xs : Array Operand} {ts : Array TypeId} {f : FuncId} {first caps args : List AV} {sc : List (Nat × Root)} {Post : AV → St → Prop} (ho : o.op = .call { callee := .value x, args := xs, argTypes := ts }) (hx : ev σ x = .func (.func f) first caps)
    (hp : GCallH P up f args ρ.length sc H Post) (hH : ∀ x ∈ H, x < ρ.length) (hρ : ρ.Nodup) (hsc : AllS (mName ρ 0) ρ.length σ.s sc) (hnm : (Names (mName ρ 0) sc).Nodup) (hin : ∀ y ∈ ρ, (getS σ.s y).isSome = true) (hcov : ∀ x, x < ρ.length → (getS sc x).isSome = true)
    (ha : SubL (mName ρ 0) ρ.length args (callL σ first xs.toList caps)) (hk : ∀ (r : AV) (σ' : St), Post r σ' → K ((aftH ρ (H.map (mName ρ 0)) σ σ').put o.dst (ren (mName ρ σ.n) r))) : SndU P up o σ K := by
  intro A0 D0 w0 nt a w G Q hd hu h
  left
  obtain ⟨us, vs, e1, e2, e3⟩ := h.callArgs hx xs.toList
  have hlt : ∀ y, (getS σ.s y).isSome = true → y < σ.n := fun y hy => by
    rw [h.inv.dom y] at hy
    obtain ⟨g, hg⟩ := Option.isSome_iff_exists.1 hy
    exact h.inv.lt y g hg
  have hkρ : ∀ y ∈ ρ, y < σ.n := fun y hy => hlt y (hin y hy)
  -- what is kept from the callee
  let Ac : Nat → Prop := fun b => A0 b ∨ ∃ y g, G y = some g ∧ y ∉ ρ ∧ RFp g b
  have hAc : ∀ b, Ac b → Own A0 G b := fun b hb => hb.imp id fun ⟨y, g, h1, _, h3⟩ => ⟨y, g, h1, h3⟩
  have hmr : ∀ z, z < ρ.length → mName ρ 0 z ∈ ρ := fun z hz => by unfold mName; simp [hz]
  have hscρ : ∀ z g, Gsub (mName ρ 0) sc G z = some g → mName ρ 0 z ∈ ρ := fun z g hg => by
    unfold Gsub at hg
    split at hg
    · rename_i r hr
      obtain ⟨_, _, _, _, hz, _⟩ := hsc.get z r hr
      exact hmr z hz
    · cases hg
  have hfp0 : ∀ z g k, Gsub (mName ρ 0) sc G z = some g → RFp g k → ∃ g0, G (mName ρ 0 z) = some g0 ∧ RFp g0 k := fun z g k hg hk =>
    ((h.inv.weak (A1 := fun _ => False) (mName ρ 0) hnm hsc (fun b hb => hb.elim) (fun b _ hb => hb)).2.2.2) z g k hg hk
  obtain ⟨hinv, hown, hrel, hfp⟩ := h.inv.weak (A1 := Ac) (mName ρ 0) hnm hsc hAc (fun b ⟨z, g, hg, hk⟩ hb => by
    obtain ⟨g0, h1, h2⟩ := hfp0 z g b hg hk
    rcases hb with hb | ⟨y, g', h3, h4, h5⟩
    · exact h.inv.a0 b ⟨_, g0, h1, h2⟩ hb
    · exact h.inv.sep _ g0 y g' h1 h3 (fun e => h4 (by rw [← e]; exact hscρ z g hg)) b h2 h5)
  have hGcb : ∀ z gc, Gsub (mName ρ 0) sc G z = some gc → ∃ g, G (mName ρ 0 z) = some g ∧ gc.base = g.base := fun z gc hg => by
    unfold Gsub at hg
    split at hg
    · simp only [Option.map_eq_some_iff] at hg
      obtain ⟨g0, h1, rfl⟩ := hg
      exact ⟨g0, h1, rfl⟩
    · cases hg
  have hGct : ∀ z gc t, Gsub (mName ρ 0) sc G z = some gc → gc.cells[0]? = some t → t.leaf = false → ∃ g, G (mName ρ 0 z) = some g ∧ g.cells[0]? = some t := fun z gc t hg ht hl => by
    unfold Gsub at hg
    split at hg
    · simp only [Option.map_eq_some_iff] at hg
      obtain ⟨g0, h1, rfl⟩ := hg
      refine ⟨g0, h1, ?_⟩
      simp only [GR.sub, List.getElem?_zipWith_eq_some] at ht
      obtain ⟨av, t0, _, h3, h4⟩ := ht
      unfold pick at h4
      split at h4
      · rw [h3, h4]
      · rw [← h4] at hl; cases hl
    · cases hg
  have hGcd : ∀ z, z < ρ.length → ∃ gc, Gsub (mName ρ 0) sc G z = some gc := fun z hz => by
    obtain ⟨r, hr⟩ := Option.isSome_iff_exists.1 (hcov z hz)
    obtain ⟨v, hv, _⟩ := hsc.get z r hr
    have := h.inv.dom (mName ρ 0 z)
    rw [hv] at this
    obtain ⟨g, hg⟩ := Option.isSome_iff_exists.1 this.symm
    exact ⟨_, by unfold Gsub; rw [hr]; simp only [hg]; rfl⟩
  generalize hGc : Gsub (mName ρ 0) sc G = Gc at *
  have hsize : ∀ b, Ac b → b < w.heap.size := fun b hb => (hAc b hb).elim (fun hb => Nat.lt_of_lt_of_le (h.a0lt b hb) h.fr.size) (fun hb => rfp_lt h.inv hb)
  obtain ⟨hl1, hl2⟩ := rel_subL (A := Own A0 G) hrel ha e2 e3
  have hc := hp.2 w Ac Gc (us ++ xs.toList.map a.eval ++ vs) hsize hinv hl1 hl2
  simp only [Oper.wp, run_enter hp.1 ho e1, Oper.upon]
  refine hc.mono fun e w' he => ?_
  cases e with
  | panicked c => exact he.elim
  | outgrown => exact hu he
  | returned v =>
    obtain ⟨σ', G', r, k1, k2, k3, k4, k5, k6, k7⟩ := he
    let Gn : Nat → Option GR := fun y => match unName ρ σ.n y with | some x => G' x | none => G y
    have hGn : ∀ {y x : Nat}, unName ρ σ.n y = some x → Gn y = G' x := fun {y x} h => by simp only [Gn, h]
    have hGn0 : ∀ {y : Nat}, unName ρ σ.n y = none → Gn y = G y := fun {y} h => by simp only [Gn, h]
    have hunρ : ∀ {y : Nat}, unName ρ σ.n y = none → y ∉ ρ := fun {y} h hy => by unfold unName at h; rw [if_pos hy] at h; cases h
    have hunlt : ∀ {y : Nat}, y < σ.n → y ∉ ρ → unName ρ σ.n y = none := fun {y} h hy => by unfold unName; rw [if_neg hy, if_neg (by omega)]
    have hmlt : ∀ x, x < σ'.n → mName ρ σ.n x < σ.n + σ'.n := fun x hx => by
      unfold mName
      by_cases hxl : x < ρ.length
      · have : ρ.getD x (σ.n + x) = ρ[x] := by simp [hxl]
        rw [this]
        have := hkρ _ (List.getElem_mem hxl)
        omega
      · have : ρ.getD x (σ.n + x) = σ.n + x := by simp [List.getElem?_eq_none (Nat.le_of_not_lt hxl)]
        rw [this]; omega
    have hownN : ∀ b, GFp Gn b → GFp G b ∨ w.heap.size ≤ b := by
      rintro b ⟨y, g, hg, hb⟩
      cases hu' : unName ρ σ.n y with
      | none => rw [hGn0 hu'] at hg; exact .inl ⟨y, g, hg, hb⟩
      | some x => rw [hGn hu'] at hg; exact (k5 b ⟨x, g, hg, hb⟩).imp (hown b) id
    have hAN : ∀ b, b < w.heap.size → Own A0 Gn b → Own A0 G b := fun b hb ho => ho.imp id fun hg => (hownN b hg).resolve_right (by omega)
    have hAc' : ∀ b, Own A0 Gn b → Own Ac G' b := by
      rintro b (hb | ⟨y, g, hg, hb⟩)
      · exact .inl (.inl hb)
      · cases hu' : unName ρ σ.n y with
        | none => rw [hGn0 hu'] at hg; exact .inl (.inr ⟨y, g, hg, hunρ hu', hb⟩)
        | some x => rw [hGn hu'] at hg; exact .inr ⟨x, g, hg, hb⟩
    have hblk : ∀ b, b < w.heap.size → ¬ GFp G b → w'.heap[b]? = w.heap[b]? := fun b hb hg => k4.block b hb fun hgc => hg (hown b hgc)
    have hidx : ∀ y ∈ ρ, ∃ z, z < ρ.length ∧ mName ρ 0 z = y ∧ unName ρ σ.n y = some z := fun y hy => by
      have hl := List.idxOf_lt_length_of_mem hy
      refine ⟨ρ.idxOf y, hl, ?_, by unfold unName; rw [if_pos hy]⟩
      have : ρ[ρ.idxOf y]? = some y := by rw [List.getElem?_eq_getElem hl, List.getElem_idxOf hl]
      unfold mName; simp [this]
    have hrelN : ∀ {av : AV} {u : Value}, Rel w' (Own Ac G') G' σ'.n av u → Rel w' (Own A0 Gn) Gn (σ.n + σ'.n) (ren (mName ρ σ.n) av) u := fun hr =>
      hr.ren (fun b _ hb => hAc' b hb) hmlt (fun x _ => hGn (un_m hρ hkρ))
    have hgs : ∀ y, getS (aftH ρ (H.map (mName ρ 0)) σ σ').s y = match unName ρ σ.n y with | some x => (getS σ'.s x).map (fun r => { r with cells := r.cells.map (ren (mName ρ σ.n)) }) | none => (getS σ.s y).map (fun r => { r with cells := r.cells.map (killH ρ (H.map (mName ρ 0))) }) := by
      intro y
      show getS (renS (mName ρ σ.n) σ'.s ++ mapS (killH ρ (H.map (mName ρ 0))) (delAll ρ σ.s)) y = _
      rw [getS_app, getS_renS hρ hkρ, getS_map, getS_delAll]
      cases hu' : unName ρ σ.n y with
      | none =>
        simp only [Option.none_or]
        rw [if_neg (fun h => hunρ hu' (memB_iff.1 h))]
      | some x =>
        simp only
        have : (if memB y ρ = true then none else getS σ.s y) = none := by
          split
          · rfl
          · rename_i hy
            have hy : y ∉ ρ := fun h => hy (memB_iff.2 h)
            cases hs : getS σ.s y with
            | none => rfl
            | some q =>
              have := hunlt (hlt y (by rw [hs]; rfl)) hy
              rw [this] at hu'; cases hu'
        rw [this]
        simp
    have hH : Holds A0 D0 w0 nt (aftH ρ (H.map (mName ρ 0)) σ σ') a w' Gn := by
      refine h.change (σ' := aftH ρ (H.map (mName ρ 0)) σ σ') (G' := Gn) (killH ρ (H.map (mName ρ 0))) (fun y => (unName ρ σ.n y).isSome = true) (by show σ.n ≤ σ.n + σ'.n; omega) hblk ⟨k4.os, k4.tape, k4.output, k4.size⟩ hownN
        (fun a v hr => ?_) (by simp [killH]) (fun a ht => killH_tree ht) (fun y => ?_) (fun y hy => ?_) (fun y g hy hg b hb => ?_) (fun y r' g hy hr' hg => ?_) (fun y g y' g' hy hg hg' hne b hb hb' => ?_) rfl
      · refine hr.killH (by show σ.n ≤ σ.n + σ'.n; omega) (fun b hb ho => hblk b hb fun hg => ho (.inr hg)) hAN (fun y hy hyρ => hGn0 (hunlt hy hyρ)) (fun y g' hy hyρ hg' => ?_) (fun y g' t' hy hyρ hyK hg' ht' hl' => ?_)
        rotate_left
        · obtain ⟨z, hz, rfl⟩ := List.mem_map.1 hyK
          have hzl := hH z hz
          have hzm : mName ρ 0 z = mName ρ σ.n z := by unfold mName; simp [hzl]
          rw [hzm, hGn (un_m hρ hkρ)] at hg'
          obtain ⟨gc, t, q1, q2, q3, q4⟩ := k7 z hz g' t' hg' ht' hl'
          obtain ⟨g0, q5, q6⟩ := hGct z gc t q1 q2 q3
          exact ⟨g0, t, q5, q6, q3, q4⟩
        obtain ⟨z, hz, hm, hun⟩ := hidx y hyρ
        rw [hGn hun] at hg'
        obtain ⟨gc, hgc⟩ := hGcd z hz
        obtain ⟨g, hg, hb⟩ := hGcb z gc hgc
        rw [hm] at hg
        exact ⟨g, hg, by rw [k6 z gc g' hz hgc hg', hb]⟩
      · rw [hgs y]
        cases hu' : unName ρ σ.n y with
        | none => rw [hGn0 hu']; simp [h.inv.dom y]
        | some x => rw [hGn hu']; simp [k2.dom x]
      · have hu' : unName ρ σ.n y = none := by cases hh : unName ρ σ.n y with | none => rfl | some x => rw [hh] at hy; exact absurd rfl hy
        exact ⟨by rw [hgs y, hu'], hGn0 hu'⟩
      · have hu' : unName ρ σ.n y = none := by cases hh : unName ρ σ.n y with | none => rfl | some x => rw [hh] at hy; exact absurd rfl hy
        refine k4.block b (rfp_lt h.inv ⟨y, g, hg, hb⟩) fun ⟨z, gc, hgc, hbc⟩ => ?_
        obtain ⟨g0, h1, h2⟩ := hfp z gc b hgc hbc
        exact h.inv.sep y g _ g0 hg h1 (fun e => hunρ hu' (by rw [e]; exact hscρ z gc hgc)) b hb h2
      · obtain ⟨x', hu'⟩ := Option.isSome_iff_exists.1 hy
        rw [hgs y, hu'] at hr'
        rw [hGn hu'] at hg
        simp only [Option.map_eq_some_iff] at hr'
        obtain ⟨r0, hr0, rfl⟩ := hr'
        have hcells := k2.cells x' r0 g hr0 hg
        refine ⟨k2.box x' r0 g hr0 hg, ⟨by simpa using hcells.len, fun c av t hav ht => ?_⟩, (k2.row x' g hg).keep (fun _ _ _ => rfl) (fun b _ hb => hAc' b hb) (fun _ _ => rfl) (fun _ _ _ => rfl), fun b hb => k2.base x' g b hg hb, ?_⟩
        · simp only [List.getElem?_map, Option.map_eq_some_iff] at hav
          obtain ⟨av0, h0, rfl⟩ := hav
          rcases hcells.cell c av0 t h0 ht with ⟨q1, q2⟩ | ⟨q1, q2⟩
          · exact .inl ⟨q1, by rw [ren_tree (by rw [q2]; exact tree_of_leaf q1)]; exact q2⟩
          · exact .inr ⟨q1, hrelN q2⟩
        · have := hmlt x' (k2.lt x' g hg)
          rw [m_un hu'] at this
          exact this
      · obtain ⟨x', hu'⟩ := Option.isSome_iff_exists.1 hy
        rw [hGn hu'] at hg
        cases hu2 : unName ρ σ.n y' with
        | none =>
          rw [hGn0 hu2] at hg'
          exact k2.a0 b ⟨x', g, hg, hb⟩ (.inr ⟨y', g', hg', hunρ hu2, hb'⟩)
        | some x2 =>
          rw [hGn hu2] at hg'
          exact k2.sep x' g x2 g' hg hg' (fun e => hne (by rw [← m_un hu', ← m_un hu2, e])) b hb hb'
    exact ⟨_, Gn, hH.put (hrelN k3) hd, hk r σ' k1⟩
theorem CWops.callGH {nt : Nat} {all : Array Oper} {os : List Oper} {d : Option Tmp} {ty : TypeId} {pos : String} {af : Array Edge} {gd : Option (Nat × Bool)} {x : Operand} {xs : Array Operand} {ts : Array TypeId} {f : FuncId} {first caps args : List AV} {n : Nat} {sc : List (Nat × Root)} {H : List Nat} {Post : AV → St → Prop}
    (ρ : List Nat) (hn : ρ.length = n) (hp : GCallH P up f args n sc H Post) (hH : ∀ x ∈ H, x < n) (hw : wantd all σ ⟨d, .call ⟨.value x, xs, ts⟩, ty, pos, af, gd⟩ = some true) (hx : ev σ x = .func (.func f) first caps)
    (hρ : ρ.Nodup) (hsc : AllS (mName ρ 0) n σ.s sc) (hnm : (Names (mName ρ 0) sc).Nodup) (hin : ∀ y ∈ ρ, (getS σ.s y).isSome = true) (hcov : ∀ x, x < n → (getS sc x).isSome = true)
    (ha : SubL (mName ρ 0) n args (callL σ first xs.toList caps)) (hk : ∀ (r : AV) (σ' : St), Post r σ' → CWops P up nt all os ((aftH ρ (H.map (mName ρ 0)) σ σ').put d (ren (mName ρ σ.n) r)) K) : CWops P up nt all (⟨d, .call ⟨.value x, xs, ts⟩, ty, pos, af, gd⟩ :: os) σ K := by
  subst hn
  exact CWops.step hw (snd_gcallH ρ H rfl hx hp hH hρ hsc hnm hin hcov ha hk)
theorem snd_gcall (ρ : List Nat) {o : Oper} {x : Operand} {xs : Array Operand} {ts : Array TypeId} {f : FuncId} {first caps args : List AV} {sc : List (Nat × Root)} {Post : AV → St → Prop} (ho : o.op = .call { callee := .value x, args := xs, argTypes := ts }) (hx : ev σ x = .func (.func f) first caps)
    (hp : GCall P up f args ρ.length sc Post) (hρ : ρ.Nodup) (hsc : AllS (mName ρ 0) ρ.length σ.s sc) (hnm : (Names (mName ρ 0) sc).Nodup) (hin : ∀ y ∈ ρ, (getS σ.s y).isSome = true) (hcov : ∀ x, x < ρ.length → (getS sc x).isSome = true)
    (ha : SubL (mName ρ 0) ρ.length args (callL σ first xs.toList caps)) (hk : ∀ (r : AV) (σ' : St), Post r σ' → K ((aftS ρ σ σ').put o.dst (ren (mName ρ σ.n) r))) : SndU P up o σ K :=
  snd_gcallH ρ [] ho hx hp (fun _ h => by cases h) hρ hsc hnm hin hcov ha hk
theorem CWops.callG {nt : Nat} {all : Array Oper} {os : List Oper} {d : Option Tmp} {ty : TypeId} {pos : String} {af : Array Edge} {gd : Option (Nat × Bool)} {x : Operand} {xs : Array Operand} {ts : Array TypeId} {f : FuncId} {first caps args : List AV} {n : Nat} {sc : List (Nat × Root)} {Post : AV → St → Prop}
    (ρ : List Nat) (hn : ρ.length = n) (hp : GCall P up f args n sc Post) (hw : wantd all σ ⟨d, .call ⟨.value x, xs, ts⟩, ty, pos, af, gd⟩ = some true) (hx : ev σ x = .func (.func f) first caps)
    (hρ : ρ.Nodup) (hsc : AllS (mName ρ 0) n σ.s sc) (hnm : (Names (mName ρ 0) sc).Nodup) (hin : ∀ y ∈ ρ, (getS σ.s y).isSome = true) (hcov : ∀ x, x < n → (getS sc x).isSome = true)
    (ha : SubL (mName ρ 0) n args (callL σ first xs.toList caps)) (hk : ∀ (r : AV) (σ' : St), Post r σ' → CWops P up nt all os ((aftS ρ σ σ').put d (ren (mName ρ σ.n) r)) K) : CWops P up nt all (⟨d, .call ⟨.value x, xs, ts⟩, ty, pos, af, gd⟩ :: os) σ K := by
  subst hn
  exact CWops.step hw (snd_gcall ρ rfl hx hp hρ hsc hnm hin hcov ha hk)
end
end Go.Ab
namespace Go.Ab
open Go Go.RowKit
theorem Sh.wk0 {σ τ : St} (h : Wk (fun x => x) σ τ) : Sh σ τ := Sh.wk _ h
theorem Sh.nilRoot {σ τ : St} (i m : Nat) (hi : getT σ.t i = .nilsl) (he : { n := σ.n + 1, t := (i, .ref σ.n [] 0) :: σ.t, s := (σ.n, ⟨false, [.own m []]⟩) :: σ.s } = τ) : Sh σ τ := by
  intro A0 D0 w0 nt a w G h
  subst he
  have hm : GT.er (.own m (.slice none 0 0) []) = .own m [] := by simp [GT.er]
  obtain ⟨G', h1, h2⟩ := h.newDet (.own m (.slice none 0 0) []) (fun _ _ => rfl) ⟨rfl, rfl, rfl, Nat.le_refl _⟩ rfl (.own _ _ _ (fun i r j g hi => by simp at hi) (fun i r j g hi => by simp at hi) (fun i r j g i' r' j' g' hi => by simp at hi))
    (fun k hk => by cases hk with | own _ _ _ i r j g k hr => simp at hr) (fun A _ => .onil m)
  rw [hm] at h1
  obtain ⟨v, k1, k2⟩ := h.slot (t := i) (by rw [hi]; simp)
  rw [hi] at k2
  have hv := k2.nilsl_inv
  subst hv
  refine ⟨G', h1.inv, h1.size, h1.defers, fun j hj => ?_, fun j hj => ?_, h1.fr, h1.own, h1.a0lt⟩
  · simp only [getT]
    split
    · rename_i e; subst e
      rw [Array.getD_eq_getD_getElem?, k1]
      exact h2
    · exact h1.tmp j hj
  · simp only [getT]
    have : i ≠ j := fun e => by subst e; have := h.far i hj; rw [hi] at this; cases this
    rw [if_neg this]
    exact h1.far j hj
theorem Sh.nilCell {σ τ : St} (x : Nat) (p : List (Nat × Nat)) (c m : Nat) (hc : cellAtB σ x p c = .nilsl)
    (he : { n := σ.n + 1, t := mapT (AV.kill x p c) σ.t, s := match getS σ.s x with | some r => updS (mapS (AV.kill x p c) σ.s) x { r with cells := putAt (r.cells.map (AV.kill x p c)) p c (.own m []) } | none => σ.s } = τ) : Sh σ τ := by
  intro A0 D0 w0 nt a w G h
  subst he
  unfold cellAtB at hc
  split at hc
  · rename_i r hr
    split at hc
    · rename_i row hrow
      have hcl : c < row.length := by
        rcases Nat.lt_or_ge c row.length with h | h
        · exact h
        · simp [List.getElem?_eq_none h] at hc
      have hrc : row[c]? = some .nilsl := by
        rw [List.getElem?_eq_getElem hcl]
        simpa [List.getElem?_eq_getElem hcl] using hc
      let t : GT := .own m (.slice none 0 0) []
      have hm : t.er = .own m [] := by simp [t, GT.er]
      have hnofp : ∀ b, ¬ RFp ⟨none, [t]⟩ b := by
        rintro b (hb | ⟨c, g, hg, hb⟩)
        · cases hb
        · cases c with
          | zero =>
            cases hg
            have hb : Fp (.own m (.slice none 0 0) []) b := hb
            cases hb with | own _ _ _ i r j g k hr => simp at hr
          | succ c => simp at hg
      have hsep : Sep t := .own _ _ _ (fun i r j g hi => by simp at hi) (fun i r j g hi => by simp at hi) (fun i r j g i' r' j' g' hi => by simp at hi)
      have h1 := h.newRoot (w' := w) (N := σ.n) (r := ⟨false, [.own m []]⟩) (g := ⟨none, [t]⟩) (Nat.le_refl _) (fun _ _ => rfl) ⟨rfl, rfl, rfl, Nat.le_refl _⟩ (fun b hb => (hnofp b hb).elim) rfl
        (fun A _ => ⟨rfl, fun c av g hav hg => by
          cases c with
          | zero => cases hav; cases hg; exact .inl ⟨rfl, hm.symm⟩
          | succ c => simp at hg⟩)
        (fun A _ => ⟨fun c g hg => by
          cases c with
          | zero => cases hg; exact .onil m
          | succ c => simp at hg, ⟨fun c g hg => by
          cases c with
          | zero => cases hg; exact hsep
          | succ c => simp at hg, fun c g c' g' hg hg' hne k hk hk' => (hnofp k (.inr ⟨c, g, hg, hk⟩)).elim⟩, fun b o e => by simp [GR.at_] at e, fun b o e => by simp [GR.at_] at e⟩) (fun b hb => by simp at hb)
      obtain ⟨g, hg, hb, hcs, hmm⟩ := h.root hr
      have hxn : x < σ.n := h.inv.lt x g hg
      have hne : σ.n ≠ x := by omega
      obtain ⟨grow, k1, k2, k3, k4⟩ := row_at hcs hmm hrow
      have hgl : c < grow.length := by rw [← k2.len]; exact hcl
      have hgc : grow[c]? = some grow[c] := List.getElem?_eq_getElem hgl
      have hval : t.val = grow[c].val := by
        rcases k2.cell c _ _ hrc hgc with ⟨q1, q2⟩ | ⟨q1, q2⟩
        · have := tree_of_leaf q1; rw [← q2] at this; cases this
        · have := q2.nilsl_inv; rw [this]; rfl
      have hG1x : Gset G σ.n (some ⟨none, [t]⟩) x = some g := by unfold Gset; rw [if_neg (Ne.symm hne)]; exact hg
      have hG1y : Gset G σ.n (some ⟨none, [t]⟩) σ.n = some ⟨none, [t]⟩ := by unfold Gset; rw [if_pos rfl]
      have hs1 : getS ((σ.n, (⟨false, [.own m []]⟩ : Root)) :: σ.s) x = some r := by simp only [getS]; rw [if_neg hne]; exact hr
      obtain ⟨h2, _⟩ := h1.adopt (x := x) (y := σ.n) (r := r) (p := p) (row := row) (j := c) hs1 hrow hne hG1x k1 hgc hG1y rfl hval
      refine ⟨_, h2.ext rfl (fun _ => rfl) (fun z => ?_)⟩
      rw [hr, hm]
      simp only
      have hno : getS σ.s σ.n = none := by
        cases hq : getS σ.s σ.n with
        | none => rfl
        | some q =>
          have := h.inv.dom σ.n
          rw [hq] at this
          obtain ⟨g', hg'⟩ := Option.isSome_iff_exists.1 this.symm
          exact absurd (h.inv.lt _ g' hg') (by omega)
      simp only [getS_upd, getS_del, getS_map]
      by_cases hzx : z = x
      · rw [if_pos hzx, if_pos hzx, if_neg (Ne.symm hne)]
        simp only [getS, if_neg hne, hr, Option.map_some]
      · rw [if_neg hzx, if_neg hzx]
        by_cases hzn : z = σ.n
        · subst hzn; rw [if_pos rfl, hno]; rfl
        · rw [if_neg hzn]
          simp only [getS]
          rw [if_neg (Ne.symm hzn)]
    · cases hc
  · cases hc
def keepT (l : List Nat) (t : List (Nat × AV)) : List (Nat × AV) := l.map fun i => (i, getT t i)
mutual
theorem Sub_pure (n : Nat) : ∀ (a : AV), a.pure = true → Sub (fun x => x) n a a
  | .agg l, h => by simp only [AV.pure] at h; simp only [Sub]; exact ⟨l, rfl, SubL_pure n l h⟩
  | .tup l, h => by simp only [AV.pure] at h; simp only [Sub]; exact ⟨l, rfl, SubL_pure n l h⟩
  | .func f x y, h => by simp only [AV.pure, Bool.and_eq_true] at h; simp only [Sub]; exact ⟨x, y, rfl, SubL_pure n x h.1, SubL_pure n y h.2⟩
  | .ifc t a, h => by simp only [AV.pure] at h; simp only [Sub]; exact ⟨a, rfl, Sub_pure n a h⟩
  | .undef, _ | .sl _ _, _ | .tight _ _, _ | .bool _, _ | .int _ _, _ | .str _, _ | .nilsl, _ | .nilp, _ | .fp _, _ | .nilmap, _ | .fmap _, _ | .nilfunc, _ | .nili, _ => by simp [Sub]
  | .own _ _, h | .ref _ _ _, h | .lv _ _ _, h | .omap _, h | .iter _ _, h => by simp [AV.pure] at h
theorem SubL_pure (n : Nat) : ∀ (l : List AV), pureL l = true → SubL (fun x => x) n l l
  | [], _ => by simp [SubL]
  | a :: r, h => by simp only [pureL, Bool.and_eq_true] at h; simp only [SubL]; exact ⟨Sub_pure n a h.1, SubL_pure n r h.2⟩
end
theorem leL_rfl (l : List AV) : leL l l = True := eq_true (leP_refl.leL_refl l)
theorem leP_rfl (a : AV) : leP a a = True := eq_true (leP_refl a)
attribute [go_sem] leL_rfl leP_rfl
attribute [go_sem] keepT ren killH kref mName renS delAll memB aftH
end Go.Ab
namespace Go.Ab
open Go Go.RowKit
section
variable {P : Program} {TT : TTab} {up : Bool} {o : Oper} {σ : St} {K : St → Prop}
theorem snd_range {t : Nat} {x : Operand} {i : TI} {s : ByteArray} (ho : o.op = .range t x) (htt : TTok P TT) (ht : TT t = some i) (hi : i.kind = .str) (hx : ev σ x = .str s)
    (hk : K (St.put { n := σ.n + 1, t := σ.t, s := (σ.n, ⟨false, [.iter s 0]⟩) :: σ.s } o.dst (.ref σ.n [] 0))) : Snd P o σ K := by
  intro A0 D0 w0 nt a w G Q hd h
  have hti := (htt t i ht).kind
  rw [hi] at hti
  have hti : P.underlying t = some .string := hti
  have he := h.ev x
  rw [hx] at he
  have hv := he.str_inv.1
  have hnew : (w.alloc (.stringIter s 0)).heap[w.heap.size]? = some (.stringIter s 0) := Go.heap_alloc_new w _
  obtain ⟨G', k1, k2⟩ := h.newDet (.iter w.heap.size s 0) (w' := w.alloc (.stringIter s 0)) (fun b hb => Below.heap_alloc w _ b hb) ⟨rfl, rfl, rfl, by simp⟩ rfl (.iter _ _ _) (fun k hk => by cases hk; omega)
    (fun A _ => .iter _ _ _ hnew)
  simp only [GT.er] at k1
  refine wp_value (v := .pointer (some ⟨w.heap.size, 0, none⟩)) (w' := w.alloc (.stringIter s 0)) ?_ ⟨_, G', k1.put k2 hd, hk⟩
  simp [execOp, ho, Instr.range, run_underlying hti, hv]
theorem snd_next {x : Operand} {y : Nat} {p : List (Nat × Nat)} {c : Nat} {r : Root} {row : List AV} {s : ByteArray} {pos : Nat} (ho : o.op = .next x true) (hx : ev σ x = .ref y p c) (hr : getS σ.s y = some r) (hrow : rowOf r.cells p = some row) (hc : row[c]? = some (.iter s pos))
    (h1 : pos < s.size → K (St.put { σ with s := updS σ.s y { r with cells := putAt r.cells p c (.iter s (pos + (Utf8.decode s pos).2)) } } o.dst (.tup [.bool true, .int .i64 pos, .int .i32 (Utf8.decode s pos).1])))
    (h2 : s.size ≤ pos → K (σ.put o.dst (.tup [.bool false]))) : Snd P o σ K := by
  intro A0 D0 w0 nt a w G Q hd h
  have hcell : cellAtB σ y p c = .iter s pos := by simp [cellAtB, hr, hrow, hc]
  obtain ⟨r', row', g, grow, t', k1, k2, k3, k4, k5, k6, k7, k8, k9, k10, k11, k12⟩ := h.tree hcell rfl
  rw [hr] at k1; cases k1
  rw [hrow] at k2; cases k2
  obtain ⟨b, rfl⟩ := er_iter k8 k7
  have he := h.ev x
  rw [hx] at he
  have hv := k11 _ he.ref_inv.2.2
  cases k9 with
  | iter b s pos hb =>
    have hlt : b < w.heap.size := (Array.getElem?_eq_some_iff.1 hb).1
    have hget : (getObj b).run P w = .ok (.stringIter s pos) w := by simp [getObj, Sem.run, hb]
    by_cases hp : pos < s.size
    · have hsame : ∀ (u : Obj) k, k ≠ b → (w.heap.setIfInBounds b u)[k]? = w.heap[k]? := fun u k hk => by simp [Array.getElem?_setIfInBounds, Ne.symm hk]
      generalize hq : pos + (Utf8.decode s pos).2 = pos' at h1
      have hself : (w.heap.setIfInBounds b (.stringIter s pos'))[b]? = some (.stringIter s pos') := by simp [hlt]
      have := h.setObj (j := c) (g1 := .iter b s pos') (w' := { w with heap := w.heap.setIfInBounds b (.stringIter s pos') }) hr hrow k4 k5 k6 rfl rfl rfl rfl (.iter _ _ _) (fun k hk => by cases hk; exact .iter _ _ _)
        (fun k hk hn => hsame _ k fun e => hn (e ▸ .iter _ _ _)) ⟨rfl, rfl, rfl, by simp⟩ (fun A hA => .iter b s pos' hself)
      simp only [GT.er] at this
      refine wp_value (v := .tuple #[.bool true, .int .i64 pos, .int .i32 (Utf8.decode s pos).1]) (w' := { w with heap := w.heap.setIfInBounds b (.stringIter s pos') }) ?_ ⟨_, _, this.put (.tup [.bool true, .int .i64 pos, .int .i32 (Utf8.decode s pos).1] [.bool true, .int .i64 pos, .int .i32 (Utf8.decode s pos).1] rfl (fun i av hi => ?_)) hd, h1 hp⟩
      · rw [← hq]
        simp only [execOp, ho, hv, GT.val, Instr.next, Sem.run_bind, hget, Result.andThen_ok, if_pos hp]
        have hset : (setObj b (.stringIter s (pos + (Utf8.decode s pos).2))).run P w = .ok () { w with heap := w.heap.setIfInBounds b (.stringIter s (pos + (Utf8.decode s pos).2)) } := by simp [setObj, Sem.run, hb]
        simp only [Sem.run_bind, hset, Result.andThen_ok, Sem.run_pure, goInt]
      · match i, hi with
        | 0, hi => cases hi; exact .fr _ _ (.bool _)
        | 1, hi => cases hi; exact .fr _ _ (.int _ _)
        | 2, hi => cases hi; exact .fr _ _ (.int _ _)
        | i + 3, hi => simp at hi
    · refine wp_value (v := .tuple #[.bool false]) (w' := w) ?_ ⟨_, G, h.put (.tup [.bool false] [.bool false] rfl (fun i av hi => ?_)) hd, h2 (by omega)⟩
      · simp only [execOp, ho, hv, GT.val, Instr.next, Sem.run_bind, hget, Result.andThen_ok, if_neg hp, Sem.run_pure]
      · match i, hi with
        | 0, hi => cases hi; exact .fr _ _ (.bool _)
        | i + 1, hi => simp at hi
theorem CWops.range {nt : Nat} {all : Array Oper} {os : List Oper} {d : Option Tmp} {ty : TypeId} {pos : String} {af : Array Edge} {gd : Option (Nat × Bool)} {t : Nat} {x : Operand} {i : TI} {s : ByteArray} (htt : TTok P TT) (hw : wantd all σ ⟨d, .range t x, ty, pos, af, gd⟩ = some true) (hx : ev σ x = .str s) (ht : TT t = some i) (hi : i.kind = .str)
    (hk : CWops P up nt all os (St.put { n := σ.n + 1, t := σ.t, s := (σ.n, ⟨false, [.iter s 0]⟩) :: σ.s } d (.ref σ.n [] 0)) K) : CWops P up nt all (⟨d, .range t x, ty, pos, af, gd⟩ :: os) σ K :=
  CWops.step hw (Snd.up (snd_range rfl htt ht hi hx hk))
theorem CWops.next {nt : Nat} {all : Array Oper} {os : List Oper} {d : Option Tmp} {ty : TypeId} {ps : String} {af : Array Edge} {gd : Option (Nat × Bool)} {x : Operand} {y : Nat} {p : List (Nat × Nat)} {c : Nat} {r : Root} {row : List AV} {s : ByteArray} {pos : Nat} (hw : wantd all σ ⟨d, .next x true, ty, ps, af, gd⟩ = some true)
    (hx : ev σ x = .ref y p c) (hr : getS σ.s y = some r) (hrow : rowOf r.cells p = some row) (hc : row[c]? = some (.iter s pos))
    (h1 : pos < s.size → CWops P up nt all os (St.put { σ with s := updS σ.s y { r with cells := putAt r.cells p c (.iter s (pos + (Utf8.decode s pos).2)) } } d (.tup [.bool true, .int .i64 pos, .int .i32 (Utf8.decode s pos).1])) K)
    (h2 : s.size ≤ pos → CWops P up nt all os (σ.put d (.tup [.bool false])) K) : CWops P up nt all (⟨d, .next x true, ty, ps, af, gd⟩ :: os) σ K :=
  CWops.step hw (Snd.up (snd_next rfl hx hr hrow hc h1 h2))
def nextL (b : Bool) (p c : Int) : List AV := match b with
  | true => [.bool true, .int .i64 p, .int .i32 c]
  | false => [.bool false]
theorem nextL_len (b : Bool) (p c : Int) : (0 < (nextL b p c).length) = True := by cases b <;> simp [nextL]
theorem nextL_get (b : Bool) (p c : Int) : (nextL b p c).getD 0 .undef = .bool b := by cases b <;> rfl
theorem nextL_true (p c : Int) : nextL true p c = [.bool true, .int .i64 p, .int .i32 c] := rfl
theorem nextL_false (p c : Int) : nextL false p c = [.bool false] := rfl
attribute [go_sem] nextL_len nextL_get nextL_true nextL_false
def nextP (b : Bool) (s : ByteArray) (pos : Nat) : Nat := match b with
  | true => pos + (Utf8.decode s pos).2
  | false => pos
theorem CWops.nextB {nt : Nat} {all : Array Oper} {os : List Oper} {d : Option Tmp} {ty : TypeId} {ps : String} {af : Array Edge} {gd : Option (Nat × Bool)} {x : Operand} {y : Nat} {s : ByteArray} {pos : Nat} (hw : wantd all σ ⟨d, .next x true, ty, ps, af, gd⟩ = some true)
    (hx : ev σ x = .ref y [] 0) (hr : getS σ.s y = some ⟨false, [.iter s pos]⟩)
    (hk : ∀ b : Bool, (b = true → pos < s.size) → (b = false → s.size ≤ pos) → CWops P up nt all os (St.put { σ with s := updS σ.s y ⟨false, [.iter s (nextP b s pos)]⟩ } d (.tup (nextL b pos (Utf8.decode s pos).1))) K) : CWops P up nt all (⟨d, .next x true, ty, ps, af, gd⟩ :: os) σ K := by
  refine CWops.next (p := []) (c := 0) (row := [.iter s pos]) hw hx hr rfl rfl (fun h => ?_) (fun h => ?_)
  · exact hk true (fun _ => h) (fun h => by cases h)
  · have h1 := hk false (fun h => by cases h) (fun _ => h)
    refine CWops.sh ?_ h1
    intro A0 D0 w0 nt a w G hh
    refine ⟨G, hh.ext (by cases d <;> rfl) (fun i => by cases d <;> rfl) (fun z => ?_)⟩
    have e : (St.put { σ with s := updS σ.s y ⟨false, [.iter s (nextP false s pos)]⟩ } d (.tup (nextL false pos (Utf8.decode s pos).1))).s = updS σ.s y ⟨false, [.iter s pos]⟩ := by cases d <;> rfl
    have e2 : (σ.put d (.tup [.bool false])).s = σ.s := by cases d <;> rfl
    rw [e, e2, getS_upd]
    by_cases hz : z = y
    · subst hz; rw [if_pos rfl, hr]; rfl
    · rw [if_neg hz]
theorem snd_nilcmp {op : BinOp} {t : Nat} {x y : Operand} {u : TypeId} {n : Nat} {l : List (List AV)} {i : TI} {e : Nat} (ho : o.op = .binOp op t x y u) (htt : TTok P TT) (ht : TT t = some i) (hi : i.kind = .slice e) (hx : ev σ x = .sl n l) (hy : ev σ y = .nilsl)
    (hop : ∀ b, (b = true → l = []) → ∃ r, eqB op b = some r ∧ K (σ.put o.dst r)) : Snd P o σ K := by
  intro A0 D0 w0 nt a w G Q hd h
  have hti := (htt t i ht).kind
  rw [hi] at hti
  have hti : P.underlying t = some (.slice e) := hti
  have ha := h.ev x
  have hb := h.ev y
  rw [hx] at ha
  rw [hy] at hb
  have hbv := hb.nilsl_inv
  have ha := ha.fr_of trivial
  have key : ∀ (ad : Option Addr) (m cap : Nat), a.eval x = .slice ad m cap → (ad.isNone = true → l = []) → o.wp P a w (Goes A0 D0 w0 nt K) Q := by
    intro ad m cap he hnil
    obtain ⟨r, hr, hK⟩ := hop ad.isNone hnil
    have hrun : (Op.equal t (.slice ad m cap) (.slice none 0 0)).run P w = .ok ad.isNone w := by
      have key : ∀ d, (Op.equalIn (d + 1) t (.slice ad m cap) (.slice none 0 0)).run P w = .ok ad.isNone w := by
        intro d
        cases ad <;> simp [Op.equalIn, run_underlying hti]
      exact key 9999
    rcases eqB_inv hr with ⟨rfl, rfl⟩ | ⟨rfl, rfl⟩
    · refine wp_value (v := .bool ad.isNone) (w' := w) ?_ ⟨_, G, h.put (.fr _ _ (.bool _)) hd, hK⟩
      simp only [execOp, ho, he, hbv, Sem.run_bind]
      simp [eqGuard, binOp, hrun]
    · refine wp_value (v := .bool (!ad.isNone)) (w' := w) ?_ ⟨_, G, h.put (.fr _ _ (.bool _)) hd, hK⟩
      simp only [execOp, ho, he, hbv, Sem.run_bind]
      simp [eqGuard, binOp, hrun]
  generalize he : a.eval x = v at ha
  cases ha with
  | slnil => exact key none 0 0 he (fun _ => rfl)
  | slmt _ a cap h1 => exact key _ _ _ he (fun hh => by cases hh)
  | sl _ _ b o' cap h1 h2 h3 h4 h5 h6 => exact key _ _ _ he (fun hh => by cases hh)
theorem CWops.nilcmp {nt : Nat} {all : Array Oper} {os : List Oper} {d : Option Tmp} {ty : TypeId} {ps : String} {af : Array Edge} {gd : Option (Nat × Bool)} {op : BinOp} {t : Nat} {x y : Operand} {u : TypeId} {n : Nat} {l : List (List AV)} {i : TI} {e : Nat} (htt : TTok P TT)
    (hw : wantd all σ ⟨d, .binOp op t x y u, ty, ps, af, gd⟩ = some true) (hx : ev σ x = .sl n l) (hy : ev σ y = .nilsl) (ht : TT t = some i) (hi : i.kind = .slice e)
    (hk : ∀ b, (b = true → l = []) → ∃ r, eqB op b = some r ∧ CWops P up nt all os (σ.put d r) K) : CWops P up nt all (⟨d, .binOp op t x y u, ty, ps, af, gd⟩ :: os) σ K :=
  CWops.step hw (Snd.up (snd_nilcmp rfl htt ht hi hx hy hk))
end
end Go.Ab
namespace Go.Ab
open Go Go.RowKit
theorem Sh.frz {σ τ : St} (x j : Nat) {n : Nat} {rows : List (List AV)} (hc : cellAtB σ x [] j = .own n rows)
    (he : { σ with s := match getS σ.s x with | some r => updS σ.s x { r with cells := putAt r.cells [] j (AV.own n rows).freeze } | none => σ.s } = τ) : Sh σ τ := by
  intro A0 D0 w0 nt a w G h
  subst he
  unfold cellAtB at hc
  split at hc
  · rename_i r hr
    simp only [rowOf] at hc
    have hcl : j < r.cells.length := by
      rcases Nat.lt_or_ge j r.cells.length with h | h
      · exact h
      · simp [List.getElem?_eq_none h] at hc
    have hrc : r.cells[j]? = some (.own n rows) := by
      rw [List.getElem?_eq_getElem hcl]
      simpa [List.getElem?_eq_getElem hcl] using hc
    have hrow : rowOf r.cells [] = some r.cells := rfl
    obtain ⟨g, hg, hb, hcs, hm⟩ := h.root hr
    obtain ⟨g0, hg0⟩ := cellAt hcs hcl
    have hgr : gRow g.cells [] = some g.cells := rfl
    have hoc : g0.val.oneCell' = true := (hm.mem j g0 hg0).oneCell
    have her : g0.er = .own n rows := by
      rcases hcs.cell j _ _ hrc hg0 with ⟨_, q2⟩ | ⟨q1, q2⟩
      · exact q2.symm
      · cases q2 with | fr _ _ q => cases q
    obtain ⟨m1, m2, m3⟩ := RowMem.same (g1 := .lf .undef g0.val) (.lf _ _ (.undef _) hoc) (.lf _ _) [] hm hgr hg0 rfl (fun k hk => by cases hk)
    have hoff := gPut_off (g1 := .lf .undef g0.val) rfl [] hm.sep hgr hg0
    have hfp : ∀ k, RFp { g with cells := gPut g.cells [] j (.lf .undef g0.val) } k → RFp g k := fun k hk => hk.imp id fun hk => (m2 k hk).resolve_right (fun hk => by cases hk)
    have hown : ∀ k, GFp (Gset G x (some { g with cells := gPut g.cells [] j (.lf .undef g0.val) })) k → GFp G k := by
      rintro k ⟨y, gy, hy, hk⟩
      by_cases e : y = x
      · subst e; rw [Gset_self] at hy; cases hy; exact ⟨y, g, hg, hfp k hk⟩
      · rw [Gset_ne e] at hy; exact ⟨y, gy, hy, hk⟩
    have h2 := h.turn (w' := w) (r' := { r with cells := putAt r.cells [] j (AV.own n rows).freeze }) (g' := { g with cells := gPut g.cells [] j (.lf .undef g0.val) }) hr hg rfl rfl (gPut_len [] g.cells) (fun _ _ _ => rfl) ⟨rfl, rfl, rfl, Nat.le_refl _⟩ (fun b vs T _ hh => ⟨vs, hh, rfl⟩) hfp
      (m1.keep (fun _ _ _ => rfl) (fun k _ hk => hk.imp id (hown k)) (fun _ _ => rfl) (fun _ _ _ => rfl)) (fun y q c v hr => hr.turn hg hgr hg0 rfl (.inl rfl)) (fun y q c v hr => hr.turn hg hgr hg0 rfl) (fun hA hrel => ?_)
    · refine ⟨Gset G x (some { g with cells := gPut g.cells [] j (.lf .undef g0.val) }), ?_⟩
      simp only [hr]
      exact h2
    · have hfr : FR w (Own A0 (Gset G x (some { g with cells := gPut g.cells [] j (.lf .undef g0.val) }))) (AV.own n rows).freeze g0.val := by
        rw [← her]
        refine (hm.mem j g0 hg0).freeze hA fun b hb hn => ?_
        have hbg : RFp g b := .inr ⟨j, g0, hg0, hb⟩
        rcases hn with hn | ⟨y, gy, hy, hk⟩
        · exact h.inv.a0 b ⟨x, g, hg, hbg⟩ hn
        · by_cases e : y = x
          · subst e; rw [Gset_self] at hy; cases hy
            rcases hk with hk | hk
            · exact hm.off b 0 (by simp only [GR.at_, Option.map_eq_some_iff]; exact ⟨b, hk, rfl⟩) ⟨j, g0, hg0, hb⟩
            · exact hoff b hk hb
          · rw [Gset_ne e] at hy; exact h.inv.sep y gy x g hy hg e b hk hbg
      have hc := cells_put (f := id) (p := []) (j := j) (av := (AV.own n rows).freeze) (g' := .lf .undef g0.val) hcs hm hrow hrel (fun _ _ => rfl) (.inr (.inl ⟨rfl, rfl, .fr _ _ hfr⟩))
      rw [List.map_id] at hc; exact hc
  · cases hc
theorem Sh.frzT {σ τ : St} (i x : Nat) {n : Nat} {rows : List (List AV)} (hi : getT σ.t i = .ref x [] 0) (hc : cellAtB σ x [] 0 = .own n rows)
    (he : { σ with t := (i, (AV.own n rows).freeze) :: σ.t, s := delS σ.s x } = τ) : Sh σ τ := by
  intro A0 D0 w0 nt a w G h
  subst he
  obtain ⟨r, row, g, grow, t, k1, k2, k3, k4, k5, k6, k7, k8, k9, k10, k11, k12⟩ := h.tree hc rfl
  obtain ⟨v, q1, q2⟩ := h.slot (t := i) (by rw [hi]; simp)
  rw [hi] at q2
  obtain ⟨_, _, e3⟩ := q2.ref_inv
  have hv := k11 v e3
  have h2 := h.drop x
  have hown : ∀ b, GFp (Gset G x none) b → GFp G b := by
    rintro b ⟨y, g, hy, hb⟩
    by_cases e : y = x
    · subst e; rw [Gset_self] at hy; cases hy
    · rw [Gset_ne e] at hy; exact ⟨y, g, hy, hb⟩
  have hfr : FR w (Own A0 (Gset G x none)) (AV.own n rows).freeze v := by
    rw [← k8, hv]
    refine k9.freeze (fun b _ hb => hb.imp id (hown b)) fun b hb hn => ?_
    rcases hn with hn | ⟨y, gy, hy, hk⟩
    · exact h.inv.a0 b ⟨x, g, k4, .inr (k12 b hb)⟩ hn
    · by_cases e : y = x
      · subst e; rw [Gset_self] at hy; cases hy
      · rw [Gset_ne e] at hy; exact h.inv.sep y gy x g hy k4 e b hk (.inr (k12 b hb))
  refine ⟨Gset G x none, h2.inv, h2.size, h2.defers, fun j hj => ?_, fun j hj => ?_, h2.fr, h2.own, h2.a0lt⟩
  · simp only [getT]
    split
    · rename_i e; subst e
      rw [Array.getD_eq_getD_getElem?, q1]
      exact .fr _ _ hfr
    · exact h2.tmp j hj
  · simp only [getT]
    have : i ≠ j := fun e => by subst e; have := h.far i hj; rw [hi] at this; cases this
    rw [if_neg this]
    exact h2.far j hj
theorem CW.told {P : Program} {up : Bool} {np nt : Nat} {σ : St} {Q : Exit → St → Prop} {c : Code} (h : CW P up np nt c σ (fun e σ' => ∃ τ, Sh σ' τ ∧ Q e τ)) : CW P up np nt c σ Q :=
  fun A0 D0 w0 a w G R hu hh hr => h A0 D0 w0 a w G R hu hh fun e a' w σ' _ h1 hk ⟨τ, hs, hq⟩ => let ⟨G'', h2⟩ := hs A0 D0 w0 nt a' w _ h1; hr e a' w τ G'' h2 hk hq
end Go.Ab
namespace Go.Ab
open Go Go.RowKit
section
variable {P : Program} {TT : TTab} {up : Bool} {σ : St} {K : St → Prop} {o : Oper}
theorem snd_conv {s d : Nat} {x : Operand} {i j : TI} {k k' : IntKind} {n : Int} (ho : o.op = .convert s d x) (htt : TTok P TT) (hs : TT s = some i) (hik : i.kind = .int k) (hd : TT d = some j) (hjk : j.kind = .int k') (hx : ev σ x = .int k n)
    (hk : K (σ.put o.dst (.int k' (k'.wrap n)))) : Snd P o σ K := by
  have hti := (htt s i hs).kind
  rw [hik] at hti
  have hti : P.underlying s = some (.int k) := hti
  have htj := (htt d j hd).kind
  rw [hjk] at htj
  have htj : P.underlying d = some (.int k') := htj
  refine snd_val _ hk fun {_ _ _ _ a w _} h => ⟨.int k' (k'.wrap n), ?_, .fr _ _ (.int _ _)⟩
  have h1 := h.ev x
  rw [hx] at h1
  have h2 := h1.int_inv
  simp [execOp, ho, convert, run_underlying hti, run_underlying htj, h2, Conv.intToInt]
theorem CWops.conv {nt : Nat} {all : Array Oper} {os : List Oper} {d : Option Tmp} {ty : TypeId} {ps : String} {af : Array Edge} {gd : Option (Nat × Bool)} {s t : Nat} {x : Operand} {i j : TI} {k k' : IntKind} {n : Int} (htt : TTok P TT)
    (hw : wantd all σ ⟨d, .convert s t x, ty, ps, af, gd⟩ = some true) (hs : TT s = some i) (hik : i.kind = .int k) (hd : TT t = some j) (hjk : j.kind = .int k') (hx : ev σ x = .int k n)
    (hk : CWops P up nt all os (σ.put d (.int k' (k'.wrap n))) K) : CWops P up nt all (⟨d, .convert s t x, ty, ps, af, gd⟩ :: os) σ K :=
  CWops.step hw (Snd.up (snd_conv rfl htt hs hik hd hjk hx hk))
end
end Go.Ab
namespace Go.Ab
open Go Go.RowKit
theorem killH_nil : ∀ a : AV, killH [] [] a = a
  | .ref y q c => by simp [killH, memB]
  | .lv y q c => by cases q <;> simp [killH, memB]
  | .agg l => by
    simp only [killH]
    exact congrArg AV.agg ((List.map_congr_left fun a ha => killH_nil a).trans (List.map_id' l))
  | .tup l => by
    simp only [killH]
    exact congrArg AV.tup ((List.map_congr_left fun a ha => killH_nil a).trans (List.map_id' l))
  | .func f a b => by
    simp only [killH]
    rw [(List.map_congr_left fun a ha => killH_nil a : a.map (fun a => killH [] [] a) = a.map fun a => a), (List.map_congr_left fun a ha => killH_nil a : b.map (fun a => killH [] [] a) = b.map fun a => a), List.map_id', List.map_id']
  | .ifc t a => by simp only [killH]; rw [killH_nil a]
  | .undef | .bool _ | .int _ _ | .str _ | .nilsl | .sl _ _ | .tight _ _ | .own _ _ | .nilp | .fp _ | .nilmap | .fmap _ | .omap _ | .iter _ _ | .nilfunc | .nili => by simp only [killH]
theorem delAll_nil (s : List (Nat × Root)) : delAll [] s = s := by
  induction s with
  | nil => rfl
  | cons q r ih => obtain ⟨j, v⟩ := q; simp [delAll, memB, ih]
theorem aft_nil {σ : St} {m : Nat} {rows : List (List AV)} {t : List (Nat × AV)} : aftS [] σ { n := 1, t := t, s := [(0, ⟨false, [.own m rows]⟩)] } = { n := σ.n + 1, t := σ.t, s := (σ.n, ⟨false, [.own m rows]⟩) :: σ.s } := by
  have e : killH [] [] = (fun a => a) := by funext a; exact killH_nil a
  have e1 : mapT (killH [] []) σ.t = σ.t := by rw [e]; simp [mapT]
  have e2 : mapS (killH [] []) (delAll [] σ.s) = σ.s := by rw [e, delAll_nil]; simp [mapS]
  simp only [aftS, aftH, e1, e2]
  simp [renS, mName, ren]
section
variable {P : Program} {TT : TTab} {up : Bool} {all : Array Oper} {σ0 : St} {K : List (Nat × AV) → Option Root → Prop}
theorem Seg.callN {os : List Oper} {t : List (Nat × AV)} {d : Option Tmp} {ty : TypeId} {pos : String} {af : Array Edge} {gd : Option (Nat × Bool)} {x : Operand} {xs : Array Operand} {ts : Array TypeId} {f : FuncId} {first caps args : List AV} {m : Nat} {rows : List (List AV)}
    (hp : GCall P up f args 0 [] (fun r σ' => r = .ref 0 [] 0 ∧ σ'.n = 1 ∧ σ'.s = [(0, ⟨false, [.own m rows]⟩)])) (hw : wantd all { σ0 with t := t } ⟨d, .call ⟨.value x, xs, ts⟩, ty, pos, af, gd⟩ = some true) (hx : ev { σ0 with t := t } x = .func (.func f) first caps)
    (ha : SubL (mName [] 0) 0 args (callL { σ0 with t := t } first xs.toList caps))
    (hk : Seg P up all σ0 os (putT t d (.ref σ0.n [] 0)) (some ⟨false, [.own m rows]⟩) K) : Seg P up all σ0 (⟨d, .call ⟨.value x, xs, ts⟩, ty, pos, af, gd⟩ :: os) t none K := by
  refine ⟨t, .ref σ0.n [] 0, some ⟨false, [.own m rows]⟩, fun _ => rfl, ⟨fun h => (by cases h), ?_⟩, .inr rfl, hk⟩
  intro σ' hl he hn
  have hn := hn rfl
  refine .inl ⟨by rw [wantd_congr (τ := { σ0 with t := t }) hl]; exact hw, ?_⟩
  have hev : ∀ y ∈ (Op.call ⟨.value x, xs, ts⟩).operands, ev σ' y = ev { σ0 with t := t } y := fun y hy => looks_ops (τ := { σ0 with t := t }) hl hy
  have hc : callL σ' first xs.toList caps = callL { σ0 with t := t } first xs.toList caps := callL_ev fun y hy => hev y (by simp [Op.operands, Call.operands]; right; simpa using hy)
  have hx' : ev σ' x = .func (.func f) first caps := by rw [hev x (by simp [Op.operands, Call.operands])]; exact hx
  refine snd_gcall [] rfl hx' hp List.nodup_nil (by simp [AllS]) (by simp [Names]) (fun y hy => by cases hy) (fun x hx => by cases hx) (by rw [hc]; exact ha) fun r σ'' hr => ?_
  obtain ⟨n'', t'', s''⟩ := σ''
  obtain ⟨rfl, h2, h3⟩ := hr
  simp only at h2 h3
  subst h2 h3
  rw [aft_nil]
  simp [newR, ren, mName, hn]
end
end Go.Ab
namespace Go.Ab
open Go Go.RowKit
theorem Sh.frzC {σ τ : St} (x j z d : Nat) {n : Nat} {rows : List (List AV)} (hzx : z ≠ x) (hc : cellAtB σ x [] j = .own n rows) (hz : cellAtB σ z [] d = .ref x [] j)
    (he : { σ with s := match getS σ.s x with
      | some r => match getS σ.s z with
        | some rz => updS (updS σ.s x { r with cells := putAt r.cells [] j (AV.own n rows).freeze }) z { rz with cells := putAt rz.cells [] d (AV.own n rows).freeze }
        | none => σ.s
      | none => σ.s } = τ) : Sh σ τ := by
  intro A0 D0 w0 nt a w G h
  subst he
  unfold cellAtB at hc
  split at hc
  · rename_i r hr
    simp only [rowOf] at hc
    have hcl : j < r.cells.length := by
      rcases Nat.lt_or_ge j r.cells.length with h | h
      · exact h
      · simp [List.getElem?_eq_none h] at hc
    have hrc : r.cells[j]? = some (.own n rows) := by
      rw [List.getElem?_eq_getElem hcl]
      simpa [List.getElem?_eq_getElem hcl] using hc
    have hrow : rowOf r.cells [] = some r.cells := rfl
    obtain ⟨g, hg, hb, hcs, hm⟩ := h.root hr
    obtain ⟨g0, hg0⟩ := cellAt hcs hcl
    have hgr : gRow g.cells [] = some g.cells := rfl
    have hoc : g0.val.oneCell' = true := (hm.mem j g0 hg0).oneCell
    have her : g0.er = .own n rows := by
      rcases hcs.cell j _ _ hrc hg0 with ⟨_, q2⟩ | ⟨q1, q2⟩
      · exact q2.symm
      · cases q2 with | fr _ _ q => cases q
    obtain ⟨m1, m2, m3⟩ := RowMem.same (g1 := .lf .undef g0.val) (.lf _ _ (.undef _) hoc) (.lf _ _) [] hm hgr hg0 rfl (fun k hk => by cases hk)
    have hoff := gPut_off (g1 := .lf .undef g0.val) rfl [] hm.sep hgr hg0
    have hfp : ∀ k, RFp { g with cells := gPut g.cells [] j (.lf .undef g0.val) } k → RFp g k := fun k hk => hk.imp id fun hk => (m2 k hk).resolve_right (fun hk => by cases hk)
    have hown : ∀ k, GFp (Gset G x (some { g with cells := gPut g.cells [] j (.lf .undef g0.val) })) k → GFp G k := by
      rintro k ⟨y, gy, hy, hk⟩
      by_cases e : y = x
      · subst e; rw [Gset_self] at hy; cases hy; exact ⟨y, g, hg, hfp k hk⟩
      · rw [Gset_ne e] at hy; exact ⟨y, gy, hy, hk⟩
    have hl0 : g0.leaf = false := by
      rcases hcs.cell j _ _ hrc hg0 with ⟨q1, _⟩ | ⟨q1, q2⟩
      · exact q1
      · cases q2 with | fr _ _ q => cases q
    have hfr : FR w (Own A0 (Gset G x (some { g with cells := gPut g.cells [] j (.lf .undef g0.val) }))) (AV.own n rows).freeze g0.val := by
      rw [← her]
      refine (hm.mem j g0 hg0).freeze (fun k _ hk => hk.imp id (hown k)) fun b hb hn => ?_
      have hbg : RFp g b := .inr ⟨j, g0, hg0, hb⟩
      rcases hn with hn | ⟨y, gy, hy, hk⟩
      · exact h.inv.a0 b ⟨x, g, hg, hbg⟩ hn
      · by_cases e : y = x
        · subst e; rw [Gset_self] at hy; cases hy
          rcases hk with hk | hk
          · exact hm.off b 0 (by simp only [GR.at_, Option.map_eq_some_iff]; exact ⟨b, hk, rfl⟩) ⟨j, g0, hg0, hb⟩
          · exact hoff b hk hb
        · rw [Gset_ne e] at hy; exact h.inv.sep y gy x g hy hg e b hk hbg
    have h2 := h.turn (w' := w) (r' := { r with cells := putAt r.cells [] j (AV.own n rows).freeze }) (g' := { g with cells := gPut g.cells [] j (.lf .undef g0.val) }) hr hg rfl rfl (gPut_len [] g.cells) (fun _ _ _ => rfl) ⟨rfl, rfl, rfl, Nat.le_refl _⟩ (fun b vs T _ hh => ⟨vs, hh, rfl⟩) hfp
      (m1.keep (fun _ _ _ => rfl) (fun k _ hk => hk.imp id (hown k)) (fun _ _ => rfl) (fun _ _ _ => rfl)) (fun y q c v hr => hr.turn hg hgr hg0 rfl (.inl rfl)) (fun y q c v hr => hr.turn hg hgr hg0 rfl) (fun hA hrel => ?_)
    · refine ⟨Gset G x (some { g with cells := gPut g.cells [] j (.lf .undef g0.val) }), ?_⟩
      unfold cellAtB at hz
      split at hz
      · rename_i rz hrz
        simp only [rowOf] at hz
        have hdl : d < rz.cells.length := by
          rcases Nat.lt_or_ge d rz.cells.length with h | h
          · exact h
          · simp [List.getElem?_eq_none h] at hz
        have hzc : rz.cells[d]? = some (.ref x [] j) := by
          rw [List.getElem?_eq_getElem hdl]
          simpa [List.getElem?_eq_getElem hdl] using hz
        obtain ⟨gz, hgz, hbz, hcz, hmz⟩ := h.root hrz
        obtain ⟨gd, hgd⟩ := cellAt hcz hdl
        have hval : gd.val = g0.val := by
          rcases hcz.cell d _ _ hzc hgd with ⟨q1, q2⟩ | ⟨_, q2⟩
          · have := tree_of_leaf q1; rw [← q2] at this; cases this
          · exact q2.ref_inv.2.2 g g.cells g0 hg rfl hg0 hl0
        have hgdl : gd.leaf = true := by
          rcases hcz.cell d _ _ hzc hgd with ⟨q1, q2⟩ | ⟨q1, _⟩
          · have := tree_of_leaf q1; rw [← q2] at this; cases this
          · exact q1
        have hG2 : Gset G x (some { g with cells := gPut g.cells [] j (.lf .undef g0.val) }) z = some gz := by rw [Gset_ne hzx]; exact hgz
        have hsz : getS (updS σ.s x { r with cells := putAt r.cells [] j (AV.own n rows).freeze }) z = some rz := by rw [getS_upd, if_neg hzx, hrz]
        simp only [hr, hrz]
        have hi := h2.inv
        refine ⟨⟨fun y => ?_, fun y ry gy hy hgy => ?_, fun y ry gy hy hgy => ?_, hi.row, hi.base, hi.sep, hi.lt, hi.a0⟩, h2.size, h2.defers, h2.tmp, h2.far, h2.fr, h2.own, h2.a0lt⟩
        · have := hi.dom y
          simp only at this ⊢
          rw [getS_upd]
          by_cases e : y = z
          · subst e; rw [if_pos rfl, hsz]; rw [hsz] at this; exact this
          · rw [if_neg e]; exact this
        · simp only [getS_upd] at hy
          by_cases e : y = z
          · subst e
            rw [if_pos rfl, if_neg hzx, hrz] at hy
            cases hy
            rw [hG2] at hgy; cases hgy
            exact hbz
          · rw [if_neg e] at hy
            exact hi.box y ry gy (by rw [getS_upd]; exact hy) hgy
        · simp only [getS_upd] at hy
          by_cases e : y = z
          · subst e
            rw [if_pos rfl, if_neg hzx, hrz] at hy
            cases hy
            rw [hG2] at hgy; cases hgy
            have hcz2 := hi.cells _ rz gz hsz hG2
            refine ⟨by simpa [putAt] using hcz2.len, fun c av gc hav hgc => ?_⟩
            simp only [putAt] at hav
            rcases set_some hav with ⟨rfl, rfl⟩ | ⟨_, hav⟩
            · rw [hgd] at hgc; cases hgc
              exact .inr ⟨hgdl, .fr _ _ (by rw [hval]; exact hfr)⟩
            · exact hcz2.cell c av gc hav hgc
          · rw [if_neg e] at hy
            exact hi.cells y ry gy (by rw [getS_upd]; exact hy) hgy
      · cases hz
    · have hc := cells_put (f := id) (p := []) (j := j) (av := (AV.own n rows).freeze) (g' := .lf .undef g0.val) hcs hm hrow hrel (fun _ _ => rfl) (.inr (.inl ⟨rfl, rfl, .fr _ _ hfr⟩))
      rw [List.map_id] at hc; exact hc
  · cases hc
end Go.Ab
namespace Go.Ab
open Go Go.RowKit
def needsBut (ops : List Oper) (Fl : List Nat) : Nat → List Nat → Bool
  | 0, _ => true
  | i + 1, m => if memB i m = true then needsBut ops Fl i (match ops[i]? with | some o => bnd o ++ m | none => m) else memB i Fl && needsBut ops Fl i m
def midOK (ops : List Oper) (Fl : List Nat) : Nat → List Oper → Bool
  | _, [] => true
  | j, o :: os => needsBut ops Fl j (bnd o) && midOK ops Fl (j + 1) os
def fltOK (Fl : List Nat) : Nat → List Oper → Bool
  | _, [] => true
  | i, o :: os => (!memB i Fl || (plainB o.op && o.dst.isSome)) && fltOK Fl (i + 1) os
def lookOK (all : Array Oper) (first : List Oper) : List Oper → Bool
  | [] => true
  | o :: os => (o.looksAt all).all (fun x => allIn (writers x 0 first) (bnd o)) && lookOK all first os
theorem lookOK_spec {all : Array Oper} {first : List Oper} : ∀ {os : List Oper}, lookOK all first os = true → ∀ o ∈ os, ∀ x ∈ o.looksAt all, ∀ j ∈ writers x 0 first, j ∈ bnd o
  | [], _, o, ho => by cases ho
  | o :: os, h, o', ho => by
    simp only [lookOK, Bool.and_eq_true] at h
    rcases List.mem_cons.1 ho with rfl | ho
    · intro x hx j hj
      have h2 := List.all_eq_true.1 h.1 x hx
      exact memB_iff.1 (List.all_eq_true.1 h2 j hj)
    · exact lookOK_spec h.2 o' ho
def segChkF (k m : Nat) (Fl : List Nat) (ops : Array Oper) : Bool :=
  (((edgesDown 0 ops.toList && segOK ops (ops.toList.take k) (ops.toList.take k)) && (midOK ops.toList Fl k ((ops.toList.drop k).take (m - k)) && tailOK ops.toList m (ops.toList.drop m))) && (fltOK Fl 0 ops.toList && Fl.all fun i => Nat.blt i k)) && lookOK ops (ops.toList.take k) ((ops.toList.drop k).take (m - k))
theorem needsBut_spec {ops : Array Oper} {Fl : List Nat} {listed : Array Bool} (hc : Closed ops listed) : ∀ (j : Nat) (m : List Nat), (∀ x ∈ m, listed.getD x false = true) → needsBut ops.toList Fl j m = true → ∀ i, i < j → i ∉ Fl → listed.getD i false = true
  | 0, m, _, _, i, hi, _ => by omega
  | j + 1, m, hm, h, i, hi, hf => by
    simp only [needsBut] at h
    split at h
    · rename_i hj
      have hj := hm j (memB_iff.1 hj)
      by_cases hij : i = j
      · subst hij; exact hj
      · refine needsBut_spec hc j _ ?_ h i (by omega) hf
        intro x hx
        split at hx
        · rename_i o ho
          rcases List.mem_append.1 hx with hx | hx
          · exact hc j o (by rw [← Array.getElem?_toList]; exact ho) hj x hx
          · exact hm x hx
        · exact hm x hx
    · simp only [Bool.and_eq_true] at h
      by_cases hij : i = j
      · subst hij; exact absurd (memB_iff.1 h.1) hf
      · exact needsBut_spec hc j m hm h.2 i (by omega) hf
theorem midOK_spec {ops : List Oper} {Fl : List Nat} : ∀ {k : Nat} {os : List Oper}, midOK ops Fl k os = true → ∀ i o, os[i]? = some o → needsBut ops Fl (k + i) (bnd o) = true
  | k, [], _, i, o, hi => by simp at hi
  | k, o :: os, h, i, o', hi => by
    simp only [midOK, Bool.and_eq_true] at h
    cases i with
    | zero => simp at hi; subst hi; exact h.1
    | succ i =>
      have := midOK_spec h.2 i o' (by simpa using hi)
      rw [show k + (i + 1) = k + 1 + i by omega]; exact this
theorem fltOK_spec {Fl : List Nat} : ∀ {k : Nat} {os : List Oper}, fltOK Fl k os = true → ∀ i o, os[i]? = some o → k + i ∈ Fl → plainB o.op = true ∧ o.dst.isSome = true
  | k, [], _, i, o, hi, _ => by simp at hi
  | k, o :: os, h, i, o', hi, hf => by
    simp only [fltOK, Bool.and_eq_true] at h
    cases i with
    | zero =>
      simp at hi; subst hi
      have := h.1
      rw [memB_iff.2 (show k ∈ Fl by simpa using hf)] at this
      simpa using this
    | succ i => exact fltOK_spec h.2 i o' (by simpa using hi) (by rw [show k + 1 + i = k + (i + 1) by omega]; exact hf)
def Like (D : List Nat) (σ τ : St) : Prop := τ.n = σ.n ∧ (∀ y, getS τ.s y = getS σ.s y) ∧ ∀ x, x ∉ D → getT τ.t x = getT σ.t x
def StepF (P : Program) (up : Bool) (all : Array Oper) (D : List Nat) (o : Oper) (σ σ2 : St) : Prop :=
  (∀ x ∈ D, getT σ2.t x = getT σ.t x) ∧ ∀ τ, Like D σ τ → (∀ x ∈ o.looksAt all, getT τ.t x = getT σ.t x) → wantd all τ o = some true ∧ SndU P up o τ (fun τ' => Like D σ2 τ' ∧ ∀ x ∈ D, getT τ'.t x = getT τ.t x)
def Flo (P : Program) (up : Bool) (all : Array Oper) (fl : List Oper) (σ : St) : Prop := ∀ o ∈ fl, ∀ d, o.dst = some d → Stab P up all o σ.t σ (getT σ.t d) none
def Mid (P : Program) (up : Bool) (all : Array Oper) (D : List Nat) (fl : List Oper) : List Oper → St → (St → Prop) → Prop
  | [], σ, K => Flo P up all fl σ ∧ K σ
  | o :: os, σ, K => Flo P up all fl σ ∧ ∃ σ2, StepF P up all D o σ σ2 ∧ Mid P up all D fl os σ2 K
theorem Mid.flo {P : Program} {up : Bool} {all : Array Oper} {D : List Nat} {fl : List Oper} {os : List Oper} {σ : St} {K : St → Prop} (h : Mid P up all D fl os σ K) : Flo P up all fl σ := by
  cases os with
  | nil => exact h.1
  | cons o os => exact h.1
def dstsF (ops : Array Oper) (Fl : List Nat) : List Nat := Fl.filterMap fun i => match ops.toList[i]? with | some o => o.dst | none => none
def opsF (ops : Array Oper) (Fl : List Nat) : List Oper := Fl.filterMap fun i => ops.toList[i]?
section
variable {P : Program} {up : Bool} {nt : Nat} {ops : Array Oper} {Q : Exit → Act → World → Prop}
theorem put_t {τ : St} {d : Option Nat} {v : AV} (x : Nat) : getT (τ.put d v).t x = if d = some x then v else getT τ.t x := by
  unfold St.put
  split
  · simp only [getT, Option.some.injEq]
  · simp
theorem put_ns {τ : St} {d : Option Nat} {v : AV} : (τ.put d v).n = τ.n ∧ (τ.put d v).s = τ.s := by
  unfold St.put; split <;> exact ⟨rfl, rfl⟩
theorem dst_lt (hd : okDst nt ops.toList = true) : ∀ (i : Nat) (o : Oper), ops[i]? = some o → ∀ d, o.dst = some d → d < nt := by
  have key : ∀ {os : List Oper}, okDst nt os = true → ∀ o ∈ os, ∀ d, o.dst = some d → d < nt := by
    intro os
    induction os with
    | nil => intro _ o ho; cases ho
    | cons b os ih =>
      intro h o ho
      obtain ⟨h1, h2⟩ := okDst_cons h
      rcases List.mem_cons.1 ho with rfl | ho
      · exact h1
      · exact ih h2 o ho
  intro i o ho
  exact key hd o (List.mem_of_getElem? (by rw [Array.getElem?_toList]; exact ho))
theorem any_mid {A0 D0 : Nat → Prop} {w0 : World} {k m : Nat} {Fl : List Nat} (hkm : k ≤ m) (hms : m ≤ ops.size) (hchk : segChkF k m Fl ops = true) (hd : okDst nt ops.toList = true) (hu : up = true → LetsOut Q) :
    ∀ (fuel j : Nat) (listed : Array Bool) (a : Act) (w : World) (σ σ' : St) (G : Nat → Option GR) (R : Nat → Prop), listed.size = ops.size → unl ops.size listed = fuel → k ≤ j → j ≤ m → Closed ops listed → (∀ i, R i → i ∈ Fl) →
      (∀ i, i < ops.size → (listed.getD i false = true ↔ i < j ∧ ¬ R i)) → Mid P up ops (dstsF ops Fl) (opsF ops Fl) ((ops.toList.drop j).take (m - j)) σ (fun σ => ∀ a w G, Holds A0 D0 w0 nt σ a w G → wpList P ops Q (ops.toList.drop m) a w) →
      σ'.n = σ.n → (∀ y, getS σ'.s y = getS σ.s y) → (∀ x, (∀ i o, R i → ops[i]? = some o → o.dst ≠ some x) → getT σ'.t x = getT σ.t x) → Holds A0 D0 w0 nt σ' a w G → wpAny P .any ops Q fuel listed a w := by
  simp only [segChkF, Bool.and_eq_true] at hchk
  obtain ⟨⟨⟨⟨hdown, hseg⟩, hmid, htail⟩, hflt, hlt⟩, hlook⟩ := hchk
  have hFl : ∀ i ∈ Fl, i < k := fun i hi => Nat.blt_eq.mp (List.all_eq_true.1 hlt i hi)
  have hsegs := segOK_spec hseg
  have hget : ∀ {i : Nat} {o : Oper}, i < k → ops[i]? = some o → (ops.toList.take k)[i]? = some o := fun {i o} hi ho => by rw [List.getElem?_take, if_pos hi, Array.getElem?_toList]; exact ho
  intro fuel
  have fin : ∀ {fuel j : Nat} {listed : Array Bool} {a : Act} {w : World} {σ σ' : St} {G : Nat → Option GR} {R : Nat → Prop}, listed.size = ops.size → unl ops.size listed = fuel → j = m → (∀ i, ¬ R i) →
      (∀ i, i < ops.size → (listed.getD i false = true ↔ i < j ∧ ¬ R i)) → Mid P up ops (dstsF ops Fl) (opsF ops Fl) ((ops.toList.drop j).take (m - j)) σ (fun σ => ∀ a w G, Holds A0 D0 w0 nt σ a w G → wpList P ops Q (ops.toList.drop m) a w) →
      σ'.n = σ.n → (∀ y, getS σ'.s y = getS σ.s y) → (∀ x, (∀ i o, R i → ops[i]? = some o → o.dst ≠ some x) → getT σ'.t x = getT σ.t x) → Holds A0 D0 w0 nt σ' a w G → wpAny P .any ops Q fuel listed a w := by
    intro fuel j listed a w σ σ' G R hs hun hj hR hl hM h1 h2 h3 hh
    subst hj
    rw [Nat.sub_self, List.take_zero] at hM
    exact any_tail hdown htail fuel j listed a w hs hun (Nat.le_refl _) (fun i hi => by rw [hl i hi]; exact ⟨fun h => h.1, fun h => ⟨h, hR i⟩⟩)
      (hM.2 a w G (hh.ext h1.symm (fun x => (h3 x fun i o hi _ => absurd hi (hR i)).symm) (fun y => (h2 y).symm)))
  induction fuel with
  | zero =>
    intro j listed a w σ σ' G R hs hun hkj hjm hc hRF hl hM h1 h2 h3 hh
    have hall : ∀ i, i < ops.size → listed.getD i false = true := fun i hi => by rw [← getD_tf (by rw [hs]; exact hi)]; exact unl_zero hun hi
    have hj : j = m := by
      rcases Nat.lt_or_ge j m with h | h
      · have := ((hl j (by omega)).1 (hall j (by omega))).1; omega
      · omega
    exact fin hs hun hj (fun i hi => by
      have hik := hFl i (hRF i hi)
      exact ((hl i (by omega)).1 (hall i (by omega))).2 hi) hl hM h1 h2 h3 hh
  | succ fuel ih =>
    intro j listed a w σ σ' G R hs hun hkj hjm hc hRF hl hM h1 h2 h3 hh
    by_cases hend : j = m ∧ ∀ i, ¬ R i
    · exact fin hs hun hend.1 hend.2 hl hM h1 h2 h3 hh
    have hne : ∃ i, i ∈ Region.ready .any ops listed := by
      by_cases hR : ∃ i, i < k ∧ ¬ ¬ R i
      · obtain ⟨i0, h01, h02, h03⟩ := least_not (n := k) (p := fun i => ¬ R i) hR
        have h02 : R i0 := Classical.byContradiction h02
        refine ⟨i0, ready_spec.2 ⟨?_, ops[i0], Array.getElem?_eq_getElem (by omega), fun x hx => ?_⟩⟩
        · rw [getD_tf (by rw [hs]; omega)]
          cases hcc : listed.getD i0 false with
          | false => rfl
          | true => exact absurd h02 ((hl i0 (by omega)).1 hcc).2
        · have := edgesDown_spec hdown i0 ops[i0] (by rw [Array.getElem?_toList]; exact Array.getElem?_eq_getElem (by omega)) x hx
          exact (hl x (by omega)).2 ⟨by omega, h03 x (by omega)⟩
      · have hR' : ∀ i, ¬ R i := fun i hi => hR ⟨i, hFl i (hRF i hi), fun h => h hi⟩
        have hjlt : j < m := by
          rcases Nat.lt_or_ge j m with h | h
          · exact h
          · exact absurd ⟨by omega, hR'⟩ hend
        refine ⟨j, ready_spec.2 ⟨?_, ops[j], Array.getElem?_eq_getElem (by omega), fun x hx => ?_⟩⟩
        · rw [getD_tf (by rw [hs]; omega)]
          cases hcc : listed.getD j false with
          | false => rfl
          | true => have := ((hl j (by omega)).1 hcc).1; omega
        · have := edgesDown_spec hdown j ops[j] (by rw [Array.getElem?_toList]; exact Array.getElem?_eq_getElem (by omega)) x hx
          exact (hl x (by omega)).2 ⟨by omega, hR' x⟩
    refine ⟨fun h0 => (by obtain ⟨i, hi⟩ := hne; rw [h0] at hi; cases hi), fun i hi => ?_⟩
    obtain ⟨hi1, o, hi2, hi3⟩ := ready_spec.1 hi
    have hisz := (Array.getElem?_eq_some_iff.1 hi2).1
    have hun1 : listed.getD i false = false := by rw [← getD_tf (by rw [hs]; exact hisz)]; exact hi1
    have hset : ∀ x, (listed.setIfInBounds i true).getD x false = true ↔ x = i ∨ listed.getD x false = true := by
      intro x
      by_cases hix : i = x
      · subst hix
        rw [Array.getD_eq_getD_getElem?, Array.getElem?_setIfInBounds_self_of_lt (by rw [hs]; exact hisz)]
        simp
      · rw [getD_set_ne false hix]
        exact ⟨.inr, fun h => h.resolve_left (Ne.symm hix)⟩
    have hu' := unl_set hisz hs hi1
    by_cases hRi : R i
    · -- one that may stand behind
      have hik := hFl i (hRF i hRi)
      obtain ⟨_, hds⟩ := fltOK_spec hflt i o (by rw [Array.getElem?_toList]; exact hi2) (by rw [Nat.zero_add]; exact hRF i hRi)
      obtain ⟨d, hdd⟩ := Option.isSome_iff_exists.1 hds
      have hfl : o ∈ opsF ops Fl := by
        unfold opsF; rw [List.mem_filterMap]
        exact ⟨i, hRF i hRi, by rw [Array.getElem?_toList]; exact hi2⟩
      have hst := hM.flo o hfl d hdd
      have hnext : ∀ (a : Act) (w : World) (G : Nat → Option GR), Holds A0 D0 w0 nt (σ'.put o.dst (getT σ.t d)) a w G → wpAny P .any ops Q fuel (listed.setIfInBounds i true) a w := by
        intro a w G hh'
        refine ih j _ a w σ _ G (fun x => R x ∧ x ≠ i) (by simpa using hs) (by omega) hkj hjm (closed_set hc hi) (fun x hx => hRF x hx.1) (fun x hx => ?_) hM (by rw [put_ns.1]; exact h1) (fun y => by rw [put_ns.2]; exact h2 y) (fun x hx => ?_) hh'
        · rw [hset x, hl x hx]
          constructor
          · rintro (rfl | ⟨q1, q2⟩)
            · exact ⟨by omega, fun h => h.2 rfl⟩
            · exact ⟨q1, fun h => q2 h.1⟩
          · rintro ⟨q1, q2⟩
            by_cases hxi : x = i
            · exact .inl hxi
            · exact .inr ⟨q1, fun h => q2 ⟨h, hxi⟩⟩
        · rw [put_t]
          by_cases hxd : o.dst = some x
          · rw [if_pos hxd]
            rw [hdd] at hxd; cases hxd; rfl
          · rw [if_neg hxd]
            refine h3 x fun g o' hg hgo => ?_
            by_cases hgi : g = i
            · subst hgi; rw [hi2] at hgo; cases hgo; exact hxd
            · exact hx g o' ⟨hg, hgi⟩ hgo
      unfold wpOp
      rw [hi2]
      simp only
      have hlk : ∀ x ∈ o.looksAt ops, getT σ'.t x = getT σ.t x := by
        refine fun x hx => h3 x fun g o' hg hgo hgd => ?_
        have hgk := hFl g (hRF g hg)
        have hgb := (hsegs o (List.mem_of_getElem? (hget hik hi2))).2 x hx g (mem_writers.2 ⟨o', by simpa using hget hgk hgo, Nat.zero_le _, hgd⟩)
        exact ((hl g (by omega)).1 (hi3 g hgb)).2 hg
      rcases hst.2 σ' hlk ⟨fun y r hy => by rw [h2 y]; exact hy, by omega⟩ (by simp) with ⟨hw, hsnd⟩ | ⟨hw, hv1, hv2⟩
      · rw [if_pos (wantd_spec hh hw)]
        refine (hsnd A0 D0 w0 nt a w G Q (dst_lt hd i o hi2) hu hh).imp (Oper.wp_mono fun a w ⟨σ'', G', g1, g2⟩ => ?_) id
        subst g2
        exact hnext a w G' g1
      · rw [if_neg (by rw [wantd_spec hh hw]; simp)]
        refine hnext _ w G ?_
        rw [hv1]
        exact hh.put (.fr _ _ (.tup [] [] rfl (fun i a h => by simp at h))) (dst_lt hd i o hi2)
    · -- one of the middle
      have hij : j ≤ i := by
        rcases Nat.lt_or_ge i j with h | h
        · have := (hl i hisz).2 ⟨h, hRi⟩; rw [hun1] at this; cases this
        · exact h
      have hjF : j ∉ Fl := fun h => by have := hFl j h; omega
      have hnj : ¬ listed.getD j false = true := fun h => by
        rcases Nat.lt_or_ge j ops.size with hlt | hge
        · have := ((hl j hlt).1 h).1; omega
        · rw [Array.getD_eq_getD_getElem?, Array.getElem?_eq_none (by rw [hs]; exact hge)] at h; cases h
      have him : i = j ∧ j < m := by
        rcases Nat.lt_or_ge i m with him | him
        · have hn := midOK_spec hmid (i - k) o (by rw [List.getElem?_take, if_pos (by omega), List.getElem?_drop, show k + (i - k) = i by omega, Array.getElem?_toList]; exact hi2)
          rw [show k + (i - k) = i by omega] at hn
          rcases Nat.lt_or_ge j i with hlt | hge
          · exact absurd (needsBut_spec hc i _ hi3 hn j hlt hjF) hnj
          · exact ⟨by omega, by omega⟩
        · exfalso
          have hn := tailOK_spec htail (i - m) o (by rw [List.getElem?_drop, show m + (i - m) = i by omega, Array.getElem?_toList]; exact hi2)
          rw [show m + (i - m) = i by omega] at hn
          have hal := needsAll_spec hc i _ hi3 hn
          rcases Nat.lt_or_ge j i with hlt | hge
          · exact hnj (hal j hlt)
          · refine hend ⟨by omega, fun x hx => ?_⟩
            have := hFl x (hRF x hx)
            exact ((hl x (by omega)).1 (hal x (by omega))).2 hx
      obtain ⟨rfl, hjm'⟩ := him
      have hdrop : (ops.toList.drop i).take (m - i) = o :: (ops.toList.drop (i + 1)).take (m - (i + 1)) := by
        have : ops.toList[i]? = some o := by rw [Array.getElem?_toList]; exact hi2
        obtain ⟨hlt, he⟩ := List.getElem?_eq_some_iff.1 this
        rw [List.drop_eq_getElem_cons hlt, he, show m - i = (m - (i + 1)) + 1 by omega, List.take_succ_cons]
      rw [hdrop] at hM
      obtain ⟨hflo, σ2, ⟨hs1, hs2⟩, hM2⟩ := hM
      have hD : ∀ x, x ∉ dstsF ops Fl → ∀ g o', R g → ops[g]? = some o' → o'.dst ≠ some x := fun x hx g o' hg hgo hgd => hx (by
        unfold dstsF; rw [List.mem_filterMap]
        refine ⟨g, hRF g hg, ?_⟩
        rw [Array.getElem?_toList, hgo]; exact hgd)
      have hmem : o ∈ (ops.toList.drop k).take (m - k) := by
        refine List.mem_of_getElem? (i := i - k) ?_
        rw [List.getElem?_take, if_pos (by omega), List.getElem?_drop, show k + (i - k) = i by omega, Array.getElem?_toList]
        exact hi2
      have hlk : ∀ x ∈ o.looksAt ops, getT σ'.t x = getT σ.t x := by
        refine fun x hx => h3 x fun g o' hg hgo hgd => ?_
        have hgk := hFl g (hRF g hg)
        have hgb := lookOK_spec hlook o hmem x hx g (mem_writers.2 ⟨o', by simpa using hget hgk hgo, Nat.zero_le _, hgd⟩)
        exact ((hl g (by omega)).1 (hi3 g hgb)).2 hg
      obtain ⟨hw, hsnd⟩ := hs2 σ' ⟨h1, h2, fun x hx => h3 x (hD x hx)⟩ hlk
      unfold wpOp
      rw [hi2]
      simp only
      rw [if_pos (wantd_spec hh hw)]
      refine (hsnd A0 D0 w0 nt a w G Q (dst_lt hd i o hi2) hu hh).imp (Oper.wp_mono fun a w ⟨σ'', G', g1, ⟨q1, q2, q3⟩, q4⟩ => ?_) id
      refine ih (i + 1) _ a w σ2 σ'' G' R (by simpa using hs) (by omega) (by omega) hjm' (closed_set hc hi) hRF (fun x hx => ?_) hM2 q1 q2 (fun x hx => ?_) g1
      · rw [hset x, hl x hx]
        constructor
        · rintro (rfl | ⟨p1, p2⟩)
          · exact ⟨by omega, hRi⟩
          · exact ⟨by omega, p2⟩
        · rintro ⟨p1, p2⟩
          by_cases hxi : x = i
          · exact .inl hxi
          · exact .inr ⟨by omega, p2⟩
      · by_cases hxD : x ∈ dstsF ops Fl
        · rw [q4 x hxD, h3 x hx, hs1 x hxD]
        · exact q3 x hxD
end
section
variable {P : Program} {up : Bool} {nt : Nat} {ops : Array Oper} {Q : Exit → Act → World → Prop} {σ : St} {te : List (Nat × AV)} {re : Option Root} {val : Nat → AV × Option Root} {tt : Nat → List (Nat × AV)}
theorem any_segF {A0 D0 : Nat → Prop} {w0 : World} {k m : Nat} {Fl : List Nat} (hkm : k ≤ m) (hms : m ≤ ops.size) (hchk : segChkF k m Fl ops = true) (hd : okDst nt ops.toList = true) (hu : up = true → LetsOut Q) (hlt : ∀ y, (getS σ.s y).isSome = true → y < σ.n)
    (hv : SegV P up ops σ (ops.toList.take k) σ.t none te re val tt)
    (hM : Mid P up ops (dstsF ops Fl) (opsF ops Fl) ((ops.toList.drop k).take (m - k)) (endSt σ te re) (fun σ => ∀ a w G, Holds A0 D0 w0 nt σ a w G → wpList P ops Q (ops.toList.drop m) a w)) :
    ∀ (fuel : Nat) (listed : Array Bool) (a : Act) (w : World) (σ' : St) (G : Nat → Option GR), listed.size = ops.size → unl ops.size listed = fuel → (∀ i, listed.getD i false = true → i < k) → Closed ops listed →
      Agree (ops.toList.take k) σ val listed σ' → Holds A0 D0 w0 nt σ' a w G → wpAny P .any ops Q fuel listed a w := by
  have hk : k ≤ ops.size := Nat.le_trans hkm hms
  have hchk0 := hchk
  simp only [segChkF, Bool.and_eq_true] at hchk
  obtain ⟨⟨⟨⟨hdown, hseg⟩, hmid, htail⟩, hflt, hlt'⟩, _⟩ := hchk
  have hFl : ∀ i ∈ Fl, i < k := fun i hi => Nat.blt_eq.mp (List.all_eq_true.1 hlt' i hi)
  generalize hfirst : ops.toList.take k = first at *
  have hfk : first.length = k := by rw [← hfirst]; simp; omega
  have hget : ∀ i, i < k → first[i]? = ops[i]? := fun i hi => by rw [← hfirst, List.getElem?_take, if_pos hi, Array.getElem?_toList]
  have hin : ∀ {i : Nat} {o : Oper}, first[i]? = some o → i < k ∧ ops[i]? = some o := fun {i o} h => by
    have h1 : i < k := by have := (List.getElem?_eq_some_iff.1 h).1; omega
    exact ⟨h1, by rw [← hget i h1]; exact h⟩
  have hsegs := segOK_spec hseg
  have hdst : ∀ (i : Nat) (o : Oper), ops[i]? = some o → ∀ d, o.dst = some d → d < nt := by
    have key : ∀ {os : List Oper}, okDst nt os = true → ∀ o ∈ os, ∀ d, o.dst = some d → d < nt := by
      intro os
      induction os with
      | nil => intro _ o ho; cases ho
      | cons b os ih =>
        intro h o ho
        obtain ⟨h1, h2⟩ := okDst_cons h
        rcases List.mem_cons.1 ho with rfl | ho
        · exact h1
        · exact ih h2 o ho
    intro i o ho
    exact key hd o (List.mem_of_getElem? (by rw [Array.getElem?_toList]; exact ho))
  have finish : ∀ {fuel : Nat} {listed : Array Bool} {a : Act} {w : World} {σ' : St} {G : Nat → Option GR}, listed.size = ops.size → unl ops.size listed = fuel → (∀ i, listed.getD i false = true → i < k) → Closed ops listed → (∀ i, i < k → i ∉ Fl → listed.getD i false = true) → Agree first σ val listed σ' → Holds A0 D0 w0 nt σ' a w G → wpAny P .any ops Q fuel listed a w := by
    intro fuel listed a w σ' G hs hun hL hc hall hag hh
    have hF : ∀ {i : Nat}, i < k → ¬ listed.getD i false = true → i ∈ Fl := fun {i} hi hn => Classical.byContradiction fun h => hn (hall i hi h)
    have hroot : σ'.n = (endSt σ te re).n ∧ ∀ y, getS σ'.s y = getS (endSt σ te re).s y := by
      by_cases hr : ∃ (i : Nat) (o : Oper), first[i]? = some o ∧ (val i).2.isSome = true
      · obtain ⟨i, o, hi, his⟩ := hr
        obtain ⟨r, hr⟩ := Option.isSome_iff_exists.1 his
        have hli : listed.getD i false = true := Classical.byContradiction fun hn => by
          have hp := (fltOK_spec hflt i o (by rw [Array.getElem?_toList]; exact (hin hi).2) (by rw [Nat.zero_add]; exact hF (hin hi).1 hn)).1
          rw [(hv.stab i o hi).1 hp] at his; cases his
        obtain ⟨q1, q2⟩ := hag.r i o r hi hli hr
        rw [(hv.rOne i o hi his).1, hr]
        exact ⟨q1, q2⟩
      · have hno : ∀ (i : Nat) (o : Oper), first[i]? = some o → (val i).2 = none := fun i o hi => by
          cases hvi : (val i).2 with
          | none => rfl
          | some y => exact absurd ⟨i, o, hi, by rw [hvi]; rfl⟩ hr
        obtain ⟨q1, q2⟩ := hag.z (fun i o hi _ => hno i o hi)
        rw [hv.rNone hno]
        exact ⟨q1, q2⟩
    have hte : (endSt σ te re).t = te := by cases re <;> rfl
    refine any_mid hkm hms hchk0 hd hu fuel k listed a w (endSt σ te re) σ' G (fun i => i ∈ Fl ∧ ¬ listed.getD i false = true) hs hun (Nat.le_refl _) hkm hc (fun i hi => hi.1) (fun i hi => ⟨fun h => ⟨hL i h, fun h' => h'.2 h⟩, fun h => ?_⟩) hM hroot.1 hroot.2 (fun x hx => ?_) hh
    · by_cases hif : i ∈ Fl
      · exact Classical.byContradiction fun hn => h.2 ⟨hif, hn⟩
      · exact hall i h.1 hif
    · rw [hte]
      by_cases hx' : ∃ (i : Nat) (o : Oper), first[i]? = some o ∧ o.dst = some x
      · obtain ⟨i, o, hi, hdx⟩ := hx'
        have hli : listed.getD i false = true := Classical.byContradiction fun hn => hx i o ⟨hF (hin hi).1 hn, hn⟩ (hin hi).2 hdx
        have h1 := (hsegs o (List.mem_of_getElem? hi)).1 x hdx
        rw [hv.tE i o x hi hdx (fun j o' hj hd' => Nat.le_of_eq (one_writer h1 hj hd' hi hdx)), hag.w i o x hi hli hdx]
      · have hno : ∀ (i : Nat) (o : Oper), first[i]? = some o → o.dst ≠ some x := fun i o hi hd => hx' ⟨i, o, hi, hd⟩
        rw [hv.tN x hno, hag.u x (fun i o hi _ => hno i o hi)]
  intro fuel
  induction fuel with
  | zero =>
    intro listed a w σ' G hs hun hL hc hag hh
    exact finish hs hun hL hc (fun i hi _ => by rw [← getD_tf (by rw [hs]; omega)]; exact unl_zero hun (by omega)) hag hh
  | succ fuel ih =>
    intro listed a w σ' G hs hun hL hc hag hh
    by_cases hall : ∀ i, i < k → i ∉ Fl → listed.getD i false = true
    · exact finish hs hun hL hc hall hag hh
    -- one of the first is still to be done: there is one that can be
    obtain ⟨i0, h01, h02, h03⟩ := least_not (n := k) (p := fun i => listed.getD i false = true) (Classical.byContradiction fun h => hall fun i hi _ => Classical.byContradiction fun h' => h ⟨i, hi, h'⟩)
    have hready0 : i0 ∈ Region.ready .any ops listed := by
      have hlt0 : i0 < ops.size := by omega
      refine ready_spec.2 ⟨by rw [getD_tf (by rw [hs]; exact hlt0)]; simpa using h02, ops[i0], Array.getElem?_eq_getElem hlt0, fun j hj => h03 j ?_⟩
      have := edgesDown_spec hdown i0 ops[i0] (by rw [Array.getElem?_toList]; exact Array.getElem?_eq_getElem hlt0) j hj
      omega
    refine ⟨fun h0 => (by rw [h0] at hready0; cases hready0), fun i hi => ?_⟩
    obtain ⟨h1, o, h2, h3⟩ := ready_spec.1 hi
    have hisz := (Array.getElem?_eq_some_iff.1 h2).1
    have hun1 : listed.getD i false = false := by rw [← getD_tf (by rw [hs]; exact hisz)]; exact h1
    have hik : i < k := by
      rcases Nat.lt_or_ge i k with h | h
      · exact h
      · exfalso
        rcases Nat.lt_or_ge i m with him | him
        · have hn := midOK_spec hmid (i - k) o (by rw [List.getElem?_take, if_pos (by omega), List.getElem?_drop, show k + (i - k) = i by omega, Array.getElem?_toList]; exact h2)
          rw [show k + (i - k) = i by omega] at hn
          exact hall fun x hx hxf => needsBut_spec hc i _ h3 hn x (by omega) hxf
        · have hn := tailOK_spec htail (i - m) o (by rw [List.getElem?_drop, show m + (i - m) = i by omega, Array.getElem?_toList]; exact h2)
          rw [show m + (i - m) = i by omega] at hn
          exact hall fun x hx _ => needsAll_spec hc i _ h3 hn x (by omega)
    have hfi : first[i]? = some o := by rw [hget i hik]; exact h2
    obtain ⟨hs1, hs2⟩ := hsegs o (List.mem_of_getElem? hfi)
    -- no root has been made by another one, if this one makes one
    have hnoroot : (val i).2.isSome = true → ∀ (j : Nat) (o' : Oper), first[j]? = some o' → listed.getD j false = true → (val j).2 = none := by
      intro his j o' hj hlj
      cases hvj : (val j).2 with
      | none => rfl
      | some y =>
        have := (hv.rOne i o hfi his).2.2 j o' hj (by rw [hvj]; rfl)
        subst this
        rw [hun1] at hlj; cases hlj
    have hext : Ext σ σ' := by
      by_cases hr : ∃ (j : Nat) (o' : Oper), first[j]? = some o' ∧ listed.getD j false = true ∧ (val j).2.isSome = true
      · obtain ⟨j, o', hj, hlj, his⟩ := hr
        obtain ⟨r, hr⟩ := Option.isSome_iff_exists.1 his
        obtain ⟨q1, q2⟩ := hag.r j o' r hj hlj hr
        refine ⟨fun y r' hy => ?_, by omega⟩
        rw [q2 y]
        simp only [getS]
        have := hlt y (by rw [hy]; rfl)
        rw [if_neg (by omega)]
        exact hy
      · obtain ⟨q1, q2⟩ := hag.z (fun j o' hj hlj => by
          cases hvj : (val j).2 with
          | none => rfl
          | some y => exact absurd ⟨j, o', hj, hlj, by rw [hvj]; rfl⟩ hr)
        exact ⟨fun y r' hy => by rw [q2 y]; exact hy, by omega⟩
    have hreads : ∀ x ∈ o.looksAt ops, getT σ'.t x = getT (tt i) x := by
      intro x hx
      by_cases hw : ∃ (j : Nat) (o' : Oper), first[j]? = some o' ∧ o'.dst = some x
      · obtain ⟨j, o', hj, hdx⟩ := hw
        have hjb := hs2 x hx j (mem_writers.2 ⟨o', by simpa using hj, Nat.zero_le _, hdx⟩)
        have hlj := h3 j hjb
        have hji := edgesDown_spec hdown i o (by rw [Array.getElem?_toList]; exact h2) j hjb
        have h1w := (hsegs o' (List.mem_of_getElem? hj)).1 x hdx
        rw [hag.w j o' x hj hlj hdx, hv.tI i j o' x (by omega) (by omega) hj hdx (fun j' o'' _ hj' hd' => Nat.le_of_eq (one_writer h1w hj' hd' hj hdx))]
      · have hno : ∀ (j : Nat) (o' : Oper), first[j]? = some o' → o'.dst ≠ some x := fun j o' hj hd => hw ⟨j, o', hj, hd⟩
        rw [hag.u x (fun j o' hj _ => hno j o' hj), hv.tI0 i x (fun j o' _ hj => hno j o' hj)]
    have hset : ∀ j, (listed.setIfInBounds i true).getD j false = true ↔ j = i ∨ listed.getD j false = true := by
      intro j
      by_cases hij : i = j
      · subst hij
        rw [Array.getD_eq_getD_getElem?, Array.getElem?_setIfInBounds_self_of_lt (by rw [hs]; exact hisz)]
        simp
      · rw [getD_set_ne false hij]
        exact ⟨.inr, fun h => h.resolve_left (Ne.symm hij)⟩
    -- behind it
    have hnext : ∀ (a : Act) (w : World) (G : Nat → Option GR), Holds A0 D0 w0 nt (newR σ' o.dst (val i).1 (val i).2) a w G → wpAny P .any ops Q fuel (listed.setIfInBounds i true) a w := by
      intro a w G hh'
      have hT : ∀ x, getT (newR σ' o.dst (val i).1 (val i).2).t x = if o.dst = some x then (val i).1 else getT σ'.t x := by
        intro x
        have hp : ∀ (τ : St), getT (τ.put o.dst (val i).1).t x = if o.dst = some x then (val i).1 else getT τ.t x := by
          intro τ
          unfold St.put
          split
          · rename_i d hd
            rw [hd]
            simp only [getT, Option.some.injEq]
          · rename_i hd; rw [hd]; simp
        unfold newR
        split <;> exact hp _
      refine ih _ a w _ G (by simpa using hs) (by have := unl_set hisz hs h1; omega) (fun j hj => ?_) (closed_set hc hi) ⟨fun j o' x hj hl hdx => ?_, fun x hx => ?_, fun j o' r hj hl hr => ?_, fun hz => ?_⟩ hh'
      · rcases (hset j).1 hj with rfl | h
        · exact hik
        · exact hL j h
      · rw [hT x]
        rcases (hset j).1 hl with rfl | h
        · rw [hfi] at hj; cases hj
          rw [if_pos hdx]
        · have hne : ¬ o.dst = some x := fun hd => by
            have := one_writer (hs1 x hd) hfi hd hj hdx
            subst this
            rw [hun1] at h; cases h
          rw [if_neg hne]
          exact hag.w j o' x hj h hdx
      · rw [hT x, if_neg (hx i o hfi ((hset i).2 (.inl rfl)))]
        exact hag.u x (fun j o' hj hl => hx j o' hj ((hset j).2 (.inr hl)))
      · rcases (hset j).1 hl with rfl | h
        · rw [hfi] at hj; cases hj
          obtain ⟨q1, q2⟩ := hag.z (hnoroot (by rw [hr]; rfl))
          have e : newR σ' o.dst (val j).1 (val j).2 = St.put { n := σ'.n + 1, t := σ'.t, s := (σ'.n, r) :: σ'.s } o.dst (val j).1 := by rw [hr]; rfl
          rw [e]
          have e2 : ∀ (τ : St), (τ.put o.dst (val j).1).n = τ.n ∧ (τ.put o.dst (val j).1).s = τ.s := fun τ => by unfold St.put; split <;> exact ⟨rfl, rfl⟩
          rw [(e2 _).1, (e2 _).2]
          refine ⟨by rw [q1], fun y => ?_⟩
          simp only [getS, q1]
          split
          · rfl
          · exact q2 y
        · obtain ⟨q1, q2⟩ := hag.r j o' r hj h hr
          have hnone : (val i).2 = none := by
            cases hvi : (val i).2 with
            | none => rfl
            | some y => have := hnoroot (by rw [hvi]; rfl) j o' hj h; rw [hr] at this; cases this
          have e : newR σ' o.dst (val i).1 (val i).2 = St.put σ' o.dst (val i).1 := by rw [hnone]; rfl
          rw [e]
          have e2 : ∀ (τ : St), (τ.put o.dst (val i).1).n = τ.n ∧ (τ.put o.dst (val i).1).s = τ.s := fun τ => by unfold St.put; split <;> exact ⟨rfl, rfl⟩
          rw [(e2 _).1, (e2 _).2]
          exact ⟨q1, q2⟩
      · have hnone := hz i o hfi ((hset i).2 (.inl rfl))
        obtain ⟨q1, q2⟩ := hag.z (fun j o' hj hl => hz j o' hj ((hset j).2 (.inr hl)))
        have e : newR σ' o.dst (val i).1 (val i).2 = St.put σ' o.dst (val i).1 := by rw [hnone]; rfl
        rw [e]
        have e2 : ∀ (τ : St), (τ.put o.dst (val i).1).n = τ.n ∧ (τ.put o.dst (val i).1).s = τ.s := fun τ => by unfold St.put; split <;> exact ⟨rfl, rfl⟩
        rw [(e2 _).1, (e2 _).2]
        exact ⟨q1, q2⟩
    unfold wpOp
    rw [h2]
    simp only
    rcases (hv.stab i o hfi).2 σ' hreads hext (fun his => (hag.z (hnoroot his)).1) with ⟨hw, hsnd⟩ | ⟨hw, hv1, hv2⟩
    · rw [if_pos (wantd_spec hh hw)]
      refine (hsnd A0 D0 w0 nt a w G Q (hdst i o h2) hu hh).imp (Oper.wp_mono fun a w ⟨σ'', G', g1, g2⟩ => ?_) id
      subst g2
      exact hnext a w G' g1
    · rw [if_neg (by rw [wantd_spec hh hw]; simp)]
      refine hnext _ w G ?_
      rw [hv1, hv2]
      exact hh.put (.fr _ _ (.tup [] [] rfl (fun i a h => by simp at h))) (hdst i o h2)
end
end Go.Ab
namespace Go.Ab
open Go Go.RowKit
def ovr : List Nat → (Nat → AV) → List (Nat × AV) → List (Nat × AV)
  | [], _, t => t
  | d :: D, u, t => (d, u d) :: ovr D u t
theorem ovr_nil (u : Nat → AV) (t : List (Nat × AV)) : ovr [] u t = t := rfl
theorem ovr_cons (d : Nat) (D : List Nat) (u : Nat → AV) (t : List (Nat × AV)) : ovr (d :: D) u t = (d, u d) :: ovr D u t := rfl
attribute [go_sem] ovr_nil ovr_cons
theorem ovr_get {u : Nat → AV} {t : List (Nat × AV)} {x : Nat} : ∀ {D : List Nat}, getT (ovr D u t) x = if x ∈ D then u x else getT t x
  | [] => by simp [ovr]
  | d :: D => by
    simp only [ovr, getT, ovr_get (D := D)]
    by_cases h : d = x
    · subst h; simp
    · have : ¬ x = d := fun e => h e.symm
      simp [h, this]
section
variable {P : Program} {TT : TTab} {up : Bool} {np nt : Nat} {σ : St} {Q : Exit → St → Prop} {all : Array Oper} {D : List Nat} {fl : List Oper} {K : St → Prop}
theorem Mid.mono {os : List Oper} : ∀ {σ : St} {K K' : St → Prop}, (∀ σ, K σ → K' σ) → Mid P up all D fl os σ K → Mid P up all D fl os σ K' := by
  induction os with
  | nil => intro σ K K' hk h; exact ⟨h.1, hk _ h.2⟩
  | cons o os ih => intro σ K K' hk h; obtain ⟨h1, σ2, h2, h3⟩ := h; exact ⟨h1, σ2, h2, ih hk h3⟩
theorem Mid.done (hf : Flo P up all fl σ) (hk : K σ) : Mid P up all D fl [] σ K := ⟨hf, hk⟩
theorem stepF_of (htt : TTok P TT) {o : Oper} {n : Nat} {t t2 : List (Nat × AV)} {s s2 : List (Nat × Root)} (hg : o.guard = none) (h1 : ∀ x ∈ D, getT t2 x = getT t x)
    (he : ∀ u : Nat → AV, ∃ e, eop TT ⟨n, ovr D u t, s⟩ o.dst o.op = some e ∧ e.ob ∧ (fin o.dst e).n = n ∧ (∀ x, getT (fin o.dst e).t x = if x ∈ D then u x else getT t2 x) ∧ (fin o.dst e).s = s2) : StepF P up all D o ⟨n, t, s⟩ ⟨n, t2, s2⟩ := by
  refine ⟨h1, fun τ hl _ => ⟨by unfold wantd; rw [hg], ?_⟩⟩
  intro A0 D0 w0 nt a w G Q hd hu hh
  left
  obtain ⟨e, e1, e2, e3, e4, e5⟩ := he (getT τ.t)
  refine Oper.wp_mono (fun a w ⟨σ', G', k1, k2⟩ => ⟨σ', G', k1, ?_⟩) (eop_sound htt e1 e2 A0 D0 w0 nt a w G Q hd (hh.ext (σ' := ⟨n, ovr D (getT τ.t) t, s⟩) hl.1.symm (fun x => ?_) (fun y => (hl.2.1 y).symm)))
  · show getT (ovr D (getT τ.t) t) x = _
    rw [ovr_get]
    split
    · rfl
    · rename_i hx; exact (hl.2.2 x hx).symm
  · subst k2
    refine ⟨⟨e3, fun y => by rw [e5], fun x hx => by rw [e4, if_neg hx]⟩, fun x hx => by rw [e4, if_pos hx]⟩
theorem Mid.sto (htt : TTok P TT) {ty : TypeId} {pos : String} {af : Array Edge} {op : Op} {os : List Oper} {n : Nat} {t : List (Nat × AV)} {s s2 : List (Nat × Root)} (hf : Flo P up all fl ⟨n, t, s⟩)
    (he : ∀ u : Nat → AV, eop TT ⟨n, ovr D u t, s⟩ none op = some ⟨⟨n, ovr D u t, s2⟩, .undef, True⟩) (hk : Mid P up all D fl os ⟨n, t, s2⟩ K) : Mid P up all D fl (⟨none, op, ty, pos, af, none⟩ :: os) ⟨n, t, s⟩ K :=
  ⟨hf, _, stepF_of htt rfl (fun _ _ => rfl) (fun u => ⟨_, he u, trivial, rfl, fun _ => ovr_get, rfl⟩), hk⟩
theorem Flo.nil : Flo P up all [] σ := fun _ h => by cases h
theorem Flo.cons (htt : TTok P TT) {o : Oper} {d : Nat} (hd : o.dst = some d) (hw : wantd all σ o = some true) (hv : pval TT σ o.op = some (getT σ.t d, none)) (h : Flo P up all fl σ) : Flo P up all (o :: fl) σ := by
  intro o' ho' d' hd'
  rcases List.mem_cons.1 ho' with rfl | ho'
  · rw [hd] at hd'; cases hd'
    exact stab_val htt hw hv
  · exact h o' ho' d' hd'
theorem CW.drawnF (hm : P.follows .mixedOrders = true) (k m : Nat) (Fl : List Nat) {D : List Nat} {fl : List Oper} {id : Nat} {ops : Array Oper} (hkm : k ≤ m) (hms : m ≤ ops.size) (hchk : segChkF k m Fl ops = true) (hD : dstsF ops Fl = D) (hfl : opsF ops Fl = fl) (hd : okDst nt ops.toList = true) (hkd : keepDst np ops.toList = true)
    (h : Seg P up ops σ (ops.toList.take k) σ.t none fun t r => Mid P up ops D fl ((ops.toList.drop k).take (m - k)) (endSt σ t r) fun σ => CWops P up nt ops (ops.toList.drop m) σ (Q .normal)) : CW P up np nt (.region id ops true) σ Q := by
  subst hD hfl
  intro A0 D0 w0 a w G R hu hh hr
  let Q1 : Exit → Act → World → Prop := fun e a' w' => match e with
    | .normal => ∃ σ' G', Holds A0 D0 w0 nt σ' a' w' G' ∧ Q .normal σ'
    | e => R e a' w'
  have hu1 : up = true → LetsOut Q1 := fun hu' => let ⟨a, w, h⟩ := hu hu'; ⟨a, w, h⟩
  suffices hs : wpAny P .any ops Q1 ops.size (Array.replicate ops.size false) a { w with drawn := w.drawn + 1 } by
    refine wp_mono (wp_region_any hm (wpAny_keep (a0 := a) hkd _ _ _ _ (Kept.refl np a) hs)) fun e a' w' he => ?_
    cases e with
    | normal => obtain ⟨⟨σ', G', g1, g2⟩, g3⟩ := he; exact hr _ a' w' σ' G' g1 (g3 rfl) g2
    | _ => exact he.1
  obtain ⟨te, re, val, tt, hk', hv⟩ := seg_vals h
  have hno : ∀ i, (Array.replicate ops.size false).getD i false = true → False := fun i hi => by
    rw [Array.getD_eq_getD_getElem?, Array.getElem?_replicate] at hi
    split at hi <;> simp at hi
  refine any_segF (σ := σ) (σ' := σ) hkm hms hchk hd hu1 (fun y hy => ?_) hv (hk'.mono fun σ hσ a w G hh' => hσ (okDst_drop m hd) A0 D0 w0 a w G Q1 hu1 hh' fun a w σ' G' h1 h2 => ⟨σ', G', h1, h2⟩) ops.size _ a _ G (by simp) ?_ (fun i hi => (hno i hi).elim)
    (fun i o _ hi => (hno i hi).elim) ⟨fun i o x _ hi => (hno i hi).elim, fun x _ => rfl, fun i o r _ hi => (hno i hi).elim, fun _ => ⟨rfl, fun _ => rfl⟩⟩ hh.drew
  · have := hh.inv.dom y
    rw [hy] at this
    obtain ⟨g, hg⟩ := Option.isSome_iff_exists.1 this.symm
    exact hh.inv.lt y g hg
  · unfold unl
    have : ((List.range ops.size).filter fun i => !(Array.replicate ops.size false).getD i true) = List.range ops.size := by
      rw [List.filter_eq_self]
      intro i hi
      have hi := List.mem_range.1 hi
      rw [Array.getD_eq_getD_getElem?, Array.getElem?_replicate, if_pos hi]
      rfl
    rw [this, List.length_range]
end
end Go.Ab
namespace Go.Ab
open Go Go.RowKit
section
variable {P : Program} {TT : TTab} {up : Bool} {o : Oper} {σ : St} {K : St → Prop}
theorem snd_strAt {t : Nat} {x ix : Operand} {i : TI} {s : ByteArray} {k : IntKind} {q : Nat} (ho : o.op = .index t x ix) (htt : TTok P TT) (ht : TT t = some i) (hi : i.kind = .str) (hx : ev σ x = .str s) (hl : ev σ ix = .int k (q : Int)) (hq : q < s.size)
    (hk : ∀ c : UInt8, K (σ.put o.dst (.int .u8 c.toNat))) : Snd P o σ K := by
  refine snd_strIndex ho htt ht hi ?_
  rw [hx, hl]
  refine ⟨by omega, ?_⟩
  rw [show ((q : Int)).toNat = q from rfl]
  have : s.data.toList[q]? = some (s.data.toList[q]'(by rw [Array.length_toList]; exact hq)) := List.getElem?_eq_getElem _
  simp only [this]
  exact hk _
theorem CWops.strAt {nt : Nat} {all : Array Oper} {os : List Oper} {d : Option Tmp} {ty : TypeId} {ps : String} {af : Array Edge} {gd : Option (Nat × Bool)} {t : Nat} {x ix : Operand} {i : TI} {s : ByteArray} {k : IntKind} {q : Nat} (htt : TTok P TT)
    (hw : wantd all σ ⟨d, .index t x ix, ty, ps, af, gd⟩ = some true) (ht : TT t = some i) (hi : i.kind = .str) (hx : ev σ x = .str s) (hl : ev σ ix = .int k (q : Int)) (hq : q < s.size)
    (hk : ∀ c : UInt8, CWops P up nt all os (σ.put d (.int .u8 c.toNat)) K) : CWops P up nt all (⟨d, .index t x ix, ty, ps, af, gd⟩ :: os) σ K :=
  CWops.step hw (Snd.up (snd_strAt rfl htt ht hi hx hl hq hk))
end
end Go.Ab
namespace Go.Ab
open Go Go.RowKit
theorem ex_func {m : Nat → Nat} {n : Nat} {a b c d : List AV} : (∃ x' y' : List AV, (x' = a ∧ b = y') ∧ SubL m n c x' ∧ SubL m n d y') = (SubL m n c a ∧ SubL m n d b) := by
  apply propext
  constructor
  · rintro ⟨x, y, ⟨rfl, rfl⟩, h1, h2⟩; exact ⟨h1, h2⟩
  · rintro ⟨h1, h2⟩; exact ⟨a, b, ⟨rfl, rfl⟩, h1, h2⟩
def outF (x j N : Nat) : AV → AV
  | .ref y [] c => if y = x ∧ c = j then .ref N [] 0 else .ref y [] c
  | a => a
theorem outF_tree {x j N : Nat} {a : AV} (h : a.tree = true) : outF x j N a = a := by cases a <;> first | rfl | cases h
theorem Sh.out {σ τ : St} (x j : Nat) {av : AV} (hc : cellAtB σ x [] j = av) (ht : av.tree = true)
    (he : { n := σ.n + 1, t := mapT (outF x j σ.n) σ.t, s := (σ.n, ⟨false, [av]⟩) :: (match getS σ.s x with
      | some r => updS (mapS (outF x j σ.n) σ.s) x { r with cells := putAt (r.cells.map (outF x j σ.n)) [] j (.ref σ.n [] 0) }
      | none => σ.s) } = τ) : Sh σ τ := by
  intro A0 D0 w0 nt a w G h
  subst he
  obtain ⟨r, row, g, grow, g0, hr, hrow, hrc, hg, hgr, hg0, hl, her, hmem, hsep, -⟩ := h.tree hc ht
  cases hrow
  cases hgr
  obtain ⟨g_, hg_, hb, hcs, hm⟩ := h.root hr
  rw [hg] at hg_; cases hg_
  have hrow : rowOf r.cells [] = some r.cells := rfl
  have hgr : gRow g.cells [] = some g.cells := rfl
  have hoc : g0.val.oneCell' = true := hmem.oneCell
  obtain ⟨m1, m2, m3⟩ := RowMem.same (g1 := .lf .undef g0.val) (.lf _ _ (.undef _) hoc) (.lf _ _) [] hm hgr hg0 rfl (fun k hk => by cases hk)
  have hoff := gPut_off (g1 := .lf .undef g0.val) rfl [] hm.sep hgr hg0
  have hxN : x < σ.n := h.inv.lt x g hg
  have hGN : ∀ y gy, G y = some gy → y ≠ σ.n := fun y gy hy => by have := h.inv.lt y gy hy; omega
  let g' : GR := { g with cells := gPut g.cells [] j (.lf .undef g0.val) }
  let gN : GR := ⟨none, [g0]⟩
  let G1 := Gset G x (some g')
  let G' := Gset G1 σ.n (some gN)
  have hG'N : G' σ.n = some gN := Gset_self _ _ _
  have hG'x : G' x = some g' := by show Gset _ _ _ _ = _; rw [Gset_ne (by omega)]; exact Gset_self _ _ _
  have hG'y : ∀ y, y ≠ x → y ≠ σ.n → G' y = G y := fun y h1 h2 => by show Gset _ _ _ _ = _; rw [Gset_ne h2]; exact Gset_ne h1
  have hfpx : ∀ k, RFp g' k → RFp g k := fun k hk => hk.imp id fun hk => (m2 k hk).resolve_right (fun hk => by cases hk)
  have hfpN : ∀ k, RFp gN k → Fp g0 k := by
    rintro k (hk | ⟨c, t, hc, hk⟩)
    · cases hk
    · cases c with
      | zero => cases hc; exact hk
      | succ c => simp [gN] at hc
  have hg0k : ∀ k, Fp g0 k → RFp g k := fun k hk => .inr ⟨j, g0, hg0, hk⟩
  have hown : ∀ k, GFp G' k → GFp G k := by
    rintro k ⟨y, gy, hy, hk⟩
    by_cases e1 : y = σ.n
    · subst e1; rw [hG'N] at hy; cases hy; exact ⟨x, g, hg, hg0k k (hfpN k hk)⟩
    · by_cases e2 : y = x
      · subst e2; rw [hG'x] at hy; cases hy; exact ⟨y, g, hg, hfpx k hk⟩
      · rw [hG'y y e2 e1] at hy; exact ⟨y, gy, hy, hk⟩
  have hA : ∀ k, k < w.heap.size → Own A0 G' k → Own A0 G k := fun k _ hk => hk.imp id (hown k)
  have hkeep : ∀ a v, Rel w (Own A0 G) G σ.n a v → Rel w (Own A0 G') G' (σ.n + 1) a v := fun a v hr =>
    hr.keep (Nat.le_succ _) (fun _ _ _ => rfl) hA (fun y q c v hy hr => (RefOK.turn (g1 := .lf .undef g0.val) hg hgr hg0 rfl (.inl rfl) hr).new (by omega)) (fun y q c v hy hr => (LvOK.turn (g1 := .lf .undef g0.val) hg hgr hg0 rfl hr).new (by omega))
  have hrefN : Rel w (Own A0 G') G' (σ.n + 1) (.ref σ.n [] 0) g0.val := by
    refine .ref _ _ _ _ (by omega) hoc ?_
    intro r1 row t h1 h2 h3 _
    rw [hG'N] at h1; cases h1
    cases h2
    cases h3
    rfl
  have hf : ∀ a v, Rel w (Own A0 G) G σ.n a v → Rel w (Own A0 G') G' (σ.n + 1) (outF x j σ.n a) v := by
    intro a v hrel
    unfold outF
    split
    · rename_i y c
      split
      · rename_i e
        obtain ⟨rfl, rfl⟩ := e
        obtain ⟨_, _, e3⟩ := hrel.ref_inv
        have := e3 g g.cells g0 hg rfl hg0 hl
        rw [this]
        exact hrefN
      · exact hkeep _ _ hrel
    · exact hkeep _ _ hrel
  refine ⟨G', ?_⟩
  refine h.change (outF x j σ.n) (fun y => y = x ∨ y = σ.n) (Nat.le_succ _) (fun _ _ _ => rfl) ⟨rfl, rfl, rfl, Nat.le_refl _⟩ (fun k hk => .inl (hown k hk)) hf rfl (fun a => outF_tree) (fun y => ?_) (fun y hy => ?_) (fun _ _ _ _ _ _ => rfl)
    (fun y r1 g1 hy hr1 hg1 => ?_) (fun y g1 y' g2 hy hg1 hg2 hne b hb hb' => ?_) rfl
  · simp only [getS, hr]
    by_cases e1 : σ.n = y
    · subst e1; rw [if_pos rfl, hG'N]; rfl
    · rw [if_neg e1, getS_upd, getS_map]
      by_cases e2 : y = x
      · subst e2; rw [if_pos rfl, hr, hG'x]; rfl
      · rw [if_neg e2, getS_map, hG'y y e2 (Ne.symm e1)]
        have := h.inv.dom y
        rw [← this]
        cases getS σ.s y <;> rfl
  · rw [not_or] at hy
    simp only [getS, hr]
    rw [if_neg (Ne.symm hy.2), getS_upd, if_neg hy.1, getS_map]
    exact ⟨rfl, hG'y y hy.1 hy.2⟩
  · simp only [getS, hr] at hr1
    by_cases e1 : y = σ.n
    · subst e1
      rw [if_pos rfl] at hr1; cases hr1
      rw [hG'N] at hg1; cases hg1
      refine ⟨rfl, ⟨rfl, fun c a t ha htc => ?_⟩, ⟨fun c t htc => ?_, ⟨fun c t htc => ?_, fun c t c' t' h1 h2 hne => ?_⟩, fun b o e => ?_, fun b o e => ?_⟩, fun b e => ?_, by simp⟩
      · cases c with
        | zero => cases ha; cases htc; exact .inl ⟨hl, her.symm⟩
        | succ c => simp at ha
      · cases c with
        | zero => cases htc; exact hmem.keep (fun _ _ _ => rfl) hA (fun _ _ => rfl)
        | succ c => simp [gN] at htc
      · cases c with
        | zero => cases htc; exact hsep
        | succ c => simp [gN] at htc
      · cases c with
        | zero => cases c' with
          | zero => exact absurd rfl hne
          | succ c' => simp [gN] at h2
        | succ c => simp [gN] at h1
      · cases e
      · cases e
      · cases e
    · have e2 := hy.resolve_right e1
      subst e2
      rw [if_neg (Ne.symm e1), getS_upd, getS_map, if_pos rfl, hr] at hr1
      cases hr1
      rw [hG'x] at hg1; cases hg1
      refine ⟨hb, ?_, m1.keep (fun _ _ _ => rfl) hA (fun _ _ => rfl) (fun _ _ _ => rfl), fun b e => ?_, by simp only; omega⟩
      · exact cells_put (f := outF y j σ.n) (p := []) (j := j) (av := .ref σ.n [] 0) (g' := .lf .undef g0.val) hcs hm hrow hf (fun a => outF_tree) (.inr (.inl ⟨rfl, rfl, hrefN⟩))
      · obtain ⟨vs, T, h1, h2⟩ := h.inv.base y g b hg e
        exact ⟨vs, T, h1, by rw [h2]; exact (gPut_len [] g.cells).symm⟩
  · -- apart
    have hxk : ∀ z gz, z ≠ x → z ≠ σ.n → G' z = some gz → ∀ k, RFp g k → ¬ RFp gz k := fun z gz e2 e1 hz k hk hk' => by
      rw [hG'y z e2 e1] at hz
      exact h.inv.sep x g z gz hg hz (Ne.symm e2) k hk hk'
    have hxN' : ∀ k, RFp g' k → ¬ Fp g0 k := by
      rintro k (hk | hk) hk0
      · exact hm.off k 0 (by simp only [GR.at_, Option.map_eq_some_iff]; exact ⟨k, hk, rfl⟩) ⟨j, g0, hg0, hk0⟩
      · exact hoff k hk hk0
    rcases hy with rfl | rfl
    · rw [hG'x] at hg1; cases hg1
      by_cases e1 : y' = σ.n
      · subst e1; rw [hG'N] at hg2; cases hg2; exact hxN' b hb (hfpN b hb')
      · exact hxk y' g2 (Ne.symm hne) e1 hg2 b (hfpx b hb) hb'
    · rw [hG'N] at hg1; cases hg1
      by_cases e2 : y' = x
      · subst e2; rw [hG'x] at hg2; cases hg2; exact hxN' b hb' (hfpN b hb)
      · exact hxk y' g2 e2 (Ne.symm hne) hg2 b (hg0k b (hfpN b hb)) hb'
end Go.Ab
namespace Go.Ab
open Go Go.RowKit
def frzF (x : Nat) (l : List AV) : AV → AV
  | .lv y [] 0 => if y = x then .fp l else .lv y [] 0
  | .func f a b => .func f (a.map fun a => frzF x l a) (b.map fun a => frzF x l a)
  | a => a
theorem frzF_tree {x : Nat} {l : List AV} {a : AV} (h : a.tree = true) : frzF x l a = a := by cases a <;> first | (cases h; done) | simp [frzF]
theorem FR.frzF {w : World} {A : Nat → Prop} {x : Nat} {l : List AV} {a : AV} {v : Value} (h : FR w A a v) : FR w A (frzF x l a) v := by
  induction h with
  | func fn first caps us vs h1 h2 h3 h4 ih1 ih2 =>
    simp only [Ab.frzF]
    refine .func fn _ _ us vs (by simpa using h1) (by simpa using h2) (fun i a h => ?_) (fun i a h => ?_)
    · simp only [List.getElem?_map, Option.map_eq_some_iff] at h
      obtain ⟨a', h', rfl⟩ := h; exact ih1 i a' h'
    · simp only [List.getElem?_map, Option.map_eq_some_iff] at h
      obtain ⟨a', h', rfl⟩ := h; exact ih2 i a' h'
  | ifc t v u h ih => simp only [Ab.frzF]; exact .ifc t v u h
  | agg l vs h1 h2 ih => simp only [Ab.frzF]; exact .agg l vs h1 h2
  | tup l vs h1 h2 ih => simp only [Ab.frzF]; exact .tup l vs h1 h2
  | sl n l b o cap h1 h2 h3 h4 h5 h6 _ => simp only [Ab.frzF]; exact .sl n l b o cap h1 h2 h3 h4 h5 h6
  | fp l b o h5 h6 _ => simp only [Ab.frzF]; exact .fp l b o h5 h6
  | fmap es b ents clock h1 h2 h3 h4 h5 h6 _ => simp only [Ab.frzF]; exact .fmap es b ents clock h1 h2 h3 h4 h5 h6
  | str s h => simp only [Ab.frzF]; exact .str s h
  | undef v => simp only [Ab.frzF]; exact .undef v
  | bool v => simp only [Ab.frzF]; exact .bool v
  | int k v => simp only [Ab.frzF]; exact .int k v
  | nilsl => simp only [Ab.frzF]; exact .nilsl
  | slnil n => simp only [Ab.frzF]; exact .slnil n
  | slmt n a cap h => simp only [Ab.frzF]; exact .slmt n a cap h
  | tight n l ad h _ => simp only [Ab.frzF]; exact .tight n l ad h
  | nilp => simp only [Ab.frzF]; exact .nilp
  | nilmap => simp only [Ab.frzF]; exact .nilmap
  | nilfunc => simp only [Ab.frzF]; exact .nilfunc
  | nili => simp only [Ab.frzF]; exact .nili
theorem Sh.frzB {σ τ : St} (x : Nat) {l : List AV} (hx : getS σ.s x = some ⟨true, l⟩) (hl : pureL l = true)
    (he : { n := σ.n, t := mapT (frzF x l) σ.t, s := mapS (frzF x l) (delS σ.s x) } = τ) : Sh σ τ := by
  intro A0 D0 w0 nt a w G h
  subst he
  obtain ⟨g, hg, hb, hcs, hm⟩ := h.root hx
  obtain ⟨b, hgb⟩ := Option.isSome_iff_exists.1 hb.symm
  have hown : ∀ k, GFp (Gset G x none) k → GFp G k := by
    rintro k ⟨y, gy, hy, hk⟩
    by_cases e : y = x
    · subst e; rw [Gset_self] at hy; cases hy
    · rw [Gset_ne e] at hy; exact ⟨y, gy, hy, hk⟩
  have hnb : ¬ Own A0 (Gset G x none) b := by
    rintro (hk | ⟨y, gy, hy, hk⟩)
    · exact h.inv.a0 b ⟨x, g, hg, .inl hgb⟩ hk
    · by_cases e : y = x
      · subst e; rw [Gset_self] at hy; cases hy
      · rw [Gset_ne e] at hy; exact h.inv.sep y gy x g hy hg e b hk (.inl hgb)
  have hat : g.at_ = some (b, 0) := by simp [GR.at_, hgb]
  have hcell : ∀ (i : Nat) (av : AV), l[i]? = some av → ∃ t, g.cells[i]? = some t ∧ w.cell? ⟨b, 0 + i, none⟩ = some t.val ∧ FR w (Own A0 G) av t.val := by
    intro i av hi
    have hil := (List.getElem?_eq_some_iff.1 hi).1
    have hlen := hcs.len
    obtain ⟨t, ht⟩ : ∃ t, g.cells[i]? = some t := ⟨g.cells[i]'(by rw [← hlen]; exact hil), List.getElem?_eq_getElem _⟩
    refine ⟨t, ht, hm.at_ b 0 hat i t ht, ?_⟩
    have hpu := pureL_at hl i av hi
    rcases hcs.cell i av t hi ht with ⟨q1, q2⟩ | ⟨q1, q2⟩
    · have := tree_of_leaf q1
      rw [← q2] at this
      cases av <;> first | (cases this; done) | (simp [AV.pure] at hpu)
    · exact q2.pure hpu
  have hfp : FR w (Own A0 (Gset G x none)) (.fp l) (.pointer (some ⟨b, 0, none⟩)) := by
    refine .fp l b 0 (fun i av hi => ?_) (fun i av hi => ?_)
    · obtain ⟨t, _, h2, _⟩ := hcell i av hi
      exact ⟨hnb, by rw [h2]; rfl⟩
    · obtain ⟨t, _, h2, h3⟩ := hcell i av hi
      unfold rdw; rw [h2]
      exact h3.keep (fun _ _ _ => rfl) (fun k _ hk => hk.imp id (hown k))
  have hkeep : ∀ {a : AV} {v : Value}, Rel w (Own A0 G) G σ.n a v → Rel w (Own A0 (Gset G x none)) (Gset G x none) σ.n a v := fun {a v} hr =>
    Rel.keep (w := w) (w' := w) (Nat.le_refl _) (fun _ _ _ => rfl) (fun b _ hb => hb.imp id (hown b)) (fun y p c v _ hr => by
      by_cases e : y = x
      · subst e; intro r row g hr'; rw [Gset_self] at hr'; cases hr'
      · exact hr.new e) (fun y p c v _ hr => by
      by_cases e : y = x
      · subst e; intro r b o hr'; rw [Gset_self] at hr'; cases hr'
      · exact hr.new e) hr
  have hf : ∀ (a : AV) (v : Value), Rel w (Own A0 G) G σ.n a v → Rel w (Own A0 (Gset G x none)) (Gset G x none) σ.n (frzF x l a) v := by
    intro a v hr
    induction hr with
    | fr a v hr => exact .fr _ _ ((hr.keep (fun _ _ _ => rfl) (fun b _ hb => hb.imp id (hown b))).frzF)
    | ref y p c v h1 h2 h3 => simp only [frzF]; exact hkeep (.ref y p c v h1 h2 h3)
    | lv y p j ad h1 h2 =>
      by_cases e : y = x ∧ p = [] ∧ j = 0
      · obtain ⟨rfl, rfl, rfl⟩ := e
        simp only [frzF, if_true]
        have : ad = ⟨b, 0, none⟩ := h2 g b 0 hg (by unfold gBase; exact hat)
        rw [this]
        exact .fr _ _ hfp
      · have : frzF x l (.lv y p j) = .lv y p j := by
          unfold frzF
          split
          · rename_i e1; cases e1; rw [if_neg (fun h => e ⟨h, rfl, rfl⟩)]
          · rename_i e1; cases e1
          · rfl
        rw [this]
        exact hkeep (.lv y p j ad h1 h2)
    | func fn first caps us vs h1 h2 h3 h4 ih1 ih2 =>
      simp only [frzF]
      refine .func fn _ _ us vs (by simpa using h1) (by simpa using h2) (fun i a h => ?_) (fun i a h => ?_)
      · simp only [List.getElem?_map, Option.map_eq_some_iff] at h
        obtain ⟨a', h', rfl⟩ := h; exact ih1 i a' h'
      · simp only [List.getElem?_map, Option.map_eq_some_iff] at h
        obtain ⟨a', h', rfl⟩ := h; exact ih2 i a' h'
    | ifc t v u hr ih => simp only [frzF]; exact hkeep (.ifc t v u hr)
    | agg l vs h1 h2 ih => simp only [frzF]; exact hkeep (.agg l vs h1 h2)
    | tup l vs h1 h2 ih => simp only [frzF]; exact hkeep (.tup l vs h1 h2)
  refine ⟨Gset G x none, ?_⟩
  refine h.change (frzF x l) (fun y => y = x) (Nat.le_refl _) (fun _ _ _ => rfl) ⟨rfl, rfl, rfl, Nat.le_refl _⟩ (fun b hb => .inl (hown b hb)) hf (by simp [frzF]) (fun a => frzF_tree) (fun y => ?_) (fun y hy => ?_) (fun _ _ _ _ _ _ => rfl) (fun y r g hy hr hg => ?_) (fun y g _ _ hy hg => ?_) rfl
  · show (getS (mapS (frzF x l) (delS σ.s x)) y).isSome = _
    rw [getS_map, getS_del]
    by_cases e : y = x
    · subst e; simp [Gset_self]
    · rw [if_neg e, Gset_ne e]
      have := h.inv.dom y
      rw [← this]
      cases getS σ.s y <;> rfl
  · show getS (mapS (frzF x l) (delS σ.s x)) y = _ ∧ _
    rw [getS_map, getS_del, if_neg hy, Gset_ne hy]
    exact ⟨rfl, rfl⟩
  · subst hy; rw [Gset_self] at hg; cases hg
  · subst hy; rw [Gset_self] at hg; cases hg
end Go.Ab
namespace Go.Ab
open Go Go.RowKit
section
variable {A0 D0 : Nat → Prop} {w0 : World} {nt : Nat} {σ : St} {a : Act} {w : World} {G : Nat → Option GR}
end
theorem GCall.mono {P : Program} {up : Bool} {f : FuncId} {args : List AV} {n : Nat} {s : List (Nat × Root)} {Post Post' : AV → St → Prop} (h : GCall P up f args n s Post) (hp : ∀ r σ', Post r σ' → Post' r σ') : GCall P up f args n s Post' := by
  refine ⟨h.1, fun w A G vs hA hinv hvl hrel => (h.2 w A G vs hA hinv hvl hrel).mono fun e w' he => ?_⟩
  cases e with
  | returned v =>
    obtain ⟨σ', G', r, k1, k⟩ := he
    exact ⟨σ', G', r, hp r σ' k1, k⟩
  | panicked c => exact he
  | outgrown => exact he
section
variable {P : Program} {TT : TTab} {up : Bool} {all : Array Oper} {σ0 : St} {K : List (Nat × AV) → Option Root → Prop}
end
end Go.Ab
namespace Go.Ab
open Go Go.RowKit
section
variable {P : Program} {TT : TTab} {up : Bool} {np nt : Nat} {σ : St} {Q : Exit → St → Prop} {all : Array Oper} {os : List Oper} {K : St → Prop}
theorem CWops.rn (htt : TTok P TT) (n : Nat) {os' : List Oper} {σ' : St} {ob : Prop} (hk : CWops P up nt all os' σ' K)
    (h : runS TT all n os σ True = ⟨os', σ', ob⟩ := by simp only [go_sem, simprocAttr]; exact rfl)
    (hob : ob := by simp [go_sem]) : CWops P up nt all os σ K := CWops.run htt n h hob hk
theorem CW.rg {id : Nat} {ops : Array Oper} (h : CWops P up nt ops ops.toList σ (Q .normal)) (hd : okDst nt ops.toList = true := by kernel_rfl) (hk : keepDst np ops.toList = true := by kernel_rfl) : CW P up np nt (.region id ops false) σ Q := CW.region hd hk h
end
end Go.Ab
namespace Go.Ab
open Go Go.RowKit
section
variable {P : Program} {up : Bool} {np nt : Nat} {σ : St} {Q : Exit → St → Prop}
theorem CW.cd {c : Operand} {x y : Code} {b : Bool} (h1 : b = true → CW P up np nt x σ Q) (h2 : b = false → CW P up np nt y σ Q) (hc : ev σ c = .bool b := by simp only [go_sem, simprocAttr] <;> exact rfl) : CW P up np nt (.cond c x y) σ Q := CW.cond hc h1 h2
end
theorem retQ.rt {TT : TTab} {rs : List ResultVar} {R : AV → Prop} {σ : St} {l : List AV} {r : AV} (h1 : resL TT σ rs = some l) (h3 : ∃ r', leP r' r ∧ R r') (h2 : view 9 σ (one l) = r := by simp only [go_sem, simprocAttr]; exact rfl) : retQ TT rs R .ret σ := retQ.ret h1 h2 h3
end Go.Ab
namespace Go.Ab
open Go Go.RowKit
def renE (l : List Nat) (e : Edge) : Edge := { e with on := l.idxOf e.on }
def renO (l : List Nat) (o : Oper) : Oper := { o with after := o.after.map (renE l) }
theorem renO_mk (l : List Nat) (d : Option Tmp) (op : Op) (ty : TypeId) (pos : String) (af : Array Edge) (gd : Option (Nat × Bool)) : renO l ⟨d, op, ty, pos, af, gd⟩ = ⟨d, op, ty, pos, af.map (renE l), gd⟩ := rfl
def nthO : List Oper → Nat → Oper
  | [], _ => default
  | o :: _, 0 => o
  | _ :: os, n + 1 => nthO os n
theorem nthO_zero (o : Oper) (os : List Oper) : nthO (o :: os) 0 = o := rfl
theorem nthO_succ (o : Oper) (os : List Oper) (n : Nat) : nthO (o :: os) (n + 1) = nthO os n := rfl
theorem nthO_get : ∀ {os : List Oper} {i : Nat} {o : Oper}, os[i]? = some o → nthO os i = o
  | [], i, o, h => by simp at h
  | _ :: _, 0, o, h => by simp at h; exact h
  | _ :: os, i + 1, o, h => nthO_get (os := os) (by simpa using h)
def permL (l : List Nat) (os : List Oper) : List Oper := l.map fun i => renO l (nthO os i)
theorem permL_mk (l : List Nat) (os : List Oper) : permL l os = l.map fun i => renO l (nthO os i) := rfl
def permOK (l : List Nat) (ops : Array Oper) : Bool :=
  (Nat.beq l.length ops.size && (decide l.Nodup && l.all fun i => Nat.blt i ops.size)) && ((List.range ops.size).all (fun i => memB i l) && ops.toList.all fun o => o.guard.isNone && (bnd o).all fun j => Nat.blt j ops.size)
section
variable {P : Program} {ops : Array Oper} {Q : Exit → Act → World → Prop}
theorem renO_bnd {l : List Nat} {o : Oper} {j : Nat} : j ∈ bnd (renO l o) ↔ ∃ i ∈ bnd o, l.idxOf i = j := by
  rw [mem_bnd]
  constructor
  · rintro ⟨e, he, hb, rfl⟩
    simp only [renO, Array.mem_map] at he
    obtain ⟨e0, h0, rfl⟩ := he
    exact ⟨e0.on, mem_bnd.2 ⟨e0, h0, hb, rfl⟩, rfl⟩
  · rintro ⟨i, hi, rfl⟩
    obtain ⟨e0, h0, hb, rfl⟩ := mem_bnd.1 hi
    exact ⟨renE l e0, by simp only [renO, Array.mem_map]; exact ⟨e0, h0, rfl⟩, hb, rfl⟩
theorem renO_wp {l : List Nat} {o : Oper} {a : Act} {w : World} {K : Act → World → Prop} : (renO l o).wp P a w K Q = o.wp P a w K Q := by cases o; rfl
theorem renO_asks {l : List Nat} {o : Oper} {a : Act} {w : World} : (renO l o).asks P a w = o.asks P a w := by cases o; rfl
theorem wpAny_perm {l : List Nat} {os' : List Oper} (he : permL l ops.toList = os') (hp : permOK l ops = true) : ∀ (fuel : Nat) (listed listed' : Array Bool) (a : Act) (w : World), listed.size = ops.size → listed'.size = ops.size →
    (∀ i, i < ops.size → listed'.getD (l.idxOf i) false = listed.getD i false) → wpAny P .any os'.toArray Q fuel listed' a w → wpAny P .any ops Q fuel listed a w := by
  simp only [permOK, Bool.and_eq_true, decide_eq_true_eq] at hp
  obtain ⟨⟨hlen, hnd, hlt⟩, hall, hgd⟩ := hp
  have hlen : l.length = ops.size := Nat.eq_of_beq_eq_true hlen
  have hlt : ∀ i ∈ l, i < ops.size := fun i hi => Nat.blt_eq.mp (List.all_eq_true.1 hlt i hi)
  have hin : ∀ i, i < ops.size → i ∈ l := fun i hi => memB_iff.1 (List.all_eq_true.1 hall i (List.mem_range.2 hi))
  have hidx : ∀ i, i < ops.size → l.idxOf i < ops.size := fun i hi => by rw [← hlen]; exact List.idxOf_lt_length_iff.2 (hin i hi)
  have hgd : ∀ o ∈ ops, o.guard = none ∧ ∀ j ∈ bnd o, j < ops.size := fun o ho => by
    have := List.all_eq_true.1 hgd o (Array.mem_toList_iff.2 ho)
    simp only [Bool.and_eq_true, Option.isNone_iff_eq_none] at this
    exact ⟨this.1, fun j hj => Nat.blt_eq.mp (List.all_eq_true.1 this.2 j hj)⟩
  have hsz : os'.toArray.size = ops.size := by subst he; simp [permL, hlen]
  have hget : ∀ (i : Nat) (o : Oper), ops[i]? = some o → os'.toArray[l.idxOf i]? = some (renO l o) := fun i o ho => by
    have hi := (Array.getElem?_eq_some_iff.1 ho).1
    subst he
    have h2 : l[l.idxOf i]? = some i := by
      have h3 : l.idxOf i < l.length := List.idxOf_lt_length_iff.2 (hin i hi)
      rw [List.getElem?_eq_getElem h3, List.getElem_idxOf h3]
    simp only [permL, List.getElem?_toArray, List.getElem?_map, h2, Option.map_some]
    rw [nthO_get (by rw [Array.getElem?_toList]; exact ho)]
  have hback : ∀ (j : Nat) (o' : Oper), os'.toArray[j]? = some o' → ∃ i o, j = l.idxOf i ∧ i < ops.size ∧ ops[i]? = some o ∧ o' = renO l o := fun j o' ho => by
    have hj : j < ops.size := by rw [← hsz]; exact (Array.getElem?_eq_some_iff.1 ho).1
    have hjl : j < l.length := by omega
    have hil := hlt l[j] (List.getElem_mem hjl)
    have e : l.idxOf l[j] = j := List.Nodup.idxOf_getElem hnd j hjl
    have h2 := hget l[j] ops[l[j]] (Array.getElem?_eq_getElem hil)
    rw [e, ho] at h2
    exact ⟨l[j], ops[l[j]], e.symm, hil, Array.getElem?_eq_getElem hil, Option.some.inj h2⟩
  intro fuel
  have hr : ∀ {listed listed' : Array Bool}, listed.size = ops.size → listed'.size = ops.size → (∀ i, i < ops.size → listed'.getD (l.idxOf i) false = listed.getD i false) → ∀ i, i < ops.size → (i ∈ Region.ready .any ops listed ↔ l.idxOf i ∈ Region.ready .any os'.toArray listed') := by
    intro listed listed' h1 h2 h3 i hi
    have ht : listed'.getD (l.idxOf i) true = listed.getD i true := by
      rw [getD_tf (by rw [h2]; exact hidx i hi), getD_tf (by rw [h1]; exact hi), h3 i hi]
    rw [ready_spec, ready_spec, ht]
    constructor
    · rintro ⟨g1, o, g2, g3⟩
      refine ⟨g1, renO l o, hget i o g2, fun j hj => ?_⟩
      obtain ⟨i0, hi0, rfl⟩ := renO_bnd.1 hj
      have := (hgd o (Array.mem_of_getElem? g2)).2 i0 hi0
      rw [h3 i0 this]; exact g3 i0 hi0
    · rintro ⟨g1, o', g2, g3⟩
      obtain ⟨i1, o, e1, hi1, e2, rfl⟩ := hback _ o' g2
      have : i = i1 := by
        have a1 := List.getElem_idxOf (List.idxOf_lt_length_iff.2 (hin i hi))
        have a2 := List.getElem_idxOf (List.idxOf_lt_length_iff.2 (hin i1 hi1))
        simp only [e1] at a1
        rw [a1] at a2; exact a2
      subst this
      refine ⟨g1, o, e2, fun j hj => ?_⟩
      have hjs := (hgd o (Array.mem_of_getElem? e2)).2 j hj
      rw [← h3 j hjs]
      exact g3 _ (renO_bnd.2 ⟨j, hj, rfl⟩)
  have hnil : ∀ {listed listed' : Array Bool}, listed.size = ops.size → listed'.size = ops.size → (∀ i, i < ops.size → listed'.getD (l.idxOf i) false = listed.getD i false) → (Region.ready .any ops listed = [] ↔ Region.ready .any os'.toArray listed' = []) := by
    intro listed listed' h1 h2 h3
    constructor
    · intro h
      refine List.eq_nil_iff_forall_not_mem.2 fun j hj => ?_
      obtain ⟨_, o', g2, _⟩ := ready_spec.1 hj
      obtain ⟨i, o, rfl, hi, _, _⟩ := hback j o' g2
      have := (hr h1 h2 h3 i hi).2 hj
      rw [h] at this; cases this
    · intro h
      refine List.eq_nil_iff_forall_not_mem.2 fun i hi => ?_
      obtain ⟨_, o, g2, _⟩ := ready_spec.1 hi
      have := (hr h1 h2 h3 i (Array.getElem?_eq_some_iff.1 g2).1).1 hi
      rw [h] at this; cases this
  induction fuel with
  | zero =>
    intro listed listed' a w h1 h2 h3 h
    exact ⟨(hnil h1 h2 h3).2 h.1, h.2⟩
  | succ fuel ih =>
    intro listed listed' a w h1 h2 h3 h
    refine ⟨fun h0 => h.1 ((hnil h1 h2 h3).1 h0), fun i hi => ?_⟩
    obtain ⟨_, o, g2, _⟩ := ready_spec.1 hi
    have hil := (Array.getElem?_eq_some_iff.1 g2).1
    have hstep := h.2 (l.idxOf i) ((hr h1 h2 h3 i hil).1 hi)
    have hg := (hgd o (Array.mem_of_getElem? g2)).1
    have hK : ∀ a w, wpAny P .any os'.toArray Q fuel (listed'.setIfInBounds (l.idxOf i) true) a w → wpAny P .any ops Q fuel (listed.setIfInBounds i true) a w := fun a w hh => by
      refine ih _ _ a w (by simpa using h1) (by simpa using h2) (fun x hx => ?_) hh
      by_cases hxi : i = x
      · subst hxi
        rw [Array.getD_eq_getD_getElem?, Array.getElem?_setIfInBounds_self_of_lt (by rw [h2]; exact hidx i hil), Array.getD_eq_getD_getElem?, Array.getElem?_setIfInBounds_self_of_lt (by rw [h1]; exact hil)]
      · have hne : l.idxOf i ≠ l.idxOf x := fun e => by
          have a1 := List.getElem_idxOf (List.idxOf_lt_length_iff.2 (hin i hil))
          have a2 := List.getElem_idxOf (List.idxOf_lt_length_iff.2 (hin x hx))
          simp only [e] at a1
          rw [a1] at a2; exact hxi a2
        rw [getD_set_ne false hne, getD_set_ne false hxi, h3 x hx]
    unfold wpOp at hstep ⊢
    rw [g2]
    rw [hget i o g2] at hstep
    simp only [Region.wanted, renO, hg, if_true] at hstep ⊢
    have hstep' : (renO l o).wp P a w (wpAny P .any os'.toArray Q fuel (listed'.setIfInBounds (l.idxOf i) true)) Q ∨ ((renO l o).asks P a w ∧ LetsOut Q) := hstep
    rw [renO_wp, renO_asks] at hstep'
    exact hstep'.imp (Oper.wp_mono hK) id
end
section
variable {P : Program} {TT : TTab} {up : Bool} {np nt : Nat} {σ : St} {Q : Exit → St → Prop}
theorem CW.drawnP (hm : P.follows .mixedOrders = true) (l : List Nat) (k m : Nat) (Fl : List Nat) {os' : List Oper} {D : List Nat} {fl : List Oper} {id : Nat} {ops : Array Oper} (he : permL l ops.toList = os') (hp : permOK l ops = true) (hkm : k ≤ m) (hms : m ≤ os'.toArray.size) (hchk : segChkF k m Fl os'.toArray = true) (hD : dstsF os'.toArray Fl = D) (hfl : opsF os'.toArray Fl = fl) (hd : okDst nt os' = true) (hkd : keepDst np ops.toList = true)
    (h : Seg P up os'.toArray σ (os'.take k) σ.t none fun t r => Mid P up os'.toArray D fl ((os'.drop k).take (m - k)) (endSt σ t r) fun σ => CWops P up nt os'.toArray (os'.drop m) σ (Q .normal)) : CW P up np nt (.region id ops true) σ Q := by
  subst hD hfl
  intro A0 D0 w0 a w G R hu hh hr
  let Q1 : Exit → Act → World → Prop := fun e a' w' => match e with
    | .normal => ∃ σ' G', Holds A0 D0 w0 nt σ' a' w' G' ∧ Q .normal σ'
    | e => R e a' w'
  have hu1 : up = true → LetsOut Q1 := fun hu' => let ⟨a, w, h⟩ := hu hu'; ⟨a, w, h⟩
  have hsz : os'.toArray.size = ops.size := by
    have := hp
    simp only [permOK, Bool.and_eq_true] at this
    have h1 := Nat.eq_of_beq_eq_true this.1.1
    subst he; simp [permL, h1]
  suffices hs : wpAny P .any os'.toArray Q1 os'.toArray.size (Array.replicate os'.toArray.size false) a { w with drawn := w.drawn + 1 } by
    have hs1 : wpAny P .any ops Q1 ops.size (Array.replicate ops.size false) a { w with drawn := w.drawn + 1 } := by
      rw [hsz] at hs
      have hz : ∀ j, (Array.replicate ops.size false).getD j false = false := fun j => by
        rw [Array.getD_eq_getD_getElem?, Array.getElem?_replicate]; split <;> rfl
      exact wpAny_perm he hp ops.size _ (Array.replicate ops.size false) _ _ (by simp) (by simp) (fun i hi => by rw [hz, hz]) hs
    refine wp_mono (wp_region_any hm (wpAny_keep (a0 := a) hkd _ _ _ _ (Kept.refl np a) hs1)) fun e a' w' he => ?_
    cases e with
    | normal => obtain ⟨⟨σ', G', g1, g2⟩, g3⟩ := he; exact hr _ a' w' σ' G' g1 (g3 rfl) g2
    | _ => exact he.1
  have h' : Seg P up os'.toArray σ (os'.toArray.toList.take k) σ.t none fun t r => Mid P up os'.toArray (dstsF os'.toArray Fl) (opsF os'.toArray Fl) ((os'.toArray.toList.drop k).take (m - k)) (endSt σ t r) fun σ => CWops P up nt os'.toArray (os'.toArray.toList.drop m) σ (Q .normal) := h
  obtain ⟨te, re, val, tt, hk', hv⟩ := seg_vals h'
  have hno : ∀ i, (Array.replicate os'.toArray.size false).getD i false = true → False := fun i hi => by
    rw [Array.getD_eq_getD_getElem?, Array.getElem?_replicate] at hi
    split at hi <;> simp at hi
  refine any_segF (σ := σ) (σ' := σ) hkm hms hchk hd hu1 (fun y hy => ?_) hv (hk'.mono fun σ hσ a w G hh' => hσ (okDst_drop m hd) A0 D0 w0 a w G Q1 hu1 hh' fun a w σ' G' h1 h2 => ⟨σ', G', h1, h2⟩) os'.toArray.size _ a _ G (by simp) ?_ (fun i hi => (hno i hi).elim)
    (fun i o _ hi => (hno i hi).elim) ⟨fun i o x _ hi => (hno i hi).elim, fun x _ => rfl, fun i o r _ hi => (hno i hi).elim, fun _ => ⟨rfl, fun _ => rfl⟩⟩ hh.drew
  · have := hh.inv.dom y
    rw [hy] at this
    obtain ⟨g, hg⟩ := Option.isSome_iff_exists.1 this.symm
    exact hh.inv.lt y g hg
  · unfold unl
    have : ((List.range os'.toArray.size).filter fun i => !(Array.replicate os'.toArray.size false).getD i true) = List.range os'.toArray.size := by
      rw [List.filter_eq_self]
      intro i hi
      have hi := List.mem_range.1 hi
      rw [Array.getD_eq_getD_getElem?, Array.getElem?_replicate, if_pos hi]
      rfl
    rw [this, List.length_range]
end
section
variable {P : Program} {TT : TTab} {up : Bool} {all : Array Oper} {D : List Nat} {fl : List Oper} {K : St → Prop}
theorem stepF_all (htt : TTok P TT) {D' : List Nat} {o : Oper} {n n2 : Nat} {t t2 : List (Nat × AV)} {s s2 : List (Nat × Root)} (hg : o.guard = none) (hDD : ∀ x ∈ D', x ∈ D) (hD : ∀ x ∈ D, x ∈ D' ∨ x ∈ o.looksAt all) (h1 : ∀ x ∈ D, getT t2 x = getT t x)
    (he : ∀ u : Nat → AV, ∃ e, eop TT ⟨n, ovr D' u t, s⟩ o.dst o.op = some e ∧ e.ob ∧ (fin o.dst e).n = n2 ∧ (∀ x, getT (fin o.dst e).t x = if x ∈ D' then u x else getT t2 x) ∧ (fin o.dst e).s = s2) : StepF P up all D o ⟨n, t, s⟩ ⟨n2, t2, s2⟩ := by
  refine ⟨h1, fun τ hl hlk => ⟨by unfold wantd; rw [hg], ?_⟩⟩
  intro A0 D0 w0 nt a w G Q hd hu hh
  left
  have hτ : ∀ x, x ∉ D' → getT τ.t x = getT t x := fun x hx => by
    by_cases hxD : x ∈ D
    · exact hlk x ((hD x hxD).resolve_left hx)
    · exact hl.2.2 x hxD
  obtain ⟨e, e1, e2, e3, e4, e5⟩ := he (getT τ.t)
  refine Oper.wp_mono (fun a w ⟨σ', G', k1, k2⟩ => ⟨σ', G', k1, ?_⟩) (eop_sound htt e1 e2 A0 D0 w0 nt a w G Q hd (hh.ext (σ' := ⟨n, ovr D' (getT τ.t) t, s⟩) hl.1.symm (fun x => ?_) (fun y => (hl.2.1 y).symm)))
  · show getT (ovr D' (getT τ.t) t) x = _
    rw [ovr_get]
    split
    · rfl
    · rename_i hx; exact (hτ x hx).symm
  · subst k2
    refine ⟨⟨e3, fun y => by rw [e5], fun x hx => ?_⟩, fun x hx => ?_⟩
    · rw [e4, if_neg (fun h => hx (hDD x h))]
    · rw [e4]
      split
      · rfl
      · rename_i hx'
        rw [h1 x hx, hτ x hx']
theorem Mid.eop (htt : TTok P TT) (D' : List Nat) {ty : TypeId} {pos : String} {af : Array Edge} {op : Op} {os : List Oper} {n n2 q : Nat} {t : List (Nat × AV)} {s s2 : List (Nat × Root)} {v : AV} {ob : Prop} (hf : Flo P up all fl ⟨n, t, s⟩) (hq : q ∉ D) (hob : ob)
    (hD : (D.all fun x => memB x D' || memB x ((⟨some q, op, ty, pos, af, none⟩ : Oper).looksAt all)) = true) (hD2 : (D'.all fun x => memB x D) = true)
    (he : ∀ u : Nat → AV, Go.Ab.eop TT ⟨n, ovr D' u t, s⟩ (some q) op = some ⟨⟨n2, ovr D' u t, s2⟩, v, ob⟩) (hk : Mid P up all D fl os ⟨n2, (q, v) :: t, s2⟩ K) : Mid P up all D fl (⟨some q, op, ty, pos, af, none⟩ :: os) ⟨n, t, s⟩ K := by
  have hDD : ∀ x ∈ D', x ∈ D := fun x hx => memB_iff.1 (List.all_eq_true.1 hD2 x hx)
  refine ⟨hf, _, stepF_all htt rfl hDD (fun x hx => ?_) (fun x hx => ?_) (fun u => ⟨_, he u, hob, rfl, fun x => ?_, rfl⟩), hk⟩
  · have := List.all_eq_true.1 hD x hx
    simp only [Bool.or_eq_true] at this
    exact this.imp memB_iff.1 memB_iff.1
  · simp only [getT]
    rw [if_neg (fun (e : q = x) => hq (e ▸ hx))]
  · simp only [fin, St.put, getT, ovr_get]
    by_cases hx : q = x
    · subst hx
      have : ¬ q ∈ D' := fun h => hq (hDD q h)
      simp [this]
    · simp [hx]
end
section
variable {P : Program} {TT : TTab} {up : Bool} {o : Oper} {σ : St} {K : St → Prop}
end
section
variable {P : Program} {TT : TTab} {up : Bool} {all : Array Oper} {σ0 : St} {K : List (Nat × AV) → Option Root → Prop}
end
section
variable {P : Program} {TT : TTab} {up : Bool} {all : Array Oper} {σ : St} {fl : List Oper}
theorem Flo.st {o : Oper} {d : Nat} (hd : o.dst = some d) (h0 : Stab P up all o σ.t σ (getT σ.t d) none) (h : Flo P up all fl σ) : Flo P up all (o :: fl) σ := by
  intro o' ho' d' hd'
  rcases List.mem_cons.1 ho' with rfl | ho'
  · rw [hd] at hd'; cases hd'
    exact h0
  · exact h o' ho' d' hd'
end
end Go.Ab
namespace Go.Ab
open Go Go.RowKit
section
variable {P : Program} {ops : Array Oper} {Q : Exit → Act → World → Prop}
end
section
variable {P : Program} {up : Bool} {np nt : Nat} {σ : St} {Q : Exit → St → Prop}
theorem keepDst_of {np : Nat} : ∀ {os : List Oper}, (∀ o ∈ os, ∀ d, o.dst = some d → kp np d = false) → keepDst np os = true
  | [], _ => rfl
  | o :: os, h => by
    have h1 := h o List.mem_cons_self
    have h2 := keepDst_of (np := np) (os := os) fun x hx => h x (List.mem_cons_of_mem _ hx)
    unfold keepDst
    cases hd : o.dst with
    | none => simp [h2]
    | some d => simp [h2, h1 d hd]
end
end Go.Ab
namespace Go.Ab
open Go Go.RowKit
section
variable {P : Program} {TT : TTab} {up : Bool} {o : Oper} {σ : St} {K : St → Prop}
theorem snd_makeSlice {t e : Nat} {x y : Operand} {i j : TI} {n : Nat} (ho : o.op = .makeSlice t x y) (htt : TTok P TT) (ht : TT t = some i) (hi : i.kind = .slice e) (he : TT e = some j) (hsz : 0 < j.size) (hzl : j.zero.length = j.size)
    (hx : ev σ x = .int .i64 (n : Int)) (hy : ev σ y = .int .i64 (n : Int)) (hnM : n ≤ MX) (hb : j.bytes * n ≤ MX)
    (hk : K (St.put { n := σ.n + 1, t := σ.t, s := (σ.n, ⟨false, [.own j.size (List.replicate n j.zero)]⟩) :: σ.s } o.dst (.ref σ.n [] 0))) : Snd P o σ K := by
  intro A0 D0 w0 nt a w G Q hd h
  have hkd := (htt t i ht).kind
  rw [hi] at hkd
  have hkd : P.underlying t = some (.slice e) := hkd
  obtain ⟨inf, zz, i1, i2, i3, i4, i5, _, _⟩ := (htt e j he).info
  obtain ⟨z, z1, z2, z3, z4⟩ := (htt e j he).run_zero w
  have hz0 := zeros_ok (w := w) (A := Own A0 G) z2 n
  rw [hzl] at hz0
  have hC' : ((Array.range (n * j.size)).map fun i => z.cells[i % z.cells.size]!).size = n * j.size := by simp
  obtain ⟨gs, g1, g2, g3, g4, g5⟩ := rows_tree (w := w) (T := e) (cap := n) (C' := (Array.range (n * j.size)).map fun i => z.cells[i % z.cells.size]!) (by simpa using hz0) (by rw [hC']) (fun q _ => rfl) (by simp) (by unfold maxLen; unfold MX at hnM; omega) (by simp; exact hnM)
  obtain ⟨G', k1, k2⟩ := h.newDet (.own j.size (.slice (some ⟨w.heap.size, 0, none⟩) (List.replicate n j.zero).length n) gs) (w' := w.alloc (.cells ((Array.range (n * j.size)).map fun i => z.cells[i % z.cells.size]!) e)) (fun b hb => Below.heap_alloc w _ b hb) ⟨rfl, rfl, rfl, by simp⟩ rfl g3 (fun k hk => by rw [g4 k hk]; omega) g5
  simp only [GT.er, g1] at k1
  refine wp_value (v := .slice (some ⟨w.heap.size, 0, none⟩) n n) (w' := w.alloc (.cells ((Array.range (n * j.size)).map fun i => z.cells[i % z.cells.size]!) e)) ?_ ⟨_, G', k1.put (by simpa [GT.val] using k2) hd, hk⟩
  have hxv := h.ev x
  rw [hx] at hxv
  have hxv := hxv.int_inv
  have hyv := h.ev y
  rw [hy] at hyv
  have hyv := hyv.int_inv
  have hM : (MX : Int) = 140737488355328 := rfl
  have hw : IntKind.i64.wrap (n : Int) = (n : Int) := by
    simp only [IntKind.wrap, IntKind.bits, IntKind.signed]
    simp
    omega
  have hb2 : inf.bytes * n ≤ 140737488355328 := by rw [i3]; exact hb
  have hb3 : ¬ ((inf.bytes : Int) * (n : Int) > 2 ^ 48) := by
    have h9 : (inf.bytes : Int) * (n : Int) = ((inf.bytes * n : Nat) : Int) := (Int.natCast_mul _ _).symm
    rw [h9]
    generalize inf.bytes * n = m at hb2
    omega
  have hroom : ¬ (n * inf.bytes > roomBytes) := by
    rw [Nat.mul_comm]; unfold roomBytes; omega
  have hti : ∀ w, (typeInfo e).run P w = .ok inf w := fun w => run_typeInfo w i1
  have c1 : ¬ ((n : Int) < 0) := by omega
  have c2 : ¬ ((n : Int) > (n : Int)) := by omega
  by_cases hnz : n * j.size = 0
  · have hmap : ∀ (f g : Nat → Value), (Array.range (n * j.size)).map f = (Array.range (n * j.size)).map g := fun f g => by rw [hnz]; simp
    rw [hmap _ (fun x => (#[] : Array Value)[x % (#[] : Array Value).size]!)]
    simp only [execOp, ho, hxv, hyv, Instr.makeSlice, Sem.run_bind, run_underlying hkd, Result.andThen_ok, asInt, asIntOf_int, Sem.run_pure, hti, hw, c1, c2, hb3, decide_false, decide_true, Bool.or_false, Bool.false_or, Bool.false_eq_true, if_false, Int.toNat_natCast, askRoom, hroom, (htt e j he).run_size, newRow, run_newObj]
    rw [if_pos hnz]
    simp only [Sem.run_pure, Result.andThen_ok, newRow, Sem.run_bind, run_newObj]
    rfl
  · simp only [execOp, ho, hxv, hyv, Instr.makeSlice, Sem.run_bind, run_underlying hkd, Result.andThen_ok, asInt, asIntOf_int, Sem.run_pure, hti, hw, c1, c2, hb3, decide_false, decide_true, Bool.or_false, Bool.false_or, Bool.false_eq_true, if_false, Int.toNat_natCast, askRoom, hroom, (htt e j he).run_size, newRow, run_newObj, hnz, z1]
    rfl
end
end Go.Ab
namespace Go.Ab
open Go Go.RowKit
section
variable {P : Program} {TT : TTab} {up : Bool} {nt : Nat} {all : Array Oper} {os : List Oper} {o : Oper} {σ : St} {K : St → Prop} {X : List PanicEntry → St → Prop}
def CWopsX (P : Program) (up : Bool) (nt : Nat) (all : Array Oper) (os : List Oper) (σ : St) (K : St → Prop) (X : List PanicEntry → St → Prop) : Prop :=
  okDst nt os = true → ∀ (A0 D0 : Nat → Prop) (w0 : World) (a : Act) (w : World) (G : Nat → Option GR) (Q : Exit → Act → World → Prop), (up = true → LetsOut Q) → Holds A0 D0 w0 nt σ a w G →
    (∀ a w σ' G', Holds A0 D0 w0 nt σ' a w G' → K σ' → Q .normal a w) → (∀ a w σ' G' c, Holds A0 D0 w0 nt σ' a w G' → X c σ' → Q (.panic c) a w) → wpList P all Q os a w
theorem CWopsX.of (h : CWops P up nt all os σ K) : CWopsX P up nt all os σ K X := fun hd A0 D0 w0 a w G Q hu hh hq _ => h hd A0 D0 w0 a w G Q hu hh hq
theorem CWopsX.done (h : K σ) : CWopsX P up nt all [] σ K X := .of (.done h)
theorem CWopsX.step (hw : wantd all σ o = some true) (h : SndU P up o σ (fun σ' => CWopsX P up nt all os σ' K X)) : CWopsX P up nt all (o :: os) σ K X := by
  intro hd A0 D0 w0 a w G Q hu hh hq hx
  obtain ⟨hd1, hd2⟩ := okDst_cons hd
  rw [wpList_cons, wantd_spec hh hw, if_pos rfl]
  rcases h A0 D0 w0 nt a w G Q hd1 hu hh with h1 | h1
  · exact .inl (Oper.wp_mono (fun a w ⟨σ', G', h1, h2⟩ => h2 hd2 A0 D0 w0 a w G' Q hu h1 hq hx) h1)
  · exact .inr h1
theorem CWopsX.skip (hw : wantd all σ o = some false) (h : CWopsX P up nt all os (σ.put o.dst (.tup [])) K X) : CWopsX P up nt all (o :: os) σ K X := by
  intro hd A0 D0 w0 a w G Q hu hh hq hx
  obtain ⟨hd1, hd2⟩ := okDst_cons hd
  rw [wpList_cons, wantd_spec hh hw, if_neg (by simp)]
  exact h hd2 A0 D0 w0 _ w G Q hu (hh.put (.fr _ _ (.tup [] [] rfl (fun i a h => by simp at h))) hd1) hq hx
theorem CWopsX.runs (htt : TTok P TT) : ∀ (n : Nat) {os : List Oper} {σ : St} {ob : Prop} {r : Stop}, runS TT all n os σ ob = r → (r.ob → ob) ∧ (r.ob → CWopsX P up nt all r.os r.σ K X → CWopsX P up nt all os σ K X)
  | 0, os, σ, ob, r, h => by subst h; exact ⟨id, fun _ h => h⟩
  | n + 1, [], σ, ob, r, h => by subst h; exact ⟨id, fun _ h => h⟩
  | n + 1, o :: os, σ, ob, r, h => by
    simp only [runS] at h
    split at h
    · rename_i e he
      obtain ⟨h1, h2⟩ := CWopsX.runs htt n h
      refine ⟨fun hr => (h1 hr).1, fun hr hk => ?_⟩
      have hob := (h1 hr).2
      have hk := h2 hr hk
      unfold runStep at he
      split at he
      · rename_i hw
        refine CWopsX.step hw (Snd.up ?_)
        have hs := eop_sound htt he hob
        intro A0 D0 w0 nt a w G Q hd hh
        exact Oper.wp_mono (fun a w ⟨σ', G', g1, g2⟩ => ⟨σ', G', g1, by subst g2; exact hk⟩) (hs A0 D0 w0 nt a w G Q hd hh)
      · rename_i hw
        cases he
        exact CWopsX.skip hw hk
      · cases he
    · subst h; exact ⟨id, fun _ h => h⟩
theorem CWopsX.run (htt : TTok P TT) (n : Nat) {os' : List Oper} {σ' : St} {ob : Prop} (h : runS TT all n os σ True = ⟨os', σ', ob⟩) (hob : ob) (hk : CWopsX P up nt all os' σ' K X) : CWopsX P up nt all os σ K X :=
  (CWopsX.runs htt n h).2 hob hk
def PE (E : Value → Prop) (c : List PanicEntry) : Prop := ∃ v, E v ∧ c = [{ v, recovered := false }]
def EndsP (up : Bool) (w : World) (A : Nat → Prop) (R : AV → Prop) (E : Value → Prop) : Ending → World → Prop
  | .returned v, w' => ∃ r, R r ∧ FR w' A r v ∧ Fr (fun _ => False) w w'
  | .panicked c, w' => PE E c ∧ Fr (fun _ => False) w w'
  | .outgrown, _ => up = true
def PCallP (P : Program) (up : Bool) (f : FuncId) (args : List AV) (R : AV → Prop) (E : Value → Prop) : Prop :=
  Callable P f ∧ ∀ (w : World) (A : Nat → Prop) (vs : List Value), (∀ b, A b → b < w.heap.size) → vs.length = args.length → (∀ (i : Nat) (a : AV), args[i]? = some a → FR w A a (vs.getD i undef)) →
    Calls P f vs.toArray w (EndsP up w A R E)
theorem PCall.toP {f : FuncId} {args : List AV} {R : AV → Prop} {E : Value → Prop} (h : PCall P up f args R) : PCallP P up f args R E :=
  ⟨h.1, fun w A vs h1 h2 h3 => (h.2 w A vs h1 h2 h3).mono fun e w' k => by
    cases e with
    | returned v => exact k
    | panicked c => exact k.elim
    | outgrown => exact k⟩
theorem CWopsX.callP {d : Option Tmp} {ty : TypeId} {pos : String} {af : Array Edge} {gd : Option (Nat × Bool)} {x : Operand} {xs : Array Operand} {ts : Array TypeId} {f : FuncId} {first caps args : List AV} {R : AV → Prop} {E : Value → Prop}
    (hp : PCallP P up f args R E) (hw : wantd all σ ⟨d, .call ⟨.value x, xs, ts⟩, ty, pos, af, gd⟩ = some true) (hx : ev σ x = .func (.func f) first caps)
    (ha : leL args ((callL σ first xs.toList caps).map (view 9 σ))) (hX : ∀ c, PE E c → X c σ) (hk : ∀ r, R r → r.flat = true ∧ CWopsX P up nt all os (σ.put d r) K X) : CWopsX P up nt all (⟨d, .call ⟨.value x, xs, ts⟩, ty, pos, af, gd⟩ :: os) σ K X := by
  intro hd A0 D0 w0 a w G Q hu h hq hxx
  obtain ⟨hd1, hd2⟩ := okDst_cons hd
  rw [wpList_cons, wantd_spec h hw, if_pos rfl]
  left
  obtain ⟨us, vs, e1, e2, e3⟩ := h.callArgs hx xs.toList
  obtain ⟨f1, f2⟩ := leL_fr (w := w) (A := A0) (vs := us ++ xs.toList.map a.eval ++ vs) ha (by simpa using e2) (fun i b hi => by
    simp only [List.getElem?_map, Option.map_eq_some_iff] at hi
    obtain ⟨b', hb', rfl⟩ := hi
    exact h.view 9 b' _ (e3 i b' hb'))
  have hc := hp.2 w A0 (us ++ xs.toList.map a.eval ++ vs) (fun b hb => Nat.lt_of_lt_of_le (h.a0lt b hb) h.fr.size) f1 f2
  simp only [Oper.wp, run_enter hp.1 (o := ⟨d, .call ⟨.value x, xs, ts⟩, ty, pos, af, gd⟩) rfl e1, Oper.upon]
  refine hc.mono fun e w' he => ?_
  cases e with
  | returned v =>
    obtain ⟨r, k1, k2, k3⟩ := he
    obtain ⟨q1, q2⟩ := hk r k1
    exact q2 hd2 A0 D0 w0 _ w' G Q hu ((h.same k3).put (.fr _ _ (k2.flat q1)) hd1) hq hxx
  | panicked c =>
    exact hxx _ _ σ G _ (h.same he.2) (hX _ he.1)
  | outgrown => exact hu he
theorem CWopsX.callPA {d : Option Tmp} {ty : TypeId} {pos : String} {af : Array Edge} {gd : Option (Nat × Bool)} {x : Operand} {xs : Array Operand} {ts : Array TypeId} {f : FuncId} {first caps args : List AV} {R : AV → Prop} {E : Value → Prop}
    (hp : PCallP P up f args R E) (hw : wantd all σ ⟨d, .call ⟨.value x, xs, ts⟩, ty, pos, af, gd⟩ = some true) (hx : ev σ x = .func (.func f) first caps)
    (ha : leL args (callL σ first xs.toList caps)) (hpu : pureL (callL σ first xs.toList caps) = true) (hX : ∀ c, PE E c → X c σ) (hk : ∀ r, R r → CWopsX P up nt all os (σ.put d r) K X) : CWopsX P up nt all (⟨d, .call ⟨.value x, xs, ts⟩, ty, pos, af, gd⟩ :: os) σ K X := by
  intro hd A0 D0 w0 a w G Q hu h hq hxx
  obtain ⟨hd1, hd2⟩ := okDst_cons hd
  rw [wpList_cons, wantd_spec h hw, if_pos rfl]
  left
  obtain ⟨us, vs, e1, e2, e3⟩ := h.callArgs hx xs.toList
  obtain ⟨f1, f2⟩ := leL_fr (w := w) (A := Own A0 G) ha e2 (fun i b hi => (e3 i b hi).pure (pureL_at hpu i b hi))
  have hsz : ∀ b, Own A0 G b → b < w.heap.size := fun b hb => hb.elim (fun hb => Nat.lt_of_lt_of_le (h.a0lt b hb) h.fr.size) (fun hb => rfp_lt h.inv hb)
  have hc := hp.2 w (Own A0 G) (us ++ xs.toList.map a.eval ++ vs) hsz f1 f2
  simp only [Oper.wp, run_enter hp.1 (o := ⟨d, .call ⟨.value x, xs, ts⟩, ty, pos, af, gd⟩) rfl e1, Oper.upon]
  refine hc.mono fun e w' he => ?_
  cases e with
  | returned v =>
    obtain ⟨r, k1, k2, k3⟩ := he
    exact hk r k1 hd2 A0 D0 w0 _ w' G Q hu ((h.same k3).put (.fr _ _ k2) hd1) hq hxx
  | panicked c =>
    exact hxx _ _ σ G _ (h.same he.2) (hX _ he.1)
  | outgrown => exact hu he
theorem CWopsX.panic {d : Option Tmp} {ty : TypeId} {pos : String} {af : Array Edge} {gd : Option (Nat × Bool)} {x : Operand} {t : TypeId} {k : IntKind} {i : Int} (hw : wantd all σ ⟨d, .panic x, ty, pos, af, gd⟩ = some true) (hx : ev σ x = .ifc t (.agg [.int k i])) (hX : X [{ v := .iface t (.agg #[.int k i]), recovered := false }] σ) :
    CWopsX P up nt all (⟨d, .panic x, ty, pos, af, gd⟩ :: os) σ K X := by
  intro hd A0 D0 w0 a w G Q hu h hq hxx
  rw [wpList_cons, wantd_spec h hw, if_pos rfl]
  left
  have he := h.ev x
  rw [hx] at he
  have e1 : a.eval x = .iface t (.agg #[.int k i]) := by
    obtain ⟨u, e1, h1⟩ := he.ifc_inv
    obtain ⟨vs, rfl, h2, h3⟩ := h1.agg_inv
    obtain ⟨v, rfl⟩ : ∃ v, vs = [v] := by
      cases vs with
      | nil => cases h2
      | cons v r => cases r with
        | nil => exact ⟨v, rfl⟩
        | cons _ _ => cases h2
    have h4 := h3 0 _ rfl
    simp only [List.getD_cons_zero] at h4
    cases h4 with
    | fr _ _ h4 => cases h4; exact e1
  have hr : (execOp a.eval ⟨d, .panic x, ty, pos, af, gd⟩).run P w = .halt (.panic (.iface t (.agg #[.int k i]))) w := by
    simp only [execOp, e1]
    rw [Sem.run_bind, run_panic_iface]; rfl
  simp only [Oper.wp, hr, Oper.upon]
  exact hxx _ _ σ G _ h hX
end
section
variable {P : Program} {np : Nat} {ops : Array Oper} {Q : Exit → Act → World → Prop}
def KeepX (np : Nat) (a0 : Act) (Q : Exit → Act → World → Prop) : Exit → Act → World → Prop := fun e a w => Q e a w ∧ (e ≠ .outgrown → Kept np a0 a)
theorem letsOut_keepX {a0 : Act} (h : LetsOut Q) : LetsOut (KeepX np a0 Q) := by
  obtain ⟨a, w, h⟩ := h; exact ⟨a, w, h, fun h => absurd rfl h⟩
theorem Oper.wp_keepX {o : Oper} {a a0 : Act} {w : World} {K : Act → World → Prop} (hk : Kept np a0 a) (hd : ∀ d, o.dst = some d → kp np d = false) (h : o.wp P a w K Q) : o.wp P a w (fun a' w' => K a' w' ∧ Kept np a a') (KeepX np a0 Q) := by
  unfold Oper.wp at *
  generalize (execOp a.eval o).run P w = r at *
  cases r with
  | ok n w' =>
    cases n <;> simp only [Oper.upon] at h ⊢
    case value v => exact ⟨h, Kept.put hd rfl⟩
    case skip => exact ⟨h, Kept.put hd rfl⟩
    case defer d => exact ⟨h, (Kept.put (a := { a with defers := d :: a.defers }) hd rfl)⟩
    case enter f args =>
      refine Calls.mono h fun e w'' he => ?_
      cases e with
      | returned v => exact ⟨he, Kept.put hd rfl⟩
      | panicked c => exact ⟨he, fun _ => hk⟩
      | outgrown => exact letsOut_keepX he
    case row row args => exact Rows.mono h fun v w'' he => ⟨he, Kept.put hd rfl⟩
  | halt x w' =>
    cases x <;> simp only [Oper.upon] at h ⊢
    case panic v => exact ⟨h, fun _ => hk⟩
theorem wpList_keepX {a0 : Act} : ∀ {os : List Oper} {a : Act} {w : World}, keepDst np os = true → Kept np a0 a → wpList P ops Q os a w → wpList P ops (KeepX np a0 Q) os a w
  | [], a, w, _, hk, h => ⟨h, fun _ => hk⟩
  | o :: os, a, w, hd, hk, h => by
    obtain ⟨hd1, hd2⟩ := keepDst_cons hd
    rw [wpList_cons] at h ⊢
    split
    · rename_i hw
      rw [if_pos hw] at h
      rcases h with h | h
      · exact .inl (Oper.wp_mono (fun a' w' ⟨h1, h2⟩ => wpList_keepX hd2 (hk.trans h2) h1) (Oper.wp_keepX hk hd1 h))
      · exact .inr ⟨h.1, letsOut_keepX h.2⟩
    · rename_i hw
      rw [if_neg hw] at h
      exact wpList_keepX hd2 (hk.trans (Kept.put hd1 rfl)) h
end
section
variable {P : Program} {TT : TTab} {up : Bool} {np nt : Nat} {σ : St} {Q : Exit → St → Prop}
theorem CW.regionX {id : Nat} {ops : Array Oper} (hd : okDst nt ops.toList = true) (hk : keepDst np ops.toList = true) (h : CWopsX P up nt ops ops.toList σ (Q .normal) (fun c => Q (.panic c))) : CW P up np nt (.region id ops false) σ Q := by
  intro A0 D0 w0 a w G R hu hh hr
  let Q1 : Exit → Act → World → Prop := fun e a' w' => match e with
    | .normal => ∃ σ' G', Holds A0 D0 w0 nt σ' a' w' G' ∧ Q .normal σ'
    | .panic c => ∃ σ' G', Holds A0 D0 w0 nt σ' a' w' G' ∧ Q (.panic c) σ'
    | e => R e a' w'
  have h1 := wpList_keepX (a0 := a) hk (Kept.refl np a) (h hd A0 D0 w0 a w G Q1 (fun hu' => let ⟨a, w, h⟩ := hu hu'; ⟨a, w, h⟩) hh (fun a' w σ' G' h1 h2 => ⟨σ', G', h1, h2⟩) (fun a' w σ' G' c h1 h2 => ⟨σ', G', h1, h2⟩))
  refine wp_mono (wp_region_list h1) fun e a' w' he => ?_
  cases e with
  | normal => obtain ⟨⟨σ', G', g1, g2⟩, g3⟩ := he; exact hr _ a' w' σ' G' g1 (g3 (by simp)) g2
  | panic c => obtain ⟨⟨σ', G', g1, g2⟩, g3⟩ := he; exact hr _ a' w' σ' G' g1 (g3 (by simp)) g2
  | _ => exact he.1
def retX (E : List PanicEntry → St → Prop) (Q : Exit → St → Prop) : Exit → St → Prop
  | .panic c, σ => E c σ
  | e, σ => Q e σ
theorem PCallP.intro (htt : TTok P TT) {f : FuncId} {fn : Func} {c : Code} {args : List AV} {R : AV → Prop} {E : Value → Prop} (hf : P.funcs[f]? = some fn) (hn : (fn.name == "runtime.NumGoroutine") = false) (hb : fn.body = some c) (hl : args.length ≤ fn.ntmps)
    (hk : (∀ a ∈ args, Lens a) → CW P up 0 fn.ntmps c { n := 0, t := tmps0 0 args, s := [] } (retX (fun c _ => PE E c) (retQ TT fn.results.toList R))) : PCallP P up f args R E := by
  refine ⟨⟨fn, hf, hn, by rw [hb]; rfl⟩, fun w A vs hA hvl hr => ?_⟩
  have hlens : ∀ a ∈ args, Lens a := fun a ha => by
    obtain ⟨i, hi⟩ := List.getElem?_of_mem ha
    exact ⟨w, A, _, hr i a hi⟩
  refine calls_of_wp hf hb ?_
  refine hk hlens A (fun _ => False) w _ w (fun _ => none) _ (fun hu => ⟨⟨#[], []⟩, w, hu⟩) ?_ fun e a' w' σ' G' hh _ hq => ?_
  · have hsz : (vs.toArray ++ Array.replicate (fn.ntmps - vs.toArray.size) undef).size = fn.ntmps := by simp; omega
    refine ⟨⟨fun x => rfl, fun x r g h => (by cases h), fun x r g h => (by cases h), fun x g h => (by cases h), fun x g b h => (by cases h), fun x g x' g' h => (by cases h), fun x g h => (by cases h), fun b ⟨x, g, h, _⟩ => (by cases h)⟩,
      hsz, rfl, fun i hi => ?_, fun i hi => ?_, ⟨rfl, rfl, rfl, Nat.le_refl _, fun _ _ _ => rfl⟩, fun b ⟨x, g, h, _⟩ => (by cases h), hA⟩
    · rw [tmps0_get, if_pos (Nat.zero_le i), Nat.sub_zero]
      by_cases hlt : i < args.length
      · have h1 : args[i]? = some args[i] := List.getElem?_eq_getElem hlt
        have h2 := hr i _ h1
        rw [getD_of h1]
        have h3 : (vs.toArray ++ Array.replicate (fn.ntmps - vs.toArray.size) undef).getD i undef = vs.getD i undef := by
          rw [Array.getD_eq_getD_getElem?, List.getD_eq_getElem?_getD, Array.getElem?_append_left (by simp; omega), List.getElem?_toArray]
        rw [h3]
        exact .fr _ _ (h2.keep (fun _ _ _ => rfl) (fun b _ hb => hb.elim id fun ⟨x, g, h, _⟩ => by cases h))
      · have : args.getD i .undef = .undef := by simp [List.getElem?_eq_none (Nat.le_of_not_lt hlt)]
        rw [this]
        exact .fr _ _ (.undef _)
    · rw [tmps0_get, if_pos (Nat.zero_le i), Nat.sub_zero]
      simp [List.getElem?_eq_none (show args.length ≤ i by omega)]
  · have fin : retQ TT fn.results.toList R e σ' → bodyPost P fn (EndsP up w A R E) e a' w' := fun ⟨he, l, r, hl, hv, hR⟩ => by
      obtain ⟨v, k1, k2⟩ := hh.results htt hl
      have hfr := leP_fr _ _ _ hv (hh.view 9 _ _ k2)
      rcases he with rfl | rfl
      · exact ⟨hh.defers, v, k1, r, hR, hfr, hh.fr⟩
      · exact ⟨hh.defers, v, k1, r, hR, hfr, hh.fr⟩
    cases e with
    | panic c => exact ⟨hh.defers, hq, hh.fr⟩
    | _ => exact fin hq
end
def AftG (A : Nat → Prop) (w : World) (G : Nat → Option GR) (n : Nat) (w' : World) (σ' : St) (G' : Nat → Option GR) : Prop :=
  Inv A w' σ'.n σ'.s G' ∧ Fr (GFp G) w w' ∧ (∀ b, GFp G' b → GFp G b ∨ w.heap.size ≤ b) ∧ (∀ x g g', x < n → G x = some g → G' x = some g' → g'.base = g.base)
def EndsGX (up : Bool) (w : World) (A : Nat → Prop) (G : Nat → Option GR) (n : Nat) (Post : AV → St → Prop) (PostX : List PanicEntry → St → Prop) : Ending → World → Prop
  | .returned v, w' => ∃ (σ' : St) (G' : Nat → Option GR) (r : AV), Post r σ' ∧ Rel w' (Own A G') G' σ'.n r v ∧ AftG A w G n w' σ' G'
  | .panicked c, w' => ∃ (σ' : St) (G' : Nat → Option GR), PostX c σ' ∧ AftG A w G n w' σ' G'
  | .outgrown, _ => up = true
def GCallX (P : Program) (up : Bool) (f : FuncId) (args : List AV) (n : Nat) (s : List (Nat × Root)) (Post : AV → St → Prop) (PostX : List PanicEntry → St → Prop) : Prop :=
  Callable P f ∧ ∀ (w : World) (A : Nat → Prop) (G : Nat → Option GR) (vs : List Value), (∀ b, A b → b < w.heap.size) → Inv A w n s G → vs.length = args.length → (∀ (i : Nat) (a : AV), args[i]? = some a → Rel w (Own A G) G n a (vs.getD i undef)) →
    Calls P f vs.toArray w (EndsGX up w A G n Post PostX)
section
variable {P : Program} {TT : TTab} {up : Bool}
theorem GCallX.intro (htt : TTok P TT) (np : Nat) {f : FuncId} {fn : Func} {c : Code} {args : List AV} {n : Nat} {s : List (Nat × Root)} {Post : AV → St → Prop} {PostX : List PanicEntry → St → Prop} (hf : P.funcs[f]? = some fn) (hn : (fn.name == "runtime.NumGoroutine") = false) (hb : fn.body = some c) (hl : args.length ≤ fn.ntmps)
    (hk : CW P up np fn.ntmps c { n := n, t := tmps0 0 args, s := s } (retX (fun c σ => ptrOK np args σ s ∧ PostX c σ) (retG TT fn.results.toList np args s Post))) (hnp : np < 65536 := by decide) : GCallX P up f args n s Post PostX := by
  refine ⟨⟨fn, hf, hn, by rw [hb]; rfl⟩, fun w A G vs hA hinv hvl hr => ?_⟩
  refine calls_of_wp hf hb ?_
  have hsz : (vs.toArray ++ Array.replicate (fn.ntmps - vs.toArray.size) undef).size = fn.ntmps := by simp; omega
  have hval : ∀ i, i < args.length → (vs.toArray ++ Array.replicate (fn.ntmps - vs.toArray.size) undef).getD i undef = vs.getD i undef := fun i hi => by
    rw [Array.getD_eq_getD_getElem?, List.getD_eq_getElem?_getD, Array.getElem?_append_left (by simp; omega), List.getElem?_toArray]
  refine hk A (GFp G) w _ w G _ (fun hu => ⟨⟨#[], []⟩, w, hu⟩) ⟨hinv, hsz, rfl, fun i hi => ?_, fun i hi => ?_, ⟨rfl, rfl, rfl, Nat.le_refl _, fun _ _ _ => rfl⟩, fun b hb => .inl hb, hA⟩ fun e a' w' σ' G' hh hkept hq => ?_
  · rw [tmps0_get, if_pos (Nat.zero_le i), Nat.sub_zero]
    by_cases hlt : i < args.length
    · have h1 : args[i]? = some args[i] := List.getElem?_eq_getElem hlt
      rw [getD_of h1]
      show Rel w (Own A G) G n args[i] ((vs.toArray ++ Array.replicate (fn.ntmps - vs.toArray.size) undef).getD i undef)
      rw [hval i hlt]
      exact hr i _ h1
    · have : args.getD i .undef = .undef := by simp [List.getElem?_eq_none (Nat.le_of_not_lt hlt)]
      rw [this]
      exact .fr _ _ (.undef _)
  · rw [tmps0_get, if_pos (Nat.zero_le i), Nat.sub_zero]
    simp [List.getElem?_eq_none (show args.length ≤ i by omega)]
  · have base : ptrOK np args σ' s → AftG A w G n w' σ' G' := fun hp => by
      refine ⟨hh.inv, hh.fr, hh.own, ?_⟩
      intro x g g' hx hg hg'
      have hd := hinv.dom x
      rw [hg] at hd
      obtain ⟨r, hr1⟩ := Option.isSome_iff_exists.1 hd
      have hd' := hh.inv.dom x
      rw [hg'] at hd'
      obtain ⟨r', hr2⟩ := Option.isSome_iff_exists.1 hd'
      have b1 := hinv.box x r g hr1 hg
      have b2 := hh.inv.box x r' g' hr2 hg'
      rcases ptrOK_get hp hr1 r' hr2 with ⟨q1, q2⟩ | ⟨i, ⟨q01, q02⟩, q1, q2, q3⟩
      · rw [q1] at b1; rw [q2] at b2
        have e1 : g.base = none := by cases h : g.base with | none => rfl | some b => rw [h] at b1; cases b1
        have e2 : g'.base = none := by cases h : g'.base with | none => rfl | some b => rw [h] at b2; cases b2
        rw [e1, e2]
      · have h1 := hr i _ q2
        have hil : i < args.length := (List.getElem?_eq_some_iff.1 q2).1
        have h2 := hh.slotD i
        rw [q3] at h2
        have hsame : a'.tmps.getD i undef = vs.getD i undef := by
          rw [← hval i hil, Array.getD_eq_getD_getElem?, Array.getD_eq_getD_getElem?, hkept i (kp_lt hnp q1)]
        rw [hsame] at h2
        obtain ⟨ad1, e1, _, l1⟩ := h1.lv_inv
        obtain ⟨ad2, e2, _, l2⟩ := h2.lv_inv
        rw [e1] at e2; cases e2
        have gb : ∀ (q : GR), gBase q.at_ q.cells [] = q.base.map fun b => (b, 0) := fun q => by unfold gBase; rfl
        rw [q01] at b1; rw [q02] at b2
        obtain ⟨b, hgb⟩ := Option.isSome_iff_exists.1 b1.symm
        obtain ⟨b', hgb'⟩ := Option.isSome_iff_exists.1 b2.symm
        have a1 := l1 g b 0 hg (by rw [gb, hgb]; rfl)
        have a2 := l2 g' b' 0 hg' (by rw [gb, hgb']; rfl)
        rw [a1] at a2; cases a2
        rw [hgb, hgb']
    have fin : retG TT fn.results.toList np args s Post e σ' → bodyPost P fn (EndsGX up w A G n Post PostX) e a' w' := fun ⟨he, hp, l, hl, hR⟩ => by
      obtain ⟨v, k1, k2⟩ := hh.results htt hl
      rcases he with rfl | rfl
      · exact ⟨hh.defers, v, k1, σ', G', one l, hR, k2, base hp⟩
      · exact ⟨hh.defers, v, k1, σ', G', one l, hR, k2, base hp⟩
    cases e with
    | panic c => exact ⟨hh.defers, σ', G', hq.2, base hq.1⟩
    | _ => exact fin hq
end
theorem Inv.away {A A' : Nat → Prop} {w w' : World} {n : Nat} {s : List (Nat × Root)} {G : Nat → Option GR} (h : Inv A w n s G) (hw : ∀ b, b < w.heap.size → ¬ A b → w'.heap[b]? = w.heap[b]?) (hA : ∀ b, b < w.heap.size → A' b → A b) : Inv A' w' n s G := by
  have same : ∀ b, GFp G b → w'.heap[b]? = w.heap[b]? := fun b hb => hw b (rfp_lt h hb) (h.a0 b hb)
  have hwO : ∀ b, b < w.heap.size → ¬ Own A G b → w'.heap[b]? = w.heap[b]? := fun b hb ho => hw b hb fun ha => ho (.inl ha)
  have hAO : ∀ b, b < w.heap.size → Own A' G b → Own A G b := fun b hb ho => ho.imp (hA b hb) id
  refine ⟨h.dom, h.box, fun x r g hr hg => ⟨(h.cells x r g hr hg).len, fun c a t hc ht => ((h.cells x r g hr hg).cell c a t hc ht).imp id fun ⟨k1, k2⟩ => ⟨k1, k2.keep (Nat.le_refl _) hwO hAO (fun _ _ _ _ _ h => h) (fun _ _ _ _ _ h => h)⟩⟩,
    fun x g hg => (h.row x g hg).keep hwO hAO (fun b hb => same b ⟨x, g, hg, .inr hb⟩) fun b o e => ?_, fun x g b hg hb => by rw [same b ⟨x, g, hg, .inl hb⟩]; exact h.base x g b hg hb, h.sep, h.lt, fun b hb ha => h.a0 b hb (hA b (rfp_lt h hb) ha)⟩
  simp only [GR.at_, Option.map_eq_some_iff] at e
  obtain ⟨b', e1, e2⟩ := e
  cases e2
  exact same b ⟨x, g, hg, .inl e1⟩
theorem run_call {P : Program} {f : FuncId} (hc : Callable P f) (args : Array Value) (w : World) : (callFunc f args).run P w = .ok (.enter f args) w := by
  obtain ⟨fn, h1, h2, h3⟩ := hc
  simp only [callFunc, Sem.run_bind, Sem.run_pure, Result.andThen_ok]
  simp only [run_program, Result.andThen_ok, h1, h2, h3]
  rfl
end Go.Ab
namespace Go.Ab
open Go Go.RowKit Go.Lib
def strRows (s : ByteArray) : List (List AV) := s.data.toList.map fun b => [AV.int .u8 (b.toNat : Int)]
theorem strRows_len (s : ByteArray) : (strRows s).length = s.size := by rw [strRows, List.length_map, Array.length_toList]; rfl
theorem run_append_room_cellsS {P : Program} {w : World} (t u ty e : TypeId) (i : TypeInfo) (ht : P.underlying t = some (.slice e)) (hu : P.underlying u = some .string) (hi : P.info? e = some i) (hs1 : i.size = 1)
    (b sLen sCap : Nat) (s : ByteArray) (hroom : sLen + s.size ≤ sCap) (hc : ∀ j, j < (strCells s).length → (w.cell? ⟨b, 0 + sLen * i.size + j, none⟩).isSome = true) (hf : ∀ j, j < (strCells s).length → w.frozen? ⟨b, 0 + sLen * i.size + j, none⟩ = false) :
    (Builtin.append_ #[t, u] ty #[.slice (some ⟨b, 0, none⟩) sLen sCap, .string s]).run P w = .ok (.slice (some ⟨b, 0, none⟩) (sLen + s.size) sCap) (w.setCells b (0 + sLen * i.size) (strCells s)) := by
  have hfc := run_firstCells_string (P := P) w i.size s
  have hst := run_storeCells_cells (P := P) b (0 + sLen * i.size) (strCells s) 0 w (by simpa using hc) (by simpa using hf) (strCells_oneCell s)
  simp only [Nat.add_zero, Nat.zero_add] at hst
  simp [Builtin.append_, run_underlying ht, run_underlying hu, sizeOf, typeInfo, hi, Builtin.lenOf, hroom, hfc, Addr.add_lit, hst]
theorem app_str {P : Program} {t u ty e : Nat} {w : World} {A : Nat → Prop} {j : TI} (ht : P.underlying t = some (.slice e)) (hu : P.underlying u = some .string) (he : TIok P e j) (hm : 0 < j.size) (hj : j.size = 1) (hzl : j.zero.length = j.size) (s : ByteArray) : AppOK P t u ty w A j (.string s) (strRows s) := by
  intro v rows hmem hsep hb hM hAo
  by_cases h2 : strRows s = []
  · have h0 : s.size = 0 := by rw [← strRows_len, h2]; rfl
    have hf := run_firstCells_string (P := P) w j.size s
    have hsn : strCells s = [] := List.eq_nil_of_length_eq_zero (by rw [strCells_length]; exact h0)
    rw [h0, hsn] at hf
    have hsz := he.run_size w
    have hv : ∃ ad n c, v = .slice ad n c ∧ n ≤ c := by
      rcases hmem.own_inv with ⟨rfl, _⟩ | ⟨b, cap, vs, T, rfl, _, _, h3, _⟩
      · exact ⟨none, 0, 0, rfl, Nat.le_refl _⟩
      · exact ⟨_, _, _, rfl, h3⟩
    obtain ⟨ad, n, c, rfl, hnc⟩ := hv
    have hr : (Builtin.append_ #[t, u] ty #[.slice ad n c, .string s]).run P w = .ok (.slice ad n c) w := by
      cases ad <;> simp [Builtin.append_, run_underlying ht, run_underlying hu, hsz, Builtin.lenOf, h0, hnc, hf, storeCells]
    exact ⟨_, w, rows, hr, by simp [h2], hsep, fun k hk => .inl hk, fun _ _ _ => rfl, ⟨rfl, rfl, rfl, Nat.le_refl _⟩, fun A' hA => hmem.keep (fun _ _ _ => rfl) hA fun _ _ => rfl⟩
  · have hpos : 0 < s.size := by
      rw [← strRows_len]; cases hq : strRows s with | nil => exact absurd hq h2 | cons => simp
    refine append_tree_of (news := strCells s) ht he hm hzl hmem hsep h2 (fun i r hi => ?_) ?_ (fun i r k a hi hk => ?_) (strCells_oneCell s) ?_ ?_ ?_ hb hM hAo
    · simp only [strRows, List.getElem?_map, Option.map_eq_some_iff] at hi
      obtain ⟨b, _, rfl⟩ := hi
      rw [hj]; rfl
    · rw [strRows_len, strCells_length, hj, Nat.mul_one]
    · simp only [strRows, List.getElem?_map, Option.map_eq_some_iff] at hi
      obtain ⟨b, hb', rfl⟩ := hi
      have hk0 : k = 0 := by have := (List.getElem?_eq_some_iff.1 hk).1; simp at this; exact this
      subst hk0
      simp only [List.getElem?_cons_zero, Option.some.injEq] at hk
      subst hk
      exact ⟨.int .u8 (b.toNat : Int), by rw [hj]; simp only [strCells, Nat.mul_one, Nat.add_zero, List.getElem?_map, hb', Option.map_some], .int _ _, rfl⟩
    · intro inf z i1 i4 i2 i3 h63 h48
      rw [strRows_len] at h63 h48 ⊢
      have hr := run_append_nil_string (P := P) w t u ty e inf z ht hu i1 i4 s hpos h63 h48
      have e1 : (s.data.map fun b => Value.int .u8 b.toNat) = (strCells s).toArray := by
        apply Array.ext'
        simp [strCells]
      rw [e1] at hr
      exact hr
    · intro inf b sLen sCap i1 i2 hroom hcs hfz
      rw [strRows_len] at hroom ⊢
      exact run_append_room_cellsS t u ty e inf ht hu i1 (by rw [i2, hj]) b sLen sCap s hroom hcs hfz
    · intro inf z b sLen sCap olds i1 i4 i2 ho holds hg h63 hfit
      rw [strRows_len] at hg h63 hfit ⊢
      exact run_append_grow_string w t u ty e inf z ht hu i1 i4 b sLen sCap olds ho holds s hg h63 hfit
end Go.Ab
namespace Go.Ab
open Go Go.RowKit
section
variable {P : Program} {TT : TTab} {up : Bool} {σ : St} {K : St → Prop}
theorem CWops.appStr {nt : Nat} {all : Array Oper} {os : List Oper} {d : Option Tmp} {ty : TypeId} {ps : String} {af : Array Edge} {gd : Option (Nat × Bool)} {t u e : Nat} {s x : Operand} {i iu j : TI} {b : ByteArray} (htt : TTok P TT)
    (hw : wantd all σ ⟨d, .call { callee := .builtin .append, args := #[s, x], argTypes := #[t, u] }, ty, ps, af, gd⟩ = some true) (ht : TT t = some i) (hi : i.kind = .slice e) (hu : TT u = some iu) (hiu : iu.kind = .str) (he : TT e = some j) (hj : j.size = 1) (hzl : j.zero.length = j.size) (hx : ev σ x = .str b)
    (hk : match ev σ s with
        | .nilsl => (strRows b).length * j.bytes ≤ MX ∧ (strRows b).length ≤ MX ∧ CWops P up nt all os (St.put { n := σ.n + 1, t := σ.t, s := (σ.n, ⟨false, [.own j.size (strRows b)]⟩) :: σ.s } d (.ref σ.n [] 0)) K
        | .ref y p c => (match getS σ.s y with
          | some r => (match rowOf r.cells p with
            | some row => (match row[c]? with
              | some (.own n es) => n = j.size ∧ (es.length ≤ MX → (es.length + (strRows b).length) * j.bytes ≤ MX ∧ es.length + (strRows b).length ≤ MX) ∧
                  CWops P up nt all os (St.put { n := σ.n + 1, t := σ.t, s := (σ.n, ⟨false, [.own j.size (es ++ strRows b)]⟩) :: (if r.box = false ∧ p = [] then delS σ.s y else updS σ.s y { r with cells := putAt r.cells p c .undef }) } d (.ref σ.n [] 0)) K
              | _ => False)
            | none => False)
          | none => False)
        | _ => False) :
    CWops P up nt all (⟨d, .call { callee := .builtin .append, args := #[s, x], argTypes := #[t, u] }, ty, ps, af, gd⟩ :: os) σ K := by
  have hti := (htt t i ht).kind
  rw [hi] at hti
  have hti : P.underlying t = some (.slice e) := hti
  have hui := (htt u iu hu).kind
  rw [hiu] at hui
  have hui : P.underlying u = some .string := hui
  refine CWops.step hw (Snd.up (snd_append_of (j := j) (rows := strRows b) rfl (fun {A0 D0 w0 nt a w G} h => ?_) hk))
  have h1 := h.ev x
  rw [hx] at h1
  rw [h1.str_inv.1]
  exact @app_str P t u ty e w (Own A0 G) j hti hui (htt e j he) (by omega) hj hzl b
end
end Go.Ab
namespace Go.Ab
open Go Go.RowKit Go.Lib
section
variable {P : Program} {TT : TTab} {up : Bool} {σ : St} {K : St → Prop} {o : Oper}
theorem snd_strBytes {s d e : Nat} {x : Operand} {i j k : TI} {b : ByteArray} (ho : o.op = .convert s d x) (htt : TTok P TT) (hs : TT s = some i) (hik : i.kind = .str) (hd : TT d = some j) (hjk : j.kind = .slice e) (he : TT e = some k) (hek : k.kind = .int .u8) (hx : ev σ x = .str b)
    (hk : K (σ.put o.dst (.sl 1 (strRows b)))) : Snd P o σ K := by
  intro A0 D0 w0 nt a w G Q hdd h
  have hti := (htt s i hs).kind
  rw [hik] at hti
  have hti : P.underlying s = some .string := hti
  have htj := (htt d j hd).kind
  rw [hjk] at htj
  have htj : P.underlying d = some (.slice e) := htj
  have hte := (htt e k he).kind
  rw [hek] at hte
  have hte : P.underlying e = some (.int .u8) := hte
  have h1 := h.ev x
  rw [hx] at h1
  obtain ⟨h2, h3⟩ := h1.str_inv
  have hfr : Fr (fun _ => False) w (bytesWorld w e b) := ⟨rfl, rfl, rfl, by rw [bytesWorld_size]; omega, fun k hk _ => bytesWorld_at_old w e b k hk⟩
  refine wp_value (v := .slice (some ⟨w.heap.size, 0, none⟩) b.size (grownCap w b.size 0 e)) (w' := bytesWorld w e b) ?_ ⟨_, G, (h.same hfr).put (.fr _ _ ?_) hdd, hk⟩
  · have hr := Go.Lib.run_convert_string_bytes (P := P) w s d e b hti htj hte
    simp only [execOp, ho, h2, Sem.run_bind]
    rw [hr]; rfl
  · have hl := strRows_len b
    have hM : b.size ≤ maxLen := by unfold maxLen; unfold MX at h3; omega
    have hrow : ∀ (i : Nat) (r : List AV), (strRows b)[i]? = some r → i < b.size ∧ r = [AV.int .u8 ((b.data.toList.getD i 0).toNat : Int)] := fun i r hi => by
      have hlt := (List.getElem?_eq_some_iff.1 hi).1
      rw [hl] at hlt
      simp only [strRows, List.getElem?_map, Option.map_eq_some_iff] at hi
      obtain ⟨c, hc, rfl⟩ := hi
      exact ⟨hlt, by rw [List.getD_eq_getElem?_getD, hc]; rfl⟩
    have hcell : ∀ (i : Nat), i < b.size → (bytesWorld w e b).cell? ⟨w.heap.size, 0 + (i * 1 + 0), none⟩ = some (.int .u8 (b.data.toList.getD i 0).toNat) := fun i hi => by
      have := bytesWorld_cell w e b i hi
      simpa using this
    have hown : ¬ Own A0 G w.heap.size := fun hO => by
      rcases hO with hO | hO
      · have := Nat.lt_of_lt_of_le (h.a0lt _ hO) h.fr.size; omega
      · have := rfp_lt h.inv hO; omega
    have hg := FR.sl (w := bytesWorld w e b) (A := Own A0 G) 1 (strRows b) w.heap.size 0 (grownCap w b.size 0 e) (by rw [hl]; exact grownCap_ge _ _ _ _) (grownCap_le_maxLen _ _ _ _ hM) (by rw [hl]; exact h3)
      (fun i r hi => by rw [(hrow i r hi).2]; rfl)
      (fun i r j a hi hj => by
        obtain ⟨q1, rfl⟩ := hrow i r hi
        have hj0 : j = 0 := by have := (List.getElem?_eq_some_iff.1 hj).1; simp at this; exact this
        subst hj0
        exact ⟨hown, by rw [hcell i q1]; rfl⟩)
      (fun i r j a hi hj => by
        obtain ⟨q1, rfl⟩ := hrow i r hi
        have hj0 : j = 0 := by have := (List.getElem?_eq_some_iff.1 hj).1; simp at this; exact this
        subst hj0
        simp only [List.getElem?_cons_zero, Option.some.injEq] at hj
        subst hj
        unfold rdw
        rw [hcell i q1]
        exact .int _ _)
    rw [hl] at hg
    exact hg
end
end Go.Ab
