/-
  What a machine's memory holds of plain values, and that each operation, block, loop and call of the model turns such a state as told. No condition but those of each theorem.
-/
import Derived.WalkKit
import Derived.Below
import Derived.Scope
import Derived.Orders
import Derived.Still
import Derived.WalkSmall
import Derived.Lib.AppendStr
import Derived.ArgAppend
import Derived.Lib.ConvBytes
import Derived.Shelf.Strings.OnBuilder
import Derived.Test.YtgmegmfbedgabaaGreatFa
import Derived.Test.YtgmegmfbedgabaaGreatFb
import Derived.Test.YtgmegmfbedgabaaGreatFc
import Derived.Test.YtgmegmfbedgabaaGreatFd
import Derived.Test.YtgmegmfbedgabaaGreatFe
import Derived.Test.YtgmegmfbedgabaaGreatDa
set_option linter.unusedVariables false
set_option linter.unusedSimpArgs false
namespace Go.Ab
open Go Go.RowKit Go.Shelf
theorem Oper.wp_kept {P : Program} {np : Nat} {Q : Exit → Act → World → Prop} {o : Oper} {a : Act} {w : World} {K : Act → World → Prop} (hd : ∀ d, o.dst = some d → kp np d = false) (h : o.wp P a w K Q) : o.wp P a w (fun a' w' => K a' w' ∧ Kept np a a') Q := by
  unfold Oper.wp at *
  generalize (execOp a.eval o).run P w = r at *
  cases r with
  | ok n w' =>
    cases n <;> simp only [Oper.upon] at h ⊢
    case value v => exact ⟨h, Kept.put hd rfl⟩
    case skip => exact ⟨h, Kept.put hd rfl⟩
    case defer d => exact ⟨h, (Kept.put (a := { a with defers := d :: a.defers }) hd rfl)⟩
    case enter f args =>
      refine Calls.mono h fun e w'' he => ?_
      cases e with
      | returned v => exact ⟨he, Kept.put hd rfl⟩
      | panicked c => exact he
      | outgrown => exact he
    case row row args => exact Rows.mono h fun v w'' he => ⟨he, Kept.put hd rfl⟩
  | halt x w' =>
    cases x <;> simp only [Oper.upon] at h ⊢
    all_goals exact h
section
variable {P : Program} {up : Bool} {nt : Nat} {ops : Array Oper} {Q : Exit → Act → World → Prop} {σ : St} {te : List (Nat × AV)} {re : Option Root} {val : Nat → AV × Option Root} {tt : Nat → List (Nat × AV)}
theorem any_segK {np : Nat} {a0 : Act} (hkd : keepDst np ops.toList = true) {A0 D0 : Nat → Prop} {w0 : World} {k : Nat} (hk : k ≤ ops.size) (hchk : segChk k ops = true) (hd : okDst nt ops.toList = true) (hu : up = true → LetsOut Q) (hlt : ∀ y, (getS σ.s y).isSome = true → y < σ.n)
    (hv : SegV P up ops σ (ops.toList.take k) σ.t none te re val tt)
    (hend : ∀ a w G, Kept np a0 a → Holds A0 D0 w0 nt (endSt σ te re) a w G → wpList P ops Q (ops.toList.drop k) a w) :
    ∀ (fuel : Nat) (listed : Array Bool) (a : Act) (w : World) (σ' : St) (G : Nat → Option GR), listed.size = ops.size → unl ops.size listed = fuel → (∀ i, listed.getD i false = true → i < k) → Closed ops listed →
      Agree (ops.toList.take k) σ val listed σ' → Kept np a0 a → Holds A0 D0 w0 nt σ' a w G → wpAny P .any ops Q fuel listed a w := by
  simp only [segChk, Bool.and_eq_true] at hchk
  obtain ⟨⟨hdown, hseg⟩, htail⟩ := hchk
  generalize hfirst : ops.toList.take k = first at *
  have hfk : first.length = k := by rw [← hfirst]; simp; omega
  have hget : ∀ i, i < k → first[i]? = ops[i]? := fun i hi => by rw [← hfirst, List.getElem?_take, if_pos hi, Array.getElem?_toList]
  have hin : ∀ {i : Nat} {o : Oper}, first[i]? = some o → i < k ∧ ops[i]? = some o := fun {i o} h => by
    have h1 : i < k := by have := (List.getElem?_eq_some_iff.1 h).1; omega
    exact ⟨h1, by rw [← hget i h1]; exact h⟩
  have hsegs := segOK_spec hseg
  have hdst : ∀ (i : Nat) (o : Oper), ops[i]? = some o → ∀ d, o.dst = some d → d < nt := by
    have key : ∀ {os : List Oper}, okDst nt os = true → ∀ o ∈ os, ∀ d, o.dst = some d → d < nt := by
      intro os
      induction os with
      | nil => intro _ o ho; cases ho
      | cons b os ih =>
        intro h o ho
        obtain ⟨h1, h2⟩ := okDst_cons h
        rcases List.mem_cons.1 ho with rfl | ho
        · exact h1
        · exact ih h2 o ho
    intro i o ho
    exact key hd o (List.mem_of_getElem? (by rw [Array.getElem?_toList]; exact ho))
  have finish : ∀ {listed : Array Bool} {a : Act} {w : World} {σ' : St} {G : Nat → Option GR}, (∀ i, i < k → listed.getD i false = true) → Agree first σ val listed σ' → Holds A0 D0 w0 nt σ' a w G → Holds A0 D0 w0 nt (endSt σ te re) a w G := by
    intro listed a w σ' G hall hag hh
    have ht : ∀ x, getT te x = getT σ'.t x := by
      intro x
      by_cases hx : ∃ (i : Nat) (o : Oper), first[i]? = some o ∧ o.dst = some x
      · obtain ⟨i, o, hi, hdx⟩ := hx
        have h1 := (hsegs o (List.mem_of_getElem? hi)).1 x hdx
        rw [hv.tE i o x hi hdx (fun j o' hj hd' => Nat.le_of_eq (one_writer h1 hj hd' hi hdx)), hag.w i o x hi (hall i (hin hi).1) hdx]
      · have hno : ∀ (i : Nat) (o : Oper), first[i]? = some o → o.dst ≠ some x := fun i o hi hd => hx ⟨i, o, hi, hd⟩
        rw [hv.tN x hno, hag.u x (fun i o hi _ => hno i o hi)]
    by_cases hr : ∃ (i : Nat) (o : Oper), first[i]? = some o ∧ (val i).2.isSome = true
    · obtain ⟨i, o, hi, his⟩ := hr
      obtain ⟨r, hr⟩ := Option.isSome_iff_exists.1 his
      obtain ⟨q1, q2⟩ := hag.r i o r hi (hall i (hin hi).1) hr
      rw [(hv.rOne i o hi his).1, hr]
      exact hh.ext (σ' := endSt σ te (some r)) q1.symm ht (fun y => (q2 y).symm)
    · have hno : ∀ (i : Nat) (o : Oper), first[i]? = some o → (val i).2 = none := fun i o hi => by
        cases hvi : (val i).2 with
        | none => rfl
        | some y => exact absurd ⟨i, o, hi, by rw [hvi]; rfl⟩ hr
      obtain ⟨q1, q2⟩ := hag.z (fun i o hi _ => hno i o hi)
      rw [hv.rNone hno]
      exact hh.ext (σ' := endSt σ te none) q1.symm ht (fun y => (q2 y).symm)
  intro fuel
  induction fuel with
  | zero =>
    intro listed a w σ' G hs hun hL hc hag hkp hh
    have hall : ∀ i, i < ops.size → listed.getD i false = true := fun i hi => by rw [← getD_tf (by rw [hs]; exact hi)]; exact unl_zero hun hi
    have hks : k = ops.size := by
      rcases Nat.lt_or_ge k ops.size with h | h
      · have := hL k (hall k h); omega
      · omega
    exact any_tail hdown htail 0 k listed a w hs hun (Nat.le_refl _) (fun i hi => ⟨fun _ => by omega, fun _ => hall i hi⟩) (hend a w G hkp (finish (fun i hi => hall i (by omega)) hag hh))
  | succ fuel ih =>
    intro listed a w σ' G hs hun hL hc hag hkp hh
    by_cases hall : ∀ i, i < k → listed.getD i false = true
    · exact any_tail hdown htail (fuel + 1) k listed a w hs hun (Nat.le_refl _) (fun i hi => ⟨fun h => hL i h, fun h => hall i h⟩) (hend a w G hkp (finish hall hag hh))
    -- one of the first is still to be done: there is one that can be
    obtain ⟨i0, h01, h02, h03⟩ := least_not (n := k) (p := fun i => listed.getD i false = true) (Classical.byContradiction fun h => hall fun i hi => Classical.byContradiction fun h' => h ⟨i, hi, h'⟩)
    have hready0 : i0 ∈ Region.ready .any ops listed := by
      have hlt0 : i0 < ops.size := by omega
      refine ready_spec.2 ⟨by rw [getD_tf (by rw [hs]; exact hlt0)]; simpa using h02, ops[i0], Array.getElem?_eq_getElem hlt0, fun j hj => h03 j ?_⟩
      have := edgesDown_spec hdown i0 ops[i0] (by rw [Array.getElem?_toList]; exact Array.getElem?_eq_getElem hlt0) j hj
      omega
    refine ⟨fun h0 => (by rw [h0] at hready0; cases hready0), fun i hi => ?_⟩
    obtain ⟨h1, o, h2, h3⟩ := ready_spec.1 hi
    have hisz := (Array.getElem?_eq_some_iff.1 h2).1
    have hun1 : listed.getD i false = false := by rw [← getD_tf (by rw [hs]; exact hisz)]; exact h1
    have hik : i < k := by
      rcases Nat.lt_or_ge i k with h | h
      · exact h
      · exfalso
        have hn := tailOK_spec htail (i - k) o (by rw [List.getElem?_drop, show k + (i - k) = i by omega, Array.getElem?_toList]; exact h2)
        rw [show k + (i - k) = i by omega] at hn
        exact h02 (needsAll_spec hc i _ h3 hn i0 (by omega))
    have hfi : first[i]? = some o := by rw [hget i hik]; exact h2
    obtain ⟨hs1, hs2⟩ := hsegs o (List.mem_of_getElem? hfi)
    -- no root has been made by another one, if this one makes one
    have hnoroot : (val i).2.isSome = true → ∀ (j : Nat) (o' : Oper), first[j]? = some o' → listed.getD j false = true → (val j).2 = none := by
      intro his j o' hj hlj
      cases hvj : (val j).2 with
      | none => rfl
      | some y =>
        have := (hv.rOne i o hfi his).2.2 j o' hj (by rw [hvj]; rfl)
        subst this
        rw [hun1] at hlj; cases hlj
    have hext : Ext σ σ' := by
      by_cases hr : ∃ (j : Nat) (o' : Oper), first[j]? = some o' ∧ listed.getD j false = true ∧ (val j).2.isSome = true
      · obtain ⟨j, o', hj, hlj, his⟩ := hr
        obtain ⟨r, hr⟩ := Option.isSome_iff_exists.1 his
        obtain ⟨q1, q2⟩ := hag.r j o' r hj hlj hr
        refine ⟨fun y r' hy => ?_, by omega⟩
        rw [q2 y]
        simp only [getS]
        have := hlt y (by rw [hy]; rfl)
        rw [if_neg (by omega)]
        exact hy
      · obtain ⟨q1, q2⟩ := hag.z (fun j o' hj hlj => by
          cases hvj : (val j).2 with
          | none => rfl
          | some y => exact absurd ⟨j, o', hj, hlj, by rw [hvj]; rfl⟩ hr)
        exact ⟨fun y r' hy => by rw [q2 y]; exact hy, by omega⟩
    have hreads : ∀ x ∈ o.looksAt ops, getT σ'.t x = getT (tt i) x := by
      intro x hx
      by_cases hw : ∃ (j : Nat) (o' : Oper), first[j]? = some o' ∧ o'.dst = some x
      · obtain ⟨j, o', hj, hdx⟩ := hw
        have hjb := hs2 x hx j (mem_writers.2 ⟨o', by simpa using hj, Nat.zero_le _, hdx⟩)
        have hlj := h3 j hjb
        have hji := edgesDown_spec hdown i o (by rw [Array.getElem?_toList]; exact h2) j hjb
        have h1w := (hsegs o' (List.mem_of_getElem? hj)).1 x hdx
        rw [hag.w j o' x hj hlj hdx, hv.tI i j o' x (by omega) (by omega) hj hdx (fun j' o'' _ hj' hd' => Nat.le_of_eq (one_writer h1w hj' hd' hj hdx))]
      · have hno : ∀ (j : Nat) (o' : Oper), first[j]? = some o' → o'.dst ≠ some x := fun j o' hj hd => hw ⟨j, o', hj, hd⟩
        rw [hag.u x (fun j o' hj _ => hno j o' hj), hv.tI0 i x (fun j o' _ hj => hno j o' hj)]
    have hset : ∀ j, (listed.setIfInBounds i true).getD j false = true ↔ j = i ∨ listed.getD j false = true := by
      intro j
      by_cases hij : i = j
      · subst hij
        rw [Array.getD_eq_getD_getElem?, Array.getElem?_setIfInBounds_self_of_lt (by rw [hs]; exact hisz)]
        simp
      · rw [getD_set_ne false hij]
        exact ⟨.inr, fun h => h.resolve_left (Ne.symm hij)⟩
    -- behind it
    have hnext : ∀ (a : Act) (w : World) (G : Nat → Option GR), Kept np a0 a → Holds A0 D0 w0 nt (newR σ' o.dst (val i).1 (val i).2) a w G → wpAny P .any ops Q fuel (listed.setIfInBounds i true) a w := by
      intro a w G hkp hh'
      have hT : ∀ x, getT (newR σ' o.dst (val i).1 (val i).2).t x = if o.dst = some x then (val i).1 else getT σ'.t x := by
        intro x
        have hp : ∀ (τ : St), getT (τ.put o.dst (val i).1).t x = if o.dst = some x then (val i).1 else getT τ.t x := by
          intro τ
          unfold St.put
          split
          · rename_i d hd
            rw [hd]
            simp only [getT, Option.some.injEq]
          · rename_i hd; rw [hd]; simp
        unfold newR
        split <;> exact hp _
      refine ih _ a w _ G (by simpa using hs) (by have := unl_set hisz hs h1; omega) (fun j hj => ?_) (closed_set hc hi) ⟨fun j o' x hj hl hdx => ?_, fun x hx => ?_, fun j o' r hj hl hr => ?_, fun hz => ?_⟩ hkp hh'
      · rcases (hset j).1 hj with rfl | h
        · exact hik
        · exact hL j h
      · rw [hT x]
        rcases (hset j).1 hl with rfl | h
        · rw [hfi] at hj; cases hj
          rw [if_pos hdx]
        · have hne : ¬ o.dst = some x := fun hd => by
            have := one_writer (hs1 x hd) hfi hd hj hdx
            subst this
            rw [hun1] at h; cases h
          rw [if_neg hne]
          exact hag.w j o' x hj h hdx
      · rw [hT x, if_neg (hx i o hfi ((hset i).2 (.inl rfl)))]
        exact hag.u x (fun j o' hj hl => hx j o' hj ((hset j).2 (.inr hl)))
      · rcases (hset j).1 hl with rfl | h
        · rw [hfi] at hj; cases hj
          obtain ⟨q1, q2⟩ := hag.z (hnoroot (by rw [hr]; rfl))
          have e : newR σ' o.dst (val j).1 (val j).2 = St.put { n := σ'.n + 1, t := σ'.t, s := (σ'.n, r) :: σ'.s } o.dst (val j).1 := by rw [hr]; rfl
          rw [e]
          have e2 : ∀ (τ : St), (τ.put o.dst (val j).1).n = τ.n ∧ (τ.put o.dst (val j).1).s = τ.s := fun τ => by unfold St.put; split <;> exact ⟨rfl, rfl⟩
          rw [(e2 _).1, (e2 _).2]
          refine ⟨by rw [q1], fun y => ?_⟩
          simp only [getS, q1]
          split
          · rfl
          · exact q2 y
        · obtain ⟨q1, q2⟩ := hag.r j o' r hj h hr
          have hnone : (val i).2 = none := by
            cases hvi : (val i).2 with
            | none => rfl
            | some y => have := hnoroot (by rw [hvi]; rfl) j o' hj h; rw [hr] at this; cases this
          have e : newR σ' o.dst (val i).1 (val i).2 = St.put σ' o.dst (val i).1 := by rw [hnone]; rfl
          rw [e]
          have e2 : ∀ (τ : St), (τ.put o.dst (val i).1).n = τ.n ∧ (τ.put o.dst (val i).1).s = τ.s := fun τ => by unfold St.put; split <;> exact ⟨rfl, rfl⟩
          rw [(e2 _).1, (e2 _).2]
          exact ⟨q1, q2⟩
      · have hnone := hz i o hfi ((hset i).2 (.inl rfl))
        obtain ⟨q1, q2⟩ := hag.z (fun j o' hj hl => hz j o' hj ((hset j).2 (.inr hl)))
        have e : newR σ' o.dst (val i).1 (val i).2 = St.put σ' o.dst (val i).1 := by rw [hnone]; rfl
        rw [e]
        have e2 : ∀ (τ : St), (τ.put o.dst (val i).1).n = τ.n ∧ (τ.put o.dst (val i).1).s = τ.s := fun τ => by unfold St.put; split <;> exact ⟨rfl, rfl⟩
        rw [(e2 _).1, (e2 _).2]
        exact ⟨q1, q2⟩
    unfold wpOp
    rw [h2]
    simp only
    rcases (hv.stab i o hfi).2 σ' hreads hext (fun his => (hag.z (hnoroot his)).1) with ⟨hw, hsnd⟩ | ⟨hw, hv1, hv2⟩
    · rw [if_pos (wantd_spec hh hw)]
      refine (hsnd A0 D0 w0 nt a w G Q (hdst i o h2) hu hh).imp (fun hwp => Oper.wp_mono (fun a w ⟨⟨σ'', G', g1, g2⟩, g3⟩ => ?_) (Oper.wp_kept (keepDst_mem hkd o (List.mem_of_getElem? (by rw [Array.getElem?_toList]; exact h2))) hwp)) id
      subst g2
      exact hnext a w G' (hkp.trans g3) g1
    · rw [if_neg (by rw [wantd_spec hh hw]; simp)]
      refine hnext _ w G (hkp.trans (Kept.put (keepDst_mem hkd o (List.mem_of_getElem? (by rw [Array.getElem?_toList]; exact h2))) rfl)) ?_
      rw [hv1, hv2]
      exact hh.put (.fr _ _ (.tup [] [] rfl (fun i a h => by simp at h))) (hdst i o h2)
end
end Go.Ab
namespace Go.Ab
open Go Go.RowKit Go.Shelf
def A1 (A0 : Nat → Prop) (b : Nat) (w1 : World) (k : Nat) : Prop := A0 k ∨ (b ≤ k ∧ k < w1.heap.size)
structure BB (T e : TypeId) (A0 D0 : Nat → Prop) (w0 w1 : World) (b : Nat) (bs : List UInt8) (av : AV) (v : Value) : Prop where
  bld : Lib.IsBuilder T e b b (Lib.byteCells bs) w1
  le : w0.heap.size ≤ b
  fr : Fr D0 w0 w1
  a0 : ∀ k, A0 k → k < w0.heap.size
  fz : FR w1 (A1 A0 b w1) av v
def CWB (P : Program) (up : Bool) (np nt s s2 : Nat) (T e : TypeId) (av : AV) (F : St → Prop) (c : Code) (σ : St) (bs : List UInt8) (Q : Exit → St → List UInt8 → Prop) : Prop :=
  ∀ (A0 D0 : Nat → Prop) (w0 w1 : World) (b : Nat) (v : Value) (a : Act) (w : World) (G : Nat → Option GR) (R : Exit → Act → World → Prop), (up = true → LetsOut R) → BB T e A0 D0 w0 w1 b bs av v →
    a.tmps[s]? = some (.pointer (some ⟨b, 0, none⟩)) → a.tmps[s2]? = some v → Holds (A1 A0 b w1) (fun _ => False) w1 nt σ a w G →
    (∀ a' w' σ' G', Holds A0 D0 w0 nt σ' a' w' G' → F σ' → R .ret a' w') →
    (∀ x a' w' w1' σ' G' bs', BB T e A0 D0 w0 w1' b bs' av v → Holds (A1 A0 b w1') (fun _ => False) w1' nt σ' a' w' G' → Kept np a a' → Q x σ' bs' → R x a' w') → c.wp P R a w
section
variable {P : Program} {TT : TTab} {up : Bool} {np nt s s2 : Nat} {T e : TypeId} {av : AV} {F : St → Prop} {σ : St} {bs : List UInt8} {Q : Exit → St → List UInt8 → Prop}
theorem CWB.of {c : Code} (h : CW P up np nt c σ (fun x σ' => Q x σ' bs)) : CWB P up np nt s s2 T e av F c σ bs Q :=
  fun A0 D0 w0 w1 b v a w G R hu hb ht ht2 hh hf hr => h _ _ _ _ _ _ R hu hh fun x a' w' σ' G' h1 hk hq => hr x a' w' w1 σ' G' bs hb h1 hk hq
def thenB (P : Program) (up : Bool) (np nt s s2 : Nat) (T e : TypeId) (av : AV) (F : St → Prop) (y : Code) (Q : Exit → St → List UInt8 → Prop) : Exit → St → List UInt8 → Prop
  | .normal, σ, bs => CWB P up np nt s s2 T e av F y σ bs Q
  | x, σ, bs => Q x σ bs
theorem CWB.seq (k1 : kp np s = true) (k2 : kp np s2 = true) {x y : Code} (h : CWB P up np nt s s2 T e av F x σ bs (thenB P up np nt s s2 T e av F y Q)) : CWB P up np nt s s2 T e av F (.seq x y) σ bs Q := by
  intro A0 D0 w0 w1 b v a w G R hu hb ht ht2 hh hf hr
  refine wp_seq (h A0 D0 w0 w1 b v a w G _ (letsOut_then hu) hb ht ht2 hh (fun a' w' σ' G' h1 h2 => hf a' w' σ' G' h1 h2) fun x a' w' w1' σ' G' bs' hb' h1 hk h2 => ?_)
  cases x with
  | normal => exact h2 A0 D0 w0 w1' b v a' w' G' R hu hb' ((hk s k1).trans ht) ((hk s2 k2).trans ht2) h1 hf fun x a'' w'' w1'' σ'' G'' bs'' hb'' h1' hk' h2' => hr x a'' w'' w1'' σ'' G'' bs'' hb'' h1' (hk.trans hk') h2'
  | _ => exact hr _ a' w' w1' σ' G' bs' hb' h1 hk h2
theorem CWB.block {id : Nat} {c : Code} (h : CWB P up np nt s s2 T e av F c σ bs (fun x σ' bs' => inBlk id (fun x σ' => Q x σ' bs') x σ')) : CWB P up np nt s s2 T e av F (.block id c) σ bs Q := by
  intro A0 D0 w0 w1 b v a w G R hu hb ht ht2 hh hf hr
  refine wp_block (h A0 D0 w0 w1 b v a w G _ (letsOut_block hu) hb ht ht2 hh (fun a' w' σ' G' h1 h2 => hf a' w' σ' G' h1 h2) fun x a' w' w1' σ' G' bs' hb' h1 hk h2 => ?_)
  cases x with
  | exit id' =>
    simp only [inBlk] at h2
    simp only [Exit.inBlock]
    by_cases e : id' = id
    · rw [if_pos e]
      have hb : Nat.beq id' id = true := by subst e; simp
      rw [hb] at h2
      exact hr _ a' w' w1' σ' G' bs' hb' h1 hk h2
    · rw [if_neg e]
      have hb : Nat.beq id' id = false := by
        cases hb : Nat.beq id' id with
        | false => rfl
        | true => exact absurd (Nat.eq_of_beq_eq_true hb) e
      rw [hb] at h2
      exact hr _ a' w' w1' σ' G' bs' hb' h1 hk h2
  | _ => exact hr _ a' w' w1' σ' G' bs' hb' h1 hk h2
def loopB {S : Type} (st : S → St) (bst : S → List UInt8) (I : S → Prop) (μ : S → Nat) (x : S) (Q : Exit → St → List UInt8 → Prop) : Exit → St → List UInt8 → Prop
  | .normal, σ, bs => ∃ y, Sh σ (st y) ∧ I y ∧ μ y < μ x ∧ bs = bst y
  | e, σ, bs => Q e σ bs
theorem CWB.loop (k1 : kp np s = true) (k2 : kp np s2 = true) {S : Type} {c : Code} (st : S → St) (bst : S → List UInt8) (I : S → Prop) (μ : S → Nat) (x0 : S) (hw : Sh σ (st x0)) (h0 : I x0) (hbs : bs = bst x0)
    (hb : ∀ x, I x → CWB P up np nt s s2 T e av F c (st x) (bst x) (loopB st bst I μ x Q)) : CWB P up np nt s s2 T e av F (.loop c) σ bs Q := by
  intro A0 D0 w0 w1 b v a0 w G R hu hbb ht ht2 hh hf hr
  obtain ⟨least, least_spec⟩ := leastOf
  obtain ⟨G0, hh0⟩ := hw _ _ _ nt a0 w G hh
  let p : Act → World → Nat → Prop := fun a w n => ∃ x G w1, I x ∧ μ x = n ∧ BB T e A0 D0 w0 w1 b (bst x) av v ∧ Holds (A1 A0 b w1) (fun _ => False) w1 nt (st x) a w G ∧ Kept np a0 a
  refine wp_loop (fun a w => ∃ n, p a w n) (fun a w => least (p a w)) ⟨_, x0, G0, w1, h0, rfl, hbs ▸ hbb, hh0, Kept.refl np a0⟩ fun a w hI => ?_
  obtain ⟨⟨x, G, w1, hx, hn, hbb', hh', hkept⟩, hmin⟩ := least_spec _ hI
  refine hb x hx A0 D0 w0 w1 b v a w G _ (letsOut_then hu) hbb' ((hkept s k1).trans ht) ((hkept s2 k2).trans ht2) hh' (fun a' w' σ' G' h1 h2 => hf a' w' σ' G' h1 h2) fun x' a' w' w1' σ' G' bs' hb' h1 hk h2 => ?_
  cases x' with
  | normal =>
    obtain ⟨y, q1, q2, q3, rfl⟩ := h2
    obtain ⟨G2, hh2⟩ := q1 _ _ _ nt a' w' G' h1
    have hp : p a' w' (μ y) := ⟨y, G2, w1', q2, rfl, hb', hh2, hkept.trans hk⟩
    refine ⟨⟨_, hp⟩, Nat.lt_of_le_of_lt ((least_spec _ ⟨_, hp⟩).2 _ hp) ?_⟩
    rw [← hn]; exact q3
  | _ => exact hr _ a' w' w1' σ' G' bs' hb' h1 (hkept.trans hk) h2
end
end Go.Ab
namespace Go.Ab
open Go Go.RowKit Go.Shelf
def TB (s2 : Nat) (av : AV) (t : List (Nat × AV)) : List (Nat × AV) → Prop
  | [] => True
  | (i, a) :: r => ((i = s2 ∧ a = av) ∨ (a.flat = true ∧ a.pure = true ∧ getT t i = a)) ∧ TB s2 av t r
theorem TB_get {s2 : Nat} {av : AV} {t : List (Nat × AV)} : ∀ {τ : List (Nat × AV)}, TB s2 av t τ → ∀ i, getT τ i = .undef ∨ (i = s2 ∧ getT τ i = av) ∨ ((getT τ i).flat = true ∧ (getT τ i).pure = true ∧ getT t i = getT τ i)
  | [], _, i => .inl rfl
  | (j, a) :: r, h, i => by
    simp only [getT]
    split
    · rename_i e; subst e
      rcases h.1 with ⟨h1, h2⟩ | h1
      · exact .inr (.inl ⟨h1, h2⟩)
      · exact .inr (.inr h1)
    · exact TB_get h.2 i
theorem emptyInv (A0 : Nat → Prop) (w : World) (n : Nat) : Inv A0 w n [] (fun _ => none) :=
  ⟨fun x => rfl, fun x r g h => (by cases h), fun x r g h => (by cases h), fun x g h => (by cases h), fun x g b h => (by cases h), fun x g x' g' h => (by cases h), fun x g h => (by cases h), fun b ⟨x, g, h, _⟩ => (by cases h)⟩
theorem noFp {b : Nat} : ¬ GFp (fun _ => none) b := fun ⟨x, g, h, _⟩ => by cases h
theorem bareHolds {A D A' D' : Nat → Prop} {w0 w0' w w' : World} {nt s2 : Nat} {σ : St} {a : Act} {G : Nat → Option GR} {τ : List (Nat × AV)} {av : AV} {v : Value} (hh : Holds A D w0 nt σ a w G) (hτ : TB s2 av σ.t τ) (ht2 : a.tmps[s2]? = some v)
    (hfz : FR w' A' av v) (hfr : Fr D' w0' w') (ha : ∀ k, A' k → k < w0'.heap.size) : Holds A' D' w0' nt ⟨0, τ, []⟩ a w' (fun _ => none) := by
  have hs2 : s2 < nt := by rw [← hh.size]; exact (Array.getElem?_eq_some_iff.1 ht2).1
  have hO : ∀ k, Own A' (fun _ => none) k → A' k := fun k hk => hk.elim id fun h => (noFp h).elim
  refine ⟨emptyInv _ _ _, hh.size, hh.defers, fun i hi => ?_, fun i hi => ?_, hfr, fun b hb => (noFp hb).elim, ha⟩
  · rcases TB_get hτ i with e | ⟨rfl, e⟩ | ⟨e1, e2, e3⟩
    · show Rel w' _ _ _ (getT τ i) _
      rw [e]; exact .fr _ _ (.undef _)
    · show Rel w' _ _ _ (getT τ i) _
      rw [e, Array.getD_eq_getD_getElem?, ht2]
      exact .fr _ _ (hfz.keep (fun _ _ _ => rfl) (fun k _ hk => hO k hk))
    · have h1 := hh.tmp i hi
      rw [e3] at h1
      exact .fr _ _ ((h1.pure e2).flat e1)
  · rcases TB_get hτ i with e | ⟨rfl, e⟩ | ⟨e1, e2, e3⟩
    · exact e
    · omega
    · have h1 := hh.far i hi
      rw [e3] at h1
      exact h1
theorem bld_keep {T e : TypeId} {b : Nat} {bs : List Value} {w w' : World} (h : Lib.IsBuilder T e b b bs w) (hw : ∀ k, b ≤ k → k < w.heap.size → w'.heap[k]? = w.heap[k]?) : Lib.IsBuilder T e b b bs w' := by
  have key : ∀ p, Lib.BuilderAt T e b b p bs w → Lib.BuilderAt T e b b p bs w' := by
    rintro p ⟨h1, v, h2, ⟨h3, h4⟩, h5⟩
    refine ⟨h1, v, by rw [hw b (Nat.le_refl _) (Array.getElem?_eq_some_iff.1 h2).1]; exact h2, ⟨h3, ?_⟩, h5⟩
    rcases h4 with h4 | ⟨g, cap, cur, q1, q2, q3, q4⟩
    · exact .inl h4
    · exact .inr ⟨g, cap, cur, q1, q2, by rw [hw g q2 (Array.getElem?_eq_some_iff.1 q3).1]; exact q3, q4⟩
  exact h.imp (key _) (key _)
theorem fr_fr {D0 : Nat → Prop} {w0 w1 w2 : World} (h : Fr D0 w0 w1) (k : Fr (fun _ => False) w1 w2) : Fr D0 w0 w2 :=
  ⟨k.os.trans h.os, k.tape.trans h.tape, k.output.trans h.output, Nat.le_trans h.size k.size, fun b hb hd => (k.block b (Nat.lt_of_lt_of_le hb h.size) id).trans (h.block b hb hd)⟩
theorem fr_below {D0 : Nat → Prop} {w0 w1 w2 : World} {b : Nat} (h : Fr D0 w0 w1) (hb : w0.heap.size ≤ b) (k : Below b w1 w2) : Fr D0 w0 w2 :=
  ⟨k.os.trans h.os, k.tape.trans h.tape, k.output.trans h.output, Nat.le_trans h.size k.size, fun i hi hd => (k.block i (by omega)).trans (h.block i hi hd)⟩
section
variable {P : Program} {ρ : Go.Shelf.Ren} {TT : TTab} {up : Bool} {np nt s s2 : Nat} {av : AV} {F : St → Prop} {σ : St} {bs : List UInt8} {Q : Exit → St → List UInt8 → Prop}
theorem callable_of {f : FuncId} {fn : Func} (h : P.funcs[f]? = some fn) (h1 : (fn.name == "runtime.NumGoroutine") = false) (h2 : fn.body.isNone = false) : Callable P f := ⟨fn, h, h1, h2⟩
theorem CWB.drawnWrite (L : Go.Proofs.Lays.n156 P ρ) (X : Go.Proofs.Builder.Extra P ρ) (hm : P.follows .mixedOrders = true) (k1 : kp np s = true) (k2 : kp np s2 = true) (k : Nat) {id : Nat} {ops : Array Oper} {d : Tmp} {ty : TypeId} {pos : String} {af : Array Edge} {gd : Option (Nat × Bool)} {x y : Operand} {ts : Array TypeId}
    (hdrop : ops.toList.drop k = [⟨some d, .call ⟨.value x, #[.tmp s, y], ts⟩, ty, pos, af, gd⟩])
    (hk : k ≤ ops.size) (hchk : segChk k ops = true) (hd : okDst nt ops.toList = true) (hkd : keepDst np ops.toList = true) (hdn : d < nt)
    (h : Seg P up ops σ (ops.toList.take k) σ.t none fun t r => wantd ops (endSt σ t r) ⟨some d, .call ⟨.value x, #[.tmp s, y], ts⟩, ty, pos, af, gd⟩ = some true ∧ ev (endSt σ t r) x = .func (.func (ρ.f 166)) [] [] ∧
      ∃ str τ, ev (endSt σ t r) y = .str str ∧ bs.length + str.size ≤ 140737488355328 ∧ TB s2 av t τ ∧ Q .normal ⟨0, (d, .undef) :: τ, []⟩ (bs ++ strB str)) :
    CWB P up np nt s s2 (ρ.t 72) (ρ.t 5) av F (.region id ops true) σ bs Q := by
  intro A0 D0 w0 w1 b v a w G R hu hb ht ht2 hh hf hr
  let Q1 : Exit → Act → World → Prop := fun e a' w' => match e with
    | .normal => ∃ w1' σ' G' bs', BB (ρ.t 72) (ρ.t 5) A0 D0 w0 w1' b bs' av v ∧ Holds (A1 A0 b w1') (fun _ => False) w1' nt σ' a' w' G' ∧ Q .normal σ' bs'
    | e => R e a' w'
  have hu1 : up = true → LetsOut Q1 := fun hu' => let ⟨a, w, h⟩ := hu hu'; ⟨a, w, h⟩
  suffices hs : wpAny P .any ops Q1 ops.size (Array.replicate ops.size false) a { w with drawn := w.drawn + 1 } by
    refine wp_mono (wp_region_any hm (wpAny_keep (a0 := a) hkd _ _ _ _ (Kept.refl np a) hs)) fun e a' w' he => ?_
    cases e with
    | normal => obtain ⟨⟨w1', σ', G', bs', g0, g1, g2⟩, g3⟩ := he; exact hr _ a' w' w1' σ' G' bs' g0 g1 (g3 rfl) g2
    | _ => exact he.1
  obtain ⟨te, re, val, tt, hk', hv⟩ := seg_vals h
  have hno : ∀ i, (Array.replicate ops.size false).getD i false = true → False := fun i hi => by
    rw [Array.getD_eq_getD_getElem?, Array.getElem?_replicate] at hi
    split at hi <;> simp at hi
  refine any_segK hkd (a0 := a) (σ' := σ) hk hchk hd hu1 (fun y hy => ?_) hv (fun a' w' G' hkp hh' => ?_) ops.size _ a _ G (by simp) ?_ (fun i hi => (hno i hi).elim)
    (fun i o _ hi => (hno i hi).elim) ⟨fun i o x _ hi => (hno i hi).elim, fun x _ => rfl, fun i o r _ hi => (hno i hi).elim, fun _ => ⟨rfl, fun _ => rfl⟩⟩ (Kept.refl np a) hh.drew
  · have := hh.inv.dom y
    rw [hy] at this
    obtain ⟨g, hg⟩ := Option.isSome_iff_exists.1 this.symm
    exact hh.inv.lt y g hg
  · obtain ⟨hw, hx, str, τ, hy, hlen, hτ, hQ⟩ := hk'
    rw [hdrop, wpList_cons, wantd_spec hh' hw, if_pos rfl]
    left
    have e0 := hh'.ev x
    rw [hx] at e0
    obtain ⟨us, cs, ex, hus, hcs, _, _⟩ := e0.func_inv
    obtain rfl := List.eq_nil_of_length_eq_zero hus
    obtain rfl := List.eq_nil_of_length_eq_zero hcs
    have ey := hh'.ev y
    rw [hy] at ey
    have ey := ey.str_inv.1
    have es : a'.eval (.tmp s) = .pointer (some ⟨b, 0, none⟩) := by
      have := (hkp s k1).trans ht
      show a'.tmps.getD s undef = _
      rw [Array.getD_eq_getD_getElem?, this]; rfl
    have ht2' := (hkp s2 k2).trans ht2
    have hsame : ∀ k, k < w1.heap.size → w'.heap[k]? = w1.heap[k]? := fun k hk => hh'.fr.block k hk fun h => h
    have hbld := bld_keep hb.bld (fun k _ hk => hsame k hk)
    have hbw : b ≤ w'.heap.size := by
      have : b < w1.heap.size := by
        rcases hb.bld with ⟨_, _, q, _⟩ | ⟨_, _, q, _⟩ <;> exact (Array.getElem?_eq_some_iff.1 q).1
      have := hh'.fr.size; omega
    have hc := Go.Proofs.Any.Builder_WriteString { L with } X b b (Lib.byteCells bs) str w' hbld (by rw [Lib.byteCells_length]; exact hlen) hbw
    have hcl : Callable P (ρ.f 166) := callable_of L.f166 (by kernel_rfl) rfl
    simp only [Oper.wp, run_enter hcl (o := ⟨some d, .call ⟨.value x, #[.tmp s, y], ts⟩, ty, pos, af, gd⟩) rfl ex, List.nil_append, List.append_nil, List.map_cons, List.map_nil, es, ey, Oper.upon]
    refine hc.mono fun e w'' he => ?_
    obtain ⟨rfl, hb2, hb3⟩ := he
    have hfz' : FR w'' (A1 A0 b w'') av v := by
      refine hb.fz.keep (fun k hk hn => ?_) (fun k hk hn => ?_)
      · have : k < b := Nat.lt_of_not_le fun h => hn (.inr ⟨h, hk⟩)
        rw [hb3.block k this, hsame k hk]
      · rcases hn with hn | hn
        · exact .inl hn
        · exact .inr ⟨hn.1, hk⟩
    have hfr' : Fr D0 w0 w'' := fr_below (fr_fr hb.fr hh'.fr) hb.le hb3
    refine ⟨w'', ⟨0, (d, .undef) :: τ, []⟩, fun _ => none, bs ++ strB str, ⟨?_, hb.le, hfr', hb.a0, hfz'⟩, (bareHolds hh' (τ := τ) (by cases re <;> exact hτ) ht2' hfz' ⟨rfl, rfl, rfl, Nat.le_refl _, fun _ _ _ => rfl⟩ (fun k hk => ?_)).put (d := some d) (v := .undef) (.fr _ _ (.undef _)) (fun i hi => by cases hi; exact hdn), hQ⟩
    · right
      have e1 : Lib.byteCells (bs ++ strB str) = Lib.byteCells bs ++ Lib.strCells str := by rw [Lib.byteCells_append, Lib.strCells_eq]; rfl
      rw [e1]; exact hb2
    · rcases hk with hk | hk
      · have g1 := hb.a0 k hk
        have g2 := hfr'.size
        omega
      · exact hk.2
  · unfold unl
    have : ((List.range ops.size).filter fun i => !(Array.replicate ops.size false).getD i true) = List.range ops.size := by
      rw [List.filter_eq_self]
      intro i hi
      have hi := List.mem_range.1 hi
      rw [Array.getD_eq_getD_getElem?, Array.getElem?_replicate, if_pos hi]
      rfl
    rw [this, List.length_range]
end
end Go.Ab
namespace Go.Ab
open Go Go.RowKit Go.Shelf
section
variable {P : Program} {ρ : Go.Shelf.Ren} {TT : TTab} {up : Bool} {np nt s s2 : Nat} {av : AV} {F : St → Prop} {σ : St} {bs : List UInt8} {Q : Exit → St → List UInt8 → Prop}
theorem CWB.string (L : Go.Proofs.Lays.n156 P ρ) (X : Go.Proofs.Builder.Extra P ρ) {id : Nat} {ops : Array Oper} {os : List Oper} {d : Tmp} {ty : TypeId} {pos : String} {af : Array Edge} {gd : Option (Nat × Bool)} {x : Operand} {ts : Array TypeId}
    (hops : ops.toList = ⟨some d, .call ⟨.value x, #[.tmp s], ts⟩, ty, pos, af, gd⟩ :: os) (hd : okDst nt ops.toList = true)
    (hw : wantd ops σ ⟨some d, .call ⟨.value x, #[.tmp s], ts⟩, ty, pos, af, gd⟩ = some true) (hx : ev σ x = .func (.func (ρ.f 169)) [] []) {τ : List (Nat × AV)} (hτ : TB s2 av σ.t τ)
    (hk : CWops P up nt ops os ⟨0, (d, .str ⟨bs.toArray⟩) :: τ, []⟩ F) (hlen : bs.length ≤ MX) : CWB P up np nt s s2 (ρ.t 72) (ρ.t 5) av F (.seq (.region id ops false) .ret) σ bs Q := by
  intro A0 D0 w0 w1 b v a w G R hu hb ht ht2 hh hf hr
  refine wp_seq (wp_region_list ?_)
  rw [hops] at hd ⊢
  obtain ⟨hd1, hd2⟩ := okDst_cons hd
  rw [wpList_cons, wantd_spec hh hw, if_pos rfl]
  left
  have e0 := hh.ev x
  rw [hx] at e0
  obtain ⟨us, cs, ex, hus, hcs, _, _⟩ := e0.func_inv
  obtain rfl := List.eq_nil_of_length_eq_zero hus
  obtain rfl := List.eq_nil_of_length_eq_zero hcs
  have es : a.eval (.tmp s) = .pointer (some ⟨b, 0, none⟩) := by
    show a.tmps.getD s undef = _
    rw [Array.getD_eq_getD_getElem?, ht]; rfl
  have hsame : ∀ k, k < w1.heap.size → w.heap[k]? = w1.heap[k]? := fun k hk => hh.fr.block k hk fun h => h
  have hbld := bld_keep hb.bld (fun k _ hk => hsame k hk)
  have hbw : b ≤ w.heap.size := by
    have : b < w1.heap.size := by
      rcases hb.bld with ⟨_, _, q, _⟩ | ⟨_, _, q, _⟩ <;> exact (Array.getElem?_eq_some_iff.1 q).1
    have := hh.fr.size; omega
  have hc := Go.Proofs.Any.Builder_String_any { L with } X b b bs w hbld hbw
  have hcl : Callable P (ρ.f 169) := callable_of L.f169 (by kernel_rfl) rfl
  simp only [Oper.wp, run_enter hcl (o := ⟨some d, .call ⟨.value x, #[.tmp s], ts⟩, ty, pos, af, gd⟩) rfl ex, List.nil_append, List.append_nil, List.map_cons, List.map_nil, es, Oper.upon]
  refine hc.mono fun e w'' he => ?_
  obtain ⟨rfl, hb3⟩ := he
  have hfr' : Fr D0 w0 w'' := fr_below (fr_fr hb.fr hh.fr) hb.le hb3
  have hfz' : FR w'' A0 av v := by
    refine hb.fz.keep (fun k hk hn => ?_) (fun k hk hn => .inl hn)
    have : k < b := Nat.lt_of_not_le fun h => hn (.inr ⟨h, hk⟩)
    rw [hb3.block k this, hsame k hk]
  have hH := (bareHolds hh (τ := τ) hτ ht2 hfz' hfr' hb.a0).put (d := some d) (v := .str ⟨bs.toArray⟩) (u := .string ⟨bs.toArray⟩) (.fr _ _ (.str _ (by show bs.toArray.size ≤ MX; simpa using hlen))) hd1
  exact hk hd2 A0 D0 w0 _ w'' _ _ (letsOut_then hu) hH fun a' w' σ' G' h1 h2 => wp_ret (hf _ _ _ _ h1 h2)
def PureOp (P : Program) (o : Oper) : Prop := ∀ (g : Operand → Value) (w : World), match (execOp g o).run P w with
  | .ok (.value _) w' => w' = w
  | .ok _ _ => False
  | .halt _ _ => True
theorem wpList_pure {all : Array Oper} {Q : Exit → Act → World → Prop} : ∀ {os : List Oper} {a : Act} {w : World}, (∀ o ∈ os, PureOp P o) → wpList P all Q os a w → wpList P all (fun e a' w' => Q e a' w' ∧ (e = .normal → w' = w)) os a w
  | [], a, w, _, h => ⟨h, fun _ => rfl⟩
  | o :: os, a, w, hp, h => by
    rw [wpList_cons] at h ⊢
    split
    · rename_i hw
      rw [if_pos hw] at h
      rcases h with h | h
      · left
        have h1 := hp o List.mem_cons_self a.eval w
        unfold Oper.wp at h ⊢
        generalize (execOp a.eval o).run P w = r at *
        cases r with
        | ok n w' =>
          cases n <;> simp only at h1
          case value v =>
            subst h1
            simp only [Oper.upon] at h ⊢
            exact wpList_pure (fun o' ho' => hp o' (List.mem_cons_of_mem _ ho')) h
        | halt x w' =>
          cases x <;> simp only [Oper.upon] at h ⊢
          all_goals exact ⟨h, fun e => by cases e⟩
      · exact .inr ⟨h.1, let ⟨a, w, h⟩ := h.2; ⟨a, w, h, fun e => by cases e⟩⟩
    · rename_i hw
      rw [if_neg hw] at h
      exact wpList_pure (fun o' ho' => hp o' (List.mem_cons_of_mem _ ho')) h
theorem CW.builder (L : Go.Proofs.Lays.n156 P ρ) (X : Go.Proofs.Builder.Extra P ρ) (np2 : Nat) (k3 : kp np2 s = true) (k1 : kp np s = true) (k2 : kp np s2 = true) (hs : s < nt) {i1 i2 : Nat} {ops1 ops2 : Array Oper} {ty : TypeId} {pos : String} {af : Array Edge} {gd : Option (Nat × Bool)} {mid rest : Code} {QQ : Exit → St → Prop}
    (h1 : ops1.toList = [⟨some s, .alloc (ρ.t 72), ty, pos, af, gd⟩]) (hw1 : wantd ops1 σ ⟨some s, .alloc (ρ.t 72), ty, pos, af, gd⟩ = some true)
    (hp : ∀ o ∈ ops2.toList, PureOp P o) (hd2 : okDst nt ops2.toList = true) (hk2 : keepDst np2 ops2.toList = true) (hs2 : s2 < nt) (hav : av.pure = true)
    (h2 : CWops P up nt ops2 ops2.toList (σ.put (some s) .undef) fun σ' => getT σ'.t s2 = av ∧ ∃ τ, TB s2 av σ'.t τ ∧ CWB P up np nt s s2 (ρ.t 72) (ρ.t 5) av (QQ .ret) mid ⟨0, τ, []⟩ [] (thenB P up np nt s s2 (ρ.t 72) (ρ.t 5) av (QQ .ret) rest fun _ _ _ => False)) :
    CW P up 0 nt (.seq (.region i1 ops1 false) (.seq (.seq (.region i2 ops2 false) mid) rest)) σ QQ := by
  intro A0 D0 w0 a w G R hu hh hr
  refine wp_seq (wp_region_list ?_)
  rw [h1, wpList_cons, wantd_spec hh hw1, if_pos rfl]
  left
  have hrun : (execOp a.eval ⟨some s, .alloc (ρ.t 72), ty, pos, af, gd⟩).run P w = .ok (.value (.pointer (some ⟨w.heap.size, 0, none⟩))) (w.alloc (.cells #[.pointer none, .slice none 0 0] (ρ.t 72))) := by
    simp [execOp, Instr.alloc, newVar, newRow, L.v72, Value.cells]
  refine wp_value hrun ?_
  show Code.wp P (.seq (.seq (.region i2 ops2 false) mid) rest) R (a.put (some s) (.pointer (some ⟨w.heap.size, 0, none⟩))) (w.alloc (.cells #[.pointer none, .slice none 0 0] (ρ.t 72)))
  have hold : ∀ k, k < w.heap.size → (w.alloc (.cells #[.pointer none, .slice none 0 0] (ρ.t 72))).heap[k]? = w.heap[k]? := fun k hk => Below.heap_alloc w _ k hk
  have hnew : (w.alloc (.cells #[.pointer none, .slice none 0 0] (ρ.t 72))).heap[w.heap.size]? = some (.cells #[.pointer none, .slice none 0 0] (ρ.t 72) (0, 0)) := heap_alloc_new w _
  have hsz : (w.alloc (.cells #[.pointer none, .slice none 0 0] (ρ.t 72))).heap.size = w.heap.size + 1 := by simp
  have f01 : Fr (fun _ => False) w (w.alloc (.cells #[.pointer none, .slice none 0 0] (ρ.t 72))) := ⟨rfl, rfl, rfl, by omega, fun k hk _ => hold k hk⟩
  generalize hw1' : w.alloc (.cells #[.pointer none, .slice none 0 0] (ρ.t 72)) = w1 at *
  clear hw1'
  have ha1 : ∀ k, A1 A0 w.heap.size w1 k → k < w1.heap.size := fun k hk => by
    rcases hk with hk | hk
    · have := hh.a0lt k hk; have := hh.fr.size; omega
    · exact hk.2
  have hB : Holds (A1 A0 w.heap.size w1) (GFp G) w1 nt σ a w1 G := by
    refine ⟨hh.inv.away (fun k hk _ => hold k hk) (fun k hk h => h.resolve_right fun h => ?_), hh.size, hh.defers, fun i hi => (hh.tmp i hi).keep (Nat.le_refl _) (fun k hk _ => hold k hk) (fun k hk h => h.imp (fun h => h.resolve_right fun h => ?_) id) (fun _ _ _ _ _ h => h) (fun _ _ _ _ _ h => h), hh.far,
      ⟨rfl, rfl, rfl, Nat.le_refl _, fun _ _ _ => rfl⟩, fun k hk => .inl hk, ha1⟩
    all_goals omega
  have hB' := hB.put (d := some s) (v := .undef) (u := .pointer (some ⟨w.heap.size, 0, none⟩)) (.fr _ _ (.undef _)) (fun i hi => by cases hi; exact hs)
  let Q2 : Exit → Act → World → Prop := fun e a' w' => match e with
    | .normal => ∃ σ' G', Holds (A1 A0 w.heap.size w1) (GFp G) w1 nt σ' a' w' G' ∧ (getT σ'.t s2 = av ∧ ∃ τ, TB s2 av σ'.t τ ∧ CWB P up np nt s s2 (ρ.t 72) (ρ.t 5) av (QQ .ret) mid ⟨0, τ, []⟩ [] (thenB P up np nt s s2 (ρ.t 72) (ρ.t 5) av (QQ .ret) rest fun _ _ _ => False))
    | e => Exit.then (fun a w => Code.wp P mid (Exit.then (fun a w => Code.wp P rest R a w) R) a w) (Exit.then (fun a w => Code.wp P rest R a w) R) e a' w'
  have g := h2 hd2 _ _ w1 _ w1 G Q2 (fun hu' => let ⟨a, w, h⟩ := hu hu'; ⟨a, w, h⟩) hB' (fun a' w' σ' G' k1 k2 => ⟨σ', G', k1, k2⟩)
  refine wp_seq (wp_seq (wp_mono (wp_region_list (wpList_keep hk2 (Kept.refl np2 _) (wpList_pure hp g))) fun e a' w' he => ?_))
  cases e with
  | normal =>
    obtain ⟨⟨⟨σ', G', q1, q2, τ, q3, q4⟩, q5⟩, q6⟩ := he
    have q5 := q5 rfl
    subst q5
    have q6 := q6 rfl
    have hs2' : a'.tmps[s2]? = some (a'.tmps.getD s2 undef) := by
      have : s2 < a'.tmps.size := by rw [q1.size]; exact hs2
      rw [Array.getD_eq_getD_getElem?, Array.getElem?_eq_getElem this]; rfl
    have hst : a'.tmps[s]? = some (.pointer (some ⟨w.heap.size, 0, none⟩)) := by
      rw [q6 s k3]
      show (a.tmps.setIfInBounds s _)[s]? = _
      exact Array.getElem?_setIfInBounds_self_of_lt (by rw [hh.size]; exact hs)
    have hfz : FR w' (A1 A0 w.heap.size w') av (a'.tmps.getD s2 undef) := by
      have := q1.tmp s2 hs2
      rw [q2] at this
      exact (this.pure hav).keep (fun _ _ _ => rfl) (fun k _ hk => .inl hk)
    have hbb : BB (ρ.t 72) (ρ.t 5) A0 D0 w0 w' w.heap.size [] av (a'.tmps.getD s2 undef) := ⟨.inl ⟨Nat.le_refl _, _, hnew, World.ownsRow_nil _ _ _ _, by simp [Value.ownBlock]⟩, hh.fr.size, fr_fr hh.fr f01, hh.a0lt, hfz⟩
    have hk0 : ∀ (a1 a2 : Act), Kept 0 a1 a2 := fun a1 a2 i hi => absurd hi (by show ¬ (false = true); simp)
    refine q4 A0 D0 w0 w' w.heap.size _ a' w' (fun _ => none) _ (letsOut_then hu) hbb hst hs2' (bareHolds q1 q3 hs2' hfz ⟨rfl, rfl, rfl, Nat.le_refl _, fun _ _ _ => rfl⟩ ha1) (fun a2 w2 σ2 G2 h1 h2 => hr _ _ _ _ _ h1 (hk0 _ _) h2) (fun x a2 w2 w1' σ2 G2 bs2 h1 h2 h3 h4 => ?_)
    cases x with
    | normal => exact h4 A0 D0 w0 w1' _ _ a2 w2 G2 R hu h1 ((h3 s k1).trans hst) ((h3 s2 k2).trans hs2') h2 (fun a3 w3 σ3 G3 g1 g2 => hr _ _ _ _ _ g1 (hk0 _ _) g2) (fun _ _ _ _ _ _ _ _ _ _ h => h.elim)
    | _ => exact h4.elim
  | _ => exact he.1.1
end
end Go.Ab
namespace Go.Ab
open Go Go.RowKit
section
variable {P : Program} {TT : TTab} {up : Bool} {all : Array Oper} {σ0 : St} {K : List (Nat × AV) → Option Root → Prop}
theorem Seg.strBytes {os : List Oper} {t : List (Nat × AV)} {r : Option Root} {d : Option Tmp} {ty : TypeId} {pos : String} {af : Array Edge} {gd : Option (Nat × Bool)} {s u e : Nat} {x : Operand} {i j k : TI} {b : ByteArray} (htt : TTok P TT)
    (hw : wantd all { σ0 with t := t } ⟨d, .convert s u x, ty, pos, af, gd⟩ = some true) (hs : TT s = some i) (hik : i.kind = .str) (hd : TT u = some j) (hjk : j.kind = .slice e) (he : TT e = some k) (hek : k.kind = .int .u8) (hx : ev { σ0 with t := t } x = .str b)
    (hk : Seg P up all σ0 os (putT t d (.sl 1 (strRows b))) r K) : Seg P up all σ0 (⟨d, .convert s u x, ty, pos, af, gd⟩ :: os) t r K := by
  refine ⟨t, .sl 1 (strRows b), none, fun _ => rfl, ⟨fun _ => rfl, ?_⟩, .inl rfl, hk⟩
  intro σ' hl hxt hn
  refine .inl ⟨by rw [wantd_congr (τ := { σ0 with t := t }) hl]; exact hw, ?_⟩
  have hev : ∀ y ∈ (Op.convert s u x).operands, ev σ' y = ev { σ0 with t := t } y := fun y hy => looks_ops (τ := { σ0 with t := t }) hl hy
  exact Snd.up (snd_strBytes rfl htt hs hik hd hjk he hek (by rw [hev x (by simp [Op.operands])]; exact hx) rfl)
theorem Seg.conv {os : List Oper} {t : List (Nat × AV)} {r : Option Root} {d : Option Tmp} {ty : TypeId} {pos : String} {af : Array Edge} {gd : Option (Nat × Bool)} {s u : Nat} {x : Operand} {i j : TI} {k k' : IntKind} {n : Int} (htt : TTok P TT)
    (hw : wantd all { σ0 with t := t } ⟨d, .convert s u x, ty, pos, af, gd⟩ = some true) (hs : TT s = some i) (hik : i.kind = .int k) (hd : TT u = some j) (hjk : j.kind = .int k') (hx : ev { σ0 with t := t } x = .int k n)
    (hk : Seg P up all σ0 os (putT t d (.int k' (k'.wrap n))) r K) : Seg P up all σ0 (⟨d, .convert s u x, ty, pos, af, gd⟩ :: os) t r K := by
  refine ⟨t, .int k' (k'.wrap n), none, fun _ => rfl, ⟨fun _ => rfl, ?_⟩, .inl rfl, hk⟩
  intro σ' hl hxt hn
  refine .inl ⟨by rw [wantd_congr (τ := { σ0 with t := t }) hl]; exact hw, ?_⟩
  have hev : ∀ y ∈ (Op.convert s u x).operands, ev σ' y = ev { σ0 with t := t } y := fun y hy => looks_ops (τ := { σ0 with t := t }) hl hy
  exact Snd.up (snd_conv rfl htt hs hik hd hjk (by rw [hev x (by simp [Op.operands])]; exact hx) rfl)
end
end Go.Ab
namespace Go.Ab
open Go Go.RowKit
def addE (y x : Nat) : List Oper → List Oper
  | [] => []
  | o :: os => match y with
    | 0 => { o with after := o.after.push ⟨x, .data⟩ } :: os
    | y + 1 => o :: addE y x os
theorem addE_zero (x : Nat) (d : Option Tmp) (op : Op) (ty : TypeId) (pos : String) (af : Array Edge) (gd : Option (Nat × Bool)) (os : List Oper) : addE 0 x (⟨d, op, ty, pos, af, gd⟩ :: os) = ⟨d, op, ty, pos, af.push ⟨x, .data⟩, gd⟩ :: os := rfl
theorem addE_succ (y x : Nat) (o : Oper) (os : List Oper) : addE (y + 1) x (o :: os) = o :: addE y x os := rfl
theorem addE_get : ∀ (y x : Nat) (os : List Oper) (i : Nat), (addE y x os)[i]? = (os[i]?).map fun o => if i = y then { o with after := o.after.push ⟨x, .data⟩ } else o
  | y, x, [], i => by simp [addE]
  | 0, x, o :: os, 0 => by simp [addE]
  | 0, x, o :: os, i + 1 => by
    simp only [addE, List.getElem?_cons_succ]
    cases os[i]? <;> simp
  | y + 1, x, o :: os, 0 => by simp [addE]
  | y + 1, x, o :: os, i + 1 => by
    simp only [addE, List.getElem?_cons_succ, addE_get y x os i, Nat.add_right_cancel_iff]
theorem addE_len (y x : Nat) (os : List Oper) : (addE y x os).length = os.length := by
  have : ∀ i, (addE y x os)[i]?.isSome = os[i]?.isSome := fun i => by rw [addE_get, Option.isSome_map]
  rcases Nat.lt_trichotomy (addE y x os).length os.length with h | h | h
  · have h1 := this (addE y x os).length
    rw [List.getElem?_eq_none (Nat.le_refl _), List.getElem?_eq_getElem h] at h1
    cases h1
  · exact h
  · have h1 := this os.length
    rw [List.getElem?_eq_none (Nat.le_refl os.length), List.getElem?_eq_getElem h] at h1
    cases h1
def Valid (ops : Array Oper) : Array Bool → List Nat → Prop
  | listed, [] => Region.ready .any ops listed = []
  | listed, i :: r => i ∈ Region.ready .any ops listed ∧ Valid ops (listed.setIfInBounds i true) r
def before (x y : Nat) : List Nat → Prop
  | [] => True
  | i :: r => if i = x then True else if i = y then False else before x y r
theorem before_or (x y : Nat) (hne : x ≠ y) : ∀ is, before x y is ∨ before y x is
  | [] => .inl trivial
  | i :: r => by
    simp only [before]
    by_cases h1 : i = x
    · rw [if_pos h1]; exact .inl trivial
    · by_cases h2 : i = y
      · exact .inr (by rw [if_pos h2]; trivial)
      · rw [if_neg h1, if_neg h2, if_neg h2, if_neg h1]; exact before_or x y hne r
section
variable {P : Program} {ops : Array Oper} {Q : Exit → Act → World → Prop}
theorem valid_lin : ∀ (fuel t : Nat) (listed : Array Bool), listed.size = ops.size → unl ops.size listed = fuel → Valid ops listed (Region.linearise.go .any ops fuel t listed [])
  | 0, t, listed, hs, hu => by
    simp only [Region.linearise.go, List.reverse_nil, Valid]
    refine List.eq_nil_iff_forall_not_mem.2 fun i hi => ?_
    obtain ⟨h1, o, h2, _⟩ := ready_spec.1 hi
    have := unl_zero hu (Array.getElem?_eq_some_iff.1 h2).1
    rw [this] at h1; cases h1
  | fuel + 1, t, listed, hs, hu => by
    simp only [Region.linearise.go]
    change Valid ops listed (match (Region.ready .any ops listed)[t % (Region.ready .any ops listed).length]? with
      | some i => Region.linearise.go .any ops fuel (t / (Region.ready .any ops listed).length) (listed.setIfInBounds i true) [i]
      | none => [].reverse)
    cases hi : (Region.ready .any ops listed)[t % (Region.ready .any ops listed).length]? with
    | none =>
      simp only [List.reverse_nil, Valid]
      cases hr : Region.ready .any ops listed with
      | nil => rfl
      | cons a b =>
        rw [hr] at hi
        have hlt : t % (a :: b).length < (a :: b).length := Nat.mod_lt _ (by simp)
        rw [List.getElem?_eq_getElem hlt] at hi; cases hi
    | some i =>
      simp only []
      rw [linearise_go_acc, List.reverse_singleton, List.singleton_append]
      have hm := List.mem_of_getElem? hi
      obtain ⟨h1, o, h2, _⟩ := ready_spec.1 hm
      refine ⟨hm, valid_lin fuel _ _ (by simpa using hs) ?_⟩
      have := unl_set (Array.getElem?_eq_some_iff.1 h2).1 hs h1
      omega
theorem wpAny_valid : ∀ (is : List Nat) (fuel : Nat) (listed : Array Bool) (a : Act) (w : World), wpAny P .any ops Q fuel listed a w → Valid ops listed is → wpOps P ops Q is a w
  | [], 0, listed, a, w, h, _ => h.2
  | [], fuel + 1, listed, a, w, h, hv => h.1 hv
  | i :: r, 0, listed, a, w, h, hv => by have := hv.1; rw [h.1] at this; cases this
  | i :: r, fuel + 1, listed, a, w, h, hv => by
    rw [wpOps_cons]
    exact wpOp_mono (fun a w hk => wpAny_valid r fuel _ a w hk hv.2) (h.2 i hv.1)
theorem valid_addE {x y : Nat} (hne : x ≠ y) (hy : ∀ o, ops[y]? = some o → True) : ∀ (is : List Nat) (listed : Array Bool), (listed.getD x false = true ∨ before x y is) → listed.size = ops.size → x < ops.size → Valid ops listed is → Valid (addE y x ops.toList).toArray listed is
  | [], listed, hc, hs, hx, hv => by
    refine List.eq_nil_iff_forall_not_mem.2 fun i hi => ?_
    obtain ⟨h1, o, h2, h3⟩ := ready_spec.1 hi
    rw [List.getElem?_toArray, addE_get, Option.map_eq_some_iff] at h2
    obtain ⟨o0, h4, h5⟩ := h2
    have : i ∈ Region.ready .any ops listed := ready_spec.2 ⟨h1, o0, by rw [← Array.getElem?_toList]; exact h4, fun j hj => h3 j ?_⟩
    · have hv : Region.ready .any ops listed = [] := hv
      rw [hv] at this; cases this
    · rw [← h5]
      split
      · obtain ⟨e, he, hb, rfl⟩ := mem_bnd.1 hj
        exact mem_bnd.2 ⟨e, Array.mem_push_of_mem _ he, hb, rfl⟩
      · exact hj
  | i :: r, listed, hc, hs, hx, hv => by
    obtain ⟨hv1, hv2⟩ := hv
    obtain ⟨h1, o, h2, h3⟩ := ready_spec.1 hv1
    refine ⟨ready_spec.2 ⟨h1, _, by rw [List.getElem?_toArray, addE_get, Array.getElem?_toList, h2]; rfl, fun j hj => ?_⟩, valid_addE hne hy r _ ?_ (by simpa using hs) hx hv2⟩
    · split at hj
      · rename_i e
        obtain ⟨ed, he, hb, rfl⟩ := mem_bnd.1 hj
        rcases Array.mem_push.1 he with he | rfl
        · exact h3 _ (mem_bnd.2 ⟨ed, he, hb, rfl⟩)
        · show listed.getD x false = true
          rcases hc with hc | hc
          · exact hc
          · simp only [before] at hc
            rw [if_neg (fun h => hne (h.symm.trans e)), if_pos e] at hc
            exact hc.elim
      · exact h3 j hj
    · by_cases hix : i = x
      · left; subst hix
        rw [Array.getD_eq_getD_getElem?, Array.getElem?_setIfInBounds_self_of_lt (by rw [hs]; exact hx)]; rfl
      · rcases hc with hc | hc
        · left; rw [getD_set_ne false hix]; exact hc
        · simp only [before] at hc
          rw [if_neg hix] at hc
          split at hc
          · exact hc.elim
          · exact .inr hc
theorem wpOps_addE {x y : Nat} (hg : ∀ o ∈ ops.toList, o.guard = none) : ∀ (is : List Nat) (a : Act) (w : World), wpOps P (addE y x ops.toList).toArray Q is a w → wpOps P ops Q is a w
  | [], a, w, h => h
  | i :: r, a, w, h => by
    simp only [wpOps] at h ⊢
    rw [List.getElem?_toArray, addE_get, Array.getElem?_toList] at h
    cases ho : ops[i]? with
    | none => rw [ho] at h; simp only [Option.map_none] at h ⊢; exact wpOps_addE hg r a w h
    | some o =>
      rw [ho] at h
      simp only [Option.map_some] at h ⊢
      have g := hg o (Array.mem_toList_iff.2 (Array.mem_of_getElem? ho))
      have key : ∀ o1 : Oper, o1 = (if i = y then { o with after := o.after.push ⟨x, .data⟩ } else o) → (∀ a w K, o1.wp P a w K Q = o.wp P a w K Q) ∧ (o1.asks P a w = o.asks P a w) ∧ o1.guard = none := fun o1 h => by
        subst h; split
        · exact ⟨fun _ _ _ => rfl, rfl, g⟩
        · exact ⟨fun _ _ _ => rfl, rfl, g⟩
      obtain ⟨q1, q2, q3⟩ := key _ rfl
      simp only [Region.wanted, q3, if_true] at h
      simp only [Region.wanted, g, if_true]
      rw [q1, q2] at h
      exact h.imp (Oper.wp_mono fun a w => wpOps_addE hg r a w) id
end
end Go.Ab
namespace Go.Ab
open Go Go.RowKit
def AnyOK (P : Program) (up : Bool) (nt : Nat) (ops : Array Oper) (σ : St) (K : St → Prop) : Prop :=
  ∀ (A0 D0 : Nat → Prop) (w0 : World) (a : Act) (w : World) (G : Nat → Option GR) (Q : Exit → Act → World → Prop), (up = true → LetsOut Q) → Holds A0 D0 w0 nt σ a w G → (∀ a w σ' G', Holds A0 D0 w0 nt σ' a w G' → K σ' → Q .normal a w) →
    wpAny P .any ops Q ops.size (Array.replicate ops.size false) a { w with drawn := w.drawn + 1 }
section
variable {P : Program} {TT : TTab} {up : Bool} {np nt : Nat} {σ : St} {K : St → Prop} {Q : Exit → St → Prop}
theorem unl_all (n : Nat) : unl n (Array.replicate n false) = n := by
  unfold unl
  have : ((List.range n).filter fun i => !(Array.replicate n false).getD i true) = List.range n := by
    rw [List.filter_eq_self]
    intro i hi
    have hi := List.mem_range.1 hi
    rw [Array.getD_eq_getD_getElem?, Array.getElem?_replicate, if_pos hi]
    rfl
  rw [this, List.length_range]
theorem CW.either (hm : P.follows .mixedOrders = true) (x y : Nat) {id : Nat} {ops : Array Oper} (hne : x ≠ y) (hx : x < ops.size) (hy : y < ops.size) (hg : ops.toList.all (fun o => o.guard.isNone) = true) (hkd : keepDst np ops.toList = true)
    (h1 : AnyOK P up nt (addE y x ops.toList).toArray σ (Q .normal)) (h2 : AnyOK P up nt (addE x y ops.toList).toArray σ (Q .normal)) : CW P up np nt (.region id ops true) σ Q := by
  intro A0 D0 w0 a w G R hu hh hr
  let Q1 : Exit → Act → World → Prop := fun e a' w' => match e with
    | .normal => ∃ σ' G', Holds A0 D0 w0 nt σ' a' w' G' ∧ Q .normal σ'
    | e => R e a' w'
  have hu1 : up = true → LetsOut (KeepQ np a Q1) := fun hu' => let ⟨a, w, h⟩ := hu hu'; letsOut_keep ⟨a, w, h⟩
  have hg' : ∀ o ∈ ops.toList, o.guard = none := fun o ho => by
    have := List.all_eq_true.1 hg o ho
    simpa using this
  suffices hs : (Code.region id ops true).wp P (KeepQ np a Q1) a w by
    refine wp_mono hs fun e a' w' he => ?_
    cases e with
    | normal => obtain ⟨⟨σ', G', g1, g2⟩, g3⟩ := he; exact hr _ a' w' σ' G' g1 (g3 rfl) g2
    | _ => exact he.1
  refine wp_region_draw fun t => ?_
  simp only [Region.schedule, hm, Bool.true_or, if_true]
  have hv := valid_lin (ops := ops) ops.size t (Array.replicate ops.size false) (by simp) (unl_all _)
  have hQ1 : up = true → LetsOut Q1 := fun hu' => let ⟨a, w, h⟩ := hu hu'; ⟨a, w, h⟩
  have go : ∀ (x y : Nat), x ≠ y → x < ops.size → before x y (Region.linearise .any ops t) → AnyOK P up nt (addE y x ops.toList).toArray σ (Q .normal) → wpOps P ops (KeepQ np a Q1) (Region.linearise .any ops t) a { w with drawn := w.drawn + 1 } := by
    intro x y hne hx hb h
    have hsz : (addE y x ops.toList).toArray.size = ops.size := by simp [addE_len]
    have hkd' : keepDst np (addE y x ops.toList).toArray.toList = true := by
      refine keepDst_of fun o ho d hd => ?_
      obtain ⟨i, hi⟩ := List.getElem?_of_mem ho
      rw [List.toList_toArray, addE_get, Option.map_eq_some_iff] at hi
      obtain ⟨o0, h1, h2⟩ := hi
      refine keepDst_mem hkd o0 (List.mem_of_getElem? h1) d ?_
      rw [← hd, ← h2]; split <;> rfl
    have hw := wpAny_keep (a0 := a) hkd' _ _ _ _ (Kept.refl np a) (h A0 D0 w0 a w G Q1 hQ1 hh fun a' w' σ' G' k1 k2 => ⟨σ', G', k1, k2⟩)
    rw [hsz] at hw
    exact wpOps_addE hg' _ _ _ (wpAny_valid _ _ _ _ _ hw (valid_addE hne (fun _ _ => trivial) _ _ (.inr hb) (by simp) hx hv))
  rcases before_or x y hne (Region.linearise .any ops t) with hb | hb
  · exact go x y hne hx hb h1
  · exact go y x hne.symm hy hb h2
end
section
variable {P : Program} {up : Bool} {all : Array Oper} {σ0 : St}
theorem stab_callA {t : List (Nat × AV)} {d : Option Tmp} {ty : TypeId} {pos : String} {af : Array Edge} {gd : Option (Nat × Bool)} {x : Operand} {xs : Array Operand} {ts : Array TypeId} {f : FuncId} {first caps args : List AV} {v : AV}
    (hp : PCall P up f args (· = v)) (hw : wantd all { σ0 with t := t } ⟨d, .call ⟨.value x, xs, ts⟩, ty, pos, af, gd⟩ = some true) (hx : ev { σ0 with t := t } x = .func (.func f) first caps)
    (ha : leL args (callL { σ0 with t := t } first xs.toList caps)) (hpu : pureL (callL { σ0 with t := t } first xs.toList caps) = true) : Stab P up all ⟨d, .call ⟨.value x, xs, ts⟩, ty, pos, af, gd⟩ t σ0 v none := by
  refine ⟨fun _ => rfl, ?_⟩
  intro σ' hl he hn
  refine .inl ⟨by rw [wantd_congr (τ := { σ0 with t := t }) hl]; exact hw, ?_⟩
  have hev : ∀ y ∈ (Op.call ⟨.value x, xs, ts⟩).operands, ev σ' y = ev { σ0 with t := t } y := fun y hy => looks_ops (τ := { σ0 with t := t }) hl hy
  have hc : callL σ' first xs.toList caps = callL { σ0 with t := t } first xs.toList caps := callL_ev fun y hy => hev y (by simp [Op.operands, Call.operands]; right; simpa using hy)
  have hx' : ev σ' x = .func (.func f) first caps := by rw [hev x (by simp [Op.operands, Call.operands])]; exact hx
  exact snd_pcallA rfl hx' hp (by rw [hc]; exact ha) (by rw [hc]; exact hpu) (fun r hr => by subst hr; rfl)
end
section
variable {P : Program} {TT : TTab} {up : Bool} {all : Array Oper} {D : List Nat} {fl : List Oper} {K : St → Prop}
theorem Mid.esto (htt : TTok P TT) (D' : List Nat) {ty : TypeId} {pos : String} {af : Array Edge} {op : Op} {os : List Oper} {n : Nat} {t : List (Nat × AV)} {s s2 : List (Nat × Root)} (hf : Flo P up all fl ⟨n, t, s⟩)
    (hD : (D.all fun x => memB x D' || memB x ((⟨none, op, ty, pos, af, none⟩ : Oper).looksAt all)) = true) (hD2 : (D'.all fun x => memB x D) = true)
    (he : ∀ u : Nat → AV, Go.Ab.eop TT ⟨n, ovr D' u t, s⟩ none op = some ⟨⟨n, ovr D' u t, s2⟩, .undef, True⟩) (hk : Mid P up all D fl os ⟨n, t, s2⟩ K) : Mid P up all D fl (⟨none, op, ty, pos, af, none⟩ :: os) ⟨n, t, s⟩ K := by
  have hDD : ∀ x ∈ D', x ∈ D := fun x hx => memB_iff.1 (List.all_eq_true.1 hD2 x hx)
  refine ⟨hf, _, stepF_all htt rfl hDD (fun x hx => ?_) (fun _ _ => rfl) (fun u => ⟨_, he u, trivial, rfl, fun _ => ovr_get, rfl⟩), hk⟩
  have := List.all_eq_true.1 hD x hx
  simp only [Bool.or_eq_true] at this
  exact this.imp memB_iff.1 memB_iff.1
end
end Go.Ab
namespace Go.Ab
open Go Go.RowKit
def fltOK0 (Fl : List Nat) : Nat → List Oper → Bool
  | _, [] => true
  | i, o :: os => (!memB i Fl || o.dst.isSome) && fltOK0 Fl (i + 1) os
def segChkF0 (k m : Nat) (Fl : List Nat) (ops : Array Oper) : Bool :=
  (((edgesDown 0 ops.toList && segOK ops (ops.toList.take k) (ops.toList.take k)) && (midOK ops.toList Fl k ((ops.toList.drop k).take (m - k)) && tailOK ops.toList m (ops.toList.drop m))) && (fltOK0 Fl 0 ops.toList && Fl.all fun i => Nat.blt i k)) && lookOK ops (ops.toList.take k) ((ops.toList.drop k).take (m - k))
theorem fltOK_spec0 {Fl : List Nat} : ∀ {k : Nat} {os : List Oper}, fltOK0 Fl k os = true → ∀ i o, os[i]? = some o → k + i ∈ Fl → o.dst.isSome = true
  | k, [], _, i, o, hi, _ => by simp at hi
  | k, o :: os, h, i, o', hi, hf => by
    simp only [fltOK0, Bool.and_eq_true] at h
    cases i with
    | zero =>
      simp at hi; subst hi
      have := h.1
      rw [memB_iff.2 (show k ∈ Fl by simpa using hf)] at this
      simpa using this
    | succ i => exact fltOK_spec0 h.2 i o' (by simpa using hi) (by rw [show k + 1 + i = k + (i + 1) by omega]; exact hf)
section
variable {P : Program} {up : Bool} {nt : Nat} {ops : Array Oper} {Q : Exit → Act → World → Prop}
theorem any_mid0 {A0 D0 : Nat → Prop} {w0 : World} {k m : Nat} {Fl : List Nat} (hkm : k ≤ m) (hms : m ≤ ops.size) (hchk : segChkF0 k m Fl ops = true) (hd : okDst nt ops.toList = true) (hu : up = true → LetsOut Q) :
    ∀ (fuel j : Nat) (listed : Array Bool) (a : Act) (w : World) (σ σ' : St) (G : Nat → Option GR) (R : Nat → Prop), listed.size = ops.size → unl ops.size listed = fuel → k ≤ j → j ≤ m → Closed ops listed → (∀ i, R i → i ∈ Fl) →
      (∀ i, i < ops.size → (listed.getD i false = true ↔ i < j ∧ ¬ R i)) → Mid P up ops (dstsF ops Fl) (opsF ops Fl) ((ops.toList.drop j).take (m - j)) σ (fun σ => ∀ a w G, Holds A0 D0 w0 nt σ a w G → wpList P ops Q (ops.toList.drop m) a w) →
      σ'.n = σ.n → (∀ y, getS σ'.s y = getS σ.s y) → (∀ x, (∀ i o, R i → ops[i]? = some o → o.dst ≠ some x) → getT σ'.t x = getT σ.t x) → Holds A0 D0 w0 nt σ' a w G → wpAny P .any ops Q fuel listed a w := by
  simp only [segChkF0, Bool.and_eq_true] at hchk
  obtain ⟨⟨⟨⟨hdown, hseg⟩, hmid, htail⟩, hflt, hlt⟩, hlook⟩ := hchk
  have hFl : ∀ i ∈ Fl, i < k := fun i hi => Nat.blt_eq.mp (List.all_eq_true.1 hlt i hi)
  have hsegs := segOK_spec hseg
  have hget : ∀ {i : Nat} {o : Oper}, i < k → ops[i]? = some o → (ops.toList.take k)[i]? = some o := fun {i o} hi ho => by rw [List.getElem?_take, if_pos hi, Array.getElem?_toList]; exact ho
  intro fuel
  have fin : ∀ {fuel j : Nat} {listed : Array Bool} {a : Act} {w : World} {σ σ' : St} {G : Nat → Option GR} {R : Nat → Prop}, listed.size = ops.size → unl ops.size listed = fuel → j = m → (∀ i, ¬ R i) →
      (∀ i, i < ops.size → (listed.getD i false = true ↔ i < j ∧ ¬ R i)) → Mid P up ops (dstsF ops Fl) (opsF ops Fl) ((ops.toList.drop j).take (m - j)) σ (fun σ => ∀ a w G, Holds A0 D0 w0 nt σ a w G → wpList P ops Q (ops.toList.drop m) a w) →
      σ'.n = σ.n → (∀ y, getS σ'.s y = getS σ.s y) → (∀ x, (∀ i o, R i → ops[i]? = some o → o.dst ≠ some x) → getT σ'.t x = getT σ.t x) → Holds A0 D0 w0 nt σ' a w G → wpAny P .any ops Q fuel listed a w := by
    intro fuel j listed a w σ σ' G R hs hun hj hR hl hM h1 h2 h3 hh
    subst hj
    rw [Nat.sub_self, List.take_zero] at hM
    exact any_tail hdown htail fuel j listed a w hs hun (Nat.le_refl _) (fun i hi => by rw [hl i hi]; exact ⟨fun h => h.1, fun h => ⟨h, hR i⟩⟩)
      (hM.2 a w G (hh.ext h1.symm (fun x => (h3 x fun i o hi _ => absurd hi (hR i)).symm) (fun y => (h2 y).symm)))
  induction fuel with
  | zero =>
    intro j listed a w σ σ' G R hs hun hkj hjm hc hRF hl hM h1 h2 h3 hh
    have hall : ∀ i, i < ops.size → listed.getD i false = true := fun i hi => by rw [← getD_tf (by rw [hs]; exact hi)]; exact unl_zero hun hi
    have hj : j = m := by
      rcases Nat.lt_or_ge j m with h | h
      · have := ((hl j (by omega)).1 (hall j (by omega))).1; omega
      · omega
    exact fin hs hun hj (fun i hi => by
      have hik := hFl i (hRF i hi)
      exact ((hl i (by omega)).1 (hall i (by omega))).2 hi) hl hM h1 h2 h3 hh
  | succ fuel ih =>
    intro j listed a w σ σ' G R hs hun hkj hjm hc hRF hl hM h1 h2 h3 hh
    by_cases hend : j = m ∧ ∀ i, ¬ R i
    · exact fin hs hun hend.1 hend.2 hl hM h1 h2 h3 hh
    have hne : ∃ i, i ∈ Region.ready .any ops listed := by
      by_cases hR : ∃ i, i < k ∧ ¬ ¬ R i
      · obtain ⟨i0, h01, h02, h03⟩ := least_not (n := k) (p := fun i => ¬ R i) hR
        have h02 : R i0 := Classical.byContradiction h02
        refine ⟨i0, ready_spec.2 ⟨?_, ops[i0], Array.getElem?_eq_getElem (by omega), fun x hx => ?_⟩⟩
        · rw [getD_tf (by rw [hs]; omega)]
          cases hcc : listed.getD i0 false with
          | false => rfl
          | true => exact absurd h02 ((hl i0 (by omega)).1 hcc).2
        · have := edgesDown_spec hdown i0 ops[i0] (by rw [Array.getElem?_toList]; exact Array.getElem?_eq_getElem (by omega)) x hx
          exact (hl x (by omega)).2 ⟨by omega, h03 x (by omega)⟩
      · have hR' : ∀ i, ¬ R i := fun i hi => hR ⟨i, hFl i (hRF i hi), fun h => h hi⟩
        have hjlt : j < m := by
          rcases Nat.lt_or_ge j m with h | h
          · exact h
          · exact absurd ⟨by omega, hR'⟩ hend
        refine ⟨j, ready_spec.2 ⟨?_, ops[j], Array.getElem?_eq_getElem (by omega), fun x hx => ?_⟩⟩
        · rw [getD_tf (by rw [hs]; omega)]
          cases hcc : listed.getD j false with
          | false => rfl
          | true => have := ((hl j (by omega)).1 hcc).1; omega
        · have := edgesDown_spec hdown j ops[j] (by rw [Array.getElem?_toList]; exact Array.getElem?_eq_getElem (by omega)) x hx
          exact (hl x (by omega)).2 ⟨by omega, hR' x⟩
    refine ⟨fun h0 => (by obtain ⟨i, hi⟩ := hne; rw [h0] at hi; cases hi), fun i hi => ?_⟩
    obtain ⟨hi1, o, hi2, hi3⟩ := ready_spec.1 hi
    have hisz := (Array.getElem?_eq_some_iff.1 hi2).1
    have hun1 : listed.getD i false = false := by rw [← getD_tf (by rw [hs]; exact hisz)]; exact hi1
    have hset : ∀ x, (listed.setIfInBounds i true).getD x false = true ↔ x = i ∨ listed.getD x false = true := by
      intro x
      by_cases hix : i = x
      · subst hix
        rw [Array.getD_eq_getD_getElem?, Array.getElem?_setIfInBounds_self_of_lt (by rw [hs]; exact hisz)]
        simp
      · rw [getD_set_ne false hix]
        exact ⟨.inr, fun h => h.resolve_left (Ne.symm hix)⟩
    have hu' := unl_set hisz hs hi1
    by_cases hRi : R i
    · -- one that may stand behind
      have hik := hFl i (hRF i hRi)
      have hds := fltOK_spec0 hflt i o (by rw [Array.getElem?_toList]; exact hi2) (by rw [Nat.zero_add]; exact hRF i hRi)
      obtain ⟨d, hdd⟩ := Option.isSome_iff_exists.1 hds
      have hfl : o ∈ opsF ops Fl := by
        unfold opsF; rw [List.mem_filterMap]
        exact ⟨i, hRF i hRi, by rw [Array.getElem?_toList]; exact hi2⟩
      have hst := hM.flo o hfl d hdd
      have hnext : ∀ (a : Act) (w : World) (G : Nat → Option GR), Holds A0 D0 w0 nt (σ'.put o.dst (getT σ.t d)) a w G → wpAny P .any ops Q fuel (listed.setIfInBounds i true) a w := by
        intro a w G hh'
        refine ih j _ a w σ _ G (fun x => R x ∧ x ≠ i) (by simpa using hs) (by omega) hkj hjm (closed_set hc hi) (fun x hx => hRF x hx.1) (fun x hx => ?_) hM (by rw [put_ns.1]; exact h1) (fun y => by rw [put_ns.2]; exact h2 y) (fun x hx => ?_) hh'
        · rw [hset x, hl x hx]
          constructor
          · rintro (rfl | ⟨q1, q2⟩)
            · exact ⟨by omega, fun h => h.2 rfl⟩
            · exact ⟨q1, fun h => q2 h.1⟩
          · rintro ⟨q1, q2⟩
            by_cases hxi : x = i
            · exact .inl hxi
            · exact .inr ⟨q1, fun h => q2 ⟨h, hxi⟩⟩
        · rw [put_t]
          by_cases hxd : o.dst = some x
          · rw [if_pos hxd]
            rw [hdd] at hxd; cases hxd; rfl
          · rw [if_neg hxd]
            refine h3 x fun g o' hg hgo => ?_
            by_cases hgi : g = i
            · subst hgi; rw [hi2] at hgo; cases hgo; exact hxd
            · exact hx g o' ⟨hg, hgi⟩ hgo
      unfold wpOp
      rw [hi2]
      simp only
      have hlk : ∀ x ∈ o.looksAt ops, getT σ'.t x = getT σ.t x := by
        refine fun x hx => h3 x fun g o' hg hgo hgd => ?_
        have hgk := hFl g (hRF g hg)
        have hgb := (hsegs o (List.mem_of_getElem? (hget hik hi2))).2 x hx g (mem_writers.2 ⟨o', by simpa using hget hgk hgo, Nat.zero_le _, hgd⟩)
        exact ((hl g (by omega)).1 (hi3 g hgb)).2 hg
      rcases hst.2 σ' hlk ⟨fun y r hy => by rw [h2 y]; exact hy, by omega⟩ (by simp) with ⟨hw, hsnd⟩ | ⟨hw, hv1, hv2⟩
      · rw [if_pos (wantd_spec hh hw)]
        refine (hsnd A0 D0 w0 nt a w G Q (dst_lt hd i o hi2) hu hh).imp (Oper.wp_mono fun a w ⟨σ'', G', g1, g2⟩ => ?_) id
        subst g2
        exact hnext a w G' g1
      · rw [if_neg (by rw [wantd_spec hh hw]; simp)]
        refine hnext _ w G ?_
        rw [hv1]
        exact hh.put (.fr _ _ (.tup [] [] rfl (fun i a h => by simp at h))) (dst_lt hd i o hi2)
    · -- one of the middle
      have hij : j ≤ i := by
        rcases Nat.lt_or_ge i j with h | h
        · have := (hl i hisz).2 ⟨h, hRi⟩; rw [hun1] at this; cases this
        · exact h
      have hjF : j ∉ Fl := fun h => by have := hFl j h; omega
      have hnj : ¬ listed.getD j false = true := fun h => by
        rcases Nat.lt_or_ge j ops.size with hlt | hge
        · have := ((hl j hlt).1 h).1; omega
        · rw [Array.getD_eq_getD_getElem?, Array.getElem?_eq_none (by rw [hs]; exact hge)] at h; cases h
      have him : i = j ∧ j < m := by
        rcases Nat.lt_or_ge i m with him | him
        · have hn := midOK_spec hmid (i - k) o (by rw [List.getElem?_take, if_pos (by omega), List.getElem?_drop, show k + (i - k) = i by omega, Array.getElem?_toList]; exact hi2)
          rw [show k + (i - k) = i by omega] at hn
          rcases Nat.lt_or_ge j i with hlt | hge
          · exact absurd (needsBut_spec hc i _ hi3 hn j hlt hjF) hnj
          · exact ⟨by omega, by omega⟩
        · exfalso
          have hn := tailOK_spec htail (i - m) o (by rw [List.getElem?_drop, show m + (i - m) = i by omega, Array.getElem?_toList]; exact hi2)
          rw [show m + (i - m) = i by omega] at hn
          have hal := needsAll_spec hc i _ hi3 hn
          rcases Nat.lt_or_ge j i with hlt | hge
          · exact hnj (hal j hlt)
          · refine hend ⟨by omega, fun x hx => ?_⟩
            have := hFl x (hRF x hx)
            exact ((hl x (by omega)).1 (hal x (by omega))).2 hx
      obtain ⟨rfl, hjm'⟩ := him
      have hdrop : (ops.toList.drop i).take (m - i) = o :: (ops.toList.drop (i + 1)).take (m - (i + 1)) := by
        have : ops.toList[i]? = some o := by rw [Array.getElem?_toList]; exact hi2
        obtain ⟨hlt, he⟩ := List.getElem?_eq_some_iff.1 this
        rw [List.drop_eq_getElem_cons hlt, he, show m - i = (m - (i + 1)) + 1 by omega, List.take_succ_cons]
      rw [hdrop] at hM
      obtain ⟨hflo, σ2, ⟨hs1, hs2⟩, hM2⟩ := hM
      have hD : ∀ x, x ∉ dstsF ops Fl → ∀ g o', R g → ops[g]? = some o' → o'.dst ≠ some x := fun x hx g o' hg hgo hgd => hx (by
        unfold dstsF; rw [List.mem_filterMap]
        refine ⟨g, hRF g hg, ?_⟩
        rw [Array.getElem?_toList, hgo]; exact hgd)
      have hmem : o ∈ (ops.toList.drop k).take (m - k) := by
        refine List.mem_of_getElem? (i := i - k) ?_
        rw [List.getElem?_take, if_pos (by omega), List.getElem?_drop, show k + (i - k) = i by omega, Array.getElem?_toList]
        exact hi2
      have hlk : ∀ x ∈ o.looksAt ops, getT σ'.t x = getT σ.t x := by
        refine fun x hx => h3 x fun g o' hg hgo hgd => ?_
        have hgk := hFl g (hRF g hg)
        have hgb := lookOK_spec hlook o hmem x hx g (mem_writers.2 ⟨o', by simpa using hget hgk hgo, Nat.zero_le _, hgd⟩)
        exact ((hl g (by omega)).1 (hi3 g hgb)).2 hg
      obtain ⟨hw, hsnd⟩ := hs2 σ' ⟨h1, h2, fun x hx => h3 x (hD x hx)⟩ hlk
      unfold wpOp
      rw [hi2]
      simp only
      rw [if_pos (wantd_spec hh hw)]
      refine (hsnd A0 D0 w0 nt a w G Q (dst_lt hd i o hi2) hu hh).imp (Oper.wp_mono fun a w ⟨σ'', G', g1, ⟨q1, q2, q3⟩, q4⟩ => ?_) id
      refine ih (i + 1) _ a w σ2 σ'' G' R (by simpa using hs) (by omega) (by omega) hjm' (closed_set hc hi) hRF (fun x hx => ?_) hM2 q1 q2 (fun x hx => ?_) g1
      · rw [hset x, hl x hx]
        constructor
        · rintro (rfl | ⟨p1, p2⟩)
          · exact ⟨by omega, hRi⟩
          · exact ⟨by omega, p2⟩
        · rintro ⟨p1, p2⟩
          by_cases hxi : x = i
          · exact .inl hxi
          · exact .inr ⟨by omega, p2⟩
      · by_cases hxD : x ∈ dstsF ops Fl
        · rw [q4 x hxD, h3 x hx, hs1 x hxD]
        · exact q3 x hxD
end
section
variable {P : Program} {up : Bool} {nt : Nat} {ops : Array Oper} {Q : Exit → Act → World → Prop} {σ : St} {te : List (Nat × AV)} {re : Option Root} {val : Nat → AV × Option Root} {tt : Nat → List (Nat × AV)}
theorem any_segF0 {A0 D0 : Nat → Prop} {w0 : World} {k m : Nat} {Fl : List Nat} (hkm : k ≤ m) (hms : m ≤ ops.size) (hchk : segChkF0 k m Fl ops = true) (hd : okDst nt ops.toList = true) (hu : up = true → LetsOut Q) (hlt : ∀ y, (getS σ.s y).isSome = true → y < σ.n)
    (hre : re = none) (hv : SegV P up ops σ (ops.toList.take k) σ.t none te re val tt)
    (hM : Mid P up ops (dstsF ops Fl) (opsF ops Fl) ((ops.toList.drop k).take (m - k)) (endSt σ te re) (fun σ => ∀ a w G, Holds A0 D0 w0 nt σ a w G → wpList P ops Q (ops.toList.drop m) a w)) :
    ∀ (fuel : Nat) (listed : Array Bool) (a : Act) (w : World) (σ' : St) (G : Nat → Option GR), listed.size = ops.size → unl ops.size listed = fuel → (∀ i, listed.getD i false = true → i < k) → Closed ops listed →
      Agree (ops.toList.take k) σ val listed σ' → Holds A0 D0 w0 nt σ' a w G → wpAny P .any ops Q fuel listed a w := by
  have hk : k ≤ ops.size := Nat.le_trans hkm hms
  have hchk0 := hchk
  simp only [segChkF0, Bool.and_eq_true] at hchk
  obtain ⟨⟨⟨⟨hdown, hseg⟩, hmid, htail⟩, hflt, hlt'⟩, _⟩ := hchk
  have hFl : ∀ i ∈ Fl, i < k := fun i hi => Nat.blt_eq.mp (List.all_eq_true.1 hlt' i hi)
  generalize hfirst : ops.toList.take k = first at *
  have hfk : first.length = k := by rw [← hfirst]; simp; omega
  have hget : ∀ i, i < k → first[i]? = ops[i]? := fun i hi => by rw [← hfirst, List.getElem?_take, if_pos hi, Array.getElem?_toList]
  have hin : ∀ {i : Nat} {o : Oper}, first[i]? = some o → i < k ∧ ops[i]? = some o := fun {i o} h => by
    have h1 : i < k := by have := (List.getElem?_eq_some_iff.1 h).1; omega
    exact ⟨h1, by rw [← hget i h1]; exact h⟩
  have hsegs := segOK_spec hseg
  have hdst : ∀ (i : Nat) (o : Oper), ops[i]? = some o → ∀ d, o.dst = some d → d < nt := by
    have key : ∀ {os : List Oper}, okDst nt os = true → ∀ o ∈ os, ∀ d, o.dst = some d → d < nt := by
      intro os
      induction os with
      | nil => intro _ o ho; cases ho
      | cons b os ih =>
        intro h o ho
        obtain ⟨h1, h2⟩ := okDst_cons h
        rcases List.mem_cons.1 ho with rfl | ho
        · exact h1
        · exact ih h2 o ho
    intro i o ho
    exact key hd o (List.mem_of_getElem? (by rw [Array.getElem?_toList]; exact ho))
  have finish : ∀ {fuel : Nat} {listed : Array Bool} {a : Act} {w : World} {σ' : St} {G : Nat → Option GR}, listed.size = ops.size → unl ops.size listed = fuel → (∀ i, listed.getD i false = true → i < k) → Closed ops listed → (∀ i, i < k → i ∉ Fl → listed.getD i false = true) → Agree first σ val listed σ' → Holds A0 D0 w0 nt σ' a w G → wpAny P .any ops Q fuel listed a w := by
    intro fuel listed a w σ' G hs hun hL hc hall hag hh
    have hF : ∀ {i : Nat}, i < k → ¬ listed.getD i false = true → i ∈ Fl := fun {i} hi hn => Classical.byContradiction fun h => hn (hall i hi h)
    have hroot : σ'.n = (endSt σ te re).n ∧ ∀ y, getS σ'.s y = getS (endSt σ te re).s y := by
      by_cases hr : ∃ (i : Nat) (o : Oper), first[i]? = some o ∧ (val i).2.isSome = true
      · obtain ⟨i, o, hi, his⟩ := hr
        obtain ⟨r, hr⟩ := Option.isSome_iff_exists.1 his
        have hli : listed.getD i false = true := Classical.byContradiction fun hn => by
          have := (hv.rOne i o hi his).1
          rw [hre] at this; rw [← this] at his; cases his
        obtain ⟨q1, q2⟩ := hag.r i o r hi hli hr
        rw [(hv.rOne i o hi his).1, hr]
        exact ⟨q1, q2⟩
      · have hno : ∀ (i : Nat) (o : Oper), first[i]? = some o → (val i).2 = none := fun i o hi => by
          cases hvi : (val i).2 with
          | none => rfl
          | some y => exact absurd ⟨i, o, hi, by rw [hvi]; rfl⟩ hr
        obtain ⟨q1, q2⟩ := hag.z (fun i o hi _ => hno i o hi)
        rw [hv.rNone hno]
        exact ⟨q1, q2⟩
    have hte : (endSt σ te re).t = te := by cases re <;> rfl
    refine any_mid0 hkm hms hchk0 hd hu fuel k listed a w (endSt σ te re) σ' G (fun i => i ∈ Fl ∧ ¬ listed.getD i false = true) hs hun (Nat.le_refl _) hkm hc (fun i hi => hi.1) (fun i hi => ⟨fun h => ⟨hL i h, fun h' => h'.2 h⟩, fun h => ?_⟩) hM hroot.1 hroot.2 (fun x hx => ?_) hh
    · by_cases hif : i ∈ Fl
      · exact Classical.byContradiction fun hn => h.2 ⟨hif, hn⟩
      · exact hall i h.1 hif
    · rw [hte]
      by_cases hx' : ∃ (i : Nat) (o : Oper), first[i]? = some o ∧ o.dst = some x
      · obtain ⟨i, o, hi, hdx⟩ := hx'
        have hli : listed.getD i false = true := Classical.byContradiction fun hn => hx i o ⟨hF (hin hi).1 hn, hn⟩ (hin hi).2 hdx
        have h1 := (hsegs o (List.mem_of_getElem? hi)).1 x hdx
        rw [hv.tE i o x hi hdx (fun j o' hj hd' => Nat.le_of_eq (one_writer h1 hj hd' hi hdx)), hag.w i o x hi hli hdx]
      · have hno : ∀ (i : Nat) (o : Oper), first[i]? = some o → o.dst ≠ some x := fun i o hi hd => hx' ⟨i, o, hi, hd⟩
        rw [hv.tN x hno, hag.u x (fun i o hi _ => hno i o hi)]
  intro fuel
  induction fuel with
  | zero =>
    intro listed a w σ' G hs hun hL hc hag hh
    exact finish hs hun hL hc (fun i hi _ => by rw [← getD_tf (by rw [hs]; omega)]; exact unl_zero hun (by omega)) hag hh
  | succ fuel ih =>
    intro listed a w σ' G hs hun hL hc hag hh
    by_cases hall : ∀ i, i < k → i ∉ Fl → listed.getD i false = true
    · exact finish hs hun hL hc hall hag hh
    -- one of the first is still to be done: there is one that can be
    obtain ⟨i0, h01, h02, h03⟩ := least_not (n := k) (p := fun i => listed.getD i false = true) (Classical.byContradiction fun h => hall fun i hi _ => Classical.byContradiction fun h' => h ⟨i, hi, h'⟩)
    have hready0 : i0 ∈ Region.ready .any ops listed := by
      have hlt0 : i0 < ops.size := by omega
      refine ready_spec.2 ⟨by rw [getD_tf (by rw [hs]; exact hlt0)]; simpa using h02, ops[i0], Array.getElem?_eq_getElem hlt0, fun j hj => h03 j ?_⟩
      have := edgesDown_spec hdown i0 ops[i0] (by rw [Array.getElem?_toList]; exact Array.getElem?_eq_getElem hlt0) j hj
      omega
    refine ⟨fun h0 => (by rw [h0] at hready0; cases hready0), fun i hi => ?_⟩
    obtain ⟨h1, o, h2, h3⟩ := ready_spec.1 hi
    have hisz := (Array.getElem?_eq_some_iff.1 h2).1
    have hun1 : listed.getD i false = false := by rw [← getD_tf (by rw [hs]; exact hisz)]; exact h1
    have hik : i < k := by
      rcases Nat.lt_or_ge i k with h | h
      · exact h
      · exfalso
        rcases Nat.lt_or_ge i m with him | him
        · have hn := midOK_spec hmid (i - k) o (by rw [List.getElem?_take, if_pos (by omega), List.getElem?_drop, show k + (i - k) = i by omega, Array.getElem?_toList]; exact h2)
          rw [show k + (i - k) = i by omega] at hn
          exact hall fun x hx hxf => needsBut_spec hc i _ h3 hn x (by omega) hxf
        · have hn := tailOK_spec htail (i - m) o (by rw [List.getElem?_drop, show m + (i - m) = i by omega, Array.getElem?_toList]; exact h2)
          rw [show m + (i - m) = i by omega] at hn
          exact hall fun x hx _ => needsAll_spec hc i _ h3 hn x (by omega)
    have hfi : first[i]? = some o := by rw [hget i hik]; exact h2
    obtain ⟨hs1, hs2⟩ := hsegs o (List.mem_of_getElem? hfi)
    -- no root has been made by another one, if this one makes one
    have hnoroot : (val i).2.isSome = true → ∀ (j : Nat) (o' : Oper), first[j]? = some o' → listed.getD j false = true → (val j).2 = none := by
      intro his j o' hj hlj
      cases hvj : (val j).2 with
      | none => rfl
      | some y =>
        have := (hv.rOne i o hfi his).2.2 j o' hj (by rw [hvj]; rfl)
        subst this
        rw [hun1] at hlj; cases hlj
    have hext : Ext σ σ' := by
      by_cases hr : ∃ (j : Nat) (o' : Oper), first[j]? = some o' ∧ listed.getD j false = true ∧ (val j).2.isSome = true
      · obtain ⟨j, o', hj, hlj, his⟩ := hr
        obtain ⟨r, hr⟩ := Option.isSome_iff_exists.1 his
        obtain ⟨q1, q2⟩ := hag.r j o' r hj hlj hr
        refine ⟨fun y r' hy => ?_, by omega⟩
        rw [q2 y]
        simp only [getS]
        have := hlt y (by rw [hy]; rfl)
        rw [if_neg (by omega)]
        exact hy
      · obtain ⟨q1, q2⟩ := hag.z (fun j o' hj hlj => by
          cases hvj : (val j).2 with
          | none => rfl
          | some y => exact absurd ⟨j, o', hj, hlj, by rw [hvj]; rfl⟩ hr)
        exact ⟨fun y r' hy => by rw [q2 y]; exact hy, by omega⟩
    have hreads : ∀ x ∈ o.looksAt ops, getT σ'.t x = getT (tt i) x := by
      intro x hx
      by_cases hw : ∃ (j : Nat) (o' : Oper), first[j]? = some o' ∧ o'.dst = some x
      · obtain ⟨j, o', hj, hdx⟩ := hw
        have hjb := hs2 x hx j (mem_writers.2 ⟨o', by simpa using hj, Nat.zero_le _, hdx⟩)
        have hlj := h3 j hjb
        have hji := edgesDown_spec hdown i o (by rw [Array.getElem?_toList]; exact h2) j hjb
        have h1w := (hsegs o' (List.mem_of_getElem? hj)).1 x hdx
        rw [hag.w j o' x hj hlj hdx, hv.tI i j o' x (by omega) (by omega) hj hdx (fun j' o'' _ hj' hd' => Nat.le_of_eq (one_writer h1w hj' hd' hj hdx))]
      · have hno : ∀ (j : Nat) (o' : Oper), first[j]? = some o' → o'.dst ≠ some x := fun j o' hj hd => hw ⟨j, o', hj, hd⟩
        rw [hag.u x (fun j o' hj _ => hno j o' hj), hv.tI0 i x (fun j o' _ hj => hno j o' hj)]
    have hset : ∀ j, (listed.setIfInBounds i true).getD j false = true ↔ j = i ∨ listed.getD j false = true := by
      intro j
      by_cases hij : i = j
      · subst hij
        rw [Array.getD_eq_getD_getElem?, Array.getElem?_setIfInBounds_self_of_lt (by rw [hs]; exact hisz)]
        simp
      · rw [getD_set_ne false hij]
        exact ⟨.inr, fun h => h.resolve_left (Ne.symm hij)⟩
    -- behind it
    have hnext : ∀ (a : Act) (w : World) (G : Nat → Option GR), Holds A0 D0 w0 nt (newR σ' o.dst (val i).1 (val i).2) a w G → wpAny P .any ops Q fuel (listed.setIfInBounds i true) a w := by
      intro a w G hh'
      have hT : ∀ x, getT (newR σ' o.dst (val i).1 (val i).2).t x = if o.dst = some x then (val i).1 else getT σ'.t x := by
        intro x
        have hp : ∀ (τ : St), getT (τ.put o.dst (val i).1).t x = if o.dst = some x then (val i).1 else getT τ.t x := by
          intro τ
          unfold St.put
          split
          · rename_i d hd
            rw [hd]
            simp only [getT, Option.some.injEq]
          · rename_i hd; rw [hd]; simp
        unfold newR
        split <;> exact hp _
      refine ih _ a w _ G (by simpa using hs) (by have := unl_set hisz hs h1; omega) (fun j hj => ?_) (closed_set hc hi) ⟨fun j o' x hj hl hdx => ?_, fun x hx => ?_, fun j o' r hj hl hr => ?_, fun hz => ?_⟩ hh'
      · rcases (hset j).1 hj with rfl | h
        · exact hik
        · exact hL j h
      · rw [hT x]
        rcases (hset j).1 hl with rfl | h
        · rw [hfi] at hj; cases hj
          rw [if_pos hdx]
        · have hne : ¬ o.dst = some x := fun hd => by
            have := one_writer (hs1 x hd) hfi hd hj hdx
            subst this
            rw [hun1] at h; cases h
          rw [if_neg hne]
          exact hag.w j o' x hj h hdx
      · rw [hT x, if_neg (hx i o hfi ((hset i).2 (.inl rfl)))]
        exact hag.u x (fun j o' hj hl => hx j o' hj ((hset j).2 (.inr hl)))
      · rcases (hset j).1 hl with rfl | h
        · rw [hfi] at hj; cases hj
          obtain ⟨q1, q2⟩ := hag.z (hnoroot (by rw [hr]; rfl))
          have e : newR σ' o.dst (val j).1 (val j).2 = St.put { n := σ'.n + 1, t := σ'.t, s := (σ'.n, r) :: σ'.s } o.dst (val j).1 := by rw [hr]; rfl
          rw [e]
          have e2 : ∀ (τ : St), (τ.put o.dst (val j).1).n = τ.n ∧ (τ.put o.dst (val j).1).s = τ.s := fun τ => by unfold St.put; split <;> exact ⟨rfl, rfl⟩
          rw [(e2 _).1, (e2 _).2]
          refine ⟨by rw [q1], fun y => ?_⟩
          simp only [getS, q1]
          split
          · rfl
          · exact q2 y
        · obtain ⟨q1, q2⟩ := hag.r j o' r hj h hr
          have hnone : (val i).2 = none := by
            cases hvi : (val i).2 with
            | none => rfl
            | some y => have := hnoroot (by rw [hvi]; rfl) j o' hj h; rw [hr] at this; cases this
          have e : newR σ' o.dst (val i).1 (val i).2 = St.put σ' o.dst (val i).1 := by rw [hnone]; rfl
          rw [e]
          have e2 : ∀ (τ : St), (τ.put o.dst (val i).1).n = τ.n ∧ (τ.put o.dst (val i).1).s = τ.s := fun τ => by unfold St.put; split <;> exact ⟨rfl, rfl⟩
          rw [(e2 _).1, (e2 _).2]
          exact ⟨q1, q2⟩
      · have hnone := hz i o hfi ((hset i).2 (.inl rfl))
        obtain ⟨q1, q2⟩ := hag.z (fun j o' hj hl => hz j o' hj ((hset j).2 (.inr hl)))
        have e : newR σ' o.dst (val i).1 (val i).2 = St.put σ' o.dst (val i).1 := by rw [hnone]; rfl
        rw [e]
        have e2 : ∀ (τ : St), (τ.put o.dst (val i).1).n = τ.n ∧ (τ.put o.dst (val i).1).s = τ.s := fun τ => by unfold St.put; split <;> exact ⟨rfl, rfl⟩
        rw [(e2 _).1, (e2 _).2]
        exact ⟨q1, q2⟩
    unfold wpOp
    rw [h2]
    simp only
    rcases (hv.stab i o hfi).2 σ' hreads hext (fun his => (hag.z (hnoroot his)).1) with ⟨hw, hsnd⟩ | ⟨hw, hv1, hv2⟩
    · rw [if_pos (wantd_spec hh hw)]
      refine (hsnd A0 D0 w0 nt a w G Q (hdst i o h2) hu hh).imp (Oper.wp_mono fun a w ⟨σ'', G', g1, g2⟩ => ?_) id
      subst g2
      exact hnext a w G' g1
    · rw [if_neg (by rw [wantd_spec hh hw]; simp)]
      refine hnext _ w G ?_
      rw [hv1, hv2]
      exact hh.put (.fr _ _ (.tup [] [] rfl (fun i a h => by simp at h))) (hdst i o h2)
end
section
variable {P : Program} {TT : TTab} {up : Bool} {np nt : Nat} {σ : St} {K : St → Prop} {Q : Exit → St → Prop}
theorem AnyOK.drawnP0 (l : List Nat) (k m : Nat) (Fl : List Nat) {os' : List Oper} {D : List Nat} {fl : List Oper} {ops : Array Oper} (he : permL l ops.toList = os') (hp : permOK l ops = true) (hkm : k ≤ m) (hms : m ≤ os'.toArray.size) (hchk : segChkF0 k m Fl os'.toArray = true) (hD : dstsF os'.toArray Fl = D) (hfl : opsF os'.toArray Fl = fl) (hd : okDst nt os' = true)
    (h : Seg P up os'.toArray σ (os'.take k) σ.t none fun t r => r = none ∧ Mid P up os'.toArray D fl ((os'.drop k).take (m - k)) (endSt σ t r) fun σ => CWops P up nt os'.toArray (os'.drop m) σ K) : AnyOK P up nt ops σ K := by
  subst hD hfl
  intro A0 D0 w0 a w G Q1 hu1 hh hr
  have hsz : os'.toArray.size = ops.size := by
    have := hp
    simp only [permOK, Bool.and_eq_true] at this
    have h1 := Nat.eq_of_beq_eq_true this.1.1
    subst he; simp [permL, h1]
  suffices hs : wpAny P .any os'.toArray Q1 os'.toArray.size (Array.replicate os'.toArray.size false) a { w with drawn := w.drawn + 1 } by
    rw [hsz] at hs
    have hz : ∀ j, (Array.replicate ops.size false).getD j false = false := fun j => by
      rw [Array.getD_eq_getD_getElem?, Array.getElem?_replicate]; split <;> rfl
    exact wpAny_perm he hp ops.size _ (Array.replicate ops.size false) _ _ (by simp) (by simp) (fun i hi => by rw [hz, hz]) hs
  have h' : Seg P up os'.toArray σ (os'.toArray.toList.take k) σ.t none fun t r => r = none ∧ Mid P up os'.toArray (dstsF os'.toArray Fl) (opsF os'.toArray Fl) ((os'.toArray.toList.drop k).take (m - k)) (endSt σ t r) fun σ => CWops P up nt os'.toArray (os'.toArray.toList.drop m) σ K := h
  obtain ⟨te, re, val, tt, hk', hv⟩ := seg_vals h'
  have hno : ∀ i, (Array.replicate os'.toArray.size false).getD i false = true → False := fun i hi => by
    rw [Array.getD_eq_getD_getElem?, Array.getElem?_replicate] at hi
    split at hi <;> simp at hi
  refine any_segF0 (σ := σ) (σ' := σ) hkm hms hchk hd hu1 (fun y hy => ?_) hk'.1 hv (hk'.2.mono fun σ hσ a w G hh' => hσ (okDst_drop m hd) A0 D0 w0 a w G Q1 hu1 hh' fun a w σ' G' h1 h2 => hr a w σ' G' h1 h2) os'.toArray.size _ a _ G (by simp) ?_ (fun i hi => (hno i hi).elim)
    (fun i o _ hi => (hno i hi).elim) ⟨fun i o x _ hi => (hno i hi).elim, fun x _ => rfl, fun i o r _ hi => (hno i hi).elim, fun _ => ⟨rfl, fun _ => rfl⟩⟩ hh.drew
  · have := hh.inv.dom y
    rw [hy] at this
    obtain ⟨g, hg⟩ := Option.isSome_iff_exists.1 this.symm
    exact hh.inv.lt y g hg
  · unfold unl
    have : ((List.range os'.toArray.size).filter fun i => !(Array.replicate os'.toArray.size false).getD i true) = List.range os'.toArray.size := by
      rw [List.filter_eq_self]
      intro i hi
      have hi := List.mem_range.1 hi
      rw [Array.getD_eq_getD_getElem?, Array.getElem?_replicate, if_pos hi]
      rfl
    rw [this, List.length_range]
end
end Go.Ab
namespace Go.Ab
open Go Go.RowKit
section
variable {P : Program} {TT : TTab} {up : Bool} {all : Array Oper} {D : List Nat} {fl : List Oper} {K : St → Prop}
theorem Mid.makeSlice (htt : TTok P TT) {ty : TypeId} {pos : String} {af : Array Edge} {q : Nat} {tt e : Nat} {x y : Operand} {i j : TI} {m : Nat} {os : List Oper} {n : Nat} {t : List (Nat × AV)} {s : List (Nat × Root)} (hf : Flo P up all fl ⟨n, t, s⟩) (hq : q ∉ D)
    (ht : TT tt = some i) (hi : i.kind = .slice e) (he : TT e = some j) (hsz : 0 < j.size) (hzl : j.zero.length = j.size)
    (hx : ev ⟨n, t, s⟩ x = .int .i64 (m : Int)) (hy : ev ⟨n, t, s⟩ y = .int .i64 (m : Int)) (hmM : m ≤ MX) (hb : j.bytes * m ≤ MX)
    (hk : Mid P up all D fl os ⟨n + 1, (q, .ref n [] 0) :: t, (n, ⟨false, [.own j.size (List.replicate m j.zero)]⟩) :: s⟩ K) : Mid P up all D fl (⟨some q, .makeSlice tt x y, ty, pos, af, none⟩ :: os) ⟨n, t, s⟩ K := by
  refine ⟨hf, _, ⟨fun z hz => ?_, fun τ hl hlk => ⟨by simp [wantd], ?_⟩⟩, hk⟩
  · simp only [getT]
    rw [if_neg (fun (e : q = z) => hq (e ▸ hz))]
  · obtain ⟨hl1, hl2, hl3⟩ := hl
    have hev : ∀ z ∈ (Op.makeSlice tt x y).operands, ev τ z = ev ⟨n, t, s⟩ z := fun z hz => looks_ops (o := ⟨some q, .makeSlice tt x y, ty, pos, af, none⟩) (τ := ⟨n, t, s⟩) hlk hz
    have hxτ : ev τ x = .int .i64 (m : Int) := by rw [hev x (by simp [Op.operands])]; exact hx
    have hyτ : ev τ y = .int .i64 (m : Int) := by rw [hev y (by simp [Op.operands])]; exact hy
    refine Snd.up (snd_makeSlice rfl htt ht hi he hsz hzl hxτ hyτ hmM hb ?_)
    simp only at hl1
    refine ⟨⟨?_, fun z => ?_, fun z hz => ?_⟩, fun z hz => ?_⟩
    · simp only [St.put, hl1]
    · simp only [St.put, getS, hl1]
      split
      · rfl
      · exact hl2 z
    · simp only [St.put, getT, hl1]
      split
      · rfl
      · exact hl3 z hz
    · simp only [St.put, getT]
      rw [if_neg (fun (e : q = z) => hq (e ▸ hz))]
end
def OrdOK (P : Program) (up : Bool) (nt : Nat) (ops : Array Oper) (σ : St) (K : St → Prop) : Prop :=
  ∀ (A0 D0 : Nat → Prop) (w0 : World) (a : Act) (w : World) (G : Nat → Option GR) (Q : Exit → Act → World → Prop), (up = true → LetsOut Q) → Holds A0 D0 w0 nt σ a w G → (∀ a w σ' G', Holds A0 D0 w0 nt σ' a w G' → K σ' → Q .normal a w) →
    ∀ is, Valid ops (Array.replicate ops.size false) is → wpOps P ops Q is a { w with drawn := w.drawn + 1 }
section
variable {P : Program} {up : Bool} {np nt : Nat} {σ : St} {K : St → Prop} {Q : Exit → St → Prop}
theorem OrdOK.of {ops : Array Oper} (h : AnyOK P up nt ops σ K) : OrdOK P up nt ops σ K := fun A0 D0 w0 a w G Q hu hh hq is hv => wpAny_valid _ _ _ _ _ (h A0 D0 w0 a w G Q hu hh hq) hv
theorem OrdOK.either (x y : Nat) {ops : Array Oper} (hne : x ≠ y) (hx : x < ops.size) (hy : y < ops.size) (hg : ops.toList.all (fun o => o.guard.isNone) = true)
    (h1 : OrdOK P up nt (addE y x ops.toList).toArray σ K) (h2 : OrdOK P up nt (addE x y ops.toList).toArray σ K) : OrdOK P up nt ops σ K := by
  intro A0 D0 w0 a w G Q hu hh hq is hv
  have hg' : ∀ o ∈ ops.toList, o.guard = none := fun o ho => by
    have := List.all_eq_true.1 hg o ho
    simpa using this
  have go : ∀ (x y : Nat), x ≠ y → x < ops.size → before x y is → OrdOK P up nt (addE y x ops.toList).toArray σ K → wpOps P ops Q is a { w with drawn := w.drawn + 1 } := by
    intro x y hne hx hb h
    have hsz : (addE y x ops.toList).toArray.size = ops.size := by simp [addE_len]
    have h3 := h A0 D0 w0 a w G Q hu hh hq is
    rw [hsz] at h3
    exact wpOps_addE hg' _ _ _ (h3 (valid_addE hne (fun _ _ => trivial) _ _ (.inr hb) (by simp) hx hv))
  rcases before_or x y hne is with hb | hb
  · exact go x y hne hx hb h1
  · exact go y x hne.symm hy hb h2
theorem wpOps_keep {P : Program} {np : Nat} {ops : Array Oper} {Q : Exit → Act → World → Prop} {a0 : Act} (hd : keepDst np ops.toList = true) : ∀ (is : List Nat) (a : Act) (w : World), Kept np a0 a → wpOps P ops Q is a w → wpOps P ops (KeepQ np a0 Q) is a w
  | [], a, w, hk, h => ⟨h, fun _ => hk⟩
  | i :: is, a, w, hk, h => by
    simp only [wpOps] at h ⊢
    cases ho : ops[i]? with
    | none => rw [ho] at h; exact wpOps_keep hd is a w hk h
    | some o =>
      rw [ho] at h
      have hod := keepDst_mem hd o (List.mem_of_getElem? (by rw [Array.getElem?_toList]; exact ho))
      simp only at h ⊢
      split
      · rename_i hw
        rw [if_pos hw] at h
        rcases h with h | h
        · exact .inl (Oper.wp_mono (fun a' w' ⟨g1, g2⟩ => wpOps_keep hd is a' w' (hk.trans g2) g1) (Oper.wp_keep hod h))
        · exact .inr ⟨h.1, letsOut_keep h.2⟩
      · rename_i hw
        rw [if_neg hw] at h
        exact wpOps_keep hd is _ _ (hk.trans (Kept.put hod rfl)) h
theorem CW.ord (hm : P.follows .mixedOrders = true) {id : Nat} {ops : Array Oper} (hkd : keepDst np ops.toList = true) (h : OrdOK P up nt ops σ (Q .normal)) : CW P up np nt (.region id ops true) σ Q := by
  intro A0 D0 w0 a w G R hu hh hr
  let Q1 : Exit → Act → World → Prop := fun e a' w' => match e with
    | .normal => ∃ σ' G', Holds A0 D0 w0 nt σ' a' w' G' ∧ Q .normal σ'
    | e => R e a' w'
  suffices hs : (Code.region id ops true).wp P (KeepQ np a Q1) a w by
    refine wp_mono hs fun e a' w' he => ?_
    cases e with
    | normal => obtain ⟨⟨σ', G', g1, g2⟩, g3⟩ := he; exact hr _ a' w' σ' G' g1 (g3 rfl) g2
    | _ => exact he.1
  refine wp_region_draw fun t => ?_
  simp only [Region.schedule, hm, Bool.true_or, if_true]
  exact wpOps_keep hkd _ _ _ (Kept.refl np a) (h A0 D0 w0 a w G Q1 (fun hu' => let ⟨a, w, h⟩ := hu hu'; ⟨a, w, h⟩) hh (fun a' w' σ' G' k1 k2 => ⟨σ', G', k1, k2⟩) _ (valid_lin (ops := ops) ops.size t (Array.replicate ops.size false) (by simp) (unl_all _)))
end
end Go.Ab
